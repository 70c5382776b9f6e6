/- What the plain functions answer. -/
import Derived.Test.YtanbmobkolihaaaGreatDoorPl
import Derived.Test.YtanbmobkolihaaaGreatDoorSh1
import Derived.KernelRfl
open Go.Sh renaming len→arA,exit→aaN,idx→aaV,next→abo,loop→abt,app→abz,sub→abH,min→abM,max→abN,lim→abO
open List renaming append_assoc→aj9,getElem?_eq_getElem→ab9,getElem_mem→acI,getElem_of_mem→amt,length→ajL,length_append→amB,length_cons→acN,length_drop→amC,length_nil→acR,length_take→aqi,map_cons→ac7,mem_map→aoI,mem_map_of_mem→aqk,mem_or_eq_of_mem_set→aql,mem_singleton→aeq,nodup_range→aqn,pairwise_cons→agX,pairwise_iff_getElem→aoM,range→aeD,range_succ→aoP,replicate→aeR,take_add_one→aoR,take_append_drop→aeW,take_length→aoZ,take_of_length_le→aha
open Option renaming getD_some→api,isSome_some→aqp,toList_some→apj
open Nat renaming le_of_lt→aqq,le_refl→afk,lt_irrefl→afr,lt_or_ge→aft,lt_trichotomy→aqr,mul_comm→aqs,mul_le_mul_right→afN,reduceEqDiff→aqt,succ_mul→aqu
open Bool renaming and_eq_true→aiq,not_false→aqv,not_true→apS,or_eq_true→ajm,true_and→aqb
open Int renaming lt_irrefl→aqg
set_option linter.unusedSimpArgs false
set_option linter.unusedVariables false
section
namespace Pl
open Go Go.Av G
theorem jJ{σ α:Type}{b:σ→Option (σ⊕α)}(I:Nat→σ→Prop)(P:α→Prop)(m:Nat)(hm:m<Sh.s5)(h:∀k s,k≤m→I k s→(∃s',b s=some (.inl s')∧I (k+1) s'∧k<m)∨∃a,b s=some (.inr a)∧P a){s:σ}(h0:I 0 s):∃a,abt b s=some a∧P a:=by
 have key:∀(j k n:Nat) (s:σ),k+j=m→j<n→I k s→∃a,Sh.iter b n s=some a∧P a:=by
  intro j
  induction j with
  |zero=>
   intro k n s hk hn hi
   obtain⟨n,rfl⟩:∃q,n=q+1:=⟨n - 1,by omega⟩
   rcases h k s (by omega) hi with⟨s',_,_,h3⟩|⟨a,h1,h2⟩
   ·omega
   ·exact⟨a,by simp[Sh.iter,h1],h2⟩
  |succ j ih=>
   intro k n s hk hn hi
   obtain⟨n,rfl⟩:∃q,n=q+1:=⟨n - 1,by omega⟩
   rcases h k s (by omega) hi with⟨s',h1,h2,_⟩|⟨a,h1,h2⟩
   ·obtain⟨a,h3,h4⟩:=ih (k+1) n s' (by omega) (by omega) h2
    exact⟨a,by simp[Sh.iter,h1,h3],h4⟩
   ·exact⟨a,by simp[Sh.iter,h1],h2⟩
 exact key m 0 Sh.s5 s (by omega) hm h0
theorem jK{α:Type}{b:Int→Option (Int⊕α)}(P:α→Prop)(m:Nat)(hm:m<Sh.s5)(h:∀k:Nat,k<m→b (k:Int)=some (.inl ((k+1:Nat):Int))∨∃a,b (k:Int)=some (.inr a)∧P a)(hr:∃a,b (m:Int)=some (.inr a)∧P a):∃a,abt b 0=some a∧P a:=
 jJ (fun k s=>s=(k:Int)) P m hm (fun k s hk hs=>by
  subst hs
  by_cases hkm:k<m
  ·rcases h k hkm with h1|h1
   ·exact .inl ⟨_,h1,rfl,hkm⟩
   ·exact .inr h1
  ·obtain rfl:k=m:=by omega
   exact .inr hr) rfl
theorem cR{σ α:Type}{b:σ×Int→Option ((σ×Int)⊕α)}(I:Nat→σ→Prop)(P:α→Prop)(m:Nat)(hm:m<Sh.s5)(h:∀(k:Nat) (s:σ),k<m→I k s→(∃s',b (s,(k:Int))=some (.inl (s',((k+1:Nat):Int)))∧I (k+1) s')∨∃a,b (s,(k:Int))=some (.inr a)∧P a)(hr:∀s,I m s→∃a,b (s,(m:Int))=some (.inr a)∧P a){s:σ}(h0:I 0 s):∃a,abt b (s,0)=some a∧P a:=
 jJ (fun k (x:σ×Int)=>x.2=(k:Int)∧I k x.1) P m hm (fun k x hk hs=>by
  obtain⟨s,i⟩:=x
  obtain⟨rfl,hs⟩:=hs
  by_cases hkm:k<m
  ·rcases h k s hkm hs with⟨s',h1,h2⟩|h1
   ·exact .inl ⟨_,h1,⟨rfl,h2⟩,hkm⟩
   ·exact .inr h1
  ·obtain rfl:k=m:=by omega
   exact .inr (hr s hs)) ⟨rfl,h0⟩
structure FOk (h:af) (lev:Int) (l:List au):Prop where
 rep:replay h lev l=true
 nd:(l.map (·.C)).Nodup
theorem aaS{h:af}{lev:Int}{s:List aa}(hr:right h=true)(hs:∀c∈s,one h c=true)(hl:MS lev=true){row:List Int}(hg:ring h lev s row=true):row.length≤32:=by
 rw[RG hr hs hl,SY] at hg;have:=agm hg;grind [eP]
theorem WL{h:af}{lev:Int}{l:List au}{f:au}(hright:right h=true)(hlev:MS lev=true)(hones:∀f∈l,one h f.C=true)(hh:holds h lev l f=true):f.eH.length≤32:=by
 unfold holds at hh;simp only[aiq,ajm,dI] at hh;rcases hh.1.2 with h4|h0
 ·have:=hh.2
  unfold reason at this;rw[h4] at this;simp only[show ¬(4:Int)=1 by decide,show ¬(4:Int)=2 by decide,show ¬(4:Int)=3 by decide,aR,aY,aiq] at this;refine aaS hright (fun c hc=> ?_) hlev this.2;rcases List.mem_append.1 hc with h5|h5
  ·grind
  grind [LU]
 ·omega
theorem Dp{h:af}{lev:Int}{l:List au}(hr:replay h lev l=true):∀f∈l,f.eH.length≤32:=fun f hf=>by
 obtain⟨hright,hlev,hones⟩:=nH hr;obtain⟨k,hk,rfl⟩:=amt hf;unfold replay at hr;grind [BM,WL]
theorem FOk.len{h:af}{lev:Int}{l:List au}(hl:FOk h lev l):l.length≤2*(bB h).length:=by
 obtain⟨hright,hlev,hones⟩:=nH hl.rep;have:=Jt hl.nd (m:=bB h++(bB h).map back) (fun c hc=>by
  obtain⟨f,hf,rfl⟩:=List.mem_map.1 hc;rcases Xa hright (hones f hf) with h1|h1
  ·grind
  ·exact List.mem_append_right _ (List.mem_map.2 ⟨_,h1,rfl⟩))
 grind
structure MF (o:aS):Prop where
 facts:o.fh.length≤10000
 fc:∀f∈o.fh,f.eH.length≤1000
 order:o.Order.length≤1000
 tree:Sl o.Tree
theorem MF.nil(n:Int):MF ⟨n,[],[],[]⟩:=⟨by simp,by simp,by simp,by simp[Sl]⟩
theorem U9{h:af}(lev:Int)(l:List aa):∃(n:Nat) (f:Nat→Nat→Bool),n≤64∧(H7 h lev l).1=gr n f:=by
 unfold H7;cases hc:cr h l&&MS lev with
 |false=>exact⟨0,fun _ _=>false,by omega,by rfl⟩
 |true=>
  have hright:=(Ee.1 (aiq _ _▸hc).1).1;exact⟨_,_,by grind [eP],rfl⟩
theorem Ji{h:af}(lev:Int)(l:List aa):∃r,lE (H7 h lev l).1=some r∧r.length≤64:=by
 obtain⟨n,f,hn,e⟩:=U9 (h:=h) lev l;grind [El]
theorem Jj{h:af}(lev:Int)(l:List aa):∃r,G.kF (H7 h lev l).1=some r∧r.1.length≤64:=by
 obtain⟨n,f,hn,e⟩:=U9 (h:=h) lev l;grind [kF,R8]

theorem R9{h:af}{lev:Int}{l:List au}{tree:List ai}(hr:replay h lev l=true)(hl:l.length≤20)(ht:tree.length≤100)(htc:∀x∈tree,x.eH.length≤1000):Sl (under h lev l tree).1:=by
 obtain⟨hright,hlev,hones⟩:=nH hr;unfold under;rw[if_pos hr];constructor
 ·grind
 ·intro x hx
  simp only[List.mem_append,aoI] at hx;rcases hx with(⟨f,_,rfl⟩|hx)|⟨i,_,rfl⟩
  ·simp
  ·grind
  ·have:=(El (show h.aL.length≤64 by grind [eP]) (q8 h lev (Me l (l.length - 1 - i)))).2.1
   simp only[cyc];omega
section
variable {h:af} {lev:Int} {l:List au}
theorem aed(hf:Fits h)(hr:replay h lev l=true)(hl:l.length≤20):∃o,tH h lev l=some o∧MF o:=by
 unfold tH;have hc:=Dp hr;rw[xT (by omega),bp,afJ hf (by grind),bp];cases(VL h (l.map (·.C))).2 with
 |true=>exact⟨_,rfl,.nil 3⟩
 |false=>
  rw[NS hf lev (by grind),bp];obtain⟨r,h1,h2⟩:=Jj (h:=h) lev (l.map (·.C));rw[h1,bp];cases r.2 with
  |true=>exact⟨_,rfl,by simp,by simp,by grind,by simp[Sl]⟩
  |false=>
   obtain⟨q,h3,h4⟩:=Ji (h:=h) lev (l.map (·.C));have htc:∀x∈[ai.mk (aa.mk 0 0 0) q],x.eH.length≤1000:=fun x hx=>by grind
   rw[h3,bp,TG hf lev hl (by simp) (fun f hf=>by grind) htc,bp];exact⟨_,rfl,by simp,by simp,by simp,R9 hr hl (by simp) htc⟩
theorem Xs(hf:Fits h)(hl:l.length≤20)(c:aa):∃o,yw h lev l c=some o∧o.1.eH=[]:=by
 refine jK (fun o:au×Bool=>o.1.eH=[]) l.length (aP (by omega)) (fun k hk=> ?_) ?_
 ·have hn:pL (k:Int)=some (.inl ((k+1:Nat):Int)):=by
   grind [pL,abo,aH]
  have hin:∃a,abt (fun(p:Int)=>pK h lev l c (k:Int) p) 0=some a∧(a=.inl ((k+1:Nat):Int)∨∃o:au×Bool,a=.inr o∧o.1.eH=[]):=by
   refine jK _ l.length (aP (by omega)) (fun j hj=> ?_) ?_
   ·simp only[pK,dec_lt,hj,bt,aY]
    rw[Pe hf lev (by omega) (by simp),bp];cases holds h lev l (au.mk (aa.mk c.Key c.A c.B) 2 (k:Int) (j:Int) []) with
    |true=>exact .inr ⟨_,rfl,.inr ⟨_,rfl,rfl⟩⟩
    |false=>exact .inl (by simp only[dw,aR,abo,aH (k:=j) (by omega)])
   ·simp only[pK,dec_lt,afr,b7,dw,aR,hn]
    exact⟨_,rfl,.inl rfl⟩
  have hj3:∀v,(lX h lev l c (k:Int) v=some (.inl ((k+1:Nat):Int)))∨∃a,lX h lev l c (k:Int) v=some (.inr a)∧a.1.eH=[]:=by
   unfold lX;grind
  simp only[uv,dec_lt,hk,bt,aY,aU hk,bp];grind
 ·simp only[uv,dec_lt,afr,b7,dw,aR,Ar]
  exact⟨_,rfl,rfl⟩
theorem RN(hf:Fits h)(lev:Int)(c:aa){row:List aa}(hl:row.length≤100):∃r,j_ c h lev row=some r∧r.length≤64:=by
 unfold j_;rw[VP,bp,cA (by grind),bp,NS hf lev (by grind),bp];simp_all [Ji]
theorem aiy(hf:Fits h)(hr:replay h lev l=true)(hl:l.length≤20)(p:aa):∃o,zh h lev l p=some o∧MF o:=by
 have hc:=Dp hr;have hj1:∃o,yy h lev l p=some o∧MF o:=by
  unfold yy;rw[xT (by omega),bp];obtain⟨a,h1,h2⟩:=RN hf lev (aa.mk p.Key p.B p.A) (row:=l.map (·.C)) (by grind);obtain⟨b,h3,h4⟩:=RN hf lev p (row:=l.map (·.C)) (by grind);rw[h1,bp,h3,bp];have Sp:∀v,∃o,t_ h lev l p a b v=some o∧MF o:=by
   intro v;unfold t_;cases v with
   |true=>
    have htc:∀x∈([(ai.mk (aa.mk p.Key p.A p.B) []),(ai.mk (aa.mk 0 0 0) b),(ai.mk (aa.mk 0 0 0) a)]:List ai),x.eH.length≤1000:=fun x hx=>by
     grind
    rw[TG hf lev hl (by simp) (fun f hf=>by grind) htc,bp];exact⟨_,rfl,by simp,by simp,by simp,R9 hr hl (by simp) htc⟩
   |false=>
    simp only[dw,aR];split
    ·exact⟨_,rfl,by simp,fun f hf=>by grind,by simp,by simp[Sl]⟩
    ·split
     ·exact⟨_,rfl,by simp,fun f hf=>by grind,by simp,by simp[Sl]⟩
     ·exact⟨_,rfl,.nil 0⟩
  split
  ·exact Sp _
  simp_all
 refine jK MF 2 (by decide) (fun k hk=> ?_) ?_
 ·have hk':k<([p,(aa.mk p.Key p.B p.A)]:List aa).length:=hk
  simp only[yx,dec_lt,hk',bt,aY,aU hk',bp,kD];obtain⟨o,h1,h2⟩:=Xs (lev:=lev) hf hl (([p,(aa.mk p.Key p.B p.A)]:List aa)[k]);rw[h1,bp];cases o.2 with
  |true=>exact .inr ⟨_,rfl,by simp,fun f hf=>by grind,by simp,by simp[Sl]⟩
  |false=>exact .inl (by simp only[dw,aR,abo,aH (k:=k) (by omega)])
 simp_all [yx,arA,aaN]
theorem aee(hf:Fits h)(hk:(bB h).length≤3)(hl:FOk h lev l)(s:aX):∃r,xx h lev s l=some r∧MF r.2:=by
 have hr:=hl.rep;have hlen:l.length≤20:=by have:=hl.len;omega
 obtain⟨hright,hlev,hones⟩:=nH hr;have hsl:Yd l:=⟨by omega,fun f hf=>by grind [Dp]⟩;unfold xx;have hj1t:∃r,oE h lev s l true=some r∧MF r.2:=⟨_,rfl,.nil 3⟩;have hR:∃b,vu h s=some b∧(b=true→0≤s.Idle∧s.Idle≤(bB h).length∧0≤s.At∧s.At<abN (arA (bB h)) 1):=by
  unfold vu;rw[LZ hf,bp,uq hf,bp,hright];by_cases h1:(0:Int)≤s.Idle
  ·by_cases h2:s.Idle≤arA (bB h)
   ·by_cases h3:(0:Int)≤s.At
    ·simp_all
    ·simp only[h1,h2,h3,bt,b7,aY,dw,aR]
     grind
   ·simp only[h1,h2,bt,b7,aY,dw,aR]
    grind
  ·simp only[h1,b7,dw,aR]
   grind
 obtain⟨b,h1,h2⟩:=hR;rw[h1,bp];cases b with
 |false=>exact hj1t
 |true=>
  obtain⟨a1,a2,a3,a4⟩:=h2 rfl;rw[dg (show ¬(20000:Int)≤arA l by grind)];simp only[dw,aR,Pg hf lev hsl,bp,hr,apS];unfold oE;simp only[dw,aR,LZ hf,bp];by_cases h3:s.Idle=arA (bB h)
  ·obtain⟨o,h4,h5⟩:=aed (lev:=lev) hf hr hlen
   grind
  ·rw[dg h3]
   simp only[dw,aR];have hpos:0<(bB h).length:=by
    grind
   have hat:s.At<((bB h).length:Int):=by
    simp only[abN,arA] at a4;omega
   rw[wL a3 hat,bp];have hrem:∃q,Sh.rem (bM (s.At+1)) (arA (bB h))=some q:=by
    unfold Sh.rem;simp only[arA];rw[if_pos (by omega)];grind
   obtain⟨q,hq⟩:=hrem;rw[hq,bp,xT (by omega),bp,Pd (by grind),bp];have Sp:∀v x,∃r,sH h lev s l x q v=some r∧MF r.2:=by
    intro v x;unfold sH;cases v with
    |true=>exact⟨_,rfl,.nil 0⟩
    |false=>
     simp only[dw,aR];obtain⟨o,h4,h5⟩:=aiy (lev:=lev) hf hr hlen x;rw[h4,bp];split
     ·exact⟨_,rfl,h5⟩
     ·exact⟨_,rfl,h5⟩
   split
   ·exact Sp _ _
   ·rw[Pd (by grind),bp];exact Sp _ _
end
structure Yf (s:aN):Prop where
 path:s.Path.length≤40
 left:s.Left.length≤40
 rows:∀l∈s.Left,l.length≤40
section
variable {h:af} {lev:Int} {s:aN}
theorem aeI{l:List Int}(hl:l.length≤1000)(t n:Int):∃b,sM t n l=some b:=by
 unfold sM;split
 ·grind
 ·split
  ·grind
  ·rw[LY (by omega)];simp_all
theorem abv{l path:List Int}(hl:l.length≤1000)(hp:path.length≤1000)(n:Int):∃b,x5 n l path=some b:=by
 have:∃a,fZ l n path=some a∧True:=by
  refine jK _ l.length (aP (by omega)) (fun k hk=> ?_) ?_
  ·simp only[fE,dec_lt,hk,bt,aY,aU hk,bp]
   obtain⟨b,hb⟩:=aeI hp l[k] n;rw[hb,bp];cases b with
   |true=>exact .inr ⟨_,rfl,trivial⟩
   |false=>exact .inl (by simp only[dw,aR,abo,aH (k:=k) (by omega)])
  ·simp only[fE,dec_lt,afr,b7,dw,aR,iX]
   exact⟨_,rfl,trivial⟩
 obtain⟨a,h1,_⟩:=this;unfold x5 fD;rw[h1];exact⟨_,rfl⟩
theorem aa8{α:Type}{l:List α}{k:Nat}(hk:k≤l.length):abH l 0 (k:Int)=some (l.take k):=by
 have:=sY (l:=l) (m:=0) (k:=k) (by omega) hk;grind
def WR(h:af)(s:aN):Prop:=right h=true∧s.cU≤32∧1≤s.cU∧s.Path.length≤32∧((s.Left=[]∧s.Path=[])∨s.Left.length=s.Path.length+1)
theorem aja(hf:Fits h)(hw:Yf s):∃b,Br h s=some b∧(b=true→WR h s):=by
 have hp:=hw.path;have hl:=hw.left;have hj1t:∃b,oH h s true=some b∧(b=true→WR h s):=⟨false,rfl,fun h=>by cases h⟩;have hno:∀P:Prop,(false=true→P):=fun P h=>by cases h
 have Sp:right h=true→s.cU≤32→1≤s.cU→s.Path.length≤32→∃b,AJ h s=some b∧(b=true→WR h s):=by
  intro a1 a2 a3 a4;unfold AJ;by_cases h0:arA s.Left=0
  ·rw[eD h0]
   refine⟨_,rfl,fun hb=>⟨a1,a2,a3,a4,.inl ?_⟩⟩;simp_all
  ·rw[dg h0]
   simp only[dw,aR];have Vi:bM (arA s.Path+1)=(s.Path.length:Int)+1:=dM (by grind) (by grind);rw[Vi];by_cases h1:arA s.Left=(s.Path.length:Int)+1
   ·rw[dg (fun hne=>hne h1)]
    have hlen:s.Left.length=s.Path.length+1:=by grind
    refine jK _ s.Left.length (aP (by omega)) (fun k hk=> ?_) ?_
    ·have hrow:=hw.rows _ (acI hk)
     simp only[AH,dec_lt,hk,bt,aY,aU hk,bp];obtain⟨b,hb⟩:=abv (l:=s.Left[k]) (path:=s.Path.take k) (by omega) (by grind) (arA h.aL);have hj5:vM h s (k:Int) s.Left[k]=some (.inl ((k+1:Nat):Int))∨vM h s (k:Int) s.Left[k]=some (.inr false):=by
      unfold vM;rw[aa8 (by omega),bp,hb,bp];cases b with
      |true=>grind [Fp,abo,aH]
      |false=>exact .inr rfl
     have:=jJ (b:=fun(p:Int)=>vL h s (k:Int) s.Left[k] p) (fun i x=>x=((i+1:Nat):Int)) (fun a=>a=.inl ((k+1:Nat):Int)∨a=.inr false) (s.Left[k].length) (aP (by omega)) (fun i x hi hx=> ?_) (s:=1) rfl
     ·obtain⟨a,h3,h4⟩:=this
      grind
     ·subst hx
      by_cases hil:i+1<s.Left[k].length
      ·have e1:bM (((i+1:Nat):Int) - 1)=(i:Int):=by grind [dM]
       have e2:i<s.Left[k].length:=by omega
       simp only[vL,dec_lt,hil,bt,aY,e1,aU e2,aU hil,bp];split
       ·exact .inr ⟨_,rfl,.inr rfl⟩
       ·exact .inl ⟨((i+1+1:Nat):Int),by simp only[abo,aH (k:=i+1) (by omega)],rfl,e2⟩
      ·simp only[vL,dec_lt,hil,b7,dw,aR]
       right;rcases hj5 with h5|h5
       ·exact⟨_,by rw[h5];rfl,.inl rfl⟩
       ·exact⟨_,by rw[h5];rfl,.inr rfl⟩
    ·simp only[AH,dec_lt,afr,b7,dw,aR,Fo]
     exact⟨_,rfl,fun _=>⟨a1,a2,a3,a4,.inr hlen⟩⟩
   grind
 unfold Br;rw[uq hf,bp];cases hr:right h with
 |false=>exact hj1t
 |true=>
  have hn:=eP hr;simp only[apS,dw,aR];by_cases h1:s.cU<1
  ·grind
  ·rw[dg h1]
   by_cases h2:(32:Int)<s.cU
   ·grind
   ·rw[dg h2]
    simp only[dw,aR];have Vi:bM (arA h.aL - 1)=(h.aL.length:Int) - 1:=dM (by grind) (by grind);rw[Vi];by_cases h3:abN ((h.aL.length:Int) - 1) 0<arA s.Path
    ·grind
    ·rw[dg h3]
     have hpl:s.Path.length≤32:=by
      simp only[abN,arA] at h3;omega
     unfold oH;refine jK _ s.Path.length (aP (by omega)) (fun k hk=> ?_) ?_
     ·simp only[AI,dec_lt,hk,bt,aY,aU hk,bp,aa8 (aqq hk)]
      obtain⟨b,hb⟩:=abv (l:=[s.Path[k]]) (path:=s.Path.take k) (by simp) (by grind) (arA h.aL);rw[hb,bp];cases b with
      |true=>grind [abo,aH]
      |false=>exact .inr ⟨_,rfl,hno _⟩
     ·obtain⟨b,h4,h5⟩:=Sp hr (by omega) (by omega) hpl
      refine⟨b, ?_,h5⟩;simp only[AI,dec_lt,afr,b7,dw,aR,h4];rfl
theorem V5(hw:Yf s):lg s=some s:=by
 have hp:=hw.path;have hl:=hw.left;unfold lg;rw[show arA s.Path=((s.Path.length:Nat):Int) from rfl,NO (by omega) (by omega),bp,show arA s.Left=((s.Left.length:Nat):Int) from rfl,NO (by omega) (by omega),bp,YB (by simp),bp];refine cB (fun k=>s.Left.take k++aeR (s.Left.length - k) []) s.Left.length _ (aP (by omega)) (fun k hk=> ?_) ?_ (by simp)
 ·have hrow:=hw.rows _ (acI hk)
  have hlen:(s.Left.take k++aeR (s.Left.length - k) ([]:List Int)).length=s.Left.length:=by grind
  have Lz:k<(s.Left.take k++aeR (s.Left.length - k) ([]:List Int)).length:=by omega
  simp only[pY,dec_lt,hk,bt,aY,aU hk,bp];rw[show arA s.Left[k]=((s.Left[k].length:Nat):Int) from rfl,NO (by omega) (by omega),bp,aU Lz,bp,aH (k:=k) (by omega),lZ];rw[List.set_append_right _ _ (by grind),aqi,Nat.min_eq_left (aqq hk),Nat.sub_self,show s.Left.length - k=(s.Left.length - (k+1))+1 by omega,List.replicate_succ,List.set_cons_zero,aoR,ab9 hk,apj,aj9];rfl
 ·simp[pY,ue]
theorem abu(hf:Fits h)(hk:(bB h).length≤3){path:List Int}(hp:path.length≤1000):∃r,tL h path=some r∧r.length≤3:=by
 unfold tL;rw[LZ hf,bp];refine cR (fun k (q:List aa)=>q.length≤k) _ (bB h).length (aP (by omega)) (fun k s hkk hs=>.inl ?_) (fun s hs=> ?_) (by simp)
 ·simp only[w_,dec_lt,hkk,bt,aY,aU hkk,bp,aoi (show path.length<9223372036854775808 by omega)]
  have Sp:∀q:List aa,sK (k:Int) q=some (.inl (q,((k+1:Nat):Int))):=fun q=>by grind [sK,abo,aH]
  have hj5:∀v,∃s',oI s (k:Int) (bB h)[k] v=some (.inl (s',((k+1:Nat):Int)))∧s'.length≤k+1:=fun v=>by
   unfold oI xb;split <;> rw[cA (by grind),bp,Sp] <;> exact⟨_,rfl,by grind⟩
  have hj3:∀a b v,∃s',sL s (k:Int) (bB h)[k] a b v=some (.inl (s',((k+1:Nat):Int)))∧s'.length≤k+1:=fun a b v=>by
   unfold sL;split
   ·grind
   ·split
    ·exact hj5 _
    ·split <;> exact hj5 _
  split <;> exact hj3 _ _ _
 ·simp only[w_,dec_lt,afr,b7,dw,aR,Cx]
  exact⟨_,rfl,by omega⟩
theorem af3(hf:Fits h)(hr:right h=true)(w:Int)(Vi:1≤w)(cut:Bool){path:List Int}(hp:path.length≤1000){left:List (List Int)}(hl:left.length≤1000):∃r row,kO h w cut path left=some r∧r.2=left++[row]∧row.length≤40:=by
 have hn:=eP hr;have Cc:h.aL.length≤64:=by omega
 unfold kO;rw[afK hf,bp];unfold Rq;rw[if_pos hr,ko Cc,bp];have Sp:∀c (row:List Int),k_ left c row=some (c,left++[row]):=fun c row=>by
  grind [cA,k_]
 have:=cR (b:=fun(p:(List Int)×Int)=>k8 h w cut path left (gr h.aL.length (yS (Ki (soF h) (wrF h))),0) p.1 p.2) (fun k (q:List Int)=>q.length≤k) (fun r=>∃row,r.2=left++[row]∧row.length≤40) h.aL.length (aP (by omega)) (fun k l hk hs=> ?_) (fun l hs=> ?_) (s:=[]) (by simp)
 ·grind
 ·simp only[k8,dec_lt,hk,bt,aY,LY (show path.length<9223372036854775808 by omega),bp]
  have hj4:∀v,∃s',pP l (k:Int) v=some (.inl (s',((k+1:Nat):Int)))∧s'.length≤k+1:=fun v=>by
   unfold pP pO;have e:abz 8 l [(k:Int)]=some (l++[(k:Int)]):=cA (by grind);rw[e,aH (k:=k) (by omega)];cases v with
   |true=>exact⟨_,rfl,by grind⟩
   |false=>exact⟨_,rfl,Nat.le_succ_of_le hs⟩
  have:=cR (b:=fun(p:Bool×Int)=>k9 h path (gr h.aL.length (yS (Ki (soF h) (wrF h))),0) l (k:Int) p.1 p.2) (fun _ _=>True) (fun a:((List Int)×Int)⊕(Bool×(List (List Int)))=>∃s',a=.inl (s',((k+1:Nat):Int))∧s'.length≤k+1) h.aL.length (aP (by omega)) (fun j v hj _=> ?_) (fun v _=> ?_) (s:= !path.any (fun x=>decide ((k:Int)=x))) trivial
  ·grind
  ·left
   have hj5:∀v,iY (j:Int) v=some (.inl (v,((j+1:Nat):Int))):=fun v=>by grind [iY,abo,aH]
   simp only[k9,dec_lt,hj,bt,aY,wJ Cc,LY (show path.length<9223372036854775808 by omega),bp,hj5];split
   ·split <;> exact⟨_,rfl,trivial⟩
   grind
  ·obtain⟨s',h1,h2⟩:=hj4 v
   refine⟨_, ?_,s',rfl,h2⟩;simp only[k9,dec_lt,afr,b7,dw,aR,h1];rfl
 ·simp only[k8,dec_lt,afr,b7,dw,aR,vP]
  split
  ·rename_i hlt
   have hlt:=of_decide_eq_true hlt;simp only[arA] at hlt;obtain⟨m,rfl⟩:∃m:Nat,w=(m:Int):=⟨w.toNat,by omega⟩;rw[aa8 (by omega),bp];rw[Sp];exact⟨_,rfl,_,rfl,by grind⟩
  ·rw[Sp]
   exact⟨_,rfl,_,rfl,by omega⟩
end
theorem aci(h:af)(w:Int)(c:Bool)(p:List Int)(l:List (List Int)):sZ h w c p l=kO h w c p l:=rfl
section
variable {h:af} {lev:Int} {s:aN}
theorem apk(hf:Fits h)(hk:(bB h).length≤3)(hw:Yf s):∃r,AK h lev s=some r∧Yf r.1∧MF r.2:=by
 have hsame:Yf (aN.mk s.cU s.Cut s.Path s.Left):=⟨hw.path,hw.left,hw.rows⟩
 unfold AK
 obtain⟨b,h1,h2⟩:=aja hf hw
 rw[V5 hw,bp,h1,bp]
 have hj1t:∃r,qd h lev s s true=some r∧Yf r.1∧MF r.2:=⟨_,rfl,hsame,.nil 3⟩
 cases b with
 |false=>exact hj1t
 |true=>
  obtain⟨hr,w1,w2,w3,w4⟩:=h2 rfl
  have hn:=eP hr
  have hll:s.Left.length≤33:=by
   rcases w4 with⟨w5,_⟩|w5
   ·rw[w5];simp
   ·omega
  have hj1:∀v,∃r,qd h lev s s v=some r∧Yf r.1∧MF r.2:=by
   intro v
   cases v with
   |true=>exact hj1t
   |false=>
    unfold qd
    simp only[dw,aR]
    split
    ·exact⟨_,rfl,hsame,.nil 1⟩
    ·have hwl:bM (arA s.Left - 1)=(s.Left.length:Int) - 1:=dM (by simp only[arA];omega) (by simp only[arA];omega)
     rw[V5 hw,bp,hwl]
     rcases w4 with⟨w5,w6⟩|w5
     ·rw[eD (show(s.Left.length:Int) - 1<0 by rw[w5];simp)]
      simp only[aY]
      obtain⟨r,row,h3,h4,h5⟩:=af3 hf hr s.cU w2 s.Cut (path:=s.Path) (by omega) (left:=s.Left) (by omega)
      rw[aci,h3,bp]
      refine⟨_,rfl,⟨by simp only;omega, ?_, ?_⟩,.nil 0⟩
      ·simp only[h4,w5];simp
      ·simp only[h4,w5];intro l hl;simp at hl;rw[hl];exact h5
     ·obtain⟨L,hL⟩:∃L,s.Left.length=L+1:=⟨s.Path.length,w5⟩
      have e1:(s.Left.length:Int) - 1=(L:Int):=by omega
      have hix:L<s.Left.length:=by omega
      have hrow:=hw.rows _ (acI hix)
      rw[e1,dg (show ¬(L:Int)<0 by omega)]
      simp only[dw,aR]
      rw[aU hix,bp]
      have hsetrows:∀x:List Int,x.length≤40→∀l∈s.Left.set L x,l.length≤40:=fun x hx l hl=>by
       rcases aql hl with h|h
       ·exact hw.rows l h
       ·rw[h];exact hx
      have hj3:∀c v,∃r,tK h lev s s c v=some r∧Yf r.1∧MF r.2:=by
       intro c v
       unfold tK
       cases v with
       |true=>exact⟨_,rfl,⟨by simp,by simp,by simp⟩,.nil 0⟩
       |false=>
        simp only[dw,aR]
        rw[hwl,e1,aU hix,bp]
        by_cases h0:arA s.Left[L]=0
        ·rw[eD h0]
         exact⟨_,rfl,hsame,.nil 3⟩
        ·rw[dg h0]
         simp only[dw,aR]
         have hpos:0<s.Left[L].length:=by simp only[arA] at h0;omega
         have hcl:bO s.Path=some s.Path:=by unfold bO;rw[cA (by simp;omega)];rfl
         have h00:aaV s.Left[L] 0=some (s.Left[L][0]):=aU hpos
         have hap:abz 8 s.Path [s.Left[L][0]]=some (s.Path++[s.Left[L][0]]):=cA (by simp;omega)
         have hsb:abH s.Left[L] 1 (arA s.Left[L])=some ((s.Left[L].drop 1).take (s.Left[L].length - 1)):=sY (m:=1) (k:=s.Left[L].length) (by omega) (afk _)
         have hplen:(s.Path++[s.Left[L][0]]).length≤40:=by simp;omega
         rw[hcl,bp,bp,h00,bp,hap,bp,bp,hsb,bp,bp]
         obtain⟨d,h3,h4⟩:=abu hf hk (path:=s.Path++[s.Left[L][0]]) (by omega)
         rw[h3,bp,NS hf lev (by omega),bp]
         obtain⟨o,h5,h6⟩:=Jj (h:=h) lev d
         rw[h5,bp]
         have hrl:((s.Left[L].drop 1).take (s.Left[L].length - 1)).length≤40:=by simp;omega
         have hj5:∀a v,∃r,xC h s c (s.Path++[s.Left[L][0]]) ((s.Left[L].drop 1).take (s.Left[L].length - 1)) o a v=some r∧Yf r.1∧MF r.2:=by
          intro a v
          unfold xC
          rw[hwl,e1,lZ]
          cases v with
          |true=>exact⟨_,rfl,⟨by simp only;omega,by simp;omega,hsetrows _ hrl⟩,by simp,by simp,by simp only;omega,by simp[Sl]⟩
          |false=>
           cases a with
           |true=>
            simp only[dw,aR,aY]
            obtain⟨r,row,h7,h8,h9⟩:=af3 hf hr s.cU w2 c (path:=s.Path++[s.Left[L][0]]) (by omega) (left:=s.Left.set L ((s.Left[L].drop 1).take (s.Left[L].length - 1))) (by simp;omega)
            rw[h7,bp]
            refine⟨_,rfl,⟨hplen, ?_, ?_⟩,.nil 0⟩
            ·simp only[h8];simp;omega
            ·simp only[h8];intro l hl
             rcases List.mem_append.1 hl with h|h
             ·exact hsetrows _ hrl l h
             ·rw[List.mem_singleton.1 h];exact h9
           |false=>exact⟨_,rfl,⟨by simp only;omega,by simp;omega,hsetrows _ hrl⟩,.nil 0⟩
         split <;> exact hj5 _ _
      have Sp:∀v,(v=true→0<L)→∃r,xB h lev s s v=some r∧Yf r.1∧MF r.2:=by
       intro v hv
       unfold xB
       rw[hwl,e1]
       cases v with
       |true=>
        have hL0:=hv rfl
        have e2:bM ((L:Int) - 1)=((L - 1:Nat):Int):=by rw[dM (by omega) (by omega)];omega
        simp only[aY]
        rw[aa8 (by omega),bp,e2,aa8 (by omega),bp]
        exact⟨_,rfl,⟨by simp;omega,by simp;omega,fun l hl=>hw.rows l (List.mem_of_mem_take hl)⟩,.nil 0⟩
       |false=>
        simp only[dw,aR]
        rw[aU hix,bp]
        split
        ·split <;> exact hj3 _ _
        ·exact hj3 _ _
      split
      ·exact Sp _ (fun hv=>by have:=of_decide_eq_true hv;omega)
      ·exact Sp _ (fun hv=>by cases hv)
  simp only[apS,dw,aR]
  split <;> exact hj1 _
end
def Qf(n:Nat)(l:List au):Prop:=l.length≤n∧∀f∈l,f.eH=[]
theorem Qf.snoc{n:Nat}{l:List au}(h:Qf n l){f:au}(hf:f.eH=[]):Qf (n+1) (l++[f]):=
 ⟨by simp;exact h.1,fun g hg=>by
  rcases List.mem_append.1 hg with h1|h1
  ·exact h.2 g h1
  ·rw[List.mem_singleton.1 h1];exact hf⟩
theorem Qf.mono{n m:Nat}{l:List au}(h:Qf n l)(hnm:n≤m):Qf m l:=⟨Nat.le_trans h.1 hnm,h.2⟩
section
variable {h:af} {lev:Int}
theorem RO(hf:Fits h){n:Nat}(hn:n≤1000){l:List au}(hl:Qf n l){y:au}(hy:y.eH=[])(yT P0:List aa)(JM PZ P3 P4 a8 a9:Int)(l10 l13:List Int)(l11 l14:List ai)(l12:List au):
  oF h lev yT JM PZ P0 P3 P4 a8 a9 l10 l11 l12 l13 l14 l y=some (l,true)∨∃r,oF h lev yT JM PZ P0 P3 P4 a8 a9 l10 l11 l12 l13 l14 l y=some (r,false)∧Qf (n+1) r:=by
 unfold oF
 have hl1:=hl.1
 rw[Pe hf lev (by simp) (by rw[hy];simp),bp]
 cases holds h lev [] y with
 |false=>exact .inl rfl
 |true=>
  simp only[aY]
  rw[cA (by simp;omega)]
  exact .inr ⟨_,rfl,hl.snoc hy⟩
theorem T4(hf:Fits h){n:Nat}(hn:n≤1000){l:List au}(hl:Qf n l)(c:aa)(yT P0:List aa)(JM PZ P3 P4 a8 a9:Int)(l10 l13:List Int)(l11 l14:List ai)(l12:List au):
  ∃r,fV h lev yT JM PZ P0 P3 P4 a8 a9 l10 l11 l12 l13 l14 l c h=some r∧Qf (n+1) r.1:=by
 unfold fV
 have ht:=hf.aeB
 rcases RO (lev:=lev) hf hn hl (y:=au.mk (aa.mk c.Key c.A c.B) 1 0 0 []) rfl yT P0 JM PZ P3 P4 a8 a9 l10 l13 l11 l14 l12 with h1|⟨r,h1,h2⟩
 ·rw[h1,bp]
  simp only[aY]
  refine cR (fun _ q=>q=l) _ h.aL.length (aP (by omega)) (fun k s hk hs=> ?_) (fun s hs=> ?_) rfl
  ·subst hs
   simp only[ia,dec_lt,hk,bt,aY]
   rcases RO (lev:=lev) hf hn hl (y:=au.mk (aa.mk c.Key c.A c.B) 3 (k:Int) 0 []) rfl yT P0 JM PZ P3 P4 a8 a9 l10 l13 l11 l14 l12 with h3|⟨r,h3,h4⟩
   ·rw[h3,bp]
    exact .inl ⟨s,by simp only[aY,abo,aH (k:=k) (by omega)],rfl⟩
   ·rw[h3,bp]
    exact .inr ⟨_,rfl,h4⟩
  ·subst hs
   simp only[ia,dec_lt,afr,b7,dw,aR]
   exact⟨_,rfl,hl.mono (by omega)⟩
 ·rw[h1,bp]
  exact⟨_,rfl,h2⟩
theorem aeh(hf:Fits h)(hk:(bB h).length≤3):∃o,xY h lev=some o∧MF o:=by
 unfold xY
 rw[NS hf lev (by simp),bp]
 split
 ·exact⟨_,rfl,.nil 3⟩
 ·obtain⟨q,h3,h4⟩:=Ji (h:=h) lev []
  rw[h3,bp]
  split
  ·exact⟨_,rfl,by simp,by simp,by simp,by simp,fun x hx=>by rw[List.mem_singleton.1 hx];simp only;omega⟩
  ·rw[LZ hf,bp]
   split
   ·obtain⟨r,h1,h2⟩:=Jj (h:=h) lev []
    rw[h1,bp]
    exact⟨_,rfl,by simp,by simp,by simp only;omega,by simp[Sl]⟩
   ·refine cR (fun k q=>Qf (2*k) q) MF (bB h).length (aP (by omega)) (fun k s hkk hs=> ?_) (fun s hs=> ?_) ⟨by simp,by simp⟩
    ·simp only[As,dec_lt,hkk,bt,aY,aU hkk,bp]
     left
     have:=cR (b:=fun(p:(List au)×Int)=>vw h lev (bB h) (k:Int) (bB h)[k] p.1 p.2) (fun j q=>Qf (2*k+j) q) (fun a:((List au)×Int)⊕(aS)=>∃s',a=.inl (s',((k+1:Nat):Int))∧Qf (2*(k+1)) s') 2 (by decide) (fun j q hj hq=> ?_) (fun q hq=> ?_) (s:=s) hs
     ·obtain⟨a,h1,s',rfl,h2⟩:=this
      exact⟨s',h1,h2⟩
     ·left
      have hj':j<([(bB h)[k],(aa.mk (bB h)[k].Key (bB h)[k].B (bB h)[k].A)]:List aa).length:=hj
      simp only[vw,dec_lt,hj',bt,aY,aU hj',bp,kD,vz]
      obtain⟨r,h1,h2⟩:=T4 (lev:=lev) hf (by omega) hq (([(bB h)[k],(aa.mk (bB h)[k].Key (bB h)[k].B (bB h)[k].A)]:List aa)[j]) (bB h) ([(bB h)[k],(aa.mk (bB h)[k].Key (bB h)[k].B (bB h)[k].A)]:List aa) ((bB h).length:Int) (k:Int) ((([(bB h)[k],(aa.mk (bB h)[k].Key (bB h)[k].B (bB h)[k].A)]:List aa).length:Nat):Int) (j:Int) 0 3 [] [] [] [] []
      rw[h1,bp]
      refine⟨r.1, ?_,by rw[←Nat.add_assoc];exact h2⟩
      simp only[Au,abo,aH (k:=j) (by omega),ite_self]
     ·refine⟨_, ?_,q,rfl,hq.mono (by omega)⟩
      simp[vw,arA,E8,aaN,abo,aH (k:=k) (by omega)]
    ·simp only[As,dec_lt,afr,b7,dw,aR,E7]
     have:=hs.1
     exact⟨_,rfl,by simp only;omega,fun f hf=>by simp only at hf;rw[hs.2 f hf];simp,by simp,by simp[Sl]⟩
end
def A4.In(a b:Int)(x:bu):Prop:=a≤x.c0∧x.c0≤b∧a≤x.c1∧x.c1≤b∧a≤x.c2∧x.c2≤b∧a≤x.c3∧x.c3≤b
theorem UX{n:Int}(h:0≤n∧n≤2147483647):abN 0 (abM n 2147483647)=n:=by
 unfold abN abM
 split <;> split <;> omega
theorem NT{x:bu}(h:A4.In 0 2147483647 x):wX x=some x:=by
 unfold A4.In at h
 unfold wX
 refine h_ (fun k=>(x,(k:Int))) 4 _ (by decide) (fun k hk=> ?_) ?_ rfl
 ·have h0:=UX (n:=x.c0) ⟨by omega,by omega⟩
  have h1:=UX (n:=x.c1) ⟨by omega,by omega⟩
  have h2:=UX (n:=x.c2) ⟨by omega,by omega⟩
  have h3:=UX (n:=x.c3) ⟨by omega,by omega⟩
  match k,hk with
  |0,_=>simp only[tE];simp[abO,Sh.sX,Sh.q9,h0,abo,dM]
  |1,_=>simp only[tE];simp[abO,Sh.sX,Sh.q9,h1,abo,dM]
  |2,_=>simp only[tE];simp[abO,Sh.sX,Sh.q9,h2,abo,dM]
  |3,_=>simp only[tE];simp[abO,Sh.sX,Sh.q9,h3,abo,dM]
 ·rfl
structure P6 (n:Nat) (p:aW):Prop where
 left:p.Left=2147483647 - n
 each:A4.In (2147483647 - n) 2147483647 p.bW
 afX:A4.In 0 n p.bD
section
variable {n:Nat} {p:aW}
theorem FE(hn:n≤1000000000)(hp:P6 n p):nD p=some true:=by
 have h1:=hp.left
 have h2:=hp.each
 have h3:=hp.afX
 unfold nD
 rw[eD (show(0:Int)≤p.Left by omega),eD (show p.Left≤2147483647 by omega)]
 have e1:A4.In 0 2147483647 p.bW:=by unfold A4.In at*;omega
 have e2:A4.In 0 2147483647 p.bD:=by unfold A4.In at*;omega
 simp[NT e1,NT e2,Sh.EK]
theorem ZN{k:Nat}(hk:k<4):abO 4 (k:Int)=some k:=by
 unfold abO;rw[if_pos ⟨by omega,by omega⟩];rfl
theorem afM(hn:n≤1000000000)(hp:P6 n p){who:Nat}(hw:who<4){ask:Int}(ha:0≤ask∧ask≤255):Cj p (who:Int) ask=some ask:=by
 have h1:=hp.left
 have h2:=hp.each
 unfold A4.In at h2
 unfold Cj rF
 rw[FE hn hp,bp]
 rw[eD (show(0:Int)≤(who:Int) by omega),eD (show(who:Int)<4 by omega)]
 simp only[apS,dw,aR,aY,bp,De,ZN hw,Sh.EK]
 have hm:∀e:Int,2147483647 - (n:Int)≤e→abN 0 (abM (abM ask p.Left) e)=ask:=fun e he=>by
  unfold abN abM
  split <;> split <;> split <;> omega
 have hg:2147483647 - (n:Int)≤Sh.q9 p.bW.c0 p.bW.c1 p.bW.c2 p.bW.c3 who:=by
  match who,hw with
  |0,_=>simp only[Sh.q9];omega
  |1,_=>simp only[Sh.q9];omega
  |2,_=>simp only[Sh.q9];omega
  |3,_=>simp only[Sh.q9];omega
 rw[hm _ hg]
theorem adJ(hn:n≤1000000000)(hp:P6 n p){who:Nat}(hw:who<4):∃r,Bg p (who:Int) 1=some r∧P6 (n+1) r.1:=by
 have h1:=hp.left
 have h2:=hp.each
 have h3:=hp.afX
 unfold A4.In at h2 h3
 unfold Bg rF
 rw[FE hn hp,bp,eD (show(0:Int)≤(who:Int) by omega),eD (show(who:Int)<4 by omega)]
 simp only[apS,dw,aR,aY,bp,show ¬((1:Int)<0) by omega,b7,vq,afM hn hp hw (ask:=1) ⟨by omega,by omega⟩,aqg,ZN hw]
 have hl:bM (p.Left - 1)=p.Left - 1:=dM (by omega) (by omega)
 match who,hw with
 |0,_=>
  simp only[Sh.sX,Sh.q9]
  rw[show bM (p.bD.c0+1)=p.bD.c0+1 from dM (by omega) (by omega),show bM (p.bW.c0 - 1)=p.bW.c0 - 1 from dM (by omega) (by omega),hl]
  simp only[aY,aqt,aR]
  rw[NT (by unfold A4.In;simp only;omega),bp]
  exact⟨_,rfl,by simp only;omega,by unfold A4.In;simp only;omega,by unfold A4.In;simp only;omega⟩
 |1,_=>
  simp only[Sh.sX,Sh.q9]
  rw[show bM (p.bD.c1+1)=p.bD.c1+1 from dM (by omega) (by omega),show bM (p.bW.c1 - 1)=p.bW.c1 - 1 from dM (by omega) (by omega),hl]
  simp only[aY,aqt,aR]
  rw[NT (by unfold A4.In;simp only;omega),bp]
  exact⟨_,rfl,by simp only;omega,by unfold A4.In;simp only;omega,by unfold A4.In;simp only;omega⟩
 |2,_=>
  simp only[Sh.sX,Sh.q9]
  rw[show bM (p.bD.c2+1)=p.bD.c2+1 from dM (by omega) (by omega),show bM (p.bW.c2 - 1)=p.bW.c2 - 1 from dM (by omega) (by omega),hl]
  simp only[aY,aqt,aR]
  rw[NT (by unfold A4.In;simp only;omega),bp]
  exact⟨_,rfl,by simp only;omega,by unfold A4.In;simp only;omega,by unfold A4.In;simp only;omega⟩
 |3,_=>
  simp only[Sh.sX,Sh.q9]
  rw[show bM (p.bD.c3+1)=p.bD.c3+1 from dM (by omega) (by omega),show bM (p.bW.c3 - 1)=p.bW.c3 - 1 from dM (by omega) (by omega),hl]
  simp only[aY,aqt,aR]
  rw[NT (by unfold A4.In;simp only;omega),bp]
  exact⟨_,rfl,by simp only;omega,by unfold A4.In;simp only;omega,by unfold A4.In;simp only;omega⟩
theorem aoA(hn:n≤1000000000)(hp:P6 n p):∃r,FF p=some r:=by
 unfold FF
 rw[FE hn hp,bp]
 simp only[apS,dw,aR]
 have:=cR (b:=fun(x:Int×Int)=>Dd p x.1 x.2) (fun _ _=>True) (fun _=>True) 4 (by decide) (fun k s hk _=>.inl ?_) (fun s _=> ?_) (s:=0) trivial
 ·exact⟨_,this.choose_spec.1⟩
 ·simp only[Dd,eD (show(k:Int)<4 by omega),aY,ZN hk,bp,Sh.EK,abo,aH (k:=k) (by omega)]
  exact⟨_,rfl,trivial⟩
 ·exact⟨_,rfl,trivial⟩
end
theorem ahO(l:List au):gx l=some l:=by
 simp[gx,abH,arA]
structure RS (h:af) (lev:Int) (n:Nat) (s:aK):Prop where
 FW:s.H=h
 level:s.Level=lev
 facts:FOk h lev s.fh
 path:POk h lev (bB h).length (s.fh.map (·.C)) s.Path
 gone:s.eY.c3=false
 wide:Yf s.gj
 J4:P6 n s.P
 said:s.gL=0
structure RE (h:af) (lev:Int) (n:Nat) (s:aK):Prop where
 FW:s.H=h
 level:s.Level=lev
 said:s.gL=1∨s.gL=2
 order:s.Order.length≤1000
 tree:Sl s.Tree
 J4:P6 n s.P
section
variable {h:af} {lev:Int} {n:Nat} {s:aK}
theorem ait(hf:Fits h)(hk:(bB h).length≤3)(h1:s.H=h)(h2:s.Level=lev)(h3:FOk h lev s.fh){f:au}(hc:f.eH.length≤1000):∃l,n_ f s=some l∧FOk h lev l∧∀x∈s.fh,x∈l:=by
 have hlen:=h3.len;have hj:∃l,kY f s false=some l∧FOk h lev l∧∀x∈s.fh,x∈l:=⟨_,rfl,h3,fun _ h=>h⟩;unfold n_;rw[h1,h2,Pe hf lev (by omega) (by omega),bp];cases hh:holds h lev s.fh f with
 |false=>exact hj
 |true=>
  rw[xT (by omega),bp,Pd (by grind),bp];cases ha:(s.fh.map (·.C)).any (fun c=>decide (f.C=c)) with
  |true=>exact hj
  |false=>
   unfold kY;have e:abz 72 s.fh [f]=some (s.fh++[f]):=cA (by grind);rw[ahO,bp,e];refine⟨_,rfl,⟨by rw[RF,h3.rep,hh];rfl, ?_⟩,fun x hx=>List.mem_append_left _ hx⟩;rw[List.map_append,List.nodup_append];refine⟨h3.nd,by simp,fun a ha2 b hb=> ?_⟩;grind
theorem TU(hf:Fits h)(hk:(bB h).length≤3)(hs:RS h lev n s){o:aS}(ho:MF o){who:Nat}(hw:who<4)(h3:who=3→o.gL≠3):∃s',e7 (who:Int) s o=some s'∧s'.dR=s.dR∧(RE h lev n s'∨(RS h lev n s'∧s'.Path=s.Path∧o.gL≠1∧o.gL≠2)):=by
 have hfl:=ho.facts
 refine cR (fun _ (c:aK)=>∃l,c={s with fh:=l}∧FOk h lev l∧∀x∈s.fh,x∈l) _ o.fh.length (aP (by omega)) (fun k c hkk hc=>.inl ?_) (fun c hc=> ?_) ⟨s.fh,rfl,hs.facts,fun _ h=>h⟩
 ·obtain⟨l,rfl,h1,h2⟩:=hc
  simp only[jw,dec_lt,hkk,bt,aY,aU hkk,bp]
  obtain⟨l',h4,h5,h6⟩:=ait (s:={s with fh:=l}) hf hk hs.FW hs.level h1 (ho.fc _ (acI hkk))
  rw[h4,bp]
  exact⟨_,by simp only[abo,aH (k:=k) (by omega)],l',rfl,h5,fun x hx=>h6 x (h2 x hx)⟩
 ·obtain⟨l,rfl,h1,h2⟩:=hc
  simp only[jw,dec_lt,afr,b7,dw,aR]
  have hsame:RS h lev n {s with fh:=l}:=⟨hs.FW,hs.level,h1,⟨hs.path.ok.more (fun c hc=>by
   grind),hs.path.nd⟩,hs.gone,hs.wide,hs.J4,hs.said⟩
  have hend:o.gL=1∨o.gL=2→RE h lev n {s with fh:=l,gL:=o.gL,By:=(who:Int),Order:=o.Order,Tree:=o.Tree}:=fun h4=>⟨hs.FW,hs.level,h4,ho.order,ho.tree,hs.J4⟩
  unfold mD
  by_cases h4:o.gL=3
  ·rw[eD h4]
   rw[ZN hw,bp]
   refine⟨_,rfl,rfl,.inr ⟨⟨hs.FW,hs.level,hsame.facts,hsame.path, ?_,hs.wide,hs.J4,hs.said⟩,rfl,by omega,by omega⟩⟩
   have hne:who≠3:=fun e=>h3 e h4
   simp only[Sh.sX]
   rw[if_neg hne]
   exact hs.gone
  ·rw[dg h4]
   by_cases h5:o.gL=1
   ·rw[eD h5]
    exact⟨_,rfl,rfl,.inl (hend (.inl h5))⟩
   ·rw[dg h5]
    by_cases h6:o.gL=2
    ·rw[eD h6]
     exact⟨_,rfl,rfl,.inl (hend (.inr h6))⟩
    ·rw[dg h6]
     exact⟨_,rfl,rfl,.inr ⟨hsame,rfl,h5,h6⟩⟩
theorem aoW(hf:Fits h)(hk:(bB h).length≤3)(hn:n≤1000000)(hs:RS h lev n s){who:Nat}(hw:who<4):∃s',pI (who:Int) s=some s'∧s'.dR=s.dR∧(RE h lev (n+1) s'∨(RS h lev (n+1) s'∧cost (bB h).length s'.Path≤cost (bB h).length s.Path∧(who=3→cost (bB h).length s'.Path<cost (bB h).length s.Path))):=by
 obtain⟨r,h1,h2⟩:=adJ (by omega) hs.J4 hw;have X4:RS h lev (n+1) {s with P:=r.1}:=⟨hs.FW,hs.level,hs.facts,hs.path,hs.gone,hs.wide,h2,hs.said⟩;have hlen:=hs.facts.len;unfold pI;rw[h1,bp]
 match who,hw with
 |0,hw=>
  obtain⟨o,h3,h4⟩:=aeh (lev:=lev) hf hk;have e:∀x:aK,x={s with P:=r.1}→nE x=some o:=fun x a=>by
   subst a;unfold nE;simp only[hs.FW,hs.level,h3,bp]
  rw[e _ rfl,bp];obtain⟨s',h5,h6,h7⟩:=TU hf hk X4 h4 (who:=0) (by omega) (fun e=>by omega);refine⟨s',h5,h6, ?_⟩;grind
 |1,hw=>
  obtain⟨o,h3,h4⟩:=aee hf hk hs.facts s.Sat;have hs2:RS h lev (n+1) {s with P:=r.1,Sat:=o.1}:=⟨hs.FW,hs.level,hs.facts,hs.path,hs.gone,hs.wide,h2,hs.said⟩;have e:∀x:aK,x={s with P:=r.1}→kZ x=some (o.2,{s with P:=r.1,Sat:=o.1}):=fun x a=>by
   subst a;unfold kZ;simp only[hs.FW,hs.level,h3,bp]
  obtain⟨s',h5,h6,h7⟩:=TU hf hk hs2 h4 (who:=1) (by omega) (fun e=>by omega);grind
 |2,hw=>
  obtain⟨o,h3,h4,h4'⟩:=apk (lev:=lev) hf hk hs.wide;have hs2:RS h lev (n+1) {s with P:=r.1,gj:=o.1}:=⟨hs.FW,hs.level,hs.facts,hs.path,hs.gone,h4,h2,hs.said⟩;have e:∀x:aK,x={s with P:=r.1}→oa x=some (o.2,{s with P:=r.1,gj:=o.1}):=fun x a=>by
   subst a;unfold oa;simp only[hs.FW,hs.level,h3,bp]
  obtain⟨s',h5,h6,h7⟩:=TU hf hk hs2 h4' (who:=2) (by omega) (fun e=>by omega);grind
 |3,hw=>
  rw[show decide (((3:Nat):Int)=0)=false from rfl,show decide (((3:Nat):Int)=1)=false from rfl,show decide (((3:Nat):Int)=2)=false from rfl,show decide (((3:Nat):Int)=3)=true from rfl];simp only[aY,dw,aR];obtain⟨o,h3,h4,h5⟩:=aov hf hs.facts.rep (by omega) (fun f hf=>by have:=Dp hs.facts.rep f hf;omega) hk hs.path;have e:∀x:aK,x={s with P:=r.1}→nF x=some (o.2,{s with P:=r.1,Path:=o.1}):=fun x a=>by
   subst a;unfold nF;simp only[hs.FW,hs.level,h3,bp]
  rw[e _ rfl,bp];have hend:∀(hd:o.2.gL=1∨o.2.gL=2),MF o.2→∃s',e7 ((3:Nat):Int) {s with P:=r.1,Path:=o.1} o.2=some s'∧s'.dR=s.dR∧RE h lev (n+1) s':=fun hd ho=>by
   refine⟨{s with P:=r.1,Path:=o.1,gL:=o.2.gL,By:=3,Order:=o.2.Order,Tree:=o.2.Tree}, ?_,rfl,⟨hs.FW,hs.level,hd,ho.order,ho.tree,h2⟩⟩;unfold e7;simp only[jw,h4,arA,acR,Int.natCast_zero,aqg,b7,dw,aR];unfold mD mE;rcases hd with hd|hd <;> rw[hd] <;> rfl
  rcases h5 with⟨a,b,c⟩|⟨a,b,c⟩|⟨a,b,c⟩
  ·obtain⟨s',h6,h7,h8⟩:=hend (.inl a) ⟨by grind,by grind,by omega,by rw[c];simp[Sl]⟩
   grind
  ·obtain⟨s',h6,h7,h8⟩:=hend (.inr a) ⟨by grind,by grind,by grind,c⟩
   grind
  ·have hoo:MF o.2→o.2.gL≠3:=fun _=>by omega
   have hj:∃s',e7 ((3:Nat):Int) {s with P:=r.1,Path:=o.1} o.2=some s'∧s'={s with P:=r.1,Path:=o.1}:=by
    refine⟨_, ?_,rfl⟩;refine h_ (fun k=>({s with P:=r.1,Path:=o.1},(k:Int))) 0 _ (by decide) (fun k hk=>by omega) ?_ rfl;simp_all [jw,mD,mE]
   obtain⟨s',h6,rfl⟩:=hj;exact⟨_,h6,rfl,.inr ⟨⟨hs.FW,hs.level,hs.facts,b,hs.gone,hs.wide,h2,hs.said⟩,aqq c,fun _=>c⟩⟩
theorem rGo(hf:Fits h)(hk:(bB h).length≤3)(hn:n≤600000)(hs:RS h lev n s)(hp:0≤s.dR∧s.dR≤1000000){who fuel:Nat}(hw:who<4)(hu:1≤fuel∧fuel≤255):∃s' m,Bh s (who:Int) (fuel:Int)=some s'∧s'.dR=s.dR+1∧m≤n+255∧(RE h lev m s'∨(RS h lev m s'∧cost (bB h).length s'.Path≤cost (bB h).length s.Path∧(who=3→cost (bB h).length s'.Path<cost (bB h).length s.Path))):=by
 unfold Bh
 rw[dg (show ¬s.gL≠0 by rw[hs.said];simp),dg (show ¬(who:Int)<0 by omega),dg (show ¬(4:Int)≤(who:Int) by omega),dg (show ¬(fuel:Int)<1 by omega)]
 simp only[dw,aR,Am]
 rw[show(aW.mk s.P.Left (bu.mk s.P.bW.c0 s.P.bW.c1 s.P.bW.c2 s.P.bW.c3) (bu.mk s.P.bD.c0 s.P.bD.c1 s.P.bD.c2 s.P.bD.c3))=s.P from rfl,afM (by omega) hs.J4 hw (ask:=(fuel:Int)) ⟨by omega,by omega⟩,bp]
 have hpk:bM (abM s.dR 2147483646+1)=s.dR+1:=by
  grind [abM,dM]
 have Jl:RS h lev n {s with dR:=s.dR+1}:=⟨hs.FW,hs.level,hs.facts,hs.path,hs.gone,hs.wide,hs.J4,hs.said⟩
 have:=cR (b:=fun(p:aK×Int)=>Di (who:Int) (fuel:Int) p.1 p.2) (fun k (c:aK)=>c.dR=s.dR+1∧(RE h lev (n+k) c∨(RS h lev (n+k) c∧cost (bB h).length c.Path≤cost (bB h).length s.Path∧(who=3→0<k→cost (bB h).length c.Path<cost (bB h).length s.Path)))) (fun s'=>∃m,s'.dR=s.dR+1∧m≤n+255∧(RE h lev m s'∨(RS h lev m s'∧cost (bB h).length s'.Path≤cost (bB h).length s.Path∧(who=3→cost (bB h).length s'.Path<cost (bB h).length s.Path)))) fuel (aP (by omega)) (fun k c hkk hc=> ?_) (fun c hc=> ?_) (s:={s with dR:=s.dR+1}) ⟨rfl,.inr ⟨Jl,afk _,fun _ h=>by omega⟩⟩
 ·simp_all
 ·obtain⟨h1,h2⟩:=hc
  simp only[Di,dec_lt,hkk,bt,aY,ZN hw,bp]
  have hstop:∀m,m≤n+255→(RE h lev m c∨(RS h lev m c∧cost (bB h).length c.Path≤cost (bB h).length s.Path∧(who=3→cost (bB h).length c.Path<cost (bB h).length s.Path)))→∃a,Dj (who:Int) c (k:Int) true=some (.inr a)∧∃m,a.dR=s.dR+1∧m≤n+255∧(RE h lev m a∨(RS h lev m a∧cost (bB h).length a.Path≤cost (bB h).length s.Path∧(who=3→cost (bB h).length a.Path<cost (bB h).length s.Path))):=fun m hm hh=>⟨c,rfl,m,h1,hm,hh⟩
  rcases h2 with h2|⟨h2,h3,h4⟩
  ·have hne:decide (c.gL≠0)=true:=eD (by rcases h2.said with h|h <;> rw[h] <;> decide)
   grind
  ·have hgo:∀w,w<4→w=who→(Sh.q9 c.eY.c0 c.eY.c1 c.eY.c2 c.eY.c3 who=true∧who≠3)∨Sh.q9 c.eY.c0 c.eY.c1 c.eY.c2 c.eY.c3 who=false:=fun w hw e=>by
    subst e
    match w,hw with
    |0,_=>grind
    |1,_=>grind
    |2,_=>grind
    |3,_=>right;exact h2.gone
   rcases hgo who hw rfl with⟨hg,hne⟩|hg
   ·grind
   ·rw[dg (show ¬c.gL≠0 by rw[h2.said];simp)]
    simp only[Dj,dw,aR]
    obtain⟨s',h5,h6,h7⟩:=aoW hf hk (by omega) h2 hw
    grind [abo,aH]
 ·obtain⟨h1,h2⟩:=hc
  simp only[Di,aqg,b7,dw,aR,G6]
  refine⟨c,rfl,n+fuel,h1,by omega, ?_⟩
  grind
end
def abW(p:az):Prop:=(p.wB=4∨p.wB=5)∨(0≤p.wB∧p.wB<4∧1≤p.Fuel∧p.Fuel≤255)
theorem aeg(p:az):∃b,zi p=some b∧(b=true→abW p):=by
 have hj0:∃b,ua p false=some b∧(b=true→abW p):=by
  unfold ua
  simp only[dw,aR]
  by_cases h1:(0:Int)≤p.wB
  ·by_cases h2:p.wB<4
   ·by_cases h3:(1:Int)≤p.Fuel
    ·simp only[h1,h2,h3,bt,aY]
     exact⟨_,rfl,fun hb=>.inr ⟨h1,h2,h3,of_decide_eq_true hb⟩⟩
    ·simp only[h1,h2,h3,bt,b7,aY,dw,aR]
     exact⟨_,rfl,fun hb=>by cases hb⟩
   ·simp only[h1,h2,bt,b7,aY,dw,aR]
    exact⟨_,rfl,fun hb=>by cases hb⟩
  ·simp only[h1,b7,dw,aR]
   exact⟨_,rfl,fun hb=>by cases hb⟩
 unfold zi
 by_cases h4:p.wB=4
 ·rw[eD h4]
  exact⟨_,rfl,fun _=>.inl (.inl h4)⟩
 ·rw[dg h4]
  simp only[dw,aR]
  by_cases h5:p.wB=5
  ·rw[eD h5]
   exact⟨_,rfl,fun _=>.inl (.inr h5)⟩
  ·rw[dg h5];exact hj0
theorem ao0(s:List UInt8):∃r,rK s=some r∧(r.2=0→r.1.length≤2000∧∀p∈r.1,abW p):=by
 unfold rK
 have hrem:Sh.rem (arA s) 2=some ((s.length % 2:Nat):Int):=by
  unfold Sh.rem
  rw[if_pos (by decide)]
  simp only[arA]
  rw[show(2:Int)=((2:Nat):Int) from rfl,Int.ofNat_tmod]
 rw[hrem,bp]
 by_cases h1:((s.length % 2:Nat):Int)=1
 ·rw[eD h1]
  exact⟨_,rfl,fun h=>by simp at h⟩
 ·rw[dg h1]
  simp only[dw,aR]
  by_cases h2:(4000:Int)<arA s
  ·rw[eD h2]
   exact⟨_,rfl,fun h=>by simp at h⟩
  ·rw[dg h2]
   simp only[dw,aR]
   have hs:s.length≤4000:=by simp only[arA] at h2;omega
   refine jJ (fun k (x:List UInt8×List az)=>x.1.length+2*k=s.length∧x.2.length=k∧∀p∈x.2,abW p) _ (s.length / 2) (aP (by omega)) (fun k x hk hx=> ?_) ⟨by simp,by simp,by simp⟩
   obtain⟨t,out⟩:=x
   obtain⟨a,b,c⟩:=hx
   simp only at a b c
   simp only[Gn]
   match t,a with
   |[],a=>
    right
    simp only[bt,apS,dw,aR,Gp]
    exact⟨_,rfl,fun _=>⟨by simp only;omega,c⟩⟩
   |[x],a=>simp at a;omega
   |x::y::t,a=>
    rw[dg (show ¬(x::y::t)=[] by simp)]
    rw[show aaV (x::y::t) 0=some x from rfl,show aaV (x::y::t) 1=some y from rfl]
    simp only[aqv,aY,bp]
    obtain⟨r,h3,h4⟩:=aeg (az.mk (bM ((x).toNat:Int)) (bM ((y).toNat:Int)))
    rw[h3,bp]
    cases r with
    |false=>exact .inr ⟨_,rfl,fun h=>by simp at h⟩
    |true=>
     left
     simp only[acN] at a
     have e:abz 16 out [az.mk (bM ((x).toNat:Int)) (bM ((y).toNat:Int))]=some (out++[az.mk (bM ((x).toNat:Int)) (bM ((y).toNat:Int))]):=cA (by simp;omega)
     have e2:abH (x::y::t) 2 (arA (x::y::t))=some t:=by
      have:=sY (l:=x::y::t) (m:=2) (k:=(x::y::t).length) (by simp) (afk _)
      rw[show arA (x::y::t)=(((x::y::t).length:Nat):Int) from rfl]
      rw[show(2:Int)=((2:Nat):Int) from rfl,this]
      simp
     simp only[apS,dw,aR,e,e2,bp,abo]
     refine⟨_,rfl,⟨by simp only;omega,by simp only[amB,acN,acR];omega,fun p hp=> ?_⟩,by omega⟩
     rcases List.mem_append.1 hp with h|h
     ·exact c p h
     ·rw[List.mem_singleton.1 h];exact h4 rfl
def c3(l:List az):Nat:=(l.filter fun p=>decide (p.wB=3)).length
theorem UT{l:List az}{i:Nat}(h:i<l.length):c3 (l.take (i+1))=c3 (l.take i)+if l[i].wB=3 then 1 else 0:=by
 unfold c3
 rw[aoR,ab9 h,apj,List.filter_append,amB]
 congr 1
 by_cases e:l[i].wB=3 <;> simp[e]
theorem aiz{l:List az}(hl:l.length≤1000000){w:Nat}(hw:1≤w∧w≤100):∃b,Bj l 3 (w:Int)=some b∧(b=true→∀i,i≤l.length→i<(c3 (l.take i)+1)*w):=by
 unfold Bj
 refine cR (fun k (s:Int)=>∃q:Nat,s=(q:Int)∧q<w∧k≤c3 (l.take k)*w+q∧∀i,i≤k→i<(c3 (l.take i)+1)*w) _ l.length (aP (by omega)) (fun k s hk hs=> ?_) (fun s hs=> ?_) ⟨0,rfl,by omega,by simp,fun i hi=>by
  obtain rfl:i=0:=by omega
  simp[c3];omega⟩
 ·obtain⟨q,rfl,b,c,d⟩:=hs
  simp only[Aw,dec_lt,hk,bt,aY,aU hk,bp]
  have hc:=UT hk
  have fin:∀q':Nat,q'<w→k+1≤c3 (l.take (k+1))*w+q'→(∃s',rJ (w:Int) (k:Int) (q':Int)=some (.inl (s',((k+1:Nat):Int)))∧∃q:Nat,s'=(q:Int)∧q<w∧k+1≤c3 (l.take (k+1))*w+q∧∀i,i≤k+1→i<(c3 (l.take i)+1)*w):=fun q' h2 h3=>by
   refine⟨(q':Int), ?_,q',rfl,h2,h3,fun i hi=> ?_⟩
   ·unfold rJ
    rw[dg (by omega)]
    simp only[dw,aR,abo,aH (k:=k) (by omega)]
   ·rcases aft i (k+1) with h|h
    ·exact d i (by omega)
    ·obtain rfl:i=k+1:=by omega
     rw[aqu];omega
  by_cases e:l[k].wB=3
  ·rw[eD e]
   simp only[aY]
   left
   refine fin 0 (by omega) ?_
   rw[hc,if_pos e,aqu];omega
  ·rw[dg e]
   simp only[dw,aR]
   rw[show bM ((q:Int)+1)=((q+1:Nat):Int) from aH (by omega)]
   by_cases h:q+1=w
   ·right
    refine⟨false, ?_,fun hb=>by cases hb⟩
    unfold rJ
    rw[eD (by rw[h])];rfl
   ·left
    refine fin (q+1) (by omega) ?_
    have h9:c3 (l.take (k+1))=c3 (l.take k):=by rw[if_neg e] at hc;exact hc
    rw[h9];omega
 ·obtain⟨q,rfl,b,c,d⟩:=hs
  simp only[Aw,dec_lt,afr,b7,dw,aR,E9]
  exact⟨_,rfl,fun _=>d⟩
theorem aoC:∀(l w:List az),w.length≤256→l.length≤10000→n4 l (256,w)=some (((min l.length (256 - w.length):Nat):Int),(256,w++l.take (min l.length (256 - w.length)))):=fun l w hw hl=>by
 unfold n4
 obtain⟨m,hm⟩:∃m,m=min l.length (256 - w.length):=⟨_,rfl⟩
 rw[←hm]
 refine h_ (fun k=>(((256:Int),w++l.take k),(k:Int))) m _ (aP (by omega)) (fun k hk=> ?_) ?_ (by simp)
 ·have hkl:k<l.length:=by omega
  simp only[pG,dec_lt,hkl,bt,aY,aU hkl,bp,oD,Sh.NV]
  rw[if_pos (by simp;omega)]
  simp only[pH,aY,abo,aH (k:=k) (by omega)]
  rw[aoR,ab9 hkl,apj,aj9]
 ·simp only[pG]
  by_cases h:(m:Int)<arA l
  ·have hml:m<l.length:=by simp only[arA] at h;omega
   rw[eD h]
   simp only[aY,aU hml,bp,oD,Sh.NV]
   rw[if_neg (by simp;omega)]
   rfl
  ·rw[dg h];rfl
theorem aka(J:List az→aK→Prop)(hJ:∀p r s,J (p::r) s→p.wB≠4∧p.wB≠5∧∃s',Bh s p.wB p.Fuel=some s'∧J r s'):∀(n:Nat) (l w:List az) (c:bY),w.length≤256→l.length≤10000→w.length+l.length<n→c.bytes=[]→J (w++l) c.s→
  ∃c',Sh.iter (fun(p:bY×(List az)×(Int×List az))=>kH p.1 p.2.1 p.2.2) n (c,l,(256,w))=some c'∧J [] c'.s
 |0,l,w,c,_,_,hn,_,_=>by omega
 |n+1,l,w,c,hw,hl,hn,hb,hj=>by
  obtain⟨m,hm⟩:∃m,m=min l.length (256 - w.length):=⟨_,rfl⟩
  have hsub:abH l (m:Int) (arA l)=some (l.drop m):=by
   have:=sY (l:=l) (m:=m) (k:=l.length) (by omega) (afk _)
   rw[show arA l=((l.length:Nat):Int) from rfl,this,aha (by simp)]
  have hfill:=aoC l w hw hl
  rw[←hm] at hfill
  cases hq:w++l.take m with
  |nil=>
   have X3:l=[]:=by
    have h1:=congrArg ajL hq
    simp at h1
    rcases h1 with⟨rfl,h1⟩
    simp at hm
    rcases h1 with h1|h1
    ·have:l.length=0:=by omega
     exact List.eq_nil_of_length_eq_zero this
    ·exact h1
   have Q2:w=[]:=(List.append_eq_nil_iff.1 hq).1
   subst X3;subst Q2
   refine⟨c, ?_,hj⟩
   refine Fz (X:=some c) ?_
   simp only[kH,hfill,bp,hsub,pV,hq]
   simp[Sh.Xh,nU,hb,qU,Sh.either]
  |cons p r=>
   have hall:w++l=p::(r++l.drop m):=by
    rw[←List.cons_append,←hq,aj9,aeW]
   rw[hall] at hj
   obtain⟨h4,h5,s',h6,h7⟩:=hJ _ _ _ hj
   have hlen:=congrArg ajL hq
   simp only[amB,aqi,acN] at hlen
   have hstep:(fun(p:bY×(List az)×(Int×List az))=>kH p.1 p.2.1 p.2.2) (c,l,(256,w))=some (.inl (⟨s',[]⟩,l.drop m,(256,r))):=by
    simp only[kH,hfill,bp,hsub,pV,hq,Sh.Xh,apS,dw,aR,uT,h4,h5,b7,hb,bt,aY,h6,qT,abo]
   obtain⟨c',h8,h9⟩:=aka J hJ n (l.drop m) r ⟨s',[]⟩ (by omega) (by simp;omega) (by simp;omega) rfl h7
   exact⟨c',by rw[Jp hstep,h8],h9⟩
theorem aix(J:List az→aK→Prop)(hJ:∀p r s,J (p::r) s→p.wB≠4∧p.wB≠5∧∃s',Bh s p.wB p.Fuel=some s'∧J r s'){picks:List UInt8}{l:List az}(hg:rK picks=some (l,0))(hl:l.length≤10000){c:bY}(hb:c.bytes=[])(hj:J l c.s):∃c',rZ picks c=some c'∧J [] c'.s:=by
 unfold rZ
 rw[hg,bp,show Ck 256=some (.inr (256,[])) from rfl]
 simp only[Sh.either,show decide ((0:Int)≠0)=false from rfl,dw,aR,bp]
 exact aka J hJ Sh.s5 l [] c (by simp) hl (by have:(10000:Nat)<Sh.s5:=(by decide);simp;omega) hb hj
structure P5 (n:Nat) (o:List Int):Prop where
 len:o.length=n
 node:∀a∈o,0≤a∧a<(n:Int)
 nodup:o.Nodup
theorem Tu:∀{n:Nat} {o:List Int},(∀a∈o,0≤a∧a<(n:Int))→o.Nodup→o.length≤n
 |0,o,h,_=>by
  cases o with
  |nil=>simp
  |cons a o=>grind [List.mem_cons_self]
 |n+1,o,h,hd=>by
  by_cases hn:(n:Int)∈o
  ·have h1:=Tu (n:=n) (o:=o.erase (n:Int)) (fun a ha=>by
    grind) (hd.erase _)
   grind
  ·have h1:=Tu (n:=n) (o:=o) (fun a ha=>by
    grind) hd
   omega
theorem P5.all{n:Nat}{o:List Int}(p:P5 n o){k:Nat}(hk:k<n):(k:Int)∈o:=by
 apply Classical.byContradiction;intro hn;have h1:=Tu (n:=n) (o:=(k:Int)::o) (fun a ha=>by
  rcases List.mem_cons.1 ha with e|e
  ·omega
  ·exact p.node a e) (List.nodup_cons.2 ⟨hn,p.nodup⟩)
 simp only[acN,p.len] at h1;omega
def okO(n:Nat)(o:List Int):Bool:=decide (o.length=n∧(∀a∈o,0≤a∧a<(n:Int))∧o.Nodup)
theorem VH{n:Nat}{o:List Int}:okO n o=true↔P5 n o:=by
 unfold okO;rw[dI];exact⟨fun⟨a,b,c⟩=>⟨a,b,c⟩,fun p=>⟨p.len,p.node,p.nodup⟩⟩
def atO(o:List Int)(t:Int):Nat:=o.findIdx fun x=>decide (x=t)
theorem Ys{o:List Int}{t:Int}(h:t∈o):atO o t<o.length:=List.findIdx_lt_length_of_exists ⟨t,h,by simp⟩
theorem acd{o:List Int}{t:Int}(h:t∈o):o[atO o t]'(Ys h)=t:=by
 have:=List.findIdx_getElem (xs:=o) (p:=fun x=>decide (x=t)) (w:=Ys h);exact of_decide_eq_true this
def Hi{α:Type}(N:Nat)(F:Nat→α):List α:=(aeD N).map F
section
variable {α:Type} {N:Nat}
@[simp] theorem aqa(F:Nat→α):(Hi N F).length=N:=by simp[Hi]
end

theorem acV{h:af}{t:Nat}(ht:t<h.aL.length):aaV h.aL (t:Int)=some (tx h t):=z_ (jH.2 ⟨by omega,by omega⟩)
theorem aiY{h:af}{t:Nat}(ht:t<h.aL.length):tx h t∈h.aL:=yE (jH.2 ⟨by omega,by omega⟩)
def anF(h:af)(o:List Int)(key:Int):Int:=(o.reverse.find? fun t=>ku (tx h t) key).getD (-1)
def aoy(h:af)(o:List Int)(t:Int):List aO:=(tx h t).Reads.map fun r=>⟨r.Key,anF h (o.take (atO o t)) r.Key⟩

def sOK(h:af)(a b:Int):Prop:=¬(b<a∧(tx h a).aI=(tx h b).aI)
instance (h:af) (a b:Int):Decidable (sOK h a b):=by unfold sOK;infer_instance
def atx(h:af)(o:List Int):af:=⟨Hi h.aL.length fun t:Nat=>⟨(tx h t).aI,(tx h t).bA,aoy h o t⟩⟩
def wrN(h:af)(key:Int)(n:Nat):List Int:=((aeD n).filter fun(t:Nat)=>ku (tx h t) key).map fun(t:Nat)=>(t:Int)
def Si(h:af)(key:Int):List Int:=wrN h key h.aL.length
theorem abA(h:af)(key:Int)(n:Nat):wrN h key (n+1)=if ku (tx h n) key then wrN h key n++[(n:Int)] else wrN h key n:=by
 grind [wrN,aoP]
theorem V7(h:af)(key:Int)(n:Nat):(wrN h key n).length≤n:=by
 grind [wrN]
theorem adk{h:af}{key t:Int}:t∈Si h key↔(0≤t∧t<h.aL.length)∧ku (tx h t) key=true:=by
 unfold Si wrN;simp only[aoI,List.mem_filter,List.mem_range];constructor
 ·grind
 ·rintro⟨⟨h1,h2⟩,h3⟩
  refine⟨t.toNat,⟨by omega, ?_⟩,by omega⟩;grind
theorem Ux(h:af)(key:Int):(Si h key).Pairwise (· < ·):=by
 grind [Si,wrN,List.pairwise_lt_range]
theorem XO(h:af)(key:Int):(Si h key).Nodup:=(Ux h key).imp fun h=>by omega
theorem TH{h:af}(hf:Fits h)(hn:h.aL.length≤1000000)(key:Int):Du h key=some (Si h key):=by
 refine cB (fun k=>wrN h key k) h.aL.length _ (aP (by omega)) (fun k hk=> ?_) ?_ (by simp[wrN])
 ·have hx:aaV h.aL (k:Int)=some (tx h k):=acV hk
  have hw:=hf.writes _ (aiY hk);have hl:=V7 h key k;simp only[BP,kD,dec_lt,hk,bt,aY,hx,bp,LY (show(tx h k).bA.length<9223372036854775808 by omega)];rw[show(tx h k).bA.any (fun x=>decide (key=x))=ku (tx h k) key from rfl,abA,cA (by grind)];grind [BQ,abo,aH]
 grind [BP,Gr,Si]

theorem att{c:List Int}(hc:c.length≤1000000):cQ c=some (Sh.tv c):=by
 unfold cQ dQ cT;have:ef [] c=some c:=by
  refine cB (fun k=>c.take k) c.length _ (aP (by omega)) (fun k hk=> ?_) ?_ (by simp)
  ·simp only[dA,k7,kD,dec_lt,hk,bt,aY,aU hk,bp]
   grind [cA,aH,abo,aoR]
  grind [dA]
 have h2:Sh.sort c=some (Sh.tv c):=by unfold Sh.sort;grind
 grind
theorem sorted_perm{o:List Int}:(∀k,k<o.length→(Sh.tv o).getD k 0=(k:Int))↔okO o.length o=true:=by
 rw[VH]
 have hp:=Sh.CZ o
 have hl:=hp.length_eq
 constructor
 ·intro h
  have hr:Sh.tv o=(aeD o.length).map fun(k:Nat)=>(k:Int):=by
   apply List.ext_getElem
   ·simp[hl]
   grind
  rw[hr] at hp
  refine⟨rfl,fun a ha=> ?_, ?_⟩
  ·grind
  ·exact hp.nodup_iff.1 (List.Pairwise.map _ (fun a b h=>by omega) aqn)
 ·intro p k hk
  have hr:Sh.tv o=(aeD o.length).map fun(k:Nat)=>(k:Int):=by
   refine Sh.G7 ?_ (Sh.C6 o) (List.Pairwise.map _ (fun a b h=>by omega) List.pairwise_le_range)
   refine hp.trans ?_
   rw[List.perm_ext_iff_of_nodup p.nodup (List.Pairwise.map _ (fun a b h=>by omega) aqn)]
   intro a
   constructor
   ·intro ha
    have:=p.node a ha
    exact List.mem_map.2 ⟨a.toNat,List.mem_range.2 (by omega),by omega⟩
   ·intro ha
    obtain⟨k,hk,rfl⟩:=List.mem_map.1 ha
    exact p.all (List.mem_range.1 hk)
  grind

theorem LD:∀(o:List Int) (x:Int) (i:Nat),x∈o→Lib.idxFrom o x i=((i+atO o x:Nat):Int)
 |[],x,i,h=>by cases h
 |y::o,x,i,h=>by
  unfold Lib.idxFrom atO
  rw[List.findIdx_cons]
  by_cases hy:y=x
  ·simp[hy]
  ·have hm:x∈o:=by
    grind
   simp only[hy,aR,b7,cond_false]
   rw[LD o x (i+1) hm]
   unfold atO
   omega
theorem anz{o:List Int}{x:Int}(h:x∈o):Sh.ix o x=(atO o x:Int):=by
 grind [Sh.ix,Lib.idxOf,LD]
def rowAt(h:af)(o:List Int)(k:Nat):Option c_:=if Si h k=[] then none else some ⟨k,Sh.GD o (Si h k)⟩
def aoY(h:af)(o:List Int):List c_:=(aeD 16).filterMap (rowAt h o)
theorem abB{h:af}{o:List Int}(p:P5 h.aL.length o){key t:Int}(ht:t∈Si h key):t∈o:=by
 have:=(adk.1 ht).1;have:=p.all (k:=t.toNat) (by omega);grind
theorem ace{o:List Int}{a b:Int}(ha:a∈o)(hb:b∈o)(e:atO o a=atO o b):a=b:=by
 grind [acd]
theorem ZA{h:af}{o:List Int}(p:P5 h.aL.length o)(key:Int):((Si h key).map (Sh.ix o)).Nodup:=by
 grind [List.Pairwise.imp_of_mem,XO,anz,abB,ace]
theorem aot{h:af}(hf:Fits h)(hn:h.aL.length≤1000000){o:List Int}(ho:o.length≤1000000):IG h o=some (if right h&&okO h.aL.length o then aoY h o else []):=by
 unfold IG;rw[att ho,uq hf];unfold mF;simp only[bp];have j1t:∀r,Ds h o r true=some []:=fun _=>rfl;cases hr:right h with
 |false=>simp[j1t]
 |true=>
  simp only[apS,dw,aR,aqb,kD];by_cases hl:o.length=h.aL.length
  ·have hd:decide ((o.length:Int)≠(h.aL.length:Int))=false:=by simp[hl]
   rw[hd];unfold Ds;simp only[dw,aR];have hsl:(Sh.tv o).length=o.length:=(Sh.CZ o).length_eq;have hsc:abt (fun(p:Int)=>wZ h o (Sh.tv o) p) 0=if ∀k,k<o.length→(Sh.tv o).getD k 0=(k:Int) then Mm h o else some []:=by
    by_cases hall:∀k,k<o.length→(Sh.tv o).getD k 0=(k:Int)
    ·refine h_ (fun k=>((k:Nat):Int)) o.length _ (aP (by omega)) (fun k hk=> ?_) ?_ rfl
     ·have Lz:k<(Sh.tv o).length:=by omega
      have h2:(Sh.tv o)[k]=(k:Int):=by grind
      simp only[wZ,kD,hsl,dec_lt,hk,bt,aY,aU Lz,bp,h2,ne_eq,not_true,b7,dw,aR,aH (k:=k) (by omega),abo]
     grind [wZ]
    ·rw[if_neg hall]
     have hex:∃k,k<o.length∧(Sh.tv o).getD k 0≠(k:Int):=by
      grind
     obtain⟨k,⟨hk,hne⟩,hmin⟩:=exists_least _ hex;refine h_ (fun k=>((k:Nat):Int)) k _ (aP (by omega)) (fun q hq=> ?_) ?_ rfl
     ·have hq2:q<(Sh.tv o).length:=by omega
      have h2:(Sh.tv o)[q]=(q:Int):=by
       grind
      have hq3:q<o.length:=by omega
      simp only[wZ,kD,hsl,dec_lt,hq3,bt,aY,aU hq2,bp,h2,ne_eq,not_true,b7,dw,aR,aH (k:=q) (by omega),abo]
     ·have Lz:k<(Sh.tv o).length:=by omega
      have h2:¬(k:Int)=(Sh.tv o)[k]:=fun hc=>hne (by grind);simp_all [wZ,aU]
   rw[hsc];by_cases hok:okO h.aL.length o=true
   ·rw[if_pos (by grind [sorted_perm]),hok,if_pos rfl]
    have p:=VH.1 hok;refine cB (fun k=>(aeD k).filterMap (rowAt h o)) 16 _ (aP (by omega)) (fun k hk=> ?_) ?_ (by simp)
    ·have hlt:decide ((k:Int)<16)=true:=eD (by omega)
     have hwl:=V7 h k h.aL.length;simp only[Ml,hlt,aY,TH hf hn,bp,kD];rw[aoP,List.filterMap_append];by_cases hw:Si h k=[]
     ·have:rowAt h o k=none:=by simp_all [rowAt]
      grind [Dt,abo,aH]
     ·have hra:rowAt h o k=some ⟨k,Sh.GD o (Si h k)⟩:=by simp_all [rowAt]
      have hz:decide (((Si h k).length:Int)=0)=false:=by
       grind
      have hone:o≠[]:=by
       obtain⟨t,ht⟩:=List.exists_mem_of_ne_nil _ hw;exact List.ne_nil_of_mem (abB p ht)
      have hs:Sh.Dv o (Si h k)=some (Sh.GD o (Si h k)):=by
       unfold Sh.Dv;rw[if_pos ⟨by unfold Si;omega,hone,by omega,ZA p k⟩]
      grind [cA,Dt,abo,aH]
    rfl
   ·have hok':okO h.aL.length o=false:=by grind
    rw[if_neg (by grind [sorted_perm]),hok'];rfl
  grind [decide,okO]
set_option maxRecDepth 100000 in
theorem Yt:sC=some true:=by kernel_rfl
theorem adw{h:af}(hr:right h=true):xV h=some h:=by
 have hn:=eP hr
 unfold xV
 refine cB (fun k=>h.aL.take k) h.aL.length _ (aP (by omega)) (fun k hk=> ?_) ?_ (by simp)
 ·have h1:=(Dq hr (acI hk)).2
  obtain⟨_,_,h2⟩:=Bi hr (acI hk)
  have e1:bO h.aL[k].bA=some h.aL[k].bA:=by unfold bO;rw[cA (by simp;omega)];rfl
  have e2:dc h.aL[k].Reads=some h.aL[k].Reads:=by unfold dc;rw[cA (by simp;omega)];rfl
  simp only[Ao,dec_lt,hk,bt,aY,aU hk,bp,e1,e2]
  rw[cA (by simp;omega)]
  simp only[bp,aH (k:=k) (by omega),abo]
  rw[aoR,ab9 hk,apj]
 ·simp[Ao,EY]
theorem pu0:P6 0 (aW.mk 2147483647 (bu.mk 2147483647 2147483647 2147483647 2147483647) (bu.mk 0 0 0 0)):=⟨rfl,by simp[A4.In],by simp[A4.In]⟩
theorem aom:FG 2147483647 (bu.mk 2147483647 2147483647 2147483647 2147483647)=some (aW.mk 2147483647 (bu.mk 2147483647 2147483647 2147483647 2147483647) (bu.mk 0 0 0 0),0):=by
 unfold FG
 rw[FE (by omega) pu0];rfl
theorem akX{k:Nat}:cost k []=S k:=by simp[cost,pre]
theorem aon{h:af}(hf:Fits h)(hr:right h=true){lev:Int}(hl:lev=0∨lev=1):∃s,Iy h lev (aW.mk 2147483647 (bu.mk 2147483647 2147483647 2147483647 2147483647) (bu.mk 0 0 0 0))=some (s,0)∧RS h lev 0 s∧s.dR=0∧s.Path=[]:=by
 have hj:∃s,uN h lev (aW.mk 2147483647 (bu.mk 2147483647 2147483647 2147483647 2147483647) (bu.mk 0 0 0 0)) false=some (s,0)∧RS h lev 0 s∧s.dR=0∧s.Path=[]:=by
  unfold uN
  simp only[dw,aR,adw hr,bp,JL]
  refine⟨_,rfl,⟨rfl,rfl,⟨?_,by simp⟩,⟨trivial,by simp⟩,rfl,⟨by simp,by simp,by simp⟩,pu0,rfl⟩,rfl,rfl⟩
  unfold replay may
  rw[hr]
  rcases hl with rfl|rfl <;> simp
 unfold Iy
 rw[uq hf,bp,hr]
 simp only[apS,dw,aR]
 rcases hl with rfl|rfl
 ·rw[show decide ((0:Int)≠0)=false from rfl]
  simp only[dw,aR]
  rw[FE (by omega) pu0,bp];exact hj
 ·rw[show decide ((1:Int)≠0)=true from rfl,show decide ((1:Int)≠1)=false from rfl]
  simp only[dw,aR,aY]
  rw[FE (by omega) pu0,bp];exact hj
theorem atu{h:af}(hf:Fits h)(hr:right h=true)(lev:Int){o:List Int}(ho:o.length≤1000):∃c,Eb h lev o=some c:=by
 have hn:=eP hr
 unfold Eb
 split
 ·have e:bO o=some o:=by unfold bO;rw[cA (by simp;omega)];rfl
  rw[e];exact⟨_,rfl⟩
 ·rw[aot hf (by omega) (by omega)];exact⟨_,rfl⟩
theorem pNo(lev:Int){t:List ai}(ht:Sl t):∃c,HK lev t=some c:=by
 unfold HK
 have h1:=ht.1
 refine⟨eT.mk lev false [] [] t,cB (fun k=>t.take k) t.length _ (aP (by omega)) (fun k hk=> ?_) ?_ (by simp)⟩
 ·have hc:=ht.2 _ (acI hk)
  have e1:bO t[k].eH=some t[k].eH:=by unfold bO;rw[cA (by simp;omega)];rfl
  simp only[GK,dec_lt,hk,bt,aY,aU hk,bp,e1]
  rw[cA (by simp;omega)]
  simp only[bp,aH (k:=k) (by omega),abo]
  rw[aoR,ab9 hk,apj]
 ·simp[GK,Lb]
theorem adA{h:af}(hf:Fits h)(hr:right h=true){lev:Int}{n:Nat}(hn:n≤1000000000){s:aK}(hs:RE h lev n s):∃r,y6 s=some r∧r.gL=s.gL∧r.dR=s.dR:=by
 unfold y6
 obtain⟨u,hu⟩:=aoA hn hs.J4
 rw[hu,bp]
 rcases hs.said with h1|h1
 ·rw[eD h1]
  obtain⟨c,hc⟩:=atu hf hr s.Level hs.order
  simp only[aY,hs.FW,hc,bp]
  exact⟨_,rfl,rfl,rfl⟩
 ·rw[dg (by rw[h1];decide),eD h1]
  obtain⟨c,hc⟩:=pNo s.Level hs.tree
  simp only[aY,dw,aR,hc,bp]
  exact⟨_,rfl,rfl,rfl⟩
def J(h:af)(lev:Int)(l:List az)(W:Nat)(rest:List az)(s:aK):Prop:=
 (∀p∈rest,0≤p.wB∧p.wB<4∧1≤p.Fuel∧p.Fuel≤255)∧
 ((∃n,n≤1000000∧RE h lev n s∧s.dR≤W)∨
  ∃i n,rest=l.drop i∧i≤l.length∧n≤255*i∧RS h lev n s∧s.dR=(i:Int)∧cost (bB h).length s.Path+c3 (l.take i)≤S (bB h).length)
theorem ao7{h:af}(hf:Fits h)(hk:(bB h).length≤3){lev:Int}{l:List az}(hl:l.length≤2000){w:Nat}(hw:∀i,i≤l.length→i<(c3 (l.take i)+1)*w)(p:az)(r:List az)(s:aK)(hj:J h lev l (w*S (bB h).length) (p::r) s):
  p.wB≠4∧p.wB≠5∧∃s',Bh s p.wB p.Fuel=some s'∧J h lev l (w*S (bB h).length) r s':=by
 obtain⟨hp,hj⟩:=hj
 obtain⟨p1,p2,p3,p4⟩:=hp p (by simp)
 have hrest:∀p∈r,0≤p.wB∧p.wB<4∧1≤p.Fuel∧p.Fuel≤255:=fun q hq=>hp q (by simp[hq])
 refine⟨by omega,by omega, ?_⟩
 rcases hj with⟨n,hn,h1,h2⟩|⟨i,n,h1,h2,h3,h4,h5,h6⟩
 ·refine⟨s, ?_,hrest,.inl ⟨n,hn,h1,h2⟩⟩
  unfold Bh
  rw[eD (show s.gL≠0 by rcases h1.said with h|h <;> rw[h] <;> decide)]
  rfl
 ·have hil:i<l.length:=by
   rcases aft i l.length with h|h
   ·exact h
   ·rw[List.drop_of_length_le h] at h1;cases h1
  have hd:=List.drop_eq_getElem_cons hil
  rw[hd] at h1
  obtain⟨rfl,rfl⟩:=List.cons.inj h1
  have hcs:=UD ((bB h).length - s.Path.length)
  have hcost:1≤cost (bB h).length s.Path:=by unfold cost;omega
  have hi:=hw i h2
  have hS:=afN w (show c3 (l.take i)+1≤S (bB h).length by omega)
  rw[aqs (S _) w] at hS
  have e1:(l[i].wB.toNat:Int)=l[i].wB:=by omega
  have e2:(l[i].Fuel.toNat:Int)=l[i].Fuel:=by omega
  obtain⟨s',m,g1,g2,g3,g4⟩:=rGo hf hk (n:=n) (by omega) h4 ⟨by omega,by omega⟩ (who:=l[i].wB.toNat) (fuel:=l[i].Fuel.toNat) (by omega) ⟨by omega,by omega⟩
  rw[e1,e2] at g1
  refine⟨s',g1,hrest, ?_⟩
  rcases g4 with g4|⟨g4,g5,g6⟩
  ·exact .inl ⟨m,by omega,g4,by rw[g2,h5];omega⟩
  ·refine .inr ⟨i+1,m,rfl,hil,by omega,g4,by rw[g2,h5];rfl, ?_⟩
   rw[UT hil]
   by_cases e:l[i].wB=3
   ·rw[if_pos e]
    have:=g6 (by omega)
    omega
   ·rw[if_neg e];omega
theorem atr{h:af}(hf:Fits h)(hr:right h=true)(hk:(bB h).length≤3){lev:Int}(hl:lev=0∨lev=1){text picks:List UInt8}{a:Int}(hp:uj text=some (h,a,0)){l:List az}(hg:rK picks=some (l,0))(hll:l.length≤2000)(hok:∀p∈l,0≤p.wB∧p.wB<4∧1≤p.Fuel∧p.Fuel≤255){w:Nat}(hw:∀i,i≤l.length→i<(c3 (l.take i)+1)*w)(hlong:w*S (bB h).length≤l.length):
  ∃r,zq text lev (bC.mk 2147483647 (bu.mk 2147483647 2147483647 2147483647 2147483647)) picks=some r∧(r.gL=1∨r.gL=2)∧r.dR≤((w*S (bB h).length:Nat):Int):=by
 obtain⟨s,h1,h2,h3,h4⟩:=aon hf hr hl
 unfold zq
 have hb:AX text lev (bC.mk 2147483647 (bu.mk 2147483647 2147483647 2147483647 2147483647))=some ⟨s,[]⟩:=by
  unfold AX
  rw[hp,bp]
  simp only[show decide ((0:Int)≠0)=false from rfl,dw,aR,aom,bp,h1]
  rfl
 rw[hb,bp]
 obtain⟨c,h5,h6⟩:=aix (J h lev l (w*S (bB h).length)) (ao7 hf hk hll hw) hg (by omega) (c:=⟨s,[]⟩) rfl ⟨hok,.inr ⟨0,0,rfl,by omega,by omega,h2,h3,by rw[h4,akX];simp[c3]⟩⟩
 rw[h5,bp]
 rcases h6.2 with⟨n,hn,g1,g2⟩|⟨i,n,g1,g2,g3,g4,g5,g6⟩
 ·obtain⟨r,g3,g4,g5⟩:=adA hf hr (by omega) g1
  rw[g3,bp]
  exact⟨r,rfl,by rw[g4];exact g1.said,by rw[g5];exact g2⟩
 ·exfalso
  have hil:l.length≤i:=by
   have:=congrArg ajL g1
   simp at this;omega
  have hi:=hw i g2
  have hcs:=UD ((bB h).length - c.s.Path.length)
  have hcost:1≤cost (bB h).length c.s.Path:=by unfold cost;omega
  have hS:=afN w (show c3 (l.take i)+1≤S (bB h).length by omega)
  rw[aqs (S _) w] at hS
  omega
def pw2(k:Nat):Int:=match k with|0=>2|1=>4|2=>8|_=>16
theorem agx(a:bf)(w:Int)(hP:∃r,uj a.Text=some r∧(r.2.2=0→right r.1=true∧Fits r.1))(hS:∀b,∃r,oA ⟨a.Text,a.Level,b,a.dR⟩ 400=some r):lP a w=some true:=by
 unfold lP
 rw[Yt,bp]
 simp only[apS,dw,aR,pT,bp]
 obtain⟨few,hfew⟩:=hS (bC.mk 2147483647 (bu.mk 2147483647 2147483647 2147483647 2147483647))
 rw[hfew,bp]
 obtain⟨⟨l,e⟩,hg,hg2⟩:=ao0 a.dR
 rw[hg,bp]
 obtain⟨⟨h,at',f⟩,hp,hp2⟩:=hP
 rw[hp,bp]
 have jt:c5 a w (bC.mk 2147483647 (bu.mk 2147483647 2147483647 2147483647 2147483647)) (l,e) (h,at',f) true=some true:=rfl
 have key:∀v,e=0→f=0→(a.Level=0∨a.Level=1)→1≤w→(v=false→w≤100)→c5 a w (bC.mk 2147483647 (bu.mk 2147483647 2147483647 2147483647 2147483647)) (l,e) (h,at',f) v=some true:=by
  intro v he Ve hlev Vi Vj
  cases v with
  |true=>rfl
  |false=>
   obtain⟨hr,hf⟩:=hp2 Ve
   obtain⟨hl,hok⟩:=hg2 he
   simp only at hl hok hr hf
   have aw7:=Vj rfl
   obtain⟨n,rfl⟩:∃n:Nat,w=(n:Int):=⟨w.toNat,by omega⟩
   unfold c5
   simp only[dw,aR]
   rw[Xi hf (by have:=eP hr;omega),bp]
   by_cases hk:(3:Int)<arA (bB h)
   ·rw[eD hk];rfl
   ·rw[dg hk]
    simp only[dw,aR]
    have hk3:(bB h).length≤3:=by simp only[arA] at hk;omega
    refine h_ (fun i=>(pw2 i,(i:Int))) (bB h).length _ (aP (by omega)) (fun i hi=> ?_) ?_ rfl
    ·have hi3:i<3:=by omega
     simp only[qp,dec_lt,hi,bt,aY,aH (k:=i) (by omega),abo]
     match i,hi3 with
     |0,_=>rfl
     |1,_=>rfl
     |2,_=>rfl
    ·simp only[qp,dec_lt,afr,b7,dw,aR]
     congr 1
     have hS:pw2 (bB h).length - 1=(S (bB h).length:Int)∧S (bB h).length≤15:=by
      generalize (bB h).length=k at hk3
      match k,hk3 with
      |0,_=>exact⟨rfl,by decide⟩
      |1,_=>exact⟨rfl,by decide⟩
      |2,_=>exact⟨rfl,by decide⟩
      |3,_=>exact⟨rfl,by decide⟩
     have hmul:n*S (bB h).length≤100*15:=Nat.mul_le_mul (by omega) hS.2
     have hww:bM ((n:Int)*bM (pw2 (bB h).length - 1))=((n*S (bB h).length:Nat):Int):=by
      rw[hS.1,dM (n:=(S (bB h).length:Int)) (by omega) (by omega),←Int.natCast_mul,dM (by omega) (by omega)]
     unfold wu
     have:=jJ (b:=fun(p:Int)=>jv (n:Int) (l,e) (pw2 (bB h).length) (bf.mk a.Text a.Level (bC.mk 2147483647 (bu.mk 2147483647 2147483647 2147483647 2147483647)) a.dR) p) (fun k i=>i=(k:Int)∧∀p∈l.take k,p.wB<4) (fun r=>r=true) l.length (aP (by omega)) (fun k i hkk hi=> ?_) (s:=0) ⟨rfl,by simp⟩
     ·obtain⟨r,h1,rfl⟩:=this
      exact h1
     ·obtain⟨rfl,hall⟩:=hi
      by_cases hkl:k<l.length
      ·rw[show jv (n:Int) (l,e) (pw2 (bB h).length) (bf.mk a.Text a.Level (bC.mk 2147483647 (bu.mk 2147483647 2147483647 2147483647 2147483647)) a.dR) (k:Int)=(if decide ((4:Int)≤l[k].wB) then aaN (some true) else abo (bM ((k:Int)+1))) by
        simp only[jv,dec_lt,hkl,bt,aY,aU hkl,bp]]
       by_cases h4:(4:Int)≤l[k].wB
       ·rw[eD h4]
        exact .inr ⟨true,rfl,rfl⟩
       ·rw[dg h4]
        refine .inl ⟨_,rfl,⟨aH (by omega),fun p hpp=> ?_⟩,hkl⟩
        rw[aoR,ab9 hkl,apj] at hpp
        rcases List.mem_append.1 hpp with h|h
        ·exact hall p h
        ·rw[List.mem_singleton.1 h];omega
      ·obtain rfl:k=l.length:=by omega
       rw[aoZ] at hall
       have hok':∀p∈l,0≤p.wB∧p.wB<4∧1≤p.Fuel∧p.Fuel≤255:=fun p hpp=>by
        have h1:=hall p hpp
        rcases hok p hpp with(h2|h2)|h2
        ·omega
        ·omega
        ·exact h2
       right
       refine⟨true, ?_,rfl⟩
       simp only[jv,dec_lt,afr,b7,dw,aR]
       rw[show(some (Sum.inr true):Option (Int⊕Bool))=aaN (some true) from rfl]
       congr 1
       unfold wv
       obtain⟨b,Tk,QY⟩:=aiz (l:=l) (by omega) (w:=n) ⟨by omega,by omega⟩
       rw[Tk,bp]
       cases b with
       |false=>rfl
       |true=>
        simp only[apS,dw,aR]
        rw[hww]
        unfold qq
        by_cases hlong:arA l<((n*S (bB h).length:Nat):Int)
        ·rw[eD hlong];rfl
        ·rw[dg hlong]
         simp only[dw,aR,Ae]
         subst he;subst Ve
         obtain⟨r,g1,g2,g3⟩:=atr hf hr hk3 hlev hp hg (by omega) hok' (QY rfl) (by simp only[arA] at hlong;omega)
         rw[g1,bp,bp,hww,eD g3]
         rcases g2 with g2|g2
         ·rw[g2];rfl
         ·rw[g2];rfl
 cases few with
 |false=>exact jt
 |true=>
  simp only[apS,dw,aR]
  by_cases he:e=0
  ·rw[dg (by simpa using he)]
   simp only[dw,aR]
   by_cases Ve:f=0
   ·rw[dg (by simpa using Ve)]
    simp only[dw,aR]
    by_cases h0:a.Level=0
    ·rw[dg (by simpa using h0)]
     simp only[dw,aR]
     by_cases Vi:w<1
     ·rw[eD Vi];exact jt
     ·rw[dg Vi]
      exact key _ he Ve (.inl h0) (by omega) (fun h=>by have:=of_decide_eq_false h;omega)
    ·rw[eD (by simpa using h0)]
     simp only[aY]
     by_cases h1:a.Level=1
     ·rw[dg (by simpa using h1)]
      simp only[dw,aR]
      by_cases Vi:w<1
      ·rw[eD Vi];exact jt
      ·rw[dg Vi]
       exact key _ he Ve (.inr h1) (by omega) (fun h=>by have:=of_decide_eq_false h;omega)
     ·rw[eD (by simpa using h1)];exact jt
   ·rw[eD (by simpa using Ve)];exact jt
  ·rw[eD (by simpa using he)];exact jt
def XY(e:an):Bool:=decide (0≤e.Kind)&&decide (e.Kind<5)&&decide (0≤e.aI)&&decide (e.aI<8)&&(if e.Kind=1∨e.Kind=2 then decide (0≤e.Key)&&decide (e.Key<16)&&decide (0≤e.Value)&&decide (e.Value<2147483648) else decide (e.Key=0)&&decide (e.Value=0))
theorem TC(n m:Int):qY n m=some (decide (0≤n)&&decide (n<m)):=by
 unfold qY;by_cases h:(0:Int)≤n <;> simp[h]
theorem aok(k:Int):ug k=some (decide (k=1)||decide (k=2)):=by
 unfold ug;by_cases h:k=1 <;> simp[h]
theorem OF(e:an):qX e=some (XY e):=by
 unfold qX
 rw[TC,bp]
 unfold XY
 cases h1:decide (0≤e.Kind)&&decide (e.Kind<5) with
 |false=>rfl
 |true=>
  simp only[apS,dw,aR,TC,bp,aqb]
  unfold zS
  cases h2:decide (0≤e.aI)&&decide (e.aI<8) with
  |false=>rfl
  |true=>
   simp only[apS,dw,aR,aok,TC,bp,aqb]
   by_cases h3:e.Kind=1∨e.Kind=2
   ·rw[if_pos h3,show(decide (e.Kind=1)||decide (e.Kind=2))=true by rcases h3 with h|h <;> simp[h]]
    simp only[apS,dw,aR]
    cases decide (0≤e.Key)&&decide (e.Key<16) <;> simp
   ·rw[if_neg h3,show(decide (e.Kind=1)||decide (e.Kind=2))=false by simp;omega]
    simp only[aqv,aY]
    by_cases h4:e.Key=0 <;> simp[h4]
theorem Vz{κ β:Type} [DecidableEq κ] {k:κ}{b:β}:∀{L:List (κ×β)} {e:κ×β},e∈Sh.nC k b L→e.2=b∨e∈L
 |[],e,h=>by simp only[Sh.nC,aeq] at h;exact .inl (by rw[h])
 |x::L,e,h=>by
  simp only[Sh.nC] at h
  split at h
  ·rcases List.mem_cons.1 h with rfl|h
   ·exact .inl rfl
   ·exact .inr (by simp[h])
  ·rcases List.mem_cons.1 h with rfl|h
   ·exact .inr (by simp)
   ·exact(Vz h).imp id (fun h=>by simp[h])
theorem Vx{κ β:Type} [DecidableEq κ] {k:κ}:∀{L:List (κ×β)} {e:κ×β},e∈Sh.Il k L→e∈L
 |[],e,h=>h
 |x::L,e,h=>by
  simp only[Sh.Il] at h
  split at h
  ·simp[h]
  ·rcases List.mem_cons.1 h with rfl|h
   ·simp
   ·simp[Vx h]
theorem QK{κ β:Type} [DecidableEq κ] {k:κ}:∀{L:List (κ×β)} {v:β},Sh.cD k L=some v→(k,v)∈L
 |[],v,h=>by cases h
 |x::L,v,h=>by
  simp only[Sh.cD] at h
  split at h
  ·rename_i e;cases h;rw[e];simp
  ·simp[QK h]
structure GOk (k:Nat) (out:List aM) (op:List (Int×Int)):Prop where
 len:out.length≤32
 ops:∀t∈out,t.eo.length≤k
 at':∀e∈op,0≤e.2∧e.2<(out.length:Int)
theorem acE{l:List an}(hl:l.length≤1000):∃r,oN l=some r∧(r.2.2=0→r.1.length≤32∧∀t∈r.1,t.eo.length≤1000):=by
 unfold oN
 refine jJ (fun k (x:(List aM)×(List (Int×Int))×Int)=>x.2.2=(k:Int)∧GOk k x.1 x.2.1) _ l.length (aP (by omega)) (fun k x hk hx=> ?_) ⟨rfl,by simp,by simp,by simp⟩
 obtain⟨out,op,v⟩:=x
 obtain⟨rfl,h1,h2,h3⟩:=hx
 simp only at h1 h2 h3
 by_cases hkl:k<l.length
 ·have e0:ou l out op (k:Int)=if !XY l[k] then aaN (some ([],(k:Int),1)) else if decide (l[k].Kind=0) then iU out op (k:Int) l[k] (Sh.cD l[k].aI op).isSome else iU out op (k:Int) l[k] false:=by
   simp only[ou,dec_lt,hkl,bt,aY,aU hkl,bp,OF]
  simp only[e0]
  have err:∀(n:Int),n≠0→(∃s',aaN (σ:=(List aM)×(List (Int×Int))×Int) (some (([]:List aM),(k:Int),n))=some (.inl s')∧(s'.2.2=((k+1:Nat):Int)∧GOk (k+1) s'.1 s'.2.1)∧k<l.length)∨∃a,aaN (σ:=(List aM)×(List (Int×Int))×Int) (some (([]:List aM),(k:Int),n))=some (.inr a)∧(a.2.2=0→a.1.length≤32∧∀t∈a.1,t.eo.length≤1000):=fun n hn=>.inr ⟨_,rfl,fun h=>absurd h hn⟩
  have go:∀(op':List (Int×Int)) (out':List aM),GOk (k+1) out' op'→(∃s',jL (k:Int) op' out'=some (.inl s')∧(s'.2.2=((k+1:Nat):Int)∧GOk (k+1) s'.1 s'.2.1)∧k<l.length)∨∃a,jL (k:Int) op' out'=some (.inr a)∧(a.2.2=0→a.1.length≤32∧∀t∈a.1,t.eo.length≤1000):=fun op' out' h=>.inl ⟨(out',op',((k+1:Nat):Int)),by simp only[jL,abo,aH (k:=k) (by omega)],⟨rfl,h⟩,hkl⟩
  have j4:∀v,(v=false→l[k].Kind=0→out.length<32)→(∃s',lH out op (k:Int) l[k] v=some (.inl s')∧(s'.2.2=((k+1:Nat):Int)∧GOk (k+1) s'.1 s'.2.1)∧k<l.length)∨∃a,lH out op (k:Int) l[k] v=some (.inr a)∧(a.2.2=0→a.1.length≤32∧∀t∈a.1,t.eo.length≤1000):=by
   intro v hv
   unfold lH
   cases v with
   |true=>exact err 4 (by decide)
   |false=>
    simp only[dw,aR]
    by_cases h0:l[k].Kind=0
    ·rw[eD h0]
     simp only[aY]
     have hlt:=hv rfl h0
     rw[cA (by simp;omega),bp]
     refine go _ _ ⟨by simp;omega,fun t ht=> ?_,fun e he=> ?_⟩
     ·rcases List.mem_append.1 ht with h|h
      ·have:=h2 t h;omega
      ·rw[List.mem_singleton.1 h];simp
     ·simp only[amB,acN,acR]
      rcases Vz he with h|h
      ·rw[h];simp only[arA];omega
      ·have:=h3 e h;omega
    ·rw[dg h0]
     simp only[dw,aR]
     cases hf:Sh.cD l[k].aI op with
     |none=>exact err 6 (by decide)
     |some p=>
      have hp:=h3 _ (QK hf)
      simp only at hp
      obtain⟨q,rfl⟩:∃q:Nat,p=(q:Int):=⟨p.toNat,by omega⟩
      have hq:q<out.length:=by omega
      simp only[aqp,apS,dw,aR]
      have j5:∀v,(∃s',lI out op (k:Int) l[k] v=some (.inl s')∧(s'.2.2=((k+1:Nat):Int)∧GOk (k+1) s'.1 s'.2.1)∧k<l.length)∨∃a,lI out op (k:Int) l[k] v=some (.inr a)∧(a.2.2=0→a.1.length≤32∧∀t∈a.1,t.eo.length≤1000):=by
       intro v
       unfold lI
       rw[hf]
       have hset:∀t':aM,t'.eo.length≤k+1→∀op',(∀e∈op',e∈op)→GOk (k+1) (out.set q t') op':=fun t' ht' op' hop=>⟨by simp;exact h1,fun t ht=>by
        rcases aql ht with h|h
        ·have:=h2 t h;omega
        ·rw[h];exact ht',fun e he=>by simp only[List.length_set];exact h3 e (hop e he)⟩
       have hop:=h2 _ (acI hq)
       cases v with
       |true=>
        simp only[aY,api,aU hq,bp,lZ]
        exact go _ _ (hset _ (by simp only;omega) _ (fun e he=>Vx he))
       |false=>
        simp only[dw,aR,api,aU hq,bp,lZ]
        rw[cA (by simp;omega),bp]
        exact go _ _ (hset _ (by simp;exact hop) _ (fun e he=>he))
      split <;> exact j5 _
  have j3:∀v,(∃s',iU out op (k:Int) l[k] v=some (.inl s')∧(s'.2.2=((k+1:Nat):Int)∧GOk (k+1) s'.1 s'.2.1)∧k<l.length)∨∃a,iU out op (k:Int) l[k] v=some (.inr a)∧(a.2.2=0→a.1.length≤32∧∀t∈a.1,t.eo.length≤1000):=by
   intro v
   unfold iU
   cases v with
   |true=>exact err 5 (by decide)
   |false=>
    simp only[dw,aR]
    by_cases h0:l[k].Kind=0
    ·rw[eD h0]
     simp only[aY]
     exact j4 _ (fun h _=>by have:=of_decide_eq_false h;simp only[arA] at this;omega)
    ·rw[dg h0]
     exact j4 false (fun _ h=>absurd h h0)
  cases XY l[k] with
  |false=>exact err 1 (by decide)
  |true=>
   simp only[apS,dw,aR]
   cases decide (l[k].Kind=0) with
   |true=>exact j3 _
   |false=>exact j3 false
 ·obtain rfl:k=l.length:=by omega
  simp only[ou,dec_lt,afr,b7,dw,aR,u_]
  exact .inr ⟨_,rfl,fun _=>⟨h1,fun t ht=>by have:=h2 t ht;omega⟩⟩
def UC(L:List ah):Prop:=L.Pairwise fun a b=>a.Key<b.Key
theorem aoe(x y:Int):G.cmp_Compare_int x y=some (if x<y then -1 else if y<x then 1 else 0):=by
 grind [G.cmp_Compare_int,G.cmp_isNaN_int]
theorem aof{n:Nat}(hn:n≤4000):∃b:BitVec 64,Sh.shr (BitVec.ofInt 64 (n:Int)) ((1#64).toNat:Int)=some b∧(b.toNat:Int)=((n / 2:Nat):Int):=by
 refine⟨_,by rfl, ?_⟩;rw[show((1#64).toNat:Int).toNat=1 from rfl,BitVec.toNat_ushiftRight,Nat.shiftRight_eq_div_pow,BitVec.ofInt_natCast,BitVec.toNat_ofNat,Nat.mod_eq_of_lt (by omega)]
structure At (L:List ah) (key:Int) (p:Nat) (b:Bool):Prop where
 le:p≤L.length
 low:∀i (h:i<L.length),i<p→L[i].Key<key
 high:∀i (h:i<L.length),p≤i→key≤L[i].Key
 is:b=true→∃h:p<L.length,L[p].Key=key
 no:b=false→∀h:p<L.length,L[p].Key≠key
theorem pBS{L:List ah}(hs:UC L)(hl:L.length≤1000)(key:Int):∃(p:Nat) (b:Bool),bL L key=some ((p:Int),b)∧At L key p b:=by
 unfold UC at hs;rw[aoM] at hs;unfold bL;have hc:∀x:ah,vc x key=some (if x.Key<key then -1 else if key<x.Key then 1 else 0):=fun x=>by grind [vc,aoe]
 have:=jJ (b:=fun(p:Int×Int)=>bz L key p.1 p.2) (fun k (x:Int×Int)=>∃i j:Nat,x=((i:Int),(j:Int))∧i≤j∧j≤L.length∧(j - i)+k≤L.length∧(∀q (h:q<L.length),q<i→L[q].Key<key)∧(∀q (h:q<L.length),j≤q→key≤L[q].Key)) (fun r=>∃(p:Nat) (b:Bool),r=((p:Int),b)∧At L key p b) L.length (aP (by omega)) (fun k x hk hx=> ?_) (s:=(0,arA L)) ⟨0,L.length,rfl,by omega,by omega,by omega,fun q _ h=>by omega,fun q h1 h2=>by omega⟩
 ·grind
 ·obtain⟨i,j,rfl,a1,a2,a3,a4,a5⟩:=hx
  by_cases hij:i<j
  ·have e0:bM ((i:Int)+(j:Int))=((i+j:Nat):Int):=by grind [dM]
   obtain⟨b,Tk,QY⟩:=aof (n:=i+j) (by omega);have hm:(i+j) / 2<L.length:=by omega
   have e1:bM (((b).toNat:Nat):Int)=(((i+j) / 2:Nat):Int):=by grind [dM]
   by_cases hlt:L[(i+j) / 2].Key<key
   ·refine .inl ⟨(((((i+j) / 2+1:Nat)):Int),(j:Int)), ?_,⟨(i+j) / 2+1,j,rfl,by omega,a2,by omega,fun q h hq=> ?_,a5⟩,by omega⟩
    ·simp only[bz,dec_lt,hij,bt,aY,e0,Tk,bp,e1,aU hm,hc,hlt,show((-1:Int)<0) by omega,abo,aH (show(i+j) / 2<9223372036854775807 by omega)]
    grind
   ·refine .inl ⟨((i:Int),(((i+j) / 2:Nat):Int)), ?_,⟨i,(i+j) / 2,rfl,by omega,by omega,by omega,a4,fun q h hq=> ?_⟩,by omega⟩
    ·have hnn:¬((if L[(i+j) / 2].Key<key then(-1:Int) else if key<L[(i+j) / 2].Key then 1 else 0)<0):=by
      omega
     simp only[bz,dec_lt,hij,bt,aY,e0,Tk,bp,e1,aU hm,hc];rw[dg hnn];rfl
    grind
  ·obtain rfl:i=j:=by omega
   right;have Tk:bz L key (i:Int) (i:Int)=aaN (cE L key (i:Int)):=by
    simp_all [bz]
   simp only[Tk];unfold cE;by_cases hil:i<L.length
   ·simp only[dec_lt,hil,bt,aY,aU hil,bp,hc]
    refine⟨_,rfl,i,_,rfl,a2,a4,a5,fun hb=>⟨hil, ?_⟩,fun hb h=> ?_⟩
    ·grind
    grind
   ·simp only[dec_lt,hil,b7,dw,aR]
    exact⟨_,rfl,i,false,rfl,a2,a4,a5,(fun hb=>by cases hb),fun _ h=>by omega⟩
theorem aor{L:List ah}(hs:UC L)(hl:L.length≤1000){key value:Int}{p:Nat}{b:Bool}(ha:At L key p b)(R:List ah):∃L',pS value b (p:Int) key R L=some L'∧UC L'∧(∀x∈L',x∈L∨x=⟨key,value⟩)∧(∀x∈L,∃y∈L',y.Key=x.Key)∧⟨key,value⟩∈L'∧L'.length≤L.length+1:=by
 have hs':=hs
 unfold UC at hs'
 rw[aoM] at hs'
 unfold pS uk
 have hle:=ha.le
 cases b with
 |true=>
  obtain⟨hp,hk⟩:=ha.is rfl
  simp only[apS,dw,aR,aU hp,bp,lZ,hk]
  refine⟨_,rfl, ?_,fun x hx=>aql hx,fun x hx=> ?_,List.mem_set hp _,by simp⟩
  ·grind [UC,aoM]
  ·obtain⟨q,hq,rfl⟩:=amt hx
   refine⟨(L.set p ⟨key,value⟩)[q]'(by grind),acI _, ?_⟩
   grind
 |false=>
  have hno:=ha.no rfl
  have hins:cZ L (p:Int) [⟨key,0⟩]=some (L.take p++⟨key,0⟩::L.drop p):=by
   unfold cZ Sh.ins
   grind
  have htl:(L.take p).length=p:=by grind
  have hp2:p<(L.take p++(⟨key,0⟩:ah)::L.drop p).length:=by grind
  have hget:(L.take p++(⟨key,0⟩:ah)::L.drop p)[p]'hp2=⟨key,0⟩:=by grind
  simp only[aqv,aY,hins,bp,aU hp2,hget,lZ]
  have hset:(L.take p++(⟨key,0⟩:ah)::L.drop p).set p ⟨key,value⟩=L.take p++⟨key,value⟩::L.drop p:=by
   grind
  rw[hset]
  refine⟨_,rfl, ?_,fun x hx=> ?_,fun x hx=>⟨x, ?_,rfl⟩,by simp,by grind⟩
  ·unfold UC
   rw[List.pairwise_append]
   refine⟨hs.sublist (List.take_sublist _ _),List.pairwise_cons.2 ⟨fun x hx=> ?_,hs.sublist (List.drop_sublist _ _)⟩,fun x hx y hy=> ?_⟩
   ·obtain⟨q,hq,rfl⟩:=amt hx
    simp only[amC] at hq
    have h1:=ha.high (p+q) (by omega) (by omega)
    rcases Nat.eq_zero_or_pos q with rfl|h0
    ·grind
    ·have h2:=hs' p (p+q) (by omega) (by omega) (by omega)
     have h3:=ha.high p (by omega) (by omega)
     grind
   ·obtain⟨q,hq,rfl⟩:=List.mem_take_iff_getElem.1 hx
    have h1:=ha.low q (by omega) (by omega)
    rcases List.mem_cons.1 hy with rfl|hy
    ·exact h1
    ·obtain⟨z,hz,rfl⟩:=amt hy
     simp only[amC] at hz
     rw[List.getElem_drop]
     have:=ha.high (p+z) (by omega) (by omega)
     omega
  ·grind
  grind [aeW]
theorem put_eq(v:Int)(b:Bool)(p key:Int)(R W:List ah):yp v b p key R W=pS v b p key W R:=rfl
theorem adu(s:List an)(hs:s.length≤1000)(c:an):∃r,cG s c=some r∧(r.1=false→∀x∈s,¬(x.Kind=c.Kind∧x.Key=c.Key∧x.Value=c.Value)):=by
 unfold cG ew
 have:=cR (b:=fun(p:an×Int)=>cH s p.1 p.2) (fun k (d:an)=>(d.Kind=c.Kind∧d.Key=c.Key∧d.Value=c.Value)∧∀x∈s.take k,¬(x.Kind=c.Kind∧x.Key=c.Key∧x.Value=c.Value)) (fun r=>r.2<0→∀x∈s,¬(x.Kind=c.Kind∧x.Key=c.Key∧x.Value=c.Value)) s.length (aP (by omega)) (fun k d hk hd=> ?_) (fun d hd=> ?_) (s:=c) ⟨⟨rfl,rfl,rfl⟩,by simp⟩
 ·obtain⟨r,h1,h2⟩:=this
  simp_all
 ·obtain⟨⟨d1,d2,d3⟩,d4⟩:=hd
  simp only[cH,dec_lt,hk,bt,aY,aU hk,bp,ym,Sh.EK]
  by_cases e:s[k]=an.mk d.Kind s[k].aI d.Key d.Value
  ·rw[eD e]
   exact .inr ⟨_,rfl,fun h=>by omega⟩
  ·rw[dg e]
   refine .inl ⟨an.mk d.Kind s[k].aI d.Key d.Value,by simp only[dw,aR,abo,aH (k:=k) (by omega)],⟨d1,d2,d3⟩,fun x hx=> ?_⟩
   rw[aoR,ab9 hk,apj] at hx
   rcases List.mem_append.1 hx with h|h
   ·grind
   ·rw[List.mem_singleton.1 h]
    rintro⟨h1,h2,h3⟩
    apply e
    rw[d1,d2,d3,←h1,←h2,←h3]
 ·obtain⟨_,d4⟩:=hd
  rw[aoZ] at d4
  simp only[cH,dec_lt,afr,b7,dw,aR,fN]
  exact⟨_,rfl,fun _=>d4⟩
def It(t:aM):Prop:=∀e∈t.eo,XY e=true∧(e.Kind=1∨e.Kind=2)
theorem acp{e:an}(h:XY e=true)(hk:e.Kind=1∨e.Kind=2):0≤e.Key∧e.Key<16:=by
 simp_all [XY]
def SD(t:aM)(x:ah):Prop:=∃e∈t.eo,e.Kind=2∧e.Key=x.Key∧e.Value=x.Value
structure uf (t:aM) (n:Nat) (R W:List ah):Prop where
 Wo:UC R
 SN:UC W
 ZD:∀x∈R,0≤x.Key∧x.Key<16
 WO:∀x∈W,0≤x.Key∧x.Key<16
 wr:∀x∈W,SD t x
 rd:∀x∈R,¬SD t x
 adf:R.length≤n
 ZL:W.length≤n
theorem ahc{t:aM}(ho:It t)(hl:t.eo.length≤1000):∃r,wP t=some r∧(r.2.2=0→uf t 1000 r.1.Reads r.1.bA):=by
 unfold wP;refine jJ (fun k (x:(List ah)×(List ah)×Int)=>x.2.2=(k:Int)∧uf t k x.1 x.2.1∧∀j (h:j<t.eo.length),j<k→t.eo[j].Kind=2→∃w∈x.2.1,w.Key=t.eo[j].Key) _ t.eo.length (aP (by omega)) (fun k x hk hx=> ?_) ⟨rfl,⟨.nil,.nil,by simp,by simp,by simp,by simp,by simp,by simp⟩,fun j _ h=>by omega⟩;obtain⟨R,W,v⟩:=x;obtain⟨rfl,hf,hall⟩:=hx;simp only at hf hall;by_cases hkl:k<t.eo.length
 ·have hop:=ho _ (acI hkl)
  have hkey:=acp hop.1 hop.2;have hlR:=hf.adf;have hlW:=hf.ZL;obtain⟨pw,bw,Vi,Vj⟩:=pBS hf.SN (by omega) t.eo[k].Key;obtain⟨pr,br,MQ,hr2⟩:=pBS hf.Wo (by omega) t.eo[k].Key;have mono:uf t (k+1) R W:=⟨hf.Wo,hf.SN,hf.ZD,hf.WO,hf.wr,hf.rd,by omega,by omega⟩;have go:∀(R' W':List ah),uf t (k+1) R' W'→(∀j (h:j<t.eo.length),j<k+1→t.eo[j].Kind=2→∃w∈W',w.Key=t.eo[j].Key)→(∃s',nL (k:Int) R' W'=some (.inl s')∧(s'.2.2=((k+1:Nat):Int)∧uf t (k+1) s'.1 s'.2.1∧∀j (h:j<t.eo.length),j<k+1→t.eo[j].Kind=2→∃w∈s'.2.1,w.Key=t.eo[j].Key)∧k<t.eo.length)∨∃a,nL (k:Int) R' W'=some (.inr a)∧(a.2.2=0→uf t 1000 a.1.Reads a.1.bA):=fun R' W' h1 h2=>.inl ⟨(R',W',((k+1:Nat):Int)),by grind [nL,abo,aH],⟨rfl,h1,h2⟩,hkl⟩;have err:∀(n:Int),n≠0→(∃s',aaN (σ:=(List ah)×(List ah)×Int) (some ((aZ.mk [] []),(k:Int),n))=some (.inl s')∧(s'.2.2=((k+1:Nat):Int)∧uf t (k+1) s'.1 s'.2.1∧∀j (h:j<t.eo.length),j<k+1→t.eo[j].Kind=2→∃w∈s'.2.1,w.Key=t.eo[j].Key)∧k<t.eo.length)∨∃a,aaN (σ:=(List ah)×(List ah)×Int) (some ((aZ.mk [] []),(k:Int),n))=some (.inr a)∧(a.2.2=0→uf t 1000 a.1.Reads a.1.bA):=fun n hn=>.inr ⟨_,rfl,fun h=>absurd h hn⟩;have hcw:∃q,tT bw (pw:Int) R W=some (q,bw):=by
   unfold tT;cases bw with
   |false=>grind
   |true=>
    obtain⟨h,_⟩:=Vj.is rfl;simp_all [aU]
  have hcr:∃q,tU br (pr:Int) R W=some (q,br):=by
   unfold tU;cases br with
   |false=>grind
   |true=>
    obtain⟨h,_⟩:=hr2.is rfl;simp_all [aU]
  obtain⟨qw,hcw⟩:=hcw;obtain⟨qr,hcr⟩:=hcr;have e0:tj t R W (k:Int)=tq t R W (k:Int) t.eo[k] false:=by
   simp only[tj,dec_lt,hkl,bt,aY,aU hkl,bp,OF,hop.1,apS,dw,aR];grind
  simp only[e0];unfold tq;have ec1:xk t.eo[k].Key R W=some (bw,(pw:Int)):=by grind [xk]
  have ec2:xl t.eo[k].Key R W=some (br,(pr:Int)):=by grind [xl]
  simp only[dw,aR,ec1,ec2,bp,hcw,hcr];rcases hop.2 with h1|h2
  · -- a read
   rw[dg (by omega)];have keep:∀j (h:j<t.eo.length),j<k+1→t.eo[j].Kind=2→∃w∈W,w.Key=t.eo[j].Key:=fun j h hj hkd=>by
    grind
   have j5:∀(known v:Bool),bw=false→br=known→(∃s',tu t R W (k:Int) t.eo[k] (br,(pr:Int)) known v=some (.inl s')∧(s'.2.2=((k+1:Nat):Int)∧uf t (k+1) s'.1 s'.2.1∧∀j (h:j<t.eo.length),j<k+1→t.eo[j].Kind=2→∃w∈s'.2.1,w.Key=t.eo[j].Key)∧k<t.eo.length)∨∃a,tu t R W (k:Int) t.eo[k] (br,(pr:Int)) known v=some (.inr a)∧(a.2.2=0→uf t 1000 a.1.Reads a.1.bA):=by
    intro known v hbw hbr;unfold tu;cases v with
    |true=>simp_all
    |false=>
     cases known with
     |true=>grind
     |false=>
      have esub:abH t.eo (bM ((k:Int)+1)) (arA t.eo)=some (t.eo.drop (k+1)):=by
       rw[aH (k:=k) (by omega)];have:=sY (l:=t.eo) (m:=k+1) (k:=t.eo.length) (by omega) (afk _);simp_all [aha]
      obtain⟨c,hc1,MO⟩:=adu (t.eo.drop (k+1)) (by grind) (an.mk 2 t.eo[k].aI t.eo[k].Key t.eo[k].Value);rw[esub,bp,hc1,bp];cases hcb:c.1 with
      |true=>simp_all
      |false=>
       obtain⟨R',g1,g2,g3,g4,g5,g6⟩:=aor hf.Wo (by omega) (value:=t.eo[k].Value) hr2 W;rw[put_eq,g1,bp];refine go _ _ ⟨g2,hf.SN,fun x hx=> ?_,hf.WO,hf.wr,fun x hx=> ?_,by omega,by omega⟩ keep
       ·rcases g3 x hx with h|h
        ·exact hf.ZD x h
        grind
       ·rcases g3 x hx with h|h
        ·exact hf.rd x h
        ·rw[h]
         rintro⟨e,he,k1,k2,k3⟩;obtain⟨j,hj,rfl⟩:=amt he;simp only at k2 k3;rcases aqr j k with h3|h3|h3
         ·obtain⟨w,w1,w2⟩:=hall j hj h3 k1
          obtain⟨q,hq,rfl⟩:=amt w1;have hno:=Vj.no hbw;have hlo:=Vj.low q hq;rcases aqr q pw with h4|h4|h4
          ·omega
          ·grind
          ·have hasc:=hf.SN
           unfold UC at hasc;rw[aoM] at hasc;have a1:=hasc pw q (by omega) hq h4;have a2:=Vj.high pw (by omega) (afk _);omega
         ·grind
         ·exact MO hcb t.eo[j] (List.mem_drop_iff_getElem.2 ⟨j - (k+1),by omega,by congr 1;omega⟩) ⟨k1,k2,k3⟩
   have j4:∀(v:Bool),(∃s',tr t R W (k:Int) t.eo[k] (br,(pr:Int)) (qr,br) bw v=some (.inl s')∧(s'.2.2=((k+1:Nat):Int)∧uf t (k+1) s'.1 s'.2.1∧∀j (h:j<t.eo.length),j<k+1→t.eo[j].Kind=2→∃w∈s'.2.1,w.Key=t.eo[j].Key)∧k<t.eo.length)∨∃a,tr t R W (k:Int) t.eo[k] (br,(pr:Int)) (qr,br) bw v=some (.inr a)∧(a.2.2=0→uf t 1000 a.1.Reads a.1.bA):=by
    intro v;unfold tr;cases v with
    |true=>simp_all
    |false=>
     cases hbw:bw with
     |true=>grind
     |false=>
      cases hbr:br with
      |true=>have:=j5 true (decide (qr≠t.eo[k].Value)) hbw hbr;grind
      |false=>simp_all
   cases hbw:bw with
   |true=>have:=j4 (decide (qw≠t.eo[k].Value));grind
   |false=>simp_all
  · -- a write
   rw[eD h2];obtain⟨W',g1,g2,g3,g4,g5,g6⟩:=aor hf.SN (by omega) (value:=t.eo[k].Value) Vj R;rw[g1,bp];refine go _ _ ⟨hf.Wo,g2,hf.ZD,fun x hx=> ?_,fun x hx=> ?_,hf.rd,by omega,by omega⟩ (fun j h hj hkd=> ?_)
   ·rcases g3 x hx with h|h
    ·exact hf.WO x h
    grind
   ·rcases g3 x hx with h|h
    ·exact hf.wr x h
    ·rw[h];exact⟨_,acI hkl,h2,rfl,rfl⟩
   grind
 ·obtain rfl:k=t.eo.length:=by omega
  right;have e0:tj t R W (t.eo.length:Int)=aaN (Gh R W):=by
   simp_all [tj]
  simp only[e0];have hlR:=hf.adf;have hlW:=hf.ZL;exact⟨_,rfl,fun _=>⟨hf.Wo,hf.SN,hf.ZD,hf.WO,hf.wr,hf.rd,by grind,by grind⟩⟩
section
variable {l:List aM}
def nm(l:List aM)(i:Nat):Nat:=((l.take i).filter (·.gy)).length
theorem KB{i:Nat}(h:i<l.length):nm l (i+1)=nm l i+if l[i].gy then 1 else 0:=by
 grind [nm,aoR]
theorem ZT(i:Nat):nm l i≤i:=by
 grind [nm]
theorem adr{i j:Nat}(h:i≤j):nm l i≤nm l j:=by
 exact(((List.take_prefix_take_left h).filter _).length_le)
theorem afx{i j:Nat}(hi:i<l.length)(hd:l[i].gy=true)(h:i<j):nm l i<nm l j:=by
 have h1:=KB hi;have:=adr (l:=l) (show i+1≤j by omega);grind
theorem ahj{i j:Nat}(hi:i<l.length)(hj:j<l.length)(di:l[i].gy=true)(dj:l[j].gy=true)(h:nm l i=nm l j):i=j:=by
 rcases aqr i j with h1|h1|h1
 ·have:=afx hi di h1;omega
 ·exact h1
 ·have:=afx hj dj h1;omega
def wrO(l:List aM)(i:Nat)(t:aM):aF:=⟨(i:Int),if t.gy then(nm l i:Int) else -1⟩

theorem aiB{t:aM}(hl:t.eo.length≤1000)(w:aF)(B:List (ah×aF)):∃r,AB t w B=some r∧(r.2=0→(∀x,SD t x→Sh.cD x r.1=some w)∧∀y u,Sh.cD y B=some u→Sh.cD y r.1=some u):=by
 refine cR (fun k (C:List (ah×aF))=>(∀j (h:j<t.eo.length),j<k→t.eo[j].Kind=2→Sh.cD ⟨t.eo[j].Key,t.eo[j].Value⟩ C=some w)∧∀y u,Sh.cD y B=some u→Sh.cD y C=some u) _ t.eo.length (aP (by omega)) (fun k C hk hC=> ?_) (fun C hC=> ?_) ⟨fun j _ h=>by omega,fun _ _ h=>h⟩
 ·obtain⟨h1,h2⟩:=hC
  have e0:qJ t w C (k:Int)=if decide (t.eo[k].Kind≠2) then kj (k:Int) C else if decide (t.eo[k].Value=0) then aaN (some (C,7)) else if(Sh.cD (ah.mk t.eo[k].Key t.eo[k].Value) C).isSome then aaN (some (C,8)) else kj (k:Int) (Sh.nC (ah.mk t.eo[k].Key t.eo[k].Value) w C):=by
   simp_all [qJ,aU]
  have go:∀C',((∀j (h:j<t.eo.length),j<k+1→t.eo[j].Kind=2→Sh.cD ⟨t.eo[j].Key,t.eo[j].Value⟩ C'=some w)∧∀y u,Sh.cD y B=some u→Sh.cD y C'=some u)→∃s',kj (k:Int) C'=some (.inl (s',((k+1:Nat):Int)))∧((∀j (h:j<t.eo.length),j<k+1→t.eo[j].Kind=2→Sh.cD ⟨t.eo[j].Key,t.eo[j].Value⟩ s'=some w)∧∀y u,Sh.cD y B=some u→Sh.cD y s'=some u):=fun C' h=>⟨C',by grind [kj,abo,aH],h⟩;simp only[e0];by_cases Lz:t.eo[k].Kind=2
  ·rw[dg (by omega)]
   by_cases hv:t.eo[k].Value=0
   ·rw[eD hv]
    exact .inr ⟨_,rfl,fun h=>by simp at h⟩
   ·rw[dg hv]
    cases hm:Sh.cD (ah.mk t.eo[k].Key t.eo[k].Value) C with
    |some u=>exact .inr ⟨_,rfl,fun h=>by simp at h⟩
    |none=>
     refine .inl (go _ ⟨fun j h hj hkd=> ?_,fun y u hy=> ?_⟩)
     ·grind [Cg]
     grind [Cg]
  ·rw[eD (by omega)]
   refine .inl (go _ ⟨fun j h hj hkd=> ?_,h2⟩);grind
 ·obtain⟨h1,h2⟩:=hC
  simp only[qJ,dec_lt,afr,b7,dw,aR,Bn];refine⟨_,rfl,fun _=>⟨fun x hx=> ?_,h2⟩⟩;obtain⟨e,he,k1,k2,k3⟩:=hx;obtain⟨j,hj,rfl⟩:=amt he;have:=h1 j hj hj k1;simp_all

def abX(l:List aM)(F:List aZ)(i:Nat)(x:aO):Prop:=
 x.eu= -1∨∃j f,F[j]? =some f∧j≠i∧(∃h:j<l.length,l[j].gy=true)∧x.eu=(nm l j:Int)∧x.Key∈f.bA.map (·.Key)
structure P8 (l:List aM) (F:List aZ) (i:Nat) (t:aM) (f:aZ) (x:aJ):Prop where
 aa2:x.aI=t.aI
 writes:x.bA=f.bA.map (·.Key)
 keys:x.Reads.map (·.Key)=f.Reads.map (·.Key)
 jW:∀r∈x.Reads,abX l F i r
structure X_ (l:List aM) (B:List (ah×aF)) (F:List aZ) (L:List (ah×Bool)):Prop where
 small:l.length≤32
 aa2:∀t∈l,0≤t.aI∧t.aI<8
 eN:∀i (h:i<l.length) x,SD l[i] x→Sh.cD x B=some (wrO l i l[i])
 len:F.length=l.length
 MK:∀i (h:i<l.length) f,F[i]? =some f→(l[i].gy=true→uf l[i] 1000 f.Reads f.bA)∧(l[i].gy=false→f=⟨[],[]⟩)
 last:∀x,(Sh.cD x L).getD false=true→∃(i:Nat) (f:aZ),F[i]? =some f∧x∈f.bA
theorem aef{B:List (ah×aF)}{F:List aZ}{L:List (ah×Bool)}(hp:X_ l B F L){i:Nat}(hi:i<l.length)(hd:l[i].gy=true){f:aZ}(hf:F[i]? =some f)(out:List aJ)(ho:out.length≤32):
  (∃x,rP B F L out (i:Int) l[i] (f.bA.map (·.Key))=some (.inl (out++[x],((i+1:Nat):Int)))∧P8 l F i l[i] f x)∨∃a,rP B F L out (i:Int) l[i] (f.bA.map (·.Key))=some (.inr a)∧a.2.2≠0∧0≤a.2.1∧a.2.1<l.length:=by
 have hlen:=hp.len;have hsm:=hp.small;have hiF:i<F.length:=by omega
 have hfi:F[i]=f:=by grind
 have hface:=(hp.MK i hi f hf).1 hd;have hlR:=hface.adf;unfold rP;rw[aU hiF,bp,hfi];have:=cR (b:=fun(p:(List aO)×Int)=>vD B L out (i:Int) l[i] (f.bA.map (·.Key)) f p.1 p.2) (fun k (rs:List aO)=>rs.map (·.Key)=(f.Reads.take k).map (·.Key)∧∀r∈rs,abX l F i r) (fun a:(((List aJ)×Int)⊕(af×Int×Int))=>(∃x,a=.inl (out++[x],((i+1:Nat):Int))∧P8 l F i l[i] f x)∨∃e,a=.inr e∧e.2.2≠0∧0≤e.2.1∧e.2.1<l.length) f.Reads.length (aP (by omega)) (fun k rs hk hrs=> ?_) (fun rs hrs=> ?_) (s:=[]) ⟨by simp,by simp⟩
 ·grind
 ·obtain⟨r1,r2⟩:=hrs
  have hrl:rs.length=k:=by
   have:=congrArg ajL r1;grind
  have hmem:=acI hk;have go:∀(w:aF),abX l F i ⟨f.Reads[k].Key,w.number⟩→(∃s',vI rs (k:Int) f.Reads[k] w=some (.inl (s',((k+1:Nat):Int)))∧(s'.map (·.Key)=(f.Reads.take (k+1)).map (·.Key)∧∀r∈s',abX l F i r)):=fun w hw=>by
   refine⟨rs++[⟨f.Reads[k].Key,w.number⟩], ?_, ?_,fun r hr=> ?_⟩
   ·unfold vI
    rw[cA (by grind),bp,aH (k:=k) (by omega)];rfl
   ·grind [aoR]
   grind
  have err:∀(n:Int),n≠0→∃a,((ic (i:Int) n).bind fun TQ=>aaN (σ:=(List aO)×Int) (aaN (σ:=(List aJ)×Int) (some (TQ.1,TQ.2.1,TQ.2.2))))=some (.inr a)∧((∃x,a=.inl (out++[x],((i+1:Nat):Int))∧P8 l F i l[i] f x)∨∃e,a=.inr e∧e.2.2≠0∧0≤e.2.1∧e.2.1<l.length):=fun n hn=>⟨_,rfl,.inr ⟨_,rfl,hn,by grind,by grind⟩⟩;simp only[vD,dec_lt,hk,bt,aY,aU hk,bp];by_cases hv:f.Reads[k].Value=0
  ·rw[eD hv]
   exact .inl (go _ (.inl rfl))
  ·rw[dg hv]
   cases hm:Sh.cD f.Reads[k] B with
   |none=>simp_all
   |some w=>
    simp only[aqp,apS,dw,aR,api,Sh.EK];by_cases hw:w.number<0
    ·simp_all
    ·rw[dg hw]
     cases hL:(Sh.cD f.Reads[k] L).getD false with
     |false=>simp_all
     |true=>
      refine .inl (go w (.inr ?_));obtain⟨j,g,hj,hg⟩:=hp.last _ hL;have hjF:j<F.length:=(List.getElem?_eq_some_iff.1 hj).1;have hjl:j<l.length:=by omega
      have hdj:l[j].gy=true:=by
       cases hdj:l[j].gy with
       |true=>rfl
       |false=>
        have:=(hp.MK j hjl g hj).2 hdj;grind
      have hwr:=((hp.MK j hjl g hj).1 hdj).wr _ hg;have hby:=hp.eN j hjl _ hwr;refine⟨j,g,hj,fun e=> ?_,⟨hjl,hdj⟩, ?_,aqk hg⟩
      ·subst e
       exact hface.rd _ hmem hwr
      grind [wrO]
 ·obtain⟨r1,r2⟩:=hrs
  rw[aoZ] at r1;simp only[vD,dec_lt,afr,b7,dw,aR,Ff];have e:abz 56 out [(aJ.mk l[i].aI (f.bA.map (·.Key)) rs)]=some (out++[aJ.mk l[i].aI (f.bA.map (·.Key)) rs]):=cA (by grind);rw[e,bp];exact⟨_,by simp only[rO,abo,aH (k:=i) (by omega)];rfl,.inl ⟨_,rfl,rfl,rfl,r1,r2⟩⟩
end
def aeZ(n:Nat)(l:List (List UInt8)):Prop:=l.length≤n+1∧∀x∈l,x.length≤n
theorem G9(c:UInt8):∀s:List UInt8,aeZ s.length (Sh.eC c s)
 |[]=>by simp[Sh.eC,aeZ]
 |b::l=>by
  obtain⟨h1,h2⟩:=G9 c l;have h0:=Sh.JE c l;unfold Sh.eC;split
  ·exact⟨by grind,fun x hx=>by
    grind⟩
  ·revert h1 h2 h0
   generalize Sh.eC c l=q;intro h1 h2 h0
   match q,h0 with
   |w::ws,_=>
    refine⟨by grind,fun x hx=> ?_⟩;grind
section
variable {s:List UInt8}
theorem Rg(hs:s.length<4294967281)(c:UInt8):G.strings_Split s [c]=some (Sh.eC c s):=by
 simp_all [G.strings_Split,Sh.split]
theorem ZP(hs:s.length<4294967281):∃b,qK s [10]=some b:=by
 unfold qK qv;by_cases h:arA ([10]:List UInt8)≤arA s
 ·simp only[arA,acN,acR] at h ⊢
  have e:bM ((s.length:Int) - ((0+1:Nat):Int))=((s.length - 1:Nat):Int):=by grind [dM]
  simp_all [sY]
 simp_all
theorem adg(hs:s.length<4294967281):∃r,Af s=some r∧(r.2=0→r.1.length≤400∧∀x∈r.1,x.length≤s.length):=by
 unfold Af;split
 ·grind
 ·obtain⟨b,hb⟩:=ZP hs
  rw[hb,bp];cases b with
  |false=>simp_all
  |true=>
   obtain⟨h1,h2⟩:=G9 10 s;have h0:0<(Sh.eC 10 s).length:=List.length_pos_iff.2 (Sh.JE 10 s);simp only[apS,dw,aR];rw[Rg hs,bp];have e:bM (arA (Sh.eC 10 s) - 1)=(((Sh.eC 10 s).length - 1:Nat):Int):=by
    grind [dM]
   have e2:abH (Sh.eC 10 s) 0 (((Sh.eC 10 s).length - 1:Nat):Int)=some ((Sh.eC 10 s).take ((Sh.eC 10 s).length - 1)):=by
    have:=sY (l:=Sh.eC 10 s) (m:=0) (k:=(Sh.eC 10 s).length - 1) (by omega) (by omega);grind
   rw[e,e2,bp];split
   ·grind
   grind
theorem adh(hs:s.length<4294967281):∃r,C9 s=some r∧(r.2=0→0<r.1.length∧∀x∈r.1,x.length≤s.length):=by
 obtain⟨h1,h2⟩:=G9 32 s;have h0:0<(Sh.eC 32 s).length:=List.length_pos_iff.2 (Sh.JE 32 s);unfold C9;rw[Rg hs,bp];have j1:∀g,∃r,xq (Sh.eC 32 s) g=some r∧(r.2=0→0<r.1.length∧∀x∈r.1,x.length≤s.length):=fun g=>by
  unfold xq;cases g with
  |false=>simp_all
  |true=>simp_all
 refine cR (fun _ _=>True) _ (Sh.eC 32 s).length (aP (by omega)) (fun k g hk _=> ?_) (fun g _=> ?_) trivial
 ·have hx:=h2 _ (acI hk)
  simp only[BK,dec_lt,hk,bt,aY,aU hk,bp];have j3:∀g,(∃g',nN (Sh.eC 32 s) (k:Int) (Sh.eC 32 s)[k] g=some (.inl (g',((k+1:Nat):Int))))∨∃r,nN (Sh.eC 32 s) (k:Int) (Sh.eC 32 s)[k] g=some (.inr r)∧(r.2=0→0<r.1.length∧∀x∈r.1,x.length≤s.length):=fun g=>by
   have:=jK (b:=fun(p:Int)=>xm (Sh.eC 32 s) (k:Int) (Sh.eC 32 s)[k] g p) (fun a:((Bool×Int)⊕((List (List UInt8))×Int))=>(∃g',a=.inl (g',((k+1:Nat):Int)))∨∃r,a=.inr r∧(r.2=0→0<r.1.length∧∀x∈r.1,x.length≤s.length)) ((Sh.eC 32 s)[k].length) (aP (by omega)) (fun i hi=> ?_) ?_
   ·unfold nN
    obtain⟨a,h3,h4⟩:=this;grind
   ·simp only[xm,dec_lt,hi,bt,aY,aU hi,bp]
    have j4:∀v,tC (Sh.eC 32 s) (i:Int) v=some (.inl ((i+1:Nat):Int))∨∃a,tC (Sh.eC 32 s) (i:Int) v=some (.inr a)∧((∃g',a=.inl (g',((k+1:Nat):Int)))∨∃r,a=.inr r∧(r.2=0→0<r.1.length∧∀x∈r.1,x.length≤s.length)):=fun v=>by
     unfold tC;cases v with
     |true=>
      obtain⟨r,h3,h4⟩:=j1 false;simp_all [aaN]
     |false=>exact .inl (by simp only[dw,aR,abo,aH (k:=i) (by omega)])
    grind
   ·simp only[xm,dec_lt,afr,b7,dw,aR,Gk,abo,aH (k:=k) (by omega)]
    exact⟨_,rfl,.inl ⟨g,rfl⟩⟩
  have fin:∀g,(∃s',nN (Sh.eC 32 s) (k:Int) (Sh.eC 32 s)[k] g=some (.inl (s',((k+1:Nat):Int)))∧True)∨∃a,nN (Sh.eC 32 s) (k:Int) (Sh.eC 32 s)[k] g=some (.inr a)∧(a.2=0→0<a.1.length∧∀x∈a.1,x.length≤s.length):=fun g=>(j3 g).imp (fun⟨g',h⟩=>⟨g',h,trivial⟩) id;split <;> exact fin _
 ·obtain⟨r,h3,h4⟩:=j1 g
  simp_all [BK,aaN]
theorem ahi(hs:s.length<4294967281):∃r,Ir s 0=some r:=by
 unfold Ir;rw[show decide ((0:Int)<0)=false from rfl,dg (show ¬arA s<0 by grind)];simp only[dw,aR,EN];have e:abH s 0 (arA s)=some s:=by
  have:=sY (l:=s) (m:=0) (k:=s.length) (by omega) (afk _);grind
 have j2:∀(n:Int) (k:Nat) (g:Bool),k≤s.length→∃r,Bc 0 s n (k:Int) g=some r:=fun n k g hk=>by
  have j3:∀v,∃r,Bd 0 n (k:Int) g v=some r:=fun v=>by
   cases v <;> cases g <;> exact⟨_,rfl⟩
  unfold Bc;split
  ·exact j3 _
  ·split
   ·rename_i h
    have h:=of_decide_eq_true h;rw[show aaV s 0=some (s[0]'(by omega)) from aU (k:=0) (by omega),bp];exact j3 _
   ·exact j3 _
 have:=jJ (b:=fun(p:Int×Int×Bool)=>Bb 0 s p.1 p.2.1 p.2.2) (fun k (x:Int×Int×Bool)=>x.2.1=(k:Int)) (fun _=>True) s.length (aP (by omega)) (fun k x hk hx=> ?_) (s:=(0,0,false)) rfl
 ·grind
 ·obtain⟨n,i,g⟩:=x
  subst hx;by_cases hkl:k<s.length
  ·simp only[Bb,dec_lt,hkl,bt,aY,aU hkl,bp]
   have j5:∀v,(∃s',rD 0 s n (k:Int) g v=some (.inl s')∧s'.2.1=((k+1:Nat):Int))∨∃a,rD 0 s n (k:Int) g v=some (.inr a):=fun v=>by
    unfold rD;cases v with
    |true=>
     obtain⟨r,h⟩:=j2 n k g hk;simp_all [aaN]
    |false=>
     left;simp only[dw,aR,EO,aU hkl,bp,Sh.EK,abo,aH (k:=k) (by omega)];cases g <;> exact⟨_,rfl,rfl⟩
   have fin:∀v,(∃s',rD 0 s n (k:Int) g v=some (.inl s')∧s'.2.1=((k+1:Nat):Int)∧True)∨∃a,rD 0 s n (k:Int) g v=some (.inr a)∧True:=fun v=>(j5 v).imp (fun⟨a,b,c⟩=>⟨a,b,c,trivial⟩) (fun⟨a,b⟩=>⟨a,b,trivial⟩);split
   ·simp_all
   ·rcases fin (decide ((57:Int)<(((s[k]).toNat:Nat):Int))) with⟨a,b,c,_⟩|h
    ·grind
    grind
  ·obtain rfl:k=s.length:=by omega
   obtain⟨r,h⟩:=j2 n s.length g (afk _);simp_all [Bb,aaN]
theorem adq(hs:s.length<4294967281):∃r,uJ s=some r:=by
 unfold uJ;obtain⟨r,h⟩:=ahi hs;rw[h,bp];have j1:∀v,∃q,Db r v=some q:=fun v=>by
  cases v <;> exact⟨_,rfl⟩
 split <;> exact j1 _
theorem aco(hs:s.length<4294967281):∃r,xH s=some r:=by
 unfold xH;obtain⟨⟨l,e⟩,h,h2⟩:=adh hs;rw[h,bp];by_cases he:e=0
 ·obtain⟨hp,hx⟩:=h2 he
  rw[dg (by omega)];have hn:∀(i:Nat) (hi:i<l.length),∃r,uJ l[i]=some r:=fun i hi=>adq (by grind);have j2:∀(v:an) (b:Bool),(b=false→l.length=2)→∃r,uY (l,e) v b=some r:=fun v b hb=>by
   unfold uY;cases b with
   |true=>grind
   |false=>
    have hl:=hb rfl;simp only[dw,aR];rw[show aaV l 1=some (l[1]'(by omega)) from aU (k:=1) (by omega),bp];obtain⟨r,hr⟩:=hn 1 (by omega);rw[hr,bp];unfold Eg zP;split
    ·grind
    ·split
     ·grind
     ·split <;> exact⟨_,rfl⟩
  have j5:∀(v:an) (b:Bool),(b=false→l.length=4)→∃r,uZ (l,e) v b=some r:=fun v b hb=>by
   unfold uZ;cases b with
   |true=>grind
   |false=>
    have hl:=hb rfl;simp only[dw,aR];obtain⟨r1,MQ⟩:=hn 1 (by omega);obtain⟨r2,hr2⟩:=hn 2 (by omega);obtain⟨r3,hr3⟩:=hn 3 (by omega);rw[show aaV l 1=some (l[1]'(by omega)) from aU (k:=1) (by omega),bp,MQ,bp];split
    ·grind
    ·rw[show aaV l 2=some (l[2]'(by omega)) from aU (k:=2) (by omega),bp,hr2,bp]
     split
     ·grind
     ·rw[show aaV l 3=some (l[3]'(by omega)) from aU (k:=3) (by omega),bp,hr3,bp]
      split
      ·grind
      ·unfold Eh zQ
       split
       ·grind
       ·split <;> exact⟨_,rfl⟩
  have j1:∀v,∃r,zO (l,e) v=some r:=fun v=>by
   unfold zO;have hi:∃b,ug v.Kind=some b:=by unfold ug;split <;> exact⟨_,rfl⟩
   obtain⟨b,hb⟩:=hi;rw[hb,bp];cases b with
   |false=>
    simp only[aqv,aY];split
    ·simp_all
    ·exact j2 _ _ (fun h=>by grind)
   |true=>
    simp only[apS,dw,aR];split
    ·simp_all
    ·exact j5 _ _ (fun h=>by grind)
  have:=cR (b:=fun(p:an×Int)=>uX (l,e) p.1 p.2) (fun _ _=>True) (fun _=>True) 5 (by decide) (fun k v hk _=>.inl ?_) (fun v _=> ?_) (s:=an.mk (-1) 0 0 0) trivial
  ·grind
  ·have hk5:k<uB.length:=hk
   simp only[uX,eD (show(k:Int)<5 by omega),aY,aU hk5,bp];rw[show aaV l 0=some (l[0]'(by omega)) from aU (k:=0) (by omega),bp];unfold zR;simp only[abo,aH (k:=k) (by omega)];split <;> exact⟨_,rfl,trivial⟩
  simp_all [uX,aaN]
 simp_all
theorem acm(hs:s.length<4294967281):∃r,uz s=some r∧(r.2.2=0→r.1.length≤400):=by
 unfold uz;obtain⟨⟨l,e⟩,h,h2⟩:=adg hs;rw[h,bp];by_cases he:e=0
 ·obtain⟨hp,hx⟩:=h2 he
  simp only at hp hx;rw[dg (by omega)];refine cR (fun k (o:List an)=>o.length=k) _ l.length (aP (by omega)) (fun k o hk ho=> ?_) (fun o ho=> ?_) rfl
  ·simp only[qV,dec_lt,hk,bt,aY,aU hk,bp]
   obtain⟨r,hr⟩:=aco (s:=l[k]) (by grind);rw[hr,bp];by_cases h3:r.2≠0
   ·rw[eD h3]
    exact .inr ⟨_,rfl,fun h=>absurd h h3⟩
   ·grind [cA,abo,aH]
  ·simp only[qV,dec_lt,afr,b7,dw,aR,uU]
   exact⟨_,rfl,fun _=>by grind⟩
 simp_all
end
theorem N5:∀{W:List ah} {last:Int},UC W→(∀x∈W,last<x.Key)→(∀x∈W,x.Key<16)→rising last (W.map (·.Key))=true
 |[],_,_,_,_=>rfl
 |x::W,last,ha,hl,hk=>by
  unfold UC at ha;rw[agX] at ha;simp only[ac7,rising,aiq,dI];exact⟨⟨hl x (by simp),hk x (by simp)⟩,N5 ha.2 ha.1 (fun y hy=>hk y (by simp[hy]))⟩
theorem R6{h:af}{n:Int}:∀{rs:List aO} {last:Int},(rs.map (·.Key)).Pairwise (· < ·)→(∀x∈rs,last<x.Key)→(∀x∈rs,x.Key<16)→(∀x∈rs,there h n x=true)→jW h n last rs=true
 |[],_,_,_,_,_=>rfl
 |x::rs,last,ha,hl,hk,ht=>by
  rw[ac7,agX] at ha;simp only[jW,aiq,dI];exact⟨⟨⟨hl x (by simp),hk x (by simp)⟩,ht x (by simp)⟩,R6 ha.2 (fun y hy=>ha.1 _ (aqk hy)) (fun y hy=>hk y (by simp[hy])) (fun y hy=>ht y (by simp[hy]))⟩
def P7(l:List aM)(r:af×Int×Int):Prop:=(r.2.2=0→right r.1=true∧Fits r.1)∧(r.2.2≠0→0≤r.2.1∧r.2.1<l.length)
section
variable {l:List aM} {B:List (ah×aF)} {F:List aZ} {L:List (ah×Bool)}
structure aj7 (l:List aM) (F:List aZ) (v:Nat) (out:List aJ):Prop where
 len:out.length=nm l v
 at':∀i (h:i<l.length),i<v→l[i].gy=true→∃f x,F[i]? =some f∧out[nm l i]? =some x∧P8 l F i l[i] f x
 all:∀n,n<out.length→∃i,i<v∧(∃h:i<l.length,l[i].gy=true)∧nm l i=n
theorem Yr{L:List ah}(h:UC L):(L.map (·.Key)).Pairwise (· < ·):=by
 grind [UC]
theorem aaY(hp:X_ l B F L){out:List aJ}(ho:aj7 l F l.length out):right ⟨out⟩=true∧Fits ⟨out⟩:=by
 have hsm:=hp.small;have hlen:=ho.len;have hn:=ZT (l:=l) l.length;have get:∀n (hn:n<out.length),∃i,∃(h:i<l.length) (f:aZ),l[i].gy=true∧nm l i=n∧F[i]? =some f∧P8 l F i l[i] f out[n]:=fun n hn=>by
  obtain⟨i,_,⟨hi,hd⟩,he⟩:=ho.all n hn;obtain⟨f,x,h1,h2,h3⟩:=ho.at' i hi hi hd;grind
 constructor
 ·unfold right
  simp only[aiq,dI];refine⟨by omega, ?_⟩;rw[FB];refine eD (fun n hn=> ?_);obtain⟨i,hi,f,hd,he,hf,ht⟩:=get n hn;have hface:=(hp.MK i hi f hf).1 hd;unfold J3;rw[ht.aa2,ht.writes];have hs:=hp.aa2 _ (acI hi);simp only[aiq,dI,Nat.zero_add];refine⟨⟨⟨N5 hface.SN (fun x hx=>by have:=hface.WO x hx;omega) (fun x hx=>(hface.WO x hx).2), ?_⟩,hs.1⟩,hs.2⟩;have hkey:∀x∈out[n].Reads,0≤x.Key∧x.Key<16:=fun x hx=>by
   have:x.Key∈out[n].Reads.map (·.Key):=aqk hx;rw[ht.keys] at this;obtain⟨y,hy,e⟩:=List.mem_map.1 this;rw[←e];exact hface.ZD y hy
  refine R6 (by rw[ht.keys];exact Yr hface.Wo) (fun x hx=>by grind) (fun x hx=>(hkey x hx).2) (fun x hx=> ?_);unfold there;rcases ht.jW x hx with h1|⟨j,g,hj,hne,⟨hjl,hdj⟩,hfr,hk⟩
  ·simp[h1]
  ·obtain⟨g',y,h1,h2,h3⟩:=ho.at' j hjl hjl hdj
   have:g'=g:=by grind
   have hlt:nm l j<out.length:=(List.getElem?_eq_some_iff.1 h2).1;simp only[ajm,aiq,dI];right;rw[hfr];refine⟨⟨⟨by omega,by omega⟩,fun e=> ?_⟩, ?_⟩
   ·grind [ahj]
   ·simp only[Int.toNat_natCast,h2,ku]
    rw[h3.writes];grind
 ·refine⟨by grind,fun t ht=> ?_,fun t ht=> ?_⟩
  ·obtain⟨n,hn,rfl⟩:=amt ht
   obtain⟨i,hi,f,hd,he,hf,hx⟩:=get n hn;have:=((hp.MK i hi f hf).1 hd).ZL;rw[hx.writes,List.length_map];omega
  ·obtain⟨n,hn,rfl⟩:=amt ht
   obtain⟨i,hi,f,hd,he,hf,hx⟩:=get n hn;have h1:=((hp.MK i hi f hf).1 hd).adf;have h2:=congrArg ajL hx.keys;grind
theorem sc4(hp:X_ l B F L):∃r,Fc l B F L=some r∧P7 l r:=by
 have hsm:=hp.small;have hlenF:=hp.len;refine cR (fun k out=>aj7 l F k out) _ l.length (aP (by omega)) (fun k out hk ho=> ?_) (fun out ho=> ?_) ⟨by simp[nm],fun i _ h=>by omega,fun n h=>by simp at h⟩
 ·have hkF:k<F.length:=by omega
  have e0:vC l B F L out (k:Int)=if !l[k].gy then rO (k:Int) out else abt (fun(p:(List Int)×Int)=>rN B F L out (k:Int) l[k] F[k] p.1 p.2) ([],0):=by
   simp_all [vC,aU]
  simp only[e0];have hlo:=ho.len;have hnk:=ZT (l:=l) k;cases hd:l[k].gy with
  |false=>
   have hs:=KB hk;rw[hd] at hs;simp only[dw,aR,Nat.add_zero] at hs;refine .inl ⟨out,by grind [rO,abo,aH],by omega,fun i h hi hdi=> ?_,fun n hn=> ?_⟩
   ·rcases aft i k with h1|h1
    ·exact ho.at' i h h1 hdi
    grind
   ·obtain⟨i,h1,h2,h3⟩:=ho.all n hn
    grind
  |true=>
   have hf:F[k]? =some F[k]:=ab9 hkF;have hface:=(hp.MK k hk _ hf).1 hd;have hlW:=hface.ZL;have hb3:abt (fun(p:(List Int)×Int)=>rN B F L out (k:Int) l[k] F[k] p.1 p.2) ([],0)=rP B F L out (k:Int) l[k] (F[k].bA.map (·.Key)):=by
    refine cB (fun j=>(F[k].bA.take j).map (·.Key)) F[k].bA.length _ (aP (by omega)) (fun j hj=> ?_) ?_ (by simp)
    ·simp only[rN,dec_lt,hj,bt,aY,aU hj,bp]
     grind [cA,aH,abo,aoR]
    simp_all [rN]
   rw[hb3];rcases aef hp hk hd hf out (by omega) with⟨x,h1,h2⟩|⟨a,h1,h2,h3,h4⟩
   ·left
    have hs:=KB hk;refine⟨_,h1,by grind,fun i h hi hdi=> ?_,fun n hn=> ?_⟩
    ·rcases aft i k with h5|h5
     ·obtain⟨f,y,g1,g2,g3⟩:=ho.at' i h h5 hdi
      grind
     grind
    ·rcases aft n out.length with h5|h5
     ·obtain⟨i,g1,g2,g3⟩:=ho.all n h5
      grind
     grind
   ·exact .inr ⟨a,h1,fun h=>absurd h h2,fun _=>⟨h3,h4⟩⟩
 ·simp only[vC,dec_lt,afr,b7,dw,aR,Fe]
  exact⟨_,rfl,fun _=>aaY hp ho,fun h=>absurd rfl h⟩
structure af_ (l:List aM) (B:List (ah×aF)) (F:List aZ):Prop where
 small:l.length≤32
 aa2:∀t∈l,0≤t.aI∧t.aI<8
 eN:∀i (h:i<l.length) x,SD l[i] x→Sh.cD x B=some (wrO l i l[i])
 len:F.length=l.length
 MK:∀i (h:i<l.length) f,F[i]? =some f→(l[i].gy=true→uf l[i] 1000 f.Reads f.bA)∧(l[i].gy=false→f=⟨[],[]⟩)
theorem sc3(hp:af_ l B F):∃r,Fb l B F=some r∧P7 l r:=by
 have hsm:=hp.small;have hlenF:=hp.len;refine cR (fun _ (M:List (ah×Bool))=>∀x,(Sh.cD x M).getD false=true→∃(i:Nat) (f:aZ),F[i]? =some f∧x∈f.bA) _ F.length (aP (by omega)) (fun k M hk hM=>.inl ?_) (fun M hM=> ?_) (by simp[Sh.cD])
 ·have hf:F[k]? =some F[k]:=ab9 hk
  have hlW:F[k].bA.length≤1000:=by
   have hkl:k<l.length:=by omega
   have:=hp.MK k hkl _ hf;cases hd:l[k].gy with
   |true=>exact(this.1 hd).ZL
   |false=>grind
  simp only[Az,dec_lt,hk,bt,aY,aU hk,bp];have:=cR (b:=fun(p:(List (ah×Bool))×Int)=>vE (k:Int) F[k] p.1 p.2) (fun _ (M:List (ah×Bool))=>∀x,(Sh.cD x M).getD false=true→∃(i:Nat) (f:aZ),F[i]? =some f∧x∈f.bA) (fun a:(((List (ah×Bool))×Int)⊕(af×Int×Int))=>∃M',a=.inl (M',((k+1:Nat):Int))∧∀x,(Sh.cD x M').getD false=true→∃(i:Nat) (f:aZ),F[i]? =some f∧x∈f.bA) F[k].bA.length (aP (by omega)) (fun j M hj hM=>.inl ?_) (fun M hM=> ?_) (s:=M) hM
  ·grind
  ·simp only[vE,dec_lt,hj,bt,aY,aU hj,bp,abo,aH (k:=j) (by omega)]
   refine⟨_,rfl,fun x hx=> ?_⟩;rw[Cg] at hx;grind
  ·simp only[vE,dec_lt,afr,b7,dw,aR,DR,abo,aH (k:=k) (by omega)]
   exact⟨_,rfl,M,rfl,hM⟩
 ·obtain⟨r,h1,h2⟩:=sc4 (L:=M) ⟨hp.small,hp.aa2,hp.eN,hp.len,hp.MK,hM⟩
  simp_all [Az,aaN]
theorem sc2(hsm:l.length≤32)(hsess:∀t∈l,0≤t.aI∧t.aI<8)(hops:∀t∈l,It t∧t.eo.length≤1000)(hby:∀i (h:i<l.length) x,SD l[i] x→Sh.cD x B=some (wrO l i l[i])):∃r,AA l B=some r∧P7 l r:=by
 unfold AA
 rw[show arA l=((l.length:Nat):Int) from rfl,NO (by omega) (by omega),bp]
 refine cR (fun k (F:List aZ)=>F.length=l.length∧∀i (h:i<l.length) f,F[i]? =some f→(l[i].gy=true→i<k→uf l[i] 1000 f.Reads f.bA)∧((l[i].gy=false∨k≤i)→f=⟨[],[]⟩)) _ l.length (aP (by omega)) (fun k F hk hF=> ?_) (fun F hF=> ?_) ⟨by simp,fun i h f hf=>⟨fun _ h=>by omega,fun _=> ?_⟩⟩
 ·obtain⟨hl,hF⟩:=hF
  have hkF:k<F.length:=by omega
  have e0:vF l B F (k:Int)=if !l[k].gy then mM (k:Int) F else(wP l[k]).bind fun TR=>if decide (TR.2.2≠0) then(ic (k:Int) TR.2.2).bind fun TS=>aaN (some (TS.1,TS.2.1,TS.2.2)) else(aaV F (k:Int)).bind fun awk=>mM (k:Int) (Sh.set F (k:Int) TR.1):=by
   simp_all [vF,aU]
  simp only[e0]
  cases hd:l[k].gy with
  |false=>
   refine .inl ⟨F,by simp only[aqv,aY,mM,abo,aH (k:=k) (by omega)],hl,fun i h f hf=>⟨fun hdi hi=> ?_,fun hor=> ?_⟩⟩
   ·grind
   grind
  |true=>
   have ho:=hops _ (acI hk)
   obtain⟨r,h1,h2⟩:=ahc ho.1 ho.2
   rw[h1,bp]
   by_cases h3:r.2.2=0
   ·rw[dg (by omega)]
    rw[aU hkF,bp,lZ]
    refine .inl ⟨_,by simp only[mM,abo,aH (k:=k) (by omega)];rfl,by simp[hl],fun i h f hf=> ?_⟩
    grind
   ·rw[eD (by omega)]
    exact .inr ⟨_,rfl,fun h5=>absurd h5 h3,fun _=>⟨by grind,by grind⟩⟩
 ·obtain⟨hl,hF⟩:=hF
  obtain⟨r,h1,h2⟩:=sc3 (B:=B) (F:=F) ⟨hsm,hsess,hby,hl,fun i h f hf=>⟨fun hd=>(hF i h f hf).1 hd h,fun hd=>(hF i h f hf).2 (.inl hd)⟩⟩
  simp_all [vF,aaN]
 grind
theorem sc1(hsm:l.length≤32)(hsess:∀t∈l,0≤t.aI∧t.aI<8)(hops:∀t∈l,It t∧t.eo.length≤1000):∃r,Fa l=some r∧P7 l r:=by
 refine jJ (fun k (x:(List (ah×aF))×Int×Int)=>x.2.2=(k:Int)∧x.2.1=(nm l k:Int)∧∀i (h:i<l.length),i<k→∀y,SD l[i] y→Sh.cD y x.1=some (wrO l i l[i])) _ l.length (aP (by omega)) (fun k x hk hx=> ?_) ⟨rfl,by simp[nm],fun i _ h=>by omega⟩;obtain⟨C,m,v⟩:=x;obtain⟨rfl,rfl,hC⟩:=hx;by_cases hkl:k<l.length
 ·have hnk:=ZT (l:=l) k
  have hs:=KB hkl;have e0:vG l C (nm l k:Int) (k:Int)=uc C (k:Int) l[k] (nm l (k+1):Int) (wrO l k l[k]):=by
   simp only[vG,dec_lt,hkl,bt,aY,aU hkl,bp];unfold wrO;cases hd:l[k].gy with
   |true=>
    grind [aH]
   |false=>
    grind
  simp only[e0];unfold uc;have ho:=hops _ (acI hkl);obtain⟨r,h1,h2⟩:=aiB ho.2 (wrO l k l[k]) C;rw[h1,bp];by_cases h3:r.2=0
  ·rw[dg (by omega)]
   refine .inl ⟨_,rfl,⟨aH (by omega),rfl,fun i h hi y hy=> ?_⟩,hkl⟩;grind
  ·rw[eD (by omega)]
   exact .inr ⟨_,rfl,fun h5=>absurd h5 h3,fun _=>⟨by grind,by grind⟩⟩
 ·obtain rfl:k=l.length:=by omega
  obtain⟨r,h1,h2⟩:=sc2 (B:=C) hsm hsess hops (fun i h x hx=>hC i h h x hx);simp_all [vG,aaN]
theorem ao1(t:aM)(hl:t.eo.length≤1000):∃b,G8 t=some b∧(b=true→It t∧0≤t.aI∧t.aI<8):=by
 have:=jJ (b:=fun(p:Int)=>tJ t p) (fun k x=>x=(k:Int)∧∀e∈t.eo.take k,XY e=true∧(e.Kind=1∨e.Kind=2)) (fun b=>b=true→It t∧0≤t.aI∧t.aI<8) t.eo.length (aP (by omega)) (fun k x hk hx=> ?_) (s:=0) ⟨rfl,by simp⟩
 ·exact this
 ·obtain⟨rfl,hall⟩:=hx
  by_cases hkl:k<t.eo.length
  ·have e0:tJ t (k:Int)=if !XY t.eo[k] then ig (k:Int) true else if decide (t.eo[k].Kind≠1) then ig (k:Int) (decide (t.eo[k].Kind≠2)) else ig (k:Int) false:=by
    simp_all [tJ,aU,OF]
   have bad:(∃s',ig (k:Int) true=some (.inl s')∧(s'=((k+1:Nat):Int)∧∀e∈t.eo.take (k+1),XY e=true∧(e.Kind=1∨e.Kind=2))∧k<t.eo.length)∨∃a,ig (k:Int) true=some (.inr a)∧(a=true→It t∧0≤t.aI∧t.aI<8):=.inr ⟨false,rfl,fun h=>by cases h⟩;have ar0:XY t.eo[k]=true→(t.eo[k].Kind=1∨t.eo[k].Kind=2)→(∃s',ig (k:Int) false=some (.inl s')∧(s'=((k+1:Nat):Int)∧∀e∈t.eo.take (k+1),XY e=true∧(e.Kind=1∨e.Kind=2))∧k<t.eo.length)∨∃a,ig (k:Int) false=some (.inr a)∧(a=true→It t∧0≤t.aI∧t.aI<8):=fun h1 h2=>by
    refine .inl ⟨((k+1:Nat):Int),by simp only[ig,dw,aR,abo,aH (k:=k) (by omega)],⟨rfl,fun e he=> ?_⟩,hkl⟩;grind [aoR]
   grind
  ·obtain rfl:k=t.eo.length:=by omega
   rw[aoZ] at hall;have hj:∃b,BR t=some b∧(b=true→It t∧0≤t.aI∧t.aI<8):=by
    unfold BR;by_cases h0:(0:Int)≤t.aI
    ·rw[eD h0]
     exact⟨_,rfl,fun hb=>⟨hall,h0,of_decide_eq_true hb⟩⟩
    simp_all [dg]
   simp_all [tJ,aaN]
theorem aiA(hsm:l.length≤32)(hops:∀t∈l,t.eo.length≤1000):∃r,Bm l=some r∧P7 l r:=by
 unfold Bm;rw[dg (show ¬(32:Int)<arA l by grind)];refine jJ (fun k x=>x=(k:Int)∧∀t∈l.take k,It t∧0≤t.aI∧t.aI<8) _ l.length (aP (by omega)) (fun k x hk hx=> ?_) ⟨rfl,by simp⟩;obtain⟨rfl,hall⟩:=hx;by_cases hkl:k<l.length
 ·obtain⟨b,h1,h2⟩:=ao1 l[k] (hops _ (acI hkl))
  have e0:vH l (k:Int)=if !b then(ic (k:Int) 1).bind fun TT=>aaN (some (TT.1,TT.2.1,TT.2.2)) else abo (bM ((k:Int)+1)):=by
   simp_all [vH,aU]
  simp only[e0];cases b with
  |false=>exact .inr ⟨_,rfl,(fun h5=>by cases h5),fun _=>⟨by grind,by grind⟩⟩
  |true=>
   refine .inl ⟨_,rfl,⟨aH (by omega),fun t ht=> ?_⟩,hkl⟩;rw[aoR,ab9 hkl,apj] at ht;grind
 ·obtain rfl:k=l.length:=by omega
  rw[aoZ] at hall;obtain⟨r,h1,h2⟩:=sc1 hsm (fun t ht=>(hall t ht).2) (fun t ht=>⟨(hall t ht).1,hops t ht⟩);simp_all [vH,aaN]
end
theorem acU{s:List UInt8}(hs:s.length<4294967281):∃r,uj s=some r∧(r.2.2=0→right r.1=true∧Fits r.1):=by
 unfold uj
 obtain⟨d,h1,h2⟩:=acm hs
 rw[h1,bp]
 by_cases h3:d.2.2=0
 ·rw[dg (by omega)]
  obtain⟨g,h4,h5⟩:=acE (l:=d.1) (by omega)
  rw[h4,bp]
  by_cases h6:g.2.2=0
  ·rw[dg (by omega)]
   obtain⟨hg1,hg2⟩:=h5 h6
   obtain⟨r,h7,h8,h9⟩:=aiA hg1 hg2
   by_cases h10:r.2.2=0
   ·grind
   simp_all [wL]
  simp_all
 simp_all
theorem abq{α:Type}{b:Int→Option (Int⊕α)}(P:α→Prop)(s m:Nat)(hsm:s≤m)(hm:m<Sh.s5)(h:∀k:Nat,s≤k→k<m→b (k:Int)=some (.inl ((k+1:Nat):Int))∨∃a,b (k:Int)=some (.inr a)∧P a)(hr:∃a,b (m:Int)=some (.inr a)∧P a):∃a,abt b (s:Int)=some a∧P a:=
 jJ (fun k x=>x=((s+k:Nat):Int)) P (m - s) (by omega) (fun k x hk hx=>by
  by_cases hkm:s+k<m
  ·grind
  grind) rfl
theorem U2{α:Type}{b:Int→Option (Int⊕α)}(P:α→Prop)(m:Nat)(hm:m<Sh.s5)(h:∀k:Nat,k<m→b (k:Int)=some (.inl ((k:Int) - 1))∨∃a,b (k:Int)=some (.inr a)∧P a)(hr:∃a,b (-1)=some (.inr a)∧P a):∃a,abt b ((m:Int) - 1)=some a∧P a:=
 jJ (fun k x=>x=((m:Int) - 1 - k)) P m hm (fun k x hk hx=>by
  by_cases hkm:k<m
  ·have e:(m:Int) - 1 - k=((m - 1 - k:Nat):Int):=by omega
   grind
  grind) (by omega)
section
variable {s:List UInt8}
theorem adO(c:Int):∃b,oW c=some b:=by
 unfold oW;split <;> exact⟨_,rfl⟩
theorem ah9(hs:s.length≤2000):∃r,qB s 0=some r:=by
 have hj1:∃r,abt (fun(p:Int)=>ng s 0 p) ((0:Nat):Int)=some r∧True:=by
  have j2:∀k:Nat,k≤s.length→∃r,rj s 0 (k:Int)=some r:=fun k hk=>by
   have j3:∀v,∃r,jM s 0 (k:Int) v=some r:=fun v=>by
    unfold jM;cases v with
    |true=>grind
    |false=>
     have:=cR (b:=fun(p:Int×Int)=>m_ s (k:Int) p.1 p.2) (fun _ _=>True) (fun _=>True) k (aP (by omega)) (fun i n hi _=> ?_) (fun n _=> ?_) (s:=0) trivial
     ·grind
     ·have hil:i<s.length:=by omega
      simp only[m_,dec_lt,hi,bt,aY,aU hil,bp,Sh.EK];split
      ·exact .inr ⟨_,rfl,trivial⟩
      ·exact .inl ⟨_,by simp only[abo,aH (k:=i) (by omega)];rfl,trivial⟩
     ·simp only[m_,aqg,b7,dw,aR,xI]
      exact⟨_,rfl,trivial⟩
   unfold rj;split
   ·exact j3 _
   ·split
    ·rename_i h
     have h:=of_decide_eq_true h;rw[show bM ((0:Int)+1)=1 from rfl] at h;rw[show aaV s 0=some (s[0]'(by omega)) from aU (k:=0) (by omega),bp];exact j3 _
    ·exact j3 _
  refine abq _ 0 s.length (by omega) (aP (by omega)) (fun k _ hk=> ?_) ?_
  ·obtain⟨b,hb⟩:=adO (((s[k]).toNat:Nat):Int)
   simp only[ng,dec_lt,hk,bt,aY,aU hk,bp,hb,nh];cases b with
   |true=>exact .inl (by simp only[aY,abo,aH (k:=k) (by omega)])
   |false=>
    obtain⟨r,h⟩:=j2 k (by omega);simp_all [aaN]
  simp_all [ng,nh,aaN]
 unfold qB;rw[show decide ((0:Int)<0)=false from rfl,dg (show ¬arA s<0 by grind)];simp_all [ri]
theorem adP(hs:s.length≤2000):∃r,oZ s=some r:=by
 unfold oZ;obtain⟨r,h⟩:=ah9 hs;rw[h,bp];split
 ·grind
 ·split <;> exact⟨_,rfl⟩
theorem adS(hs:s.length≤2000):∃r,lK s=some r∧(r.2=0→r.1.length≤400∧∀x∈r.1,x.length≤2000):=by
 have j1:∀v,∃r,l7 s v=some r∧(r.2=0→r.1.length≤400∧∀x∈r.1,x.length≤2000):=fun v=>by
  unfold l7;cases v with
  |true=>grind
  |false=>
   refine jJ (fun k (x:(List (List UInt8))×Int×Int)=>∃f:Nat,x.2.1=(f:Int)∧f≤k∧x.2.2=(k:Int)∧x.1.length≤k∧∀y∈x.1,y.length≤2000) _ s.length (aP (by omega)) (fun k x hk hx=> ?_) ⟨0,rfl,by omega,rfl,by simp,by simp⟩;obtain⟨out,fr,v⟩:=x;obtain⟨f,rfl,h1,rfl,h2,h3⟩:=hx;simp only at h1 h2 h3;by_cases hkl:k<s.length
   ·left
    have go:∀(out':List (List UInt8)) (f':Nat),f'≤k+1→out'.length≤k+1→(∀y∈out',y.length≤2000)→∃s',gT (k:Int) out' (f':Int)=some (.inl s')∧(∃f:Nat,s'.2.1=(f:Int)∧f≤k+1∧s'.2.2=((k+1:Nat):Int)∧s'.1.length≤k+1∧∀y∈s'.1,y.length≤2000)∧k<s.length:=fun out' f' a b c=>⟨(out',(f':Int),((k+1:Nat):Int)),by grind [gT,abo,aH],⟨f',rfl,a,rfl,b,c⟩,hkl⟩;have e0:jq s out (f:Int) (k:Int)=if decide (((s[k]).toNat:Int)=10) then(abH s (f:Int) (k:Int)).bind fun ES=>(abz 16 out [ES]).bind fun Rm=>gT (k:Int) Rm (bM ((k:Int)+1)) else gT (k:Int) out (f:Int):=by
     simp_all [jq,aU]
    simp only[e0];split
    ·rw[sY h1 hk,bp,cA (by grind),bp,aH (k:=k) (by omega)]
     exact go _ _ (afk _) (by grind) (fun y hy=>by
      grind)
    ·exact go _ _ (by omega) (by omega) h3
   ·obtain rfl:k=s.length:=by omega
    right;have e0:jq s out (f:Int) (s.length:Int)=aaN (qf out):=by
     simp_all [jq]
    simp only[e0,qf];split
    ·exact⟨_,rfl,fun h=>by simp at h⟩
    ·have h:=of_decide_eq_false (by grind:decide ((400:Int)<arA out)=false)
     exact⟨_,rfl,fun _=>⟨by grind,h3⟩⟩
 unfold lK;by_cases h:(0:Int)<arA s
 ·rw[eD h]
  simp only[arA] at h;have e:bM (arA s - 1)=((s.length - 1:Nat):Int):=by grind [dM]
  rw[e,aU (show s.length - 1<s.length by omega),bp];exact j1 _
 simp_all
theorem aif(c:Int):∃b,qC c=some b:=by
 unfold qC;split <;> exact⟨_,rfl⟩
theorem adT(hs:s.length≤2000):∃r,o4 s=some r∧(r.2=0→0<r.1.length∧∀x∈r.1,x.length≤2000):=by
 refine jJ (fun k (x:(List (List UInt8))×Int)=>∃a:Nat,x.2=(a:Int)∧k≤a∧a≤s.length∧x.1.length≤k∧∀y∈x.1,y.length≤2000) _ s.length (aP (by omega)) (fun k x hk hx=> ?_) ⟨0,rfl,by omega,by omega,by simp,by simp⟩;obtain⟨out,v⟩:=x;obtain⟨a,rfl,h1,h2,h3,h4⟩:=hx;have j2:∀to:Nat,a≤to→to≤s.length→(∃s',l_ s out (a:Int) (to:Int)=some (.inl s')∧(∃a:Nat,s'.2=(a:Int)∧k+1≤a∧a≤s.length∧s'.1.length≤k+1∧∀y∈s'.1,y.length≤2000)∧k<s.length)∨∃r,l_ s out (a:Int) (to:Int)=some (.inr r)∧(r.2=0→0<r.1.length∧∀x∈r.1,x.length≤2000):=fun to g1 g2=>by
  unfold l_;split
  ·exact .inr ⟨_,rfl,fun h=>by simp at h⟩
  ·rw[sY g1 g2,bp,cA (by grind),bp]
   have hrows:∀y∈out++[List.take (to - a) (List.drop a s)],y.length≤2000:=fun y hy=>by
    grind
   split
   ·unfold vW
    split
    ·exact .inr ⟨_,rfl,fun h=>by simp at h⟩
    ·exact .inr ⟨_,rfl,fun _=>⟨by simp,hrows⟩⟩
   ·have hlt:to<s.length:=by
     grind
    rw[aU hlt,bp];split
    ·exact .inr ⟨_,rfl,fun h=>by simp at h⟩
    ·exact .inl ⟨_,rfl,⟨to+1,aH (by omega),by omega,by omega,by grind,hrows⟩,by omega⟩
 have:=abq (b:=fun(p:Int)=>gU s out (a:Int) p) (fun q:((List (List UInt8))×Int)⊕((List (List UInt8))×Int)=>(∃s',q=.inl s'∧(∃a:Nat,s'.2=(a:Int)∧k+1≤a∧a≤s.length∧s'.1.length≤k+1∧∀y∈s'.1,y.length≤2000)∧k<s.length)∨∃r,q=.inr r∧(r.2=0→0<r.1.length∧∀x∈r.1,x.length≤2000)) a s.length h2 (aP (by omega)) (fun to g1 g2=> ?_) ?_
 ·unfold vV
  obtain⟨q,g1,g2⟩:=this;simp_all
 ·obtain⟨b,hb⟩:=aif (((s[to]).toNat:Nat):Int)
  have e0:gU s out (a:Int) (to:Int)=gV s out (a:Int) (to:Int) b:=by
   simp_all [gU,aU]
  simp only[e0,gV];cases b with
  |true=>exact .inl (by simp only[aY,abo,aH (k:=to) (by omega)])
  |false=>
   right;rcases j2 to g1 (by omega) with⟨s',q1,q2⟩|⟨r,q1,q2⟩
   ·exact⟨.inl s',by simp[q1,aaN],.inl ⟨s',rfl,q2⟩⟩
   ·exact⟨.inr r,by simp[q1,aaN],.inr ⟨r,rfl,q2⟩⟩
 ·have e0:gU s out (a:Int) (s.length:Int)=gV s out (a:Int) (s.length:Int) false:=by
   simp_all [gU]
  simp only[e0,gV];rcases j2 s.length h2 (afk _) with⟨s',q1,q2⟩|⟨r,q1,q2⟩
  ·exact⟨.inl s',by simp[q1,aaN],.inl ⟨s',rfl,q2⟩⟩
  ·exact⟨.inr r,by simp[q1,aaN],.inr ⟨r,rfl,q2⟩⟩
theorem aij(k:Int):∃w,qD k=some w:=by
 unfold qD
 repeat' (first|exact⟨_,rfl⟩|split)
theorem adX(hs:s.length≤2000):∃r,o5 s=some r:=by
 unfold o5;obtain⟨⟨l,e⟩,h,h2⟩:=adT hs;rw[h,bp];by_cases he:e=0
 ·obtain⟨hp,hx⟩:=h2 he
  rw[dg (by omega)];have j3:∀(kd:Int) (m:Nat) (v:Bool),m≤4→1≤m→(v=false→l.length=m)→∃r,me (l,e) kd v=some r:=fun kd m v hm hm1 hv=>by
   unfold me;cases v with
   |true=>grind
   |false=>
    have hl:=hv rfl;have:=jJ (b:=fun(p:(List Int)×Int)=>gW (l,e) kd p.1 p.2) (fun k (x:(List Int)×Int)=>x.2=((k+1:Nat):Int)∧x.1.length=3) (fun _=>True) (m - 1) (aP (by omega)) (fun k x hk hx=> ?_) (s:=([0,0,0],1)) ⟨rfl,rfl⟩
    ·grind
    ·obtain⟨n,i⟩:=x
     obtain⟨rfl,hn⟩:=hx;simp only at hn;by_cases hkl:k+1<l.length
     ·obtain⟨r,hr⟩:=adP (s:=l[k+1]) (hx _ (acI hkl))
      have hk3:k<n.length:=by omega
      have e1:bM (((k+1:Nat):Int) - 1)=(k:Int):=by grind [dM]
      have e0:gW (l,e) kd n ((k+1:Nat):Int)=if decide (r.2≠0) then aaN (some ((an.mk 0 0 0 0),r.2)) else abo (Sh.set n (k:Int) r.1,bM (((k+1:Nat):Int)+1)):=by
       simp only[gW,dec_lt,hkl,bt,aY,aU hkl,bp,hr,e1,aU hk3]
      simp only[e0];split
      ·exact .inr ⟨_,rfl,trivial⟩
      ·exact .inl ⟨_,rfl,⟨aH (by omega),by simp_all⟩,by omega⟩
     ·have e0:gW (l,e) kd n ((k+1:Nat):Int)=aaN (mg kd n):=by
       simp only[gW,dec_lt,hkl,b7,dw,aR]
      have j5:∀v,∃r,mh kd n v=some r:=fun v=>by
       unfold mh;cases v with
       |true=>grind
       |false=>
        simp_all [aaV]
      have j4:∃r,mg kd n=some r:=by
       unfold mg;rw[show aaV n 0=some (n[0]'(by omega)) from aU (k:=0) (by omega),bp,show aaV n 1=some (n[1]'(by omega)) from aU (k:=1) (by omega)];split <;> exact j5 _
      simp_all [aaN]
  have j2:∀(kd:Int) (m:Nat),m≤4→1≤m→∃r,mc (l,e) kd (m:Int)=some r:=fun kd m hm hm1=>by
   unfold mc;split
   ·exact j3 _ m _ hm hm1 (fun h=>by cases h)
   ·exact j3 _ m _ hm hm1 (fun h=>by grind)
  have j6:∀(kd:Int) (v:Bool),∃r,qh (l,e) kd v=some r:=fun kd v=>by
   cases v with
   |true=>exact j2 kd 4 (by omega) (by omega)
   |false=>exact j2 kd 2 (by omega) (by omega)
  have j1:∀kd,∃r,qg (l,e) kd=some r:=fun kd=>by
   unfold qg;split <;> exact j6 _ _
  have:=cR (b:=fun(p:Int×Int)=>mb (l,e) p.1 p.2) (fun _ _=>True) (fun _=>True) 5 (by decide) (fun k v hk _=>.inl ?_) (fun v _=> ?_) (s:= -1) trivial
  ·grind
  ·obtain⟨w,hw⟩:=aij (k:Int)
   simp only[mb,eD (show(k:Int)<5 by omega),aY,hw,bp];rw[show aaV l 0=some (l[0]'(by omega)) from aU (k:=0) (by omega),bp];unfold qi;simp only[abo,aH (k:=k) (by omega)];split <;> exact⟨_,rfl,trivial⟩
  simp_all [mb,aaN]
 simp_all
theorem ad0(hs:s.length≤2000):∃r,lM s=some r∧(r.2.2=0→r.1.length≤400):=by
 unfold lM;obtain⟨⟨l,e⟩,h,h2⟩:=adS hs;rw[h,bp];by_cases he:e=0
 ·obtain⟨hp,hx⟩:=h2 he
  simp only at hp hx;rw[dg (by omega)];refine cR (fun k (o:List an)=>o.length=k) _ l.length (aP (by omega)) (fun k o hk ho=> ?_) (fun o ho=> ?_) rfl
  ·simp only[qj,dec_lt,hk,bt,aY,aU hk,bp]
   obtain⟨r,hr⟩:=adX (s:=l[k]) (hx _ (acI hk));rw[hr,bp];by_cases h3:r.2≠0
   ·rw[eD h3]
    exact .inr ⟨_,rfl,fun h=>absurd h h3⟩
   ·grind [cA,abo,aH]
  ·simp only[qj,dec_lt,afr,b7,dw,aR,vX]
   exact⟨_,rfl,fun _=>by grind⟩
 simp_all
end
theorem atJ(n:Int):∃b,tV n=some b:=by
 unfold tV;split <;> exact⟨_,rfl⟩
theorem Pr(e:an):∃b,iw e=some b:=by
 have j2:∀v,∃b,mj e v=some b:=fun v=>by
  obtain⟨b,hb⟩:=atJ e.Value;unfold mj;grind
 have j1:∀v,∃b,gX e v=some b:=fun v=>by
  unfold gX
  repeat' (first|exact⟨_,rfl⟩|exact j2 _|split)
 unfold iw
 repeat' (first|exact j1 _|split)
theorem aik{l:List aq}(hl:l.length≤1000)(ss:Int):∃r,ni l ss=some r∧(0≤r→r<l.length):=by
 unfold ni;have e:bM (arA l - 1)=(l.length:Int) - 1:=dM (by grind) (by grind);rw[e];refine U2 _ l.length (aP (by omega)) (fun k hk=> ?_) ?_
 ·simp only[xJ,eD (show(0:Int)≤(k:Int) by omega),aY,aU hk,bp]
  split
  ·exact .inr ⟨_,rfl,fun _=>by omega⟩
  grind [abo,dM]
 ·exact⟨_,rfl,fun h=>by omega⟩
structure G5 (k:Nat) (out:List aq) (op:List Bool):Prop where
 len:out.length≤32
 same:op.length=out.length
 ops:∀t∈out,t.eo.length≤k
theorem ad1{l:List an}(hl:l.length≤1000):∃r,iy l=some r∧(r.2.2=0→r.1.length≤32∧∀t∈r.1,t.eo.length≤1000):=by
 refine jJ (fun k (x:(List aq)×(List Bool)×Int)=>x.2.2=(k:Int)∧G5 k x.1 x.2.1) _ l.length (aP (by omega)) (fun k x hk hx=> ?_) ⟨rfl,by simp,rfl,by simp⟩;obtain⟨out,op,v⟩:=x;obtain⟨rfl,h1,h2,h3⟩:=hx;simp only at h1 h2 h3;by_cases hkl:k<l.length
 ·have err:∀(n:Int),n≠0→(∃s',aaN (σ:=(List aq)×(List Bool)×Int) (some (([]:List aq),(k:Int),n))=some (.inl s')∧(s'.2.2=((k+1:Nat):Int)∧G5 (k+1) s'.1 s'.2.1)∧k<l.length)∨∃a,aaN (σ:=(List aq)×(List Bool)×Int) (some (([]:List aq),(k:Int),n))=some (.inr a)∧(a.2.2=0→a.1.length≤32∧∀t∈a.1,t.eo.length≤1000):=fun n hn=>.inr ⟨_,rfl,fun h=>absurd h hn⟩
  have go:∀(op':List Bool) (out':List aq),G5 (k+1) out' op'→(∃s',eZ (k:Int) out' op'=some (.inl s')∧(s'.2.2=((k+1:Nat):Int)∧G5 (k+1) s'.1 s'.2.1)∧k<l.length)∨∃a,eZ (k:Int) out' op'=some (.inr a)∧(a.2.2=0→a.1.length≤32∧∀t∈a.1,t.eo.length≤1000):=fun op' out' h=>.inl ⟨(out',op',((k+1:Nat):Int)),by grind [eZ,abo,aH],⟨rfl,h⟩,hkl⟩;obtain⟨b,hb⟩:=Pr l[k];obtain⟨q,hq,hq2⟩:=aik (l:=out) (by omega) l[k].aI;have j4:∀v,0≤q→(∃s',fT out op (k:Int) l[k] q v=some (.inl s')∧(s'.2.2=((k+1:Nat):Int)∧G5 (k+1) s'.1 s'.2.1)∧k<l.length)∨∃a,fT out op (k:Int) l[k] q v=some (.inr a)∧(a.2.2=0→a.1.length≤32∧∀t∈a.1,t.eo.length≤1000):=fun v h0=>by
   obtain⟨p,rfl⟩:∃p:Nat,q=(p:Int):=⟨q.toNat,by omega⟩;have hp:p<out.length:=by omega
   have hp2:p<op.length:=by omega
   have hset:∀(t':aq) (op':List Bool),t'.eo.length≤k+1→op'.length=out.length→G5 (k+1) (out.set p t') op':=fun t' op' a b=>⟨by grind,by simp[b],fun t ht=>by
    grind⟩
   unfold fT;cases v with
   |true=>
    simp only[aY,aU hp,bp,lZ];rw[cA (by grind),bp];exact go _ _ (hset _ _ (by grind) h2)
   |false=>
    simp only[dw,aR,aU hp,aU hp2,bp,lZ];exact go _ _ (hset _ _ (by grind) (by simp[h2]))
  have j3:∀v,(v=true→0≤q)→(∃s',eE out op (k:Int) l[k] q v=some (.inl s')∧(s'.2.2=((k+1:Nat):Int)∧G5 (k+1) s'.1 s'.2.1)∧k<l.length)∨∃a,eE out op (k:Int) l[k] q v=some (.inr a)∧(a.2.2=0→a.1.length≤32∧∀t∈a.1,t.eo.length≤1000):=fun v hv=>by
   unfold eE;by_cases h0:l[k].Kind=0
   ·rw[eD h0]
    cases v with
    |true=>simp_all
    |false=>
     by_cases h5:arA out=32
     ·simp_all
     ·rw[dg h5]
      rw[cA (by grind),bp,cA (by grind),bp];exact go _ _ ⟨by grind,by simp[h2],fun t ht=>by
       grind⟩
   ·rw[dg h0]
    cases v with
    |false=>simp_all
    |true=>
     cases decide (l[k].Kind=1) with
     |true=>simp_all
     |false=>exact j4 _ (hv rfl)
  have e0:fS l out op (k:Int)=if !b then aaN (some ([],(k:Int),1)) else if decide ((0:Int)≤q) then(aaV op q).bind fun XR=>eE out op (k:Int) l[k] q XR else eE out op (k:Int) l[k] q false:=by
   simp_all [fS,aU]
  simp only[e0];cases b with
  |false=>simp_all
  |true=>
   by_cases h0:(0:Int)≤q
   ·rw[eD h0]
    rw[wL h0 (by omega),bp];exact j3 _ (fun _=>h0)
   simp_all [dg]
 ·obtain rfl:k=l.length:=by omega
  right;have e0:fS l out op (l.length:Int)=aaN (mo out):=by
   simp_all [fS]
  simp only[e0];exact⟨_,rfl,fun _=>⟨h1,fun t ht=>by grind⟩⟩
section
variable {l:List an}
theorem Pt(hl:l.length≤1000){i:Nat}(hi:i≤l.length)(kd key:Int):∃r,jE l (i:Int) kd key=some r∧(0≤r→r<i):=by
 unfold jE;rw[dM (n:=(i:Int) - 1) (by omega) (by omega)];refine U2 _ i (aP (by omega)) (fun k hk=> ?_) ?_
 ·have hkl:k<l.length:=by omega
  have j2:∀v,jr (k:Int) v=some (.inl ((k:Int) - 1))∨∃a,jr (k:Int) v=some (.inr a)∧(0≤a→a<(i:Int)):=fun v=>by
   unfold jr;cases v with
   |true=>exact .inr ⟨_,rfl,fun _=>by omega⟩
   |false=>exact .inl (by simp only[dw,aR,abo];grind [dM])
  simp only[vY,eD (show(0:Int)≤(k:Int) by omega),aY,aU hkl,bp];grind
 ·exact⟨_,rfl,fun h=>by omega⟩
theorem ad3(hl:l.length≤1000){i:Nat}(hi:i<l.length):∃r,o6 l (i:Int)=some r:=by
 have j1:∀v,∃r,js l (i:Int) v=some r:=fun v=>by
  unfold js;cases v with
  |true=>grind
  |false=>
   obtain⟨a,ha,ha2⟩:=Pt hl (aqq hi) 2 l[i].Key;obtain⟨c,hc,MO⟩:=Pt hl (aqq hi) 1 l[i].Key;simp only[dw,aR,aU hi,bp,ha,hc];split
   ·grind
   ·by_cases h0:(0:Int)≤a
    ·rw[wL h0 (by omega),bp]
     grind
    ·by_cases h1:(0:Int)≤c
     ·rw[wL h1 (by omega),bp]
      grind
     ·rw[aH (k:=i) (by omega)]
      have:=abq (b:=fun(p:Int)=>mq l (i:Int) p) (fun _=>True) (i+1) l.length (by omega) (aP (by omega)) (fun k _ hk=> ?_) ?_
      ·grind
      ·have j3:∀v,gY (k:Int) v=some (.inl ((k+1:Nat):Int))∨∃a,gY (k:Int) v=some (.inr a)∧True:=fun v=>by
        unfold gY;cases v with
        |true=>exact .inr ⟨_,rfl,trivial⟩
        |false=>exact .inl (by simp only[dw,aR,abo,aH (k:=k) (by omega)])
       simp only[mq,dec_lt,hk,bt,aY,aU hk,aU hi,bp];grind
      ·simp only[mq,dec_lt,afr,b7,dw,aR,vZ]
       exact⟨_,rfl,trivial⟩
 unfold o6;obtain⟨b,hb⟩:=Pr l[i];simp only[aU hi,bp,hb];cases b with
 |false=>exact j1 true
 |true=>
  simp only[apS,dw,aR];split <;> exact j1 _
theorem TP(hl:l.length≤1000):∃r,j7 l=some r∧r.1.Reads.length≤16∧r.1.bA.length≤16:=by
 have J1:∃r,xK l=some r∧r.1.Reads.length≤16∧r.1.bA.length≤16:=by
  refine jJ (fun k (x:(List aC)×(List aC)×Int)=>x.2.2=(k:Int)∧x.1.length≤k∧x.2.1.length≤k) _ 16 (by decide) (fun k x hk hx=> ?_) ⟨rfl,by simp,by simp⟩;obtain⟨R,W,v⟩:=x;obtain⟨rfl,h1,h2⟩:=hx;by_cases ash:k<16
  ·have go:∀(R' W':List aC),R'.length≤k+1→W'.length≤k+1→∃s',nj (k:Int) R' W'=some (.inl s')∧(s'.2.2=((k+1:Nat):Int)∧s'.1.length≤k+1∧s'.2.1.length≤k+1)∧k<16:=fun R' W' a b=>⟨(R',W',((k+1:Nat):Int)),by grind [nj,abo,aH],⟨rfl,a,b⟩,ash⟩
   have j5:∀(R':List aC),R'.length≤k+1→∃s',nr l W (k:Int) R'=some (.inl s')∧(s'.2.2=((k+1:Nat):Int)∧s'.1.length≤k+1∧s'.2.1.length≤k+1)∧k<16:=fun R' hR=>by
    unfold nr;obtain⟨a,ha,ha2⟩:=Pt hl (afk _) 2 (k:Int);rw[show arA l=((l.length:Nat):Int) from rfl,ha,bp];by_cases h0:(0:Int)≤a
    ·rw[wL h0 (by omega),bp,cA (by grind),bp]
     simp_all
    grind
   have j6:∀(f:Int) (v:Bool),(v=true→0≤f∧f<l.length)→∃s',nt l R W (k:Int) f v=some (.inl s')∧(s'.2.2=((k+1:Nat):Int)∧s'.1.length≤k+1∧s'.2.1.length≤k+1)∧k<16:=fun f v hv=>by
    unfold nt;cases v with
    |true=>
     obtain⟨a,b⟩:=hv rfl;rw[wL a b,bp,cA (by grind),bp];simp_all
    |false=>grind
   have j4:∀(f:Int),(0≤f→f<l.length)→∃s',nk l R W (k:Int) f=some (.inl s')∧(s'.2.2=((k+1:Nat):Int)∧s'.1.length≤k+1∧s'.2.1.length≤k+1)∧k<16:=fun f hf=>by
    unfold nk;by_cases h0:(0:Int)≤f
    ·have:=hf h0
     rw[eD h0];rw[wL h0 this,bp];exact j6 _ _ (fun _=>⟨h0,this⟩)
    simp_all [dg]
   have:=jJ (b:=fun(p:Int×Int)=>gG l R W (k:Int) p.1 p.2) (fun j (x:Int×Int)=>x.2=((l.length:Int) - 1 - j)∧(0≤x.1→x.1<l.length)) (fun a:(((List aC)×(List aC)×Int)⊕(bg×Int×Int))=>∃s',a=.inl s'∧(s'.2.2=((k+1:Nat):Int)∧s'.1.length≤k+1∧s'.2.1.length≤k+1)∧k<16) l.length (aP (by omega)) (fun j x hj hx=> ?_) (s:=(-1,bM (arA l - 1))) ⟨by rw[dM (by grind) (by grind)];grind,fun h=>by omega⟩
   ·have e0:rq l R W (k:Int)=abt (fun(p:Int×Int)=>gG l R W (k:Int) p.1 p.2) (-1,bM (arA l - 1)):=by
     grind [rq]
    grind
   ·obtain⟨f,i⟩:=x
    obtain⟨rfl,hf⟩:=hx;by_cases hjl:j<l.length
    ·have e:(l.length:Int) - 1 - j=((l.length - 1 - j:Nat):Int):=by omega
     have hq:l.length - 1 - j<l.length:=by omega
     have e0:gG l R W (k:Int) f ((l.length:Int) - 1 - j)=if decide (l[l.length - 1 - j].Key=(k:Int)) then iH ((l.length - 1 - j:Nat):Int) ((l.length - 1 - j:Nat):Int) else iH ((l.length - 1 - j:Nat):Int) f:=by
      simp_all [gG,aU]
     simp only[e0];have e2:bM (((l.length - 1 - j:Nat):Int) - 1)=(l.length:Int) - 1 - ((j+1:Nat):Int):=by grind [dM]
     split
     ·simp_all [iH,abo]
     simp_all [iH,abo]
    ·obtain rfl:j=l.length:=by omega
     right;obtain⟨s',g1,g2⟩:=j4 f hf;have e0:gG l R W (k:Int) f ((l.length:Int) - 1 - l.length)=aaN (nk l R W (k:Int) f):=by
      grind [gG]
     simp only[e0,g1];exact⟨_,rfl,s',rfl,g2⟩
  ·obtain rfl:k=16:=by omega
   right;exact⟨_,rfl,h1,h2⟩
 refine jK _ l.length (aP (by omega)) (fun k hk=> ?_) ?_
 ·obtain⟨r,hr⟩:=ad3 hl hk
  simp only[ru,dec_lt,hk,bt,aY,hr,bp];split
  ·exact .inr ⟨_,rfl,by simp,by simp⟩
  grind [abo,aH]
 simp_all [ru,aaN]
end
section
variable {l:List aq}
def T5(l:List aq):Prop:=l.length≤32∧∀t∈l,t.eo.length≤1000
theorem aoS{t:aq}(ht:t.eo.length≤1000):∃b,sx t=some b:=by
 unfold sx;have:=jK (b:=fun(p:Int)=>nW t p) (fun _=>True) t.eo.length (aP (by omega)) (fun k hk=> ?_) ?_
 ·grind
 ·have j2:∀v,iZ (k:Int) v=some (.inl ((k+1:Nat):Int))∨∃a,iZ (k:Int) v=some (.inr a)∧True:=fun v=>by
   unfold iZ;cases v with
   |true=>exact .inr ⟨_,rfl,trivial⟩
   |false=>exact .inl (by simp only[dw,aR,abo,aH (k:=k) (by omega)])
  obtain⟨b,hb⟩:=Pr t.eo[k];simp only[nW,dec_lt,hk,bt,aY,aU hk,bp,hb];grind
 ·have:∃b,sQ t=some b:=by unfold sQ;split <;> exact⟨_,rfl⟩
  simp_all [nW,aaN]
theorem L7{t:aq}(ht:t.eo.length≤1000){m:Nat}(hm:m≤t.eo.length)(key v:Int):∃n,i_ t (m:Int) key v=some n:=by
 unfold i_;have:=cR (b:=fun(p:Int×Int)=>kU t (m:Int) key v p.1 p.2) (fun _ _=>True) (fun _=>True) m (aP (by omega)) (fun k n hk _=>.inl ?_) (fun n _=> ?_) (s:=0) trivial
 ·grind
 ·have hkl:k<t.eo.length:=by omega
  have j2:∀n,∃s',kV (k:Int) n=some (.inl (s',((k+1:Nat):Int)))∧True:=fun n=>⟨n,by grind [kV,abo,aH],trivial⟩;have j3:∀b,∃s',iV n (k:Int) b=some (.inl (s',((k+1:Nat):Int)))∧True:=fun b=>by
   unfold iV;split <;> exact j2 _
  simp only[kU,dec_lt,hk,bt,aY,aU hkl,bp];split
  ·split <;> exact j3 _
  ·exact j3 _
 ·simp only[kU,aqg,b7,dw,aR,vj]
  exact⟨_,rfl,trivial⟩
theorem aaM(hl:T5 l){a:Nat}(ha:a<l.length):∃n,nX l (a:Int)=some n:=by
 have hT:=hl.2 _ (acI ha);have WK:=hl.1;unfold nX;have:=jK (b:=fun(p:Int)=>kR l (a:Int) p) (fun _=>True) l[a].eo.length (aP (by omega)) (fun i hi=> ?_) ?_
 ·grind
 ·have j2:kT (i:Int)=some (.inl ((i+1:Nat):Int)):=by grind [kT,abo,aH]
  obtain⟨w,hw⟩:=L7 hT (m:=i) (by omega) l[a].eo[i].Key l[a].eo[i].Value;simp only[kR,aU ha,bp,dec_lt,hi,bt,aY,aU hi,hw,j2];split
  ·grind
  ·split
   ·exact .inr ⟨_,rfl,trivial⟩
   ·have:=cR (b:=fun(p:Int×Int)=>kS l (a:Int) (i:Int) l[a].eo[i] p.1 p.2) (fun _ _=>True) (fun q:(Int)⊕(Int)=>q=.inl ((i+1:Nat):Int)∨∃c,q=.inr c) a (aP (by omega)) (fun k n hk _=>.inl ?_) (fun n _=> ?_) (s:=w) trivial
    ·grind
    ·have hkl:k<l.length:=by omega
     obtain⟨w2,Vj⟩:=L7 (hl.2 _ (acI hkl)) (afk _) l[a].eo[i].Key l[a].eo[i].Value;simp only[kS,dec_lt,hk,bt,aY,aU hkl,bp];rw[show arA l[k].eo=((l[k].eo.length:Nat):Int) from rfl,Vj,bp];exact⟨_,by simp only[abo,aH (k:=k) (by omega)];rfl,trivial⟩
    ·simp only[kS,aqg,b7,dw,aR,vi,j2]
     split
     ·exact⟨_,rfl,.inr ⟨_,rfl⟩⟩
     ·exact⟨_,rfl,.inl rfl⟩
 ·simp only[kR,aU ha,bp,dec_lt,afr,b7,dw,aR,vh]
  exact⟨_,rfl,trivial⟩
theorem aaL(hl:T5 l){a:Nat}(ha:a≤l.length):∃n,nV l (a:Int)=some n:=by
 have WK:=hl.1;unfold nV;have:=cR (b:=fun(p:Int×Int)=>kQ l (a:Int) p.1 p.2) (fun _ _=>True) (fun _=>True) a (aP (by omega)) (fun k n hk _=>.inl ?_) (fun n _=> ?_) (s:=0) trivial
 ·grind
 ·have hkl:k<l.length:=by omega
  simp only[kQ,dec_lt,hk,bt,aY,aU hkl,bp,o7,abo,aH (k:=k) (by omega)];split <;> exact⟨_,rfl,trivial⟩
 ·simp only[kQ,aqg,b7,dw,aR,vg]
  exact⟨_,rfl,trivial⟩
theorem aio(hl:T5 l)(key v:Int):∃r,qE l key v=some r:=by
 have WK:=hl.1;unfold qE;split
 ·grind
 ·have:=jK (b:=fun(p:Int)=>jN l key v p) (fun _=>True) l.length (aP (by omega)) (fun k hk=> ?_) ?_
  ·grind
  ·have hT:=hl.2 _ (acI hk)
   obtain⟨w,hw⟩:=L7 hT (afk _) key v;obtain⟨r,hr,MQ,hr2⟩:=TP hT;obtain⟨n,hn⟩:=aaL hl (aqq hk);have e0:jN l key v (k:Int)=if decide (w=0) then rz (k:Int) else if !l[k].gy then aaN (some (0,13)) else abt (fun(p:Int)=>jO l key v (k:Int) r p) 0:=by
    simp_all [jN,aU]
   simp only[e0];split
   ·grind [rz,abo,aH]
   ·split
    ·exact .inr ⟨_,rfl,trivial⟩
    ·have:=jK (b:=fun(p:Int)=>jO l key v (k:Int) r p) (fun q:(Int)⊕(Int×Int)=>∃c,q=.inr c) r.1.bA.length (aP (by omega)) (fun j hj=> ?_) ?_
     ·grind
     ·have j4:∀b,jP (j:Int) b=some (.inl ((j+1:Nat):Int))∨∃a,jP (j:Int) b=some (.inr a)∧∃c,a=.inr c:=fun b=>by
       unfold jP;cases b with
       |true=>exact .inr ⟨_,rfl,_,rfl⟩
       |false=>exact .inl (by simp only[dw,aR,abo,aH (k:=j) (by omega)])
      simp only[jO,dec_lt,hj,bt,aY,aU hj,bp];grind
     ·simp only[jO,dec_lt,afr,b7,dw,aR,xQ,hn,bp]
      exact⟨_,rfl,_,rfl⟩
  ·simp only[jN,dec_lt,afr,b7,dw,aR,xP]
   exact⟨_,rfl,trivial⟩
def X5(x:aJ):Prop:=x.bA.length≤16∧x.Reads.length≤16
theorem aoT(hl:T5 l){a:Nat}(ha:a<l.length):∃r,ov l (a:Int)=some r∧X5 r.1:=by
 have hT:=hl.2 _ (acI ha);obtain⟨r,hr,MQ,hr2⟩:=TP hT;unfold ov;rw[aU ha,bp,hr,bp,bp];refine cR (fun k (w:List Int)=>w.length=k) _ r.1.bA.length (aP (by omega)) (fun k w hk hw=>.inl ?_) (fun w hw=> ?_) rfl
 ·simp only[sS,dec_lt,hk,bt,aY,aU hk,bp]
  grind [cA,abo,aH]
 ·have J1:∃q,yL l r l[a] w=some q∧X5 q.1:=by
   refine cR (fun k (t:List aO)=>t.length=k) _ r.1.Reads.length (aP (by omega)) (fun k t hk ht=> ?_) (fun t ht=> ?_) rfl
   ·obtain⟨f,hf⟩:=aio hl r.1.Reads[k].Key r.1.Reads[k].Value
    simp only[sR,dec_lt,hk,bt,aY,aU hk,bp,hf];split
    ·exact .inr ⟨_,rfl,by simp[X5]⟩
    grind [cA,abo,aH]
   ·simp only[sR,dec_lt,afr,b7,dw,aR,yM]
    exact⟨_,rfl,by grind,by grind⟩
  simp_all [sS,aaN]
def H5(h:af):Prop:=h.aL.length≤32∧∀x∈h.aL,X5 x
theorem H5.nil:H5 ⟨[]⟩:=⟨by simp,by simp⟩
def Q5(l:List aq)(r:af×Int×Int):Prop:=H5 r.1∧(r.2.2≠0→0≤r.2.1∧r.2.1<l.length)
theorem ad6(hl:T5 l):∃r,xN l=some r∧Q5 l r:=by
 have WK:=hl.1;refine cR (fun k (o:List aJ)=>o.length≤k∧∀x∈o,X5 x) _ l.length (aP (by omega)) (fun k o hk ho=> ?_) (fun o ho=> ?_) ⟨by simp,by simp⟩
 ·obtain⟨r,hr,hx⟩:=aoT hl hk
  have e0:nv l o (k:Int)=if !l[k].gy then iI (k:Int) o else if decide (r.2≠0) then aaN (some ((af.mk []),(k:Int),r.2)) else(abz 56 o ([r.1]:List aJ)).bind fun ag6=>iI (k:Int) ag6:=by
   simp_all [nv,aU]
  simp only[e0];split
  ·grind [iI,abo,aH]
  ·split
   ·exact .inr ⟨_,rfl,H5.nil,fun _=>⟨by grind,by grind⟩⟩
   grind [cA,iI,abo,aH,aeq]
 ·simp only[nv,dec_lt,afr,b7,dw,aR,xO]
  exact⟨_,rfl,⟨by grind,ho.2⟩,fun h=>absurd rfl h⟩
theorem ad5(hl:T5 l):∃r,xM l=some r∧Q5 l r:=by
 have WK:=hl.1;refine jK _ l.length (aP (by omega)) (fun k hk=> ?_) ?_
 ·obtain⟨r,hr,_,_⟩:=TP (hl.2 _ (acI hk))
  have j6:∀v,gI (k:Int) r v=some (.inl ((k+1:Nat):Int))∨∃a,gI (k:Int) r v=some (.inr a)∧Q5 l a:=fun v=>by
   unfold gI;cases v with
   |true=>exact .inr ⟨_,rfl,H5.nil,fun _=>⟨by grind,by grind⟩⟩
   |false=>exact .inl (by simp only[dw,aR,abo,aH (k:=k) (by omega)])
  have e0:nx l (k:Int)=if l[k].gy then gI (k:Int) r (decide (r.2.2≠0)) else gI (k:Int) r false:=by
   simp_all [nx,aU]
  grind
 ·obtain⟨r,h1,h2⟩:=ad6 hl
  simp_all [nx,aaN]
theorem ad4(hl:T5 l):∃r,xL l=some r∧Q5 l r:=by
 have WK:=hl.1;refine jK _ l.length (aP (by omega)) (fun k hk=> ?_) ?_
 ·obtain⟨r,hr⟩:=aaM hl hk
  have e0:ny l (k:Int)=if decide (r≠0) then aaN (some ((af.mk []),(k:Int),r)) else abo (bM ((k:Int)+1)):=by
   simp_all [ny]
  simp only[e0];split
  ·exact .inr ⟨_,rfl,H5.nil,fun _=>⟨by grind,by grind⟩⟩
  grind [abo,aH]
 ·obtain⟨r,h1,h2⟩:=ad5 hl
  simp_all [ny,aaN]
theorem ain(hl:T5 l):∃r,nu l=some r∧Q5 l r:=by
 have WK:=hl.1;unfold nu;rw[dg (show ¬(32:Int)<arA l by grind)];refine jK _ l.length (aP (by omega)) (fun k hk=> ?_) ?_
 ·obtain⟨b,hb⟩:=aoS (hl.2 _ (acI hk))
  have e0:nA l (k:Int)=if !b then aaN (some ((af.mk []),(k:Int),1)) else abo (bM ((k:Int)+1)):=by
   simp_all [nA,aU]
  simp only[e0];split
  ·exact .inr ⟨_,rfl,H5.nil,fun _=>⟨by grind,by grind⟩⟩
  grind [abo,aH]
 ·obtain⟨r,h1,h2⟩:=ad4 hl
  simp_all [nA,aaN]
end
theorem ad8{s:List UInt8}(hs:s.length≤2000):∃r,lN s=some r∧H5 r.1:=by
 unfold lN;obtain⟨d,h1,h2⟩:=ad0 hs;rw[h1,bp];by_cases h3:d.2.2=0
 ·rw[dg (by omega)]
  obtain⟨g,h4,h5⟩:=ad1 (l:=d.1) (by omega);rw[h4,bp];by_cases h6:g.2.2=0
  ·rw[dg (by omega)]
   obtain⟨r,h7,h8,h9⟩:=ain (l:=g.1) (h5 h6);by_cases h10:r.2.2=0
   ·simp_all
   simp_all [wL,H5.nil]
  simp_all [H5.nil]
 simp_all [H5.nil]
theorem aoU{h:af}(hh:H5 h)(m:Int):∃b,sA h m=some b:=by
 have hl:=hh.1;unfold sA;split
 ·grind
 ·have:=jK (b:=fun(p:Int)=>nY h p) (fun _=>True) h.aL.length (aP (by omega)) (fun k hk=> ?_) ?_
  ·grind
  ·have j2:∀v,kI (k:Int) v=some (.inl ((k+1:Nat):Int))∨∃a,kI (k:Int) v=some (.inr a)∧True:=fun v=>by
    unfold kI;cases v with
    |true=>exact .inr ⟨_,rfl,trivial⟩
    |false=>exact .inl (by simp only[dw,aR,abo,aH (k:=k) (by omega)])
   simp only[nY,dec_lt,hk,bt,aY,aU hk,bp];grind
  ·simp only[nY,dec_lt,afr,b7,dw,aR,yN]
   exact⟨_,rfl,trivial⟩
theorem aaO{t:aJ}(ht:t.bA.length≤16)(key:Int):∃b,fM t key=some b:=by
 unfold fM;have:=jK (b:=fun(p:Int)=>gM t key p) (fun _=>True) t.bA.length (aP (by omega)) (fun k hk=> ?_) ?_
 ·grind
 ·simp only[gM,dec_lt,hk,bt,aY,aU hk,bp]
  split
  ·exact .inr ⟨_,rfl,trivial⟩
  grind [abo,aH]
 ·simp only[gM,dec_lt,afr,b7,dw,aR,o9]
  exact⟨_,rfl,trivial⟩
theorem aaJ{s:List UInt8}(hs:s.length≤2000)(n p:Int):∃b,pg s n p=some b:=by
 unfold pg;obtain⟨r,h1,hh⟩:=ad8 hs;rw[h1,bp];split
 ·grind
 ·have hl:=hh.1
  obtain⟨f,hf⟩:=aoU hh n;have:=cR (b:=fun(q:Int×Int)=>mz p r f q.1 q.2) (fun _ _=>True) (fun _=>True) r.1.aL.length (aP (by omega)) (fun i ks hi _=>.inl ?_) (fun ks _=> ?_) (s:=0) trivial
  ·grind
  ·have hxi:=hh.2 _ (acI hi)
   have:=cR (b:=fun(q:Int×Int)=>mA r (i:Int) q.1 q.2) (fun _ _=>True) (fun a:(Int×Int)⊕(Bool)=>∃s',a=.inl (s',((i+1:Nat):Int))) i (aP (by omega)) (fun k ks hk _=>.inl ?_) (fun ks _=> ?_) (s:=ks) trivial
   ·obtain⟨a,g1,s',rfl⟩:=this
    simp_all [mz]
   ·have hkl:k<r.1.aL.length:=by omega
    have hxk:=hh.2 _ (acI hkl);have:=cR (b:=fun(q:Int×Int)=>mB r (i:Int) (k:Int) q.1 q.2) (fun _ _=>True) (fun a:(Int×Int)⊕((Int×Int)⊕(Bool))=>∃s',a=.inl (s',((k+1:Nat):Int))) r.1.aL[i].bA.length (aP (by have:=hxi.1;omega)) (fun j ks hj _=>.inl ?_) (fun ks _=> ?_) (s:=ks) trivial
    ·obtain⟨a,g1,s',rfl⟩:=this
     simp_all [mA]
    ·obtain⟨b,hb⟩:=aaO (t:=r.1.aL[k]) hxk.1 r.1.aL[i].bA[j]
     have axM:=hxi.1;simp only[mB,aU hi,bp,dec_lt,hj,bt,aY,aU hkl,aU hj,hb,qo,abo,aH (k:=j) (by omega)];split <;> exact⟨_,rfl,trivial⟩
    ·simp only[mB,aU hi,bp,dec_lt,afr,b7,dw,aR,wo,abo,aH (k:=k) (by omega)]
     exact⟨_,rfl,_,rfl⟩
   ·simp only[mA,aqg,b7,dw,aR,wm,abo,aH (k:=i) (by omega)]
    exact⟨_,rfl,_,rfl⟩
  ·have J1:∃b,qn p f ks=some b:=by unfold qn;grind
   simp_all [mz,aaN]
theorem aaI(p:a_):∃b,pe p=some b:=by
 have j1:∀v,∃b,mw p v=some b:=fun v=>by
  unfold mw
  repeat' (first|exact⟨_,rfl⟩|split)
 unfold pe;split <;> exact j1 _
theorem aii{s:List UInt8}(hs:s.length≤2000):∃r,oz s=some r∧r.1.length≤2000:=by
 unfold oz;have hrem:Sh.rem (arA s) 2=some ((s.length % 2:Nat):Int):=by
  rfl
 rw[hrem,bp];by_cases h1:((s.length % 2:Nat):Int)≠0
 ·simp_all
 ·rw[dg h1]
  simp only[dw,aR];rw[dg (show ¬(4000:Int)<arA s by grind)];refine jJ (fun k (x:(List a_)×Int)=>x.2=((2*k:Nat):Int)∧x.1.length=k) _ (s.length / 2) (aP (by omega)) (fun k x hk hx=> ?_) ⟨rfl,rfl⟩;obtain⟨out,i⟩:=x;obtain⟨rfl,ho⟩:=hx;by_cases hkl:2*k<s.length
  ·have h2:2*k+1<s.length:=by omega
   obtain⟨b,hb⟩:=aaI (a_.mk (bM ((s[2*k]).toNat:Int)) (bM ((s[2*k+1]).toNat:Int)));have e0:kK s out ((2*k:Nat):Int)=if !b then aaN (some ([],2)) else(abz 16 out ([(a_.mk (bM ((s[2*k]).toNat:Int)) (bM ((s[2*k+1]).toNat:Int)))]:List a_)).bind fun LW=>abo (LW,bM (((2*k:Nat):Int)+2)):=by
    simp only[kK,dec_lt,hkl,bt,aY,aU hkl,bp,aH (k:=2*k) (by omega),aU h2,hb]
   simp only[e0];cases b with
   |false=>exact .inr ⟨_,rfl,by simp⟩
   |true=>
    left;have e2:bM (((2*k:Nat):Int)+2)=((2*(k+1):Nat):Int):=by grind [dM]
    rw[cA (by grind),bp,e2];exact⟨_,rfl,⟨rfl,by simp[ho]⟩,by omega⟩
  ·right
   have e0:kK s out ((2*k:Nat):Int)=aaN (yQ out):=by
    simp only[kK,dec_lt,hkl,b7,dw,aR]
   simp only[e0];exact⟨_,rfl,by grind⟩
theorem aaK{s:List UInt8}(hs:s.length≤2000)(m:Int):∃b,pn s m=some b:=by
 unfold pn;obtain⟨r,h1,h2⟩:=aii hs;rw[h1,bp];split
 ·grind
 ·have:=cR (b:=fun(q:Int×Int)=>mC m r q.1 q.2) (fun _ _=>True) (fun _=>True) r.1.length (aP (by omega)) (fun i ks hi _=>.inl ?_) (fun ks _=> ?_) (s:=0) trivial
  ·grind
  ·simp only[mC,dec_lt,hi,bt,aY,aU hi,bp,abo,aH (k:=i) (by omega)]
   grind
  ·simp only[mC,dec_lt,afr,b7,dw,aR,wq]
   exact⟨_,rfl,trivial⟩
theorem aeA(a:bf)(n:Int):∃b,oA a n=some b:=by
 unfold oA
 by_cases h:(1500:Int)<arA a.Text
 ·rw[eD h];exact⟨_,rfl⟩
 ·rw[dg h]
  simp only[arA] at h
  simp only[dw,aR]
  by_cases h2:(600:Int)<arA a.dR
  ·rw[eD h2];exact⟨_,rfl⟩
  ·rw[dg h2]
   simp only[arA] at h2
   unfold sW
   obtain⟨b,hb⟩:=aaJ (s:=a.Text) (by omega) 5 6
   obtain⟨c,hc⟩:=aaK (s:=a.dR) (by omega) n
   simp only[dw,aR,hb,hc,bp]
   split <;> exact⟨_,rfl⟩
theorem abY(a:bf)(w:Int)(ht:a.Text.length<4294967281):lP a w=some true:=
 agx a w (acU ht) (fun _=>aeA _ _)
end Pl
end
