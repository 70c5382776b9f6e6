/- What the plain functions answer. -/
import Derived.Test.YtleihjegenjacaaGreatPl
import Derived.KernelRfl
set_option linter.unusedSimpArgs false
set_option linter.unusedVariables false
section
/- All pairs, and all ways to choose them. -/

namespace Pl
open Go Go.Av G

def gK(h:af)(key:Int):List Int:=if right h then((List.range h.aC.length).filter fun t:Nat=>gL (tx h t) key).map fun t:Nat=>(t:Int) else []
theorem DN{h:af}(hf:Fits h)(key:Int):fL h key=some (gK h key):=by
 unfold fL gK
 rw[FM hf]
 simp only[b9]
 cases hr:right h with
 |false=>
  refine ig (fun _=>([],false,0)) 0 _ (by decide) (fun k hk=>by omega) ?_ rfl
  simp[gF,fF,ji]
 |true=>
  have hn:h.aC.length≤32:=by simp only[right,Bool.and_eq_true,decide_eq_true_eq] at hr;exact hr.1
  refine ig (fun k=>((((List.range k).filter fun t:Nat=>gL (tx h t) key).map fun t:Nat=>(t:Int)),true,(k:Int))) h.aC.length _ (bC (by omega)) (fun k hk=> ?_) ?_ rfl
  ·have hle:((List.range k).filter fun t:Nat=>gL (tx h t) key).length≤k:=by
    have:=List.length_filter_le (fun t:Nat=>gL (tx h t) key) (List.range k);simpa using this
   simp only[gF,if_true,fF,dec_lt,hk,decide_true,Ei hk,b9,AA (hf.writes _ (Qe hk))]
   rw[List.range_succ,List.filter_append,List.map_append]
   cases hw:gL (tx h k) key with
   |false=>simp[gG,bn (k:=k) (by omega),Sh.next,hw]
   |true=>
    simp only[if_true]
    rw[dX (by simp;omega)]
    simp[gG,bn (k:=k) (by omega),Sh.next,hw]
  ·simp[gF,fF,ji,Sh.len]
theorem Qi{h:af}{key:Int}:(gK h key).length≤h.aC.length:=by
 unfold gK
 split
 ·have:=List.length_filter_le (fun t:Nat=>gL (tx h t) key) (List.range h.aC.length);simpa using this
 ·simp
theorem Au{h:af}(hr:right h=true){key x:Int}:x∈gK h key↔inr h x=true∧gL (tx h x) key=true:=by
 unfold gK
 rw[if_pos hr]
 simp only[List.mem_map,List.mem_filter,List.mem_range]
 constructor
 ·rintro⟨t,⟨h1,h2⟩,rfl⟩;exact⟨y7.2 h1,h2⟩
 ·rintro⟨h1,h2⟩
  obtain⟨a,b⟩:=fI.1 h1
  refine⟨x.toNat,⟨by omega, ?_⟩,by omega⟩
  rw[show((x.toNat:Nat):Int)=x by omega];exact h2
theorem D0{h:af}{key:Int}:(gK h key).Pairwise (· < ·):=by
 unfold gK
 split
 ·rw[List.pairwise_map]
  refine List.Pairwise.imp (R:=fun a b:Nat=>a<b) (fun{a b} hab=>by omega) ?_
  exact List.Pairwise.filter _ List.pairwise_lt_range
 ·exact .nil

def B5(key:Int)(ws:List Int)(i:Nat):List aa:=(ws.drop (i+1)).map fun w=>⟨key,ws.getD i 0,w⟩
def DM(key:Int)(ws:List Int):List aa:=(List.range ws.length).flatMap (B5 key ws)
def yT(h:af):List aa:=(List.range 16).flatMap fun k:Nat=>DM k (gK h k)
theorem Gk{α:Type}(f:Nat→List α)(b:Nat)(hb:∀k,(f k).length≤b):∀n,((List.range n).flatMap f).length≤n*b:=by
 intro n
 induction n with
 |zero=>simp
 |succ n ih=>
  rw[List.range_succ,List.flatMap_append,List.length_append]
  have:=hb n
  simp only[List.flatMap_cons,List.flatMap_nil,List.append_nil]
  rw[Nat.add_mul,Nat.one_mul];omega
theorem J_(key:Int)(ws:List Int)(i:Nat):(B5 key ws i).length≤ws.length:=by simp[B5]
theorem Ka(key:Int)(ws:List Int):(DM key ws).length≤ws.length*ws.length:=Gk _ _ (J_ key ws) _
theorem L4{α:Type}(f:Nat→List α)(k:Nat):(List.range (k+1)).flatMap f=(List.range k).flatMap f++f k:=by
 rw[List.range_succ,List.flatMap_append];simp
theorem Eu{h:af}{key:Int}:(gK h key).length≤64:=by
 cases hr:right h with
 |false=>unfold gK;rw[hr];simp
 |true=>
  have hn:h.aC.length≤32:=by simp only[right,Bool.and_eq_true,decide_eq_true_eq] at hr;exact hr.1
  have:=Qi (h:=h) (key:=key)
  omega
theorem TP{h:af}(hf:Fits h):lM h=some (yT h):=by
 have hkk:∀k:Nat,(DM k (gK h k)).length≤4096:=fun k=>by
  have h1:=Ka (k:Int) (gK h k)
  have h2:(gK h (k:Int)).length≤64:=Eu
  exact Nat.le_trans h1 (Nat.mul_le_mul h2 h2)
 unfold lM yT
 refine c6 (fun k=>(List.range k).flatMap fun k:Nat=>DM k (gK h k)) 16 _ (by decide) (fun k hk=> ?_) ?_ rfl
 ·have uR:(k:Int)<16:=by omega
  have hw2:(gK h (k:Int)).length≤64:=Eu
  have hout:=Gk (fun k:Nat=>DM k (gK h k)) 4096 hkk k
  have ho2:k*4096≤65536:=Nat.mul_le_mul (show k≤16 by omega) (Nat.le_refl 4096)
  simp only[kJ,uR,decide_true,if_true,DN hf,b9]
  rw[L4]
  generalize ((List.range k).flatMap fun k:Nat=>DM k (gK h k))=out at hout
  generalize gK h (k:Int)=ws at hw2
  refine c6 (fun i=>out++(List.range i).flatMap (B5 k ws)) ws.length _ (bC (by omega)) (fun i hi=> ?_) ?_ (by simp)
  ·have ho3:=Gk (B5 (k:Int) ws) 64 (fun i=>Nat.le_trans (J_ _ _ _) hw2) i
   have ho4:i*64≤4096:=Nat.mul_le_mul (show i≤64 by omega) (Nat.le_refl 64)
   simp only[kK,dec_lt,hi,decide_true,if_true]
   rw[bn (by omega),L4,←List.append_assoc]
   have ho5:(out++(List.range i).flatMap (B5 (k:Int) ws)).length≤100000:=by simp only[List.length_append];omega
   generalize out++(List.range i).flatMap (B5 (k:Int) ws)=aqZ at ho5
   refine ig (fun j=>(aqZ++((ws.drop (i+1)).take j).map fun w=>⟨(k:Int),ws.getD i 0,w⟩,((i+1+j:Nat):Int))) (ws.length - (i+1)) _ (bC (by omega)) (fun j hj=> ?_) ?_ (by simp)
   ·have hb:i+1+j<ws.length:=by omega
    have hd:ws.getD i 0=ws[i]:=by simp[List.getD,List.getElem?_eq_getElem hi]
    have To:j<(ws.drop (i+1)).length:=by simp;omega
    simp only[kL,dec_lt,hb,decide_true,if_true,bM hi,bM hb,b9]
    rw[dX (by simp;omega)]
    simp only[b9,bn (k:=i+1+j) (by omega),Sh.next]
    rw[List.take_add_one,List.getElem?_eq_getElem To,Option.toList_some,List.map_append,List.append_assoc,List.getElem_drop,hd]
    rfl
   ·rw[show i+1+(ws.length - (i+1))=ws.length by omega]
    simp only[kL,dec_lt,Nat.lt_irrefl,decide_false,iC,if_false,qc,bn (k:=i) (by omega),Sh.next]
    rw[List.take_of_length_le (by simp)]
    rfl
  ·simp only[kK,dec_lt,Nat.lt_irrefl,decide_false,iC,if_false,qb,bn (k:=k) (by omega),Sh.next]
   rfl
 ·simp[kJ,qa]

theorem HE{h:af}(hr:right h=true){c:aa}(hc:c∈yT h):one h c=true:=by
 unfold yT DM B5 at hc
 simp only[List.mem_flatMap,List.mem_range,List.mem_map] at hc
 obtain⟨k,hk,i,hi,w,hw,rfl⟩:=hc
 have hd:(gK h (k:Int)).getD i 0=(gK h (k:Int))[i]:=by simp[List.getD,List.getElem?_eq_getElem hi]
 have m1:=(Au hr).1 (List.getElem_mem hi)
 have m2:=(Au hr).1 (List.mem_of_mem_drop hw)
 have hlt:(gK h (k:Int))[i]<w:=by
  have hs:=D0 (h:=h) (key:=(k:Int))
  rw[List.pairwise_iff_getElem] at hs
  obtain⟨j,hj,rfl⟩:=List.getElem_of_mem hw
  rw[List.getElem_drop]
  simp only[List.length_drop] at hj
  exact hs i (i+1+j) hi (by omega) (by omega)
 unfold one
 rw[hd]
 simp only[m1.1,m1.2,m2.1,m2.2,Bool.and_true,decide_eq_true_eq]
 omega
theorem Sg{h:af}(hr:right h=true){t:ai}(ht:t∈h.aC){k:Int}(hw:gL t k=true):0≤k∧k<16:=by
 have key:∀(l:List ai) (n:Nat),xb h n l=true→∀t∈l,rising (-1) t.bH=true:=by
  intro l
  induction l with
  |nil=>intro n _ t ht;cases ht
  |cons x l ih=>
   intro n hn t ht
   rw[show xb h n (x::l)=(Je h (n:Nat) x&&xb h (n+1) l) from rfl,Bool.and_eq_true] at hn
   rcases List.mem_cons.1 ht with rfl|ht
   ·have:=hn.1
    simp only[Je,Bool.and_eq_true] at this
    exact this.1.1.1
   ·exact ih _ hn.2 t ht
 have hri:rising (-1) t.bH=true:=by
  simp only[right,Bool.and_eq_true] at hr
  exact key _ 0 hr.2 t ht
 have bd:∀(l:List Int) (last:Int),rising last l=true→∀x∈l,last<x∧x<16:=by
  intro l
  induction l with
  |nil=>intro _ _ x hx;cases hx
  |cons y l ih=>
   intro last hl x hx
   rw[show rising last (y::l)=(decide (last<y)&&decide (y<16)&&rising y l) from rfl] at hl
   simp only[Bool.and_eq_true,decide_eq_true_eq] at hl
   rcases List.mem_cons.1 hx with rfl|hx
   ·exact⟨hl.1.1,hl.1.2⟩
   ·have:=ih _ hl.2 x hx;omega
 unfold gL at hw
 simp only[List.any_eq_true,decide_eq_true_eq] at hw
 obtain⟨x,hx,rfl⟩:=hw
 have:=bd _ _ hri _ hx
 omega
theorem TK{h:af}(hr:right h=true){c:aa}(hc:one h c=true):c∈yT h∨back c∈yT h:=by
 have mk:∀(K x y:Int),inr h x=true→inr h y=true→gL (tx h x) K=true→gL (tx h y) K=true→x<y→(⟨K,x,y⟩:aa)∈yT h:=by
  intro K x y hx hy wx wy hlt
  obtain⟨k0,k1⟩:=Sg hr (sF hx) wx
  have ek:K=((K.toNat:Nat):Int):=by omega
  generalize K.toNat=k at ek
  subst ek
  have mx:=(Au hr).2 ⟨hx,wx⟩
  have my:=(Au hr).2 ⟨hy,wy⟩
  obtain⟨i,hi,ei⟩:=List.getElem_of_mem mx
  obtain⟨j,hj,ej⟩:=List.getElem_of_mem my
  have hs:=D0 (h:=h) (key:=(k:Int))
  rw[List.pairwise_iff_getElem] at hs
  have hij:i<j:=by
   rcases Nat.lt_trichotomy i j with h1|h1|h1
   ·exact h1
   ·subst h1;omega
   ·have:=hs j i hj hi h1;omega
  unfold yT DM B5
  simp only[List.mem_flatMap,List.mem_range,List.mem_map]
  refine⟨k,by omega,i,hi,y, ?_, ?_⟩
  ·rw[List.mem_iff_getElem]
   refine⟨j - (i+1),by simp;omega, ?_⟩
   rw[List.getElem_drop]
   rw[←ej]
   congr 1
   omega
  ·have hd:(gK h (k:Int)).getD i 0=(gK h (k:Int))[i]:=by simp[List.getD,List.getElem?_eq_getElem hi]
   rw[hd,ei]
 simp only[one,Bool.and_eq_true,decide_eq_true_eq] at hc
 obtain⟨⟨⟨⟨d,e⟩,f⟩,g⟩,k⟩:=hc
 by_cases hlt:c.A<c.B
 ·exact .inl (mk c.Key c.A c.B e f g k hlt)
 ·exact .inr (mk c.Key c.B c.A f e k g (by omega))

inductive S5:List aa→List aa→Prop
 |nil:S5 [] []
 |so {x:aa} {r s:List aa}:S5 r s→S5 (x::r) (x::s)
 |not {x:aa} {r s:List aa}:S5 r s→S5 (x::r) (back x::s)
theorem S5.len{r s:List aa}(h:S5 r s):s.length=r.length:=by induction h <;> simp_all
theorem S5.mem{r s:List aa}(h:S5 r s):∀c∈r,c∈s∨back c∈s:=by
 induction h with
 |nil=>intro c hc;cases hc
 |so _ ih=>
  intro c hc
  rcases List.mem_cons.1 hc with rfl|hc
  ·exact .inl (List.mem_cons_self ..)
  ·exact(ih c hc).imp (List.mem_cons_of_mem _) (List.mem_cons_of_mem _)
 |not _ ih=>
  intro c hc
  rcases List.mem_cons.1 hc with rfl|hc
  ·exact .inr (List.mem_cons_self ..)
  ·exact(ih c hc).imp (List.mem_cons_of_mem _) (List.mem_cons_of_mem _)
theorem S5.all{r s:List aa}(h:S5 r s){p:aa→Prop}(h1:∀c∈r,p c)(h2:∀c,p c→p (back c)):∀c∈s,p c:=by
 induction h with
 |nil=>intro c hc;cases hc
 |so _ ih=>
  intro c hc
  rcases List.mem_cons.1 hc with rfl|hc
  ·exact h1 _ (List.mem_cons_self ..)
  ·exact ih (fun c hc=>h1 c (List.mem_cons_of_mem _ hc)) c hc
 |not _ ih=>
  intro c hc
  rcases List.mem_cons.1 hc with rfl|hc
  ·exact h2 _ (h1 _ (List.mem_cons_self ..))
  ·exact ih (fun c hc=>h1 c (List.mem_cons_of_mem _ hc)) c hc
theorem WY{h:af}{c:aa}(h1:one h c=true):one h (back c)=true:=by
 simp only[one,back,Bool.and_eq_true,decide_eq_true_eq] at*
 obtain⟨⟨⟨⟨d,e⟩,f⟩,g⟩,k⟩:=h1
 refine⟨⟨⟨⟨?_,f⟩,e⟩,k⟩,g⟩
 exact decide_eq_true (fun h=>d h.symm)
end Pl
end

section
/- Law 22: facts as the reference sees them; what one more fact adds. -/

namespace Pl
open Go Go.Av G

end Pl
end

section
/- Law 22: what facts say must be so. -/
namespace Pl
open Go Go.Av G

end Pl
end

section
/- Trees in a row of nodes. -/

namespace Pl
open Go Go.Av G

inductive Tree where
 |leaf (x:au)
 |br (x:au) (a b:Tree)
namespace Tree
def flat:Tree→List au
 |leaf x=>[x]
 |br x a b=>x::(a.flat++b.flat)
def ok:Tree→Bool
 |leaf x=>decide (0<x.bR.length)
 |br x a b=>decide (x.bR.length=0)&&a.ok&&b.ok
def leaves:Tree→Nat
 |leaf _=>1
 |br _ a b=>a.leaves+b.leaves
def deep:Tree→Nat
 |leaf _=>0
 |br _ a b=>1+max a.deep b.deep
theorem Di:∀t:Tree,0<t.flat.length
 |leaf _=>by simp[flat]
 |br _ _ _=>by simp[flat]
theorem Ej:∀t:Tree,t.leaves≤t.flat.length
 |leaf _=>by simp[flat,leaves]
 |br _ a b=>by simp only[flat,leaves,List.length_cons,List.length_append];have:=Ej a;have:=Ej b;omega
theorem D8:∀t:Tree,t.deep<t.flat.length
 |leaf _=>by simp[flat,deep]
 |br _ a b=>by simp only[flat,deep,List.length_cons,List.length_append];have:=D8 a;have:=D8 b;have:=Di a;have:=Di b;omega
end Tree

def parse:Nat→List au→Option (Tree×List au)
 |0,_=>none
 |_+1,[]=>none
 |n+1,x::l=>
  if 0<x.bR.length then some (.leaf x,l)
  else match parse n l with
   |none=>none
   |some (a,l1)=>match parse n l1 with
    |none=>none
    |some (b,l2)=>some (.br x a b,l2)
theorem s8:∀(n:Nat) {l r:List au} {t:Tree},parse n l=some (t,r)→t.ok=true∧l=t.flat++r
 |0,_,_,_,h=>by cases h
 |_+1,[],_,_,h=>by cases h
 |n+1,x::l,r,t,h=>by
  simp only[parse] at h
  split at h
  ·rename_i hx;cases h;simp[Tree.ok,Tree.flat,hx]
  ·rename_i hx
   cases h1:parse n l with
   |none=>rw[h1] at h;cases h
   |some p=>
    obtain⟨a,l1⟩:=p
    rw[h1] at h
    dsimp only at h
    cases h2:parse n l1 with
    |none=>rw[h2] at h;cases h
    |some q=>
     obtain⟨b,l2⟩:=q
     rw[h2] at h
     cases h
     obtain⟨a1,a2⟩:=s8 n h1
     obtain⟨b1,b2⟩:=s8 n h2
     have hx0:x.bR.length=0:=by omega
     refine⟨by simp only[Tree.ok,a1,b1,hx0,decide_true,Bool.and_self], ?_⟩
     rw[a2,b2];simp[Tree.flat]
theorem GJ:∀(t:Tree) (n:Nat) (r:List au),t.ok=true→t.flat.length≤n→parse n (t.flat++r)=some (t,r)
 |.leaf x,n,r,h,hn=>by
  obtain⟨n,rfl⟩:∃m,n=m+1:=⟨n - 1,by simp[Tree.flat] at hn;omega⟩
  simp only[Tree.ok,decide_eq_true_eq] at h
  simp[Tree.flat,parse,h]
 |.br x a b,n,r,h,hn=>by
  obtain⟨n,rfl⟩:∃m,n=m+1:=⟨n - 1,by simp[Tree.flat] at hn;omega⟩
  simp only[Tree.ok,Bool.and_eq_true,decide_eq_true_eq] at h
  simp only[Tree.flat,List.length_cons,List.length_append] at hn
  have h0:¬0<x.bR.length:=by omega
  simp only[Tree.flat,List.cons_append,List.append_assoc,parse,if_neg h0]
  rw[GJ a n _ h.1.2 (by omega)]
  dsimp only
  rw[GJ b n _ h.2 (by omega)]
theorem Pt{n m:Nat}{l:List au}(hn:l.length≤n)(hm:l.length≤m):parse n l=parse m l:=by
 have key:∀{n m:Nat},l.length≤n→l.length≤m→∀p,parse n l=some p→parse m l=some p:=fun{n m} hn hm p hp=>by
  obtain⟨t,r⟩:=p
  obtain⟨h1,h2⟩:=s8 n hp
  have hl:t.flat.length≤m:=by have:=congrArg List.length h2;simp at this;omega
  have:=GJ t m r h1 hl
  rwa [←h2] at this
 cases h1:parse n l with
 |some p=>exact(key hn hm p h1).symm
 |none=>
  cases h2:parse m l with
  |none=>rfl
  |some p=>rw[key hm hn p h2] at h1;cases h1
def whole(l:List au):Option Tree:=
 match parse l.length l with
 |some (t,[])=>some t
 |_=>none
theorem KG{l:List au}{t:Tree}(h:whole l=some t):t.ok=true∧l=t.flat:=by
 unfold whole at h
 split at h
 ·rename_i t' hp
  cases h
  have:=s8 _ hp
  simpa using this
 ·cases h

theorem gt0{α:Type}(l:List α):decide ((0:Int)<Sh.len l)=decide (0<l.length):=by
 by_cases h:0<l.length
 ·simp[Sh.len,h]
 ·simp[Sh.len,h]
theorem Ro(x:au)(l:List au):dn ⟨x::l⟩=some (x,⟨l⟩):=by
 unfold dn
 have h0:¬(Sh.len (x::l))=0:=by simp[Sh.len];omega
 have h1:Sh.idx (x::l) 0=some x:=by simp[Sh.idx]
 have h2:Sh.sub (x::l) 1 (Sh.len (x::l))=some l:=by
  simp[Sh.sub,Sh.len];omega
 show(if decide (Sh.len (x::l)=0)=true then none else _)=_
 rw[if_neg (by simp),h1,b9,h2,b9]
theorem aeC:dn ⟨[]⟩=none:=by simp[dn,Sh.len]
theorem Nr:∀(n:Nat) (l:List au),l.length≤4611686018427387904→bZ n ⟨l⟩=(parse n l).map fun p=>(⟨p.2⟩,(p.1.leaves:Int),(p.1.deep:Int))
 |0,_,_=>rfl
 |n+1,[],_=>by simp[bZ,dN,aeC,parse]
 |n+1,x::l,hl=>by
  simp only[List.length_cons] at hl
  simp only[bZ,dN,Ro,b9,parse,gt0]
  by_cases hx:0<x.bR.length
  ·simp[hx,Tree.leaves,Tree.deep]
  ·simp only[hx,decide_false,iC,if_false]
   rw[Nr n l (by omega)]
   cases h1:parse n l with
   |none=>rfl
   |some p=>
    obtain⟨a,l1⟩:=p
    obtain⟨a1,a2⟩:=s8 n h1
    have e1:=congrArg List.length a2
    simp only[List.length_append] at e1
    simp only[Option.map_some,b9]
    rw[Nr n l1 (by omega)]
    cases h2:parse n l1 with
    |none=>rfl
    |some q=>
     obtain⟨b,l2⟩:=q
     obtain⟨b1,b2⟩:=s8 n h2
     have e2:=congrArg List.length b2
     simp only[List.length_append] at e2
     have:=a.Ej;have:=b.Ej;have:=a.D8;have:=b.D8
     simp only[Option.map_some,b9,Tree.leaves,Tree.deep]
     have w1:dz ((a.leaves:Int)+(b.leaves:Int))=((a.leaves+b.leaves:Nat):Int):=by rw[gA (by omega) (by omega)];omega
     have w2:dz (1+Sh.max (a.deep:Int) (b.deep:Int))=((1+max a.deep b.deep:Nat):Int):=by
      have hm:Sh.max (a.deep:Int) (b.deep:Int)=((max a.deep b.deep:Nat):Int):=by
       simp only[Sh.max];split <;> omega
      rw[hm,gA (by omega) (by omega)];omega
     rw[w1,w2]
def shapeOf(l:List au):Int×Int×Bool:=match whole l with|some t=>((t.leaves:Int),(t.deep:Int),true)|none=>(0,0,false)
theorem RG{l:List au}(h:whole l=none):shapeOf l=(0,0,false):=by unfold shapeOf;rw[h]
theorem RH{l:List au}{t:Tree}(h:whole l=some t):shapeOf l=((t.leaves:Int),(t.deep:Int),true):=by unfold shapeOf;rw[h]
theorem aeH{l:List au}(hl:l.length≤1000000):wz l=some (shapeOf l):=by
 unfold wz
 rw[Nr _ _ (by omega),Pt (n:=l.length+1) (m:=l.length) (by omega) (Nat.le_refl _)]
 unfold shapeOf whole
 cases h:parse l.length l with
 |none=>rfl
 |some p=>
  obtain⟨t,r⟩:=p
  cases r with
  |nil=>simp[Sh.len]
  |cons y r=>
   simp only[Option.map_some,gt0]
   simp
end Pl
end

section
/- What a tree says of choices: the program, and the reference. -/
namespace Pl
open Go Go.Av G

def Tree.held(h:af)(lev:Int):Tree→List aa→Bool
 |.leaf x,l=>decide (x.C=⟨0,0,0⟩)&&ring h lev l x.bR
 |.br x a b,l=>a.held h lev (l++[x.C])&&b.held h lev (l++[back x.C])&&one h x.C
def Hf(t:Tree):Prop:=∀x∈t.flat,x.bR.length<9223372036854775808
theorem Hf.br{x:au}{a b:Tree}(h:Hf (.br x a b)):Hf a∧Hf b:=
 ⟨fun y hy=>h y (by simp[Tree.flat,hy]),fun y hy=>h y (by simp[Tree.flat,hy])⟩

theorem acw{h:af}(hf:Fits h)(x:Int)(c:aa):lY x h c=some (inr h x&&gL (tx h x) c.Key):=by
 unfold lY
 by_cases hx:inr h x=true
 ·obtain⟨a,b⟩:=fI.1 hx
  have:=hf.writes _ (sF hx)
  rw[if_pos (by simpa using a),if_pos (by simpa [Sh.len] using b),oH hx,b9,Xi (by omega),b9,hx]
  rfl
 ·have h1:inr h x=false:=by simpa using hx
  rw[h1]
  unfold inr at h1
  by_cases a:0≤x <;> by_cases b:x<(h.aC.length:Int) <;> simp[a,b,Sh.len] at h1 ⊢
theorem aeD{h:af}(hf:Fits h)(c:aa):uV h c=some (one h c):=by
 unfold uV one
 rw[acw hf,acw hf]
 simp only[b9]
 by_cases a:c.A=c.B
 ·simp[a]
 ·simp only[a,ne_eq,not_false_eq_true,decide_true,if_true,Bool.true_and]
  cases inr h c.A <;> cases gL (tx h c.A) c.Key <;> cases inr h c.B <;> cases gL (tx h c.B) c.Key <;> rfl
theorem amm(l:List aa):eW l=some l:=by
 simp[eW,Sh.sub,Sh.len]
theorem Rn{h:af}(hf:Fits h)(lev:Int):∀(t:Tree) (n:Nat) (l:List aa) (r:List au),t.ok=true→t.flat.length≤n→l.length+t.deep≤1000000→Hf t→
  gI n h lev l ⟨t.flat++r⟩=some (⟨r⟩,t.held h lev l)
 |.leaf x,n,l,r,hok,hn,hl,hs=>by
  obtain⟨n,rfl⟩:∃m,n=m+1:=⟨n - 1,by simp[Tree.flat] at hn;omega⟩
  simp only[Tree.ok] at hok
  have hx:=hs x (by simp[Tree.flat])
  simp only[Tree.deep] at hl
  simp only[Tree.flat,List.singleton_append,gI,gQ,Ro,b9,gt0,hok,if_true,Tree.held]
  rw[aeB hf (show l.length<9223372036854775807 by omega) lev hx]
  by_cases hc:x.C=⟨0,0,0⟩ <;> simp[hc]
 |.br x a b,n,l,r,hok,hn,hl,hs=>by
  obtain⟨n,rfl⟩:∃m,n=m+1:=⟨n - 1,by simp[Tree.flat] at hn;omega⟩
  simp only[Tree.ok,Bool.and_eq_true,decide_eq_true_eq] at hok
  simp only[Tree.flat,List.length_cons,List.length_append] at hn
  simp only[Tree.deep] at hl
  have h0:decide (0<x.bR.length)=false:=by simp[hok.1.1]
  have i1:=Rn hf lev a n (l++[x.C]) (b.flat++r) hok.1.2 (by omega) (by simp;omega) hs.br.1
  have i2:=Rn hf lev b n (l++[back x.C]) r hok.2 (by omega) (by simp;omega) hs.br.2
  have e1:Sh.app 24 l [x.C]=some (l++[x.C]):=dX (by simp;omega)
  have e2:Sh.app 24 l [back x.C]=some (l++[back x.C]):=dX (by simp;omega)
  simp only[Tree.flat,List.cons_append,List.append_assoc,gI,gQ,Ro,b9,gt0,h0,iC,if_false,amm,e1,i1,AB,show aa.mk x.C.Key x.C.B x.C.A=back x.C from rfl,e2,i2,aeD hf,Tree.held]
  cases a.held h lev (l++[x.C]) <;> cases b.held h lev (l++[back x.C]) <;> simp
def check(h:af)(lev:Int)(l:List aa)(tree:List au):Bool:=
 match whole tree with
 |some t=>may h lev&&t.held h lev l
 |none=>false
def D1(tree:List au):Prop:=tree.length≤1000∧∀x∈tree,x.bR.length<9223372036854775808
theorem ZS{h:af}(hf:Fits h)(lev:Int){l:List aa}(hl:l.length≤1000){tree:List au}(ht:D1 tree):wv h lev l tree=some (check h lev l tree):=by
 unfold wv check
 rw[aeH (by have:=ht.1;omega),HC hf]
 simp only[b9]
 cases hw:whole tree with
 |none=>simp[fZ,RG hw]
 |some t=>
  rw[RH hw]
  obtain⟨h1,h2⟩:=KG hw
  have hd:=t.D8
  have hlen:=congrArg List.length h2
  have key:tL h lev l ⟨tree⟩=some (⟨[]⟩,t.held h lev l):=by
   have:=Rn hf lev t Sh.nU l [] h1 (Nat.le_of_lt (bC (by have:=ht.1;omega))) (by have:=ht.1;omega) (fun x hx=>ht.2 x (by rw[h2];exact hx))
   rw[List.append_nil,←h2] at this
   exact this
  simp only[Bool.not_true,iC,if_false,may]
  cases right h with
  |false=>simp[fZ]
  |true=>
   by_cases a:lev=0
   ·simp[a,fZ] at key ⊢
    rw[key];rfl
   ·by_cases b:lev=1
    ·simp[b,fZ] at key ⊢
     rw[key];rfl
    ·simp[a,b,fZ]

def nd(x:au):ak:=⟨x.C,x.bR⟩
def wY(tree:List au)(i:Nat):Int:=
 match parse tree.length (tree.drop i) with
 |some (_,r)=>(tree.length:Int) - (r.length:Int)
 |none=> -1
theorem amB(tree:List au)(n:Nat):fT (n+1) (tree.map nd) (-1)=some (-1):=by
 simp[fT,gy,gv]
theorem IW{α:Type}{l:List α}{i:Nat}{p r:List α}(h:l.drop i=p++r)(hi:i≤l.length):i+p.length≤l.length∧l.drop (i+p.length)=r∧r.length=l.length - (i+p.length):=by
 have h1:=congrArg List.length h
 simp only[List.length_drop,List.length_append] at h1
 refine⟨by omega, ?_,by omega⟩
 rw[←List.drop_drop,h]
 simp
theorem amC(tree:List au)(ht:tree.length≤1000000):∀(k i n:Nat),tree.length - i≤k→i≤tree.length→k+1<n→fT n (tree.map nd) (i:Int)=some (wY tree i):=by
 intro k
 induction k with
 |zero=>
  intro i n hk hi hn
  obtain⟨n,rfl⟩:∃m,n=m+1:=⟨n - 1,by omega⟩
  have h1:i=tree.length:=by omega
  subst h1
  have e:wY tree tree.length= -1:=by
   unfold wY
   rw[List.drop_length]
   cases tree.length <;> rfl
  rw[e]
  have h2:¬((tree.length:Int)<0):=by omega
  simp[fT,gy,gv,h2,Sh.len]
 |succ k ih=>
  intro i n hk hi hn
  obtain⟨n,rfl⟩:∃m,n=m+1:=⟨n - 1,by omega⟩
  by_cases hlt:i<tree.length
  ·have h2:¬((i:Int)<0):=by omega
   have h3:¬((tree.length:Int)≤(i:Int)):=by omega
   have hidx:Sh.idx (tree.map nd) (i:Int)=some (nd tree[i]):=by rw[bM (by simpa using hlt)];simp
   have hw:dz ((i:Int)+1)=((i+1:Nat):Int):=bn (by omega)
   have hd:tree.drop i=tree[i]::tree.drop (i+1):=List.drop_eq_getElem_cons hlt
   simp only[fT,gy,gv,h2,decide_false,iC,if_false,Sh.len,List.length_map,h3,hidx,b9]
   have hcyc:decide ((0:Int)<((nd tree[i]).bR.length:Int))=decide (0<tree[i].bR.length):=by
    have:(nd tree[i]).bR=tree[i].bR:=rfl
    rw[this]
    by_cases h:0<tree[i].bR.length <;> simp[h]
   rw[hcyc]
   by_cases hx:0<tree[i].bR.length
   ·have e:wY tree i=((i+1:Nat):Int):=by
     unfold wY
     rw[hd]
     obtain⟨m,hm⟩:∃m,tree.length=m+1:=⟨tree.length - 1,by omega⟩
     rw[hm]
     simp only[parse,hx,if_true]
     have:=List.length_drop (i:=i+1) (l:=tree)
     omega
    simp only[hx,decide_true,if_true,hw,e]
   ·simp only[hx,decide_false,iC,if_false,hw]
    rw[ih (i+1) n (by omega) (by omega) (by omega)]
    simp only[b9]
    -- what the parse says
    obtain⟨m,hm⟩:∃m,tree.length=m+1:=⟨tree.length - 1,by omega⟩
    have hp:∀j,0<j→j≤tree.length→parse m (tree.drop j)=parse tree.length (tree.drop j):=fun j hj To=>Pt (by simp;omega) (by simp)
    have e:wY tree i=match parse tree.length (tree.drop (i+1)) with
      |none=> -1
      |some (a,l1)=>match parse tree.length l1 with
       |none=> -1
       |some (b,l2)=>(tree.length:Int) - (l2.length:Int):=by
     unfold wY
     rw[hd]
     conv=>lhs;rw[hm]
     simp only[parse,hx,if_false]
     rw[hp (i+1) (by omega) (by omega)]
     cases h1:parse tree.length (tree.drop (i+1)) with
     |none=>rfl
     |some p=>
      obtain⟨a,l1⟩:=p
      obtain⟨a1,a2⟩:=s8 _ h1
      obtain⟨d1,d2,d3⟩:=IW a2 (by omega)
      have:=a.Di
      dsimp only
      rw[←d2,hp _ (by omega) d1]
      cases parse tree.length (tree.drop (i+1+a.flat.length)) with
      |none=>rfl
      |some q=>rw[←hm]
    rw[e]
    cases h1:parse tree.length (tree.drop (i+1)) with
    |none=>
     have:wY tree (i+1)= -1:=by unfold wY;rw[h1]
     rw[this]
     obtain⟨n,rfl⟩:∃m,n=m+1:=⟨n - 1,by omega⟩
     rw[amB];rfl
    |some p=>
     obtain⟨a,l1⟩:=p
     obtain⟨a1,a2⟩:=s8 _ h1
     obtain⟨d1,d2,d3⟩:=IW a2 (by omega)
     have:=a.Di
     have e1:wY tree (i+1)=((i+1+a.flat.length:Nat):Int):=by unfold wY;rw[h1];dsimp only;omega
     rw[e1,ih (i+1+a.flat.length) n (by omega) d1 (by omega)]
     simp only[b9]
     unfold wY
     rw[d2]
     cases parse tree.length l1 <;> rfl
  ·have h1:i=tree.length:=by omega
   subst h1
   have e:wY tree tree.length= -1:=by
    unfold wY
    rw[List.drop_length]
    cases tree.length <;> rfl
   rw[e]
   have h2:¬((tree.length:Int)<0):=by omega
   simp[fT,gy,gv,h2,Sh.len]
theorem amA{tree:List au}(ht:tree.length≤1000000){i:Nat}(hi:i≤tree.length):uw (tree.map nd) (i:Int)=some (wY tree i):=
 amC tree ht tree.length i Sh.nU (by omega) hi (bC (by omega))
theorem UY{tree:List au}{i:Nat}{t:Tree}{r:List au}(hd:tree.drop i=t.flat++r)(hi:i≤tree.length)(hok:t.ok=true):wY tree i=((i+t.flat.length:Nat):Int):=by
 obtain⟨d1,d2,d3⟩:=IW hd hi
 unfold wY
 rw[hd,GJ t tree.length r hok (by omega)]
 dsimp only
 omega
theorem amG{tree:List au}(ht:tree.length≤1000000):tr (tree.map nd)=some (whole tree).isSome:=by
 unfold tr
 have:=amA ht (i:=0) (Nat.zero_le _)
 rw[show((0:Nat):Int)=0 from rfl] at this
 rw[this]
 simp only[b9,gt0,List.length_map,Sh.len]
 unfold wY whole
 rw[List.drop_zero]
 cases h1:parse tree.length tree with
 |none=>
  by_cases h:0<tree.length
  ·simp[h]
  ·simp[h]
 |some p=>
  obtain⟨t,r⟩:=p
  obtain⟨a1,a2⟩:=s8 _ h1
  have hl:=congrArg List.length a2
  simp only[List.length_append] at hl
  have:=t.Di
  have h:0<tree.length:=by omega
  cases r with
  |nil=>simp[h]
  |cons y r=>simp only[h,decide_true,if_true];simp;omega
theorem O0{tree:List au}{i:Nat}{x:au}{r:List au}(hd:tree.drop i=x::r):Sh.idx (tree.map nd) (i:Int)=some (nd x)∧tree.drop (i+1)=r∧i<tree.length:=by
 have hlt:i<tree.length:=by
  by_cases h:i<tree.length
  ·exact h
  ·rw[List.drop_eq_nil_of_le (by omega)] at hd;cases hd
 rw[List.drop_eq_getElem_cons hlt] at hd
 simp only[List.cons.injEq] at hd
 refine⟨?_,hd.2,hlt⟩
 rw[bM (by simpa using hlt)]
 simp[hd.1]
theorem WR(x:au):decide ((0:Int)<Sh.len (nd x).bR)=decide (0<x.bR.length):=gt0 x.bR
theorem Nw{h:af}(hf:Fits h)(hR:cn h=some (right h))(lev:Int)(tree:List au)(ht:tree.length≤1000000):∀(t:Tree) (n i:Nat) (l:List aa) (r:List au),t.ok=true→t.flat.length≤n→l.length+t.deep≤1000000→Hf t→tree.drop i=t.flat++r→
  jC n h lev l (tree.map nd) (i:Int)=some (t.held h lev l)
 |.leaf x,n,i,l,r,hok,hn,hl,hs,hd=>by
  obtain⟨n,rfl⟩:∃m,n=m+1:=⟨n - 1,by simp[Tree.flat] at hn;omega⟩
  simp only[Tree.ok] at hok
  have hx:=hs x (by simp[Tree.flat])
  simp only[Tree.deep] at hl
  obtain⟨q1,q2,q3⟩:=O0 (x:=x) (r:=r) (by rw[hd];rfl)
  simp only[jC,jD,q1,b9,WR,hok,if_true,Tree.held]
  rw[show(nd x).bR=x.bR from rfl,ae_ hf hR (show l.length<9223372036854775807 by omega) lev hx,show(nd x).C=x.C from rfl]
  simp only[b9]
  cases ring h lev l x.bR <;> by_cases hc:x.C=⟨0,0,0⟩ <;> simp[hc]
 |.br x a b,n,i,l,r,hok,hn,hl,hs,hd=>by
  obtain⟨n,rfl⟩:∃m,n=m+1:=⟨n - 1,by simp[Tree.flat] at hn;omega⟩
  simp only[Tree.ok,Bool.and_eq_true,decide_eq_true_eq] at hok
  simp only[Tree.flat,List.length_cons,List.length_append] at hn
  simp only[Tree.deep] at hl
  obtain⟨q1,q2,q3⟩:=O0 (x:=x) (r:=a.flat++(b.flat++r)) (by rw[hd];simp[Tree.flat])
  have h0:decide (0<x.bR.length)=false:=by simp[hok.1.1]
  have hw:dz ((i:Int)+1)=((i+1:Nat):Int):=bn (by omega)
  obtain⟨d1,d2,d3⟩:=IW q2 (by omega)
  have i1:=Nw hf hR lev tree ht a n (i+1) (l++[x.C]) _ hok.1.2 (by omega) (by simp;omega) hs.br.1 q2
  have i2:=Nw hf hR lev tree ht b n (i+1+a.flat.length) (l++[back x.C]) _ hok.2 (by omega) (by simp;omega) hs.br.2 d2
  have e0:Sh.app 24 [] l=some l:=by rw[dX (by simp;omega)];rfl
  have e1:Sh.app 24 l [x.C]=some (l++[x.C]):=dX (by simp;omega)
  have e3:Sh.idx (l++[x.C]) (l.length:Int)=some x.C:=by rw[bM (by simp)];simp
  have e4:Sh.set (l++[x.C]) (l.length:Int) (back x.C)=l++[back x.C]:=by rw[HN];simp
  simp only[jC,jD,q1,b9,WR,h0,iC,if_false,show(nd x).C=x.C from rfl,amI hf,Tree.held]
  cases ho:one h x.C with
  |false=>simp
  |true=>
   simp only[Bool.not_true,iC,if_false,e0,b9,e1,hw,i1]
   cases ha:a.held h lev (l++[x.C]) with
   |false=>simp
   |true=>
    simp only[Bool.not_true,iC,if_false,nK,b9,Sh.len,e3,amA ht (show i+1≤tree.length by omega),UY q2 (by omega) hok.1.2,show aa.mk x.C.Key x.C.B x.C.A=back x.C from rfl,e4,i2]
    simp
theorem aab{h:af}(hf:Fits h)(hR:cn h=some (right h))(lev:Int){l:List aa}(hl:l.length≤1000){tree:List au}(ht:D1 tree):pU h lev l (tree.map nd)=some (check h lev l tree):=by
 unfold pU check
 rw[amG (by have:=ht.1;omega),hR]
 simp only[b9]
 cases hw:whole tree with
 |none=>cases right h <;> simp[dL]
 |some t=>
  obtain⟨h1,h2⟩:=KG hw
  have hd:=t.D8
  have hlen:=congrArg List.length h2
  have key:vg h lev l (tree.map nd) 0=some (t.held h lev l):=
   Nw hf hR lev tree (by have:=ht.1;omega) t Sh.nU 0 l [] h1 (Nat.le_of_lt (bC (by have:=ht.1;omega))) (by have:=ht.1;omega) (fun x hx=>ht.2 x (by rw[h2];exact hx)) (by simpa using h2)
  simp only[Option.isSome_some,Bool.not_true,iC,if_false,may]
  cases right h with
  |false=>simp[dL]
  |true=>
   by_cases a:lev=0
   ·simp[a,dL] at key ⊢
    rw[key]
   ·by_cases b:lev=1
    ·simp[b,dL] at key ⊢
     rw[key]
    ·simp[a,b,dL]
end Pl
end

section
/- Law 24: trees that refute. -/
namespace Pl
open Go Go.Av G

end Pl
end

section
/- Law 24: what a tree refutes. -/
namespace Pl
open Go Go.Av G

end Pl
end

section
/- Rows as choices: the same graph. -/
namespace Pl
open Go Go.Av G

theorem Path.front{N:Nat}{nx:Nat→List Int}{x y z:Nat}(hx:x<N)(hy:y<N)(e:(y:Int)∈nx x)(p:Path N nx y z):Path N nx x z:=by
 induction p with
 |one _ hz e2=>exact .more (.one hx hy e) hz e2
 |more _ hz e2 ih=>exact .more ih hz e2
theorem Pv{N:Nat}{nx:Nat→List Int}{f:Nat→Nat→Bool}(he:∀x y,x<N→y<N→((y:Int)∈nx x↔f x y=true)){x y:Nat}:Path N nx x y↔Way N f x y:=by
 constructor
 ·intro p
  induction p with
  |one a b e=>exact .wQ a b ((he _ _ a b).1 e)
  |more q b e ih=>exact ih.snoc b ((he _ _ q.lt.2 b).1 e)
 ·intro w
  induction w with
  |wQ a b e=>exact .one a b ((he _ _ a b).2 e)
  |cons a b e _ ih=>exact .front a b ((he _ _ a b).2 e) ih

section
variable {h:af} {l:List aP}
def Ab(l:List aP)(c:aa):aa:=if place l c.Key c.A<place l c.Key c.B then c else back c
def Lr(h:af)(l:List aP):List aa:=(yT h).map (Ab l)
theorem NC:∀p:List aa,S5 p (p.map (Ab l))
 |[]=>.nil
 |c::p=>by
  rw[List.map_cons]
  unfold Ab
  by_cases hlt:place l c.Key c.A<place l c.Key c.B
  ·rw[if_pos hlt];exact .so (NC p)
  ·rw[if_neg hlt];exact .not (NC p)
theorem XW:S5 (yT h) (Lr h l):=NC _
theorem SQ(hr:right h=true){c:aa}(hc:c∈Lr h l):one h c=true:=XW.all (p:=fun c=>one h c=true) (fun c hc=>HE hr hc) (fun c=>WY) c hc
theorem Nb(hm:nW h (List.range 16) l=true){k:Int}(hk:0≤k∧k<16)(t:Int):t∈DC l k↔t∈vP h k:=by
 rw[List.range_eq_range'] at hm
 obtain⟨a,b,c⟩:=DF hm
 obtain⟨q,rfl⟩:∃q:Nat,k=(q:Int):=⟨k.toNat,by omega⟩
 by_cases hw:vP h q=[]
 ·rw[hw]
  constructor
  ·intro ht
   obtain⟨r,hr,e,e2⟩:=JN (List.ne_nil_of_mem ht)
   have:=(a r hr).2
   rw[e,hw] at this
   have h2:=(Sh.rP r.L)
   rw[this] at h2
   rw[e2,List.nil_perm.1 h2] at ht
   exact ht
  ·intro ht;cases ht
 ·obtain⟨r,hr,e⟩:=c q (by omega) (by omega) hw
  rw[←e,O6 b hr,←(a r hr).2]
  exact(Sh.rP r.L).mem_iff.symm
theorem uy(hm:nW h (List.range 16) l=true){k:Int}(hk:0≤k∧k<16)(t:Int):0<place l k t↔inr h t=true∧gL (tx h t) k=true:=by
 rw[fI,←Eo,←Nb hm hk]
 unfold place
 by_cases ht:t∈DC l k
 ·rw[if_pos ht];simp only[ht,iff_true];omega
 ·rw[if_neg ht];simp[ht]
theorem TN(hm:nW h (List.range 16) l=true){k:Int}(hk:0≤k∧k<16){a b:Int}(ha:0<place l k a)(hb:0<place l k b)(e:place l k a=place l k b):a=b:=by
 have m1:=place_pos' ha
 have m2:=place_pos' hb
 unfold place at e
 rw[if_pos m1,if_pos m2] at e
 exact MJ m1 m2 (by omega)
 where
 place_pos' {t:Int} (hp:0<place l k t):t∈DC l k:=by
  unfold place at hp
  by_cases ht:t∈DC l k
  ·exact ht
  ·rw[if_neg ht] at hp;omega
theorem Jf(hr:right h=true){c:aa}(hc:one h c=true):(c.A≠c.B∧inr h c.A=true∧inr h c.B=true)∧(0≤c.Key∧c.Key<16)∧gL (tx h c.A) c.Key=true∧gL (tx h c.B) c.Key=true:=by
 unfold one at hc
 simp only[Bool.and_eq_true,decide_eq_true_eq] at hc
 exact⟨⟨hc.1.1.1.1,hc.1.1.1.2,hc.1.1.2⟩,Sg hr (sF hc.1.1.1.2) hc.1.2,hc.1.2,hc.2⟩
theorem Jd(hr:right h=true)(hm:nW h (List.range 16) l=true){c:aa}:c∈Lr h l↔one h c=true∧place l c.Key c.A<place l c.Key c.B:=by
 have turn_lt:∀c,one h c=true→place l (Ab l c).Key (Ab l c).A<place l (Ab l c).Key (Ab l c).B:=fun c hc=>by
  obtain⟨⟨hne,ia,ib⟩,hk,wa,wb⟩:=Jf hr hc
  unfold Ab
  by_cases hlt:place l c.Key c.A<place l c.Key c.B
  ·rw[if_pos hlt];exact hlt
  ·rw[if_neg hlt]
   show place l c.Key c.B<place l c.Key c.A
   have:place l c.Key c.A≠place l c.Key c.B:=fun e=>hne (TN hm hk ((uy hm hk _).2 ⟨ia,wa⟩) ((uy hm hk _).2 ⟨ib,wb⟩) e)
   omega
 constructor
 ·intro hc
  refine⟨SQ hr hc, ?_⟩
  obtain⟨d,hd,rfl⟩:=List.mem_map.1 hc
  exact turn_lt d (HE hr hd)
 ·rintro⟨ho,hlt⟩
  rcases TK hr ho with hp|hp
  ·refine List.mem_map.2 ⟨c,hp, ?_⟩
   unfold Ab;rw[if_pos hlt]
  ·refine List.mem_map.2 ⟨back c,hp, ?_⟩
   unfold Ab
   rw[if_neg (show ¬place l (back c).Key (back c).A<place l (back c).Key (back c).B from by show ¬place l c.Key c.B<place l c.Key c.A;omega)]
   rfl
theorem xk(hr:right h=true)(hm:nW h (List.range 16) l=true){x y:Nat}(hx:x<h.aC.length)(hy:y<h.aC.length):xF h l x y=dF h (Lr h l) x y:=by
 unfold xF dF NZ NH YK
 rw[show decide ((x:Int)<(y:Int))=decide (x<y) from decide_eq_decide.2 (by omega),Bool.or_assoc]
 congr 2
 rw[Bool.eq_iff_iff]
 unfold wwF
 simp only[List.any_eq_true,Bool.and_eq_true,decide_eq_true_eq]
 constructor
 ·rintro⟨k,hk,ha⟩
  have uR:=HR hr hx k hk
  unfold xe at ha
  simp only[Bool.and_eq_true,Bool.or_eq_true,decide_eq_true_eq] at ha
  have hyw:=(uy hm uR _).1 ha.1
  have hlt:0<place l k x∧place l k x<place l k y:=by
   rcases ha.2 with e|e
   ·omega
   ·exact e
  refine⟨⟨k,x,y⟩,(Jd hr hm).2 ⟨?_,hlt.2⟩,rfl,rfl⟩
  unfold one
  have hne:(x:Int)≠(y:Int):=fun e=>by rw[e] at hlt;omega
  simp only[Bool.and_eq_true,decide_eq_true_eq]
  exact⟨⟨⟨⟨hne,y7.2 hx⟩,y7.2 hy⟩,Gv.2 hk⟩,hyw.2⟩
 ·rintro⟨c,hc,ea,eb⟩
  obtain⟨ho,hlt⟩:=(Jd hr hm).1 hc
  obtain⟨⟨_,ia,ib⟩,hk,wa,wb⟩:=Jf hr ho
  rw[ea] at wa ia hlt
  rw[eb] at wb ib hlt
  refine⟨c.Key,Gv.1 wa, ?_⟩
  unfold xe
  simp only[Bool.and_eq_true,Bool.or_eq_true,decide_eq_true_eq]
  exact⟨(uy hm hk _).2 ⟨ib,wb⟩,.inr ⟨(uy hm hk _).2 ⟨ia,wa⟩,hlt⟩⟩
theorem SD(hr:right h=true)(hm:nW h (List.range 16) l=true){x y:Nat}(hx:x<h.aC.length)(hy:y<h.aC.length):GG h l x y=YI h (Lr h l) x y:=by
 rw[Bool.eq_iff_iff]
 unfold GG YI Lg
 simp only[List.any_eq_true,Bool.and_eq_true,Bool.or_eq_true,decide_eq_true_eq]
 constructor
 ·rintro⟨hne,r,hrm,ha⟩
  have hk:=GL hr hx r hrm
  unfold xe at ha
  simp only[Bool.and_eq_true,Bool.or_eq_true,decide_eq_true_eq] at ha
  have hyw:=(uy hm hk _).1 ha.1
  rcases Ml hr hx hrm with e|⟨e1,e2,e3⟩
  ·refine .inl ⟨by omega,r,hrm, ?_⟩
   unfold EC
   simp only[Bool.and_eq_true,decide_eq_true_eq]
   exact⟨e,hyw.2⟩
  ·have hlt:0<place l r.Key r.bT∧place l r.Key r.bT<place l r.Key y:=by
    rcases ha.2 with e|e
    ·omega
    ·exact e
   refine .inr ⟨⟨r.Key,r.bT,y⟩,(Jd hr hm).2 ⟨?_,hlt.2⟩, ?_⟩
   ·unfold one
    have Zd:r.bT≠(y:Int):=fun e=>by rw[e] at hlt;omega
    simp only[Bool.and_eq_true,decide_eq_true_eq]
    exact⟨⟨⟨⟨Zd,fI.2 e1⟩,y7.2 hy⟩,e3⟩,hyw.2⟩
   ·unfold rwC
    simp only[Bool.and_eq_true,decide_eq_true_eq]
    refine⟨⟨trivial,by omega⟩, ?_⟩
    rw[L6 hr (y7.2 hx)]
    exact List.any_eq_true.2 ⟨r,hrm,by simp⟩
 ·rintro(⟨hne,r,hrm,hi⟩|⟨c,hc,hrw⟩)
  ·have hk:=GL hr hx r hrm
   unfold EC at hi
   simp only[Bool.and_eq_true,decide_eq_true_eq] at hi
   refine⟨by omega,r,hrm, ?_⟩
   unfold xe
   simp only[Bool.and_eq_true,Bool.or_eq_true,decide_eq_true_eq]
   exact⟨(uy hm hk _).2 ⟨y7.2 hy,hi.2⟩,.inl (by omega)⟩
  ·unfold rwC at hrw
   simp only[Bool.and_eq_true,decide_eq_true_eq] at hrw
   obtain⟨ho,hlt⟩:=(Jd hr hm).1 hc
   obtain⟨⟨_,ia,ib⟩,hk,wa,wb⟩:=Jf hr ho
   rw[L6 hr (y7.2 hx)] at hrw
   obtain⟨r,hrm,e⟩:=List.any_eq_true.1 hrw.2
   have e:=of_decide_eq_true e
   subst e
   rw[hrw.1.1] at hlt wb ib
   refine⟨by have:=hrw.1.2;omega,_,hrm, ?_⟩
   unfold xe
   simp only[Bool.and_eq_true,Bool.or_eq_true,decide_eq_true_eq]
   exact⟨(uy hm hk _).2 ⟨ib,wb⟩,.inr ⟨(uy hm hk _).2 ⟨ia,wa⟩,hlt⟩⟩
theorem Sz(hr:right h=true)(hm:nW h (List.range 16) l=true)(x y:Nat)(hx:x<h.aC.length)(hy:y<h.aC.length):(y:Int)∈nxS h l x↔Oz h 1 (Lr h l) x y=true:=by
 rw[Sx]
 unfold Oz NZ H7
 simp only[if_true,Bool.or_eq_true,List.any_eq_true,List.mem_range,Bool.and_eq_true]
 constructor
 ·rintro⟨_,e|⟨z,hz,e1,e2⟩⟩
  ·rw[xk hr hm hx hy] at e
   exact .inl e
  ·rw[xk hr hm hx hz] at e1
   rw[SD hr hm hz hy] at e2
   exact .inr ⟨z,hz,e1,e2⟩
 ·rintro(e|⟨z,hz,e1,e2⟩)
  ·rw[←xk hr hm hx hy] at e
   exact⟨⟨by omega,by omega⟩,.inl e⟩
  ·rw[←xk hr hm hx hz] at e1
   rw[←SD hr hm hz hy] at e2
   exact⟨⟨by omega,by omega⟩,.inr ⟨z,hz,e1,e2⟩⟩
theorem RC(hr:right h=true)(hm:nW h (List.range 16) l=true):¬RZ h l↔Y9 h 1 (Lr h l)=true:=by
 unfold RZ Y9
 rw[Bool.not_eq_true',←Bool.not_eq_true,MP]
 refine not_congr ⟨fun⟨z,p⟩=>⟨z,(Pv (Sz hr hm)).1 p⟩,fun⟨z,w⟩=>⟨z,(Pv (Sz hr hm)).2 w⟩⟩
end
end Pl
end

section
/- Numbers as bytes, and back. -/
namespace Pl
open Go Go.Av G

def Dk(n:Nat):List Int:=if h:n<128 then [(n:Int)] else((n % 128+128:Nat):Int)::Dk (n / 128)
 termination_by n
 decreasing_by omega
theorem Eh{n:Nat}(h:n<128):Dk n=[(n:Int)]:=by rw[Dk];simp[h]
theorem I9{n:Nat}(h:¬n<128):Dk n=((n % 128+128:Nat):Int)::Dk (n / 128):=by rw[Dk];simp[h]
theorem Eg:∀(k n:Nat),n<128 ^ k→0<k→(Dk n).length≤k:=by
 intro k
 induction k with
 |zero=>intro n _ h;omega
 |succ k ih=>
  intro n hn _
  by_cases h:n<128
  ·rw[Eh h];simp
  ·rw[I9 h]
   have hk:0<k:=by
    rcases Nat.eq_zero_or_pos k with h0|h0
    ·subst h0;simp at hn;omega
    ·exact h0
   have:n / 128<128 ^ k:=by rw[Nat.pow_succ] at hn;omega
   have:=ih _ this hk
   simp;omega

theorem YY{q:Int}(h0:0≤q)(h1:q<128):Sh.KU .u8 (IntKind.u8.wrap q) 128=q+128:=by
 obtain⟨n,rfl⟩:∃n:Nat,q=n:=⟨q.toNat,by omega⟩
 have hn:n<128:=by omega
 have:∀n:Fin 128,Sh.KU .u8 (IntKind.u8.wrap (n.val:Int)) 128=(n.val:Int)+128:=by decide+kernel
 exact this ⟨n,hn⟩
theorem wrap_u8{q:Int}(h0:0≤q)(h1:q<256):IntKind.u8.wrap q=q:=by
 simp only[IntKind.wrap,IntKind.signed,IntKind.bits]
 simp
 omega
theorem Od(x:UInt8):Sh.Tc .u8 (x.toNat:Int) 127=((x.toNat % 128:Nat):Int):=by
 have:∀n:Fin 256,Sh.Tc .u8 (n.val:Int) 127=((n.val % 128:Nat):Int):=by decide+kernel
 exact this ⟨x.toNat,x.toNat_lt⟩
theorem al3{n:Nat}:Sh.Tw .i64 (n:Int) ((7#64).toNat:Int)=some ((n / 128:Nat):Int):=by
 have e:((7#64).toNat:Int)=7:=rfl
 rw[e]
 unfold Sh.Tw
 rw[if_neg (by omega)]
 congr 1
 show Int.fdiv (n:Int) (2 ^ 7)=_
 rw[Int.fdiv_eq_ediv_of_nonneg _ (by decide)]
 omega
theorem Ry{n:Nat}:Sh.rem (n:Int) 128=some ((n % 128:Nat):Int):=by
 unfold Sh.rem
 rw[if_pos (by decide)]
 congr 1
theorem O2{m i:Nat}(hm:m<128)(hi:i<5):Sh.WA .i64 (dz (m:Int)) (dz (7*(i:Int)))=some ((m*128 ^ i:Nat):Int):=by
 have e1:dz (m:Int)=m:=gA (by omega) (by omega)
 have e2:dz (7*(i:Int))=((7*i:Nat):Int):=by rw[gA (by omega) (by omega)];omega
 rw[e1,e2]
 unfold Sh.WA
 rw[if_neg (by omega)]
 have e3:Min.min (((7*i:Nat):Int).toNat) IntKind.i64.bits=7*i:=by
  simp only[IntKind.bits];omega
 rw[e3]
 have e4:(m:Int)*2 ^ (7*i)=((m*128 ^ i:Nat):Int):=by
  have:(128:Nat) ^ i=2 ^ (7*i):=by rw[Nat.pow_mul]
  rw[this]
  simp
 rw[e4]
 have hp:128 ^ i≤128 ^ 4:=Nat.pow_le_pow_right (by omega) (by omega)
 have hlt:m*128 ^ i≤127*128 ^ 4:=Nat.mul_le_mul (by omega) hp
 exact congrArg some (gA (by omega) (by omega))
theorem MM{n m i:Nat}(hn:n<128 ^ i)(hm:m<128)(hi:i<5):Sh.KU .i64 (n:Int) ((m*128 ^ i:Nat):Int)=((n+m*128 ^ i:Nat):Int):=by
 have hp:128 ^ i≤128 ^ 4:=Nat.pow_le_pow_right (by omega) (by omega)
 have hlt:m*128 ^ i≤127*128 ^ 4:=Nat.mul_le_mul (by omega) hp
 unfold Sh.KU
 have e1:(BitVec.ofInt IntKind.i64.bits (n:Int)|||BitVec.ofInt IntKind.i64.bits ((m*128 ^ i:Nat):Int)).toNat=n+m*128 ^ i:=by
  have a1:(BitVec.ofInt 64 (n:Int)).toNat=n:=by rw[BitVec.toNat_ofInt];omega
  have a2:(BitVec.ofInt 64 ((m*128 ^ i:Nat):Int)).toNat=m*128 ^ i:=by rw[BitVec.toNat_ofInt];omega
  show(BitVec.ofInt 64 (n:Int)|||BitVec.ofInt 64 ((m*128 ^ i:Nat):Int)).toNat=_
  rw[BitVec.toNat_or,a1,a2]
  have e:128 ^ i=2 ^ (7*i):=by rw[Nat.pow_mul]
  rw[e] at hn ⊢
  rw[Nat.mul_comm m,Nat.or_comm,←Nat.two_pow_add_eq_or_of_lt hn,Nat.add_comm]
 rw[e1]
 exact gA (by omega) (by omega)

theorem R5{l:List Int}{x:Int}(h:l.length<1000000000):Sh.app 1 l [x]=some (l++[x]):=dX (by simp;omega)
theorem ZT{f:Nat}:∀{n:Nat} {out:List Int},n<f→out.length+n<1000000000+2147483648→out.length+(Dk n).length<1000000000→Sh.iter (fun(p:(List Int)×Int)=>eT p.1 p.2) f (out,(n:Int))=some (out++Dk n):=by
 induction f with
 |zero=>intro n out h;omega
 |succ f ih=>
  intro n out hn hb hl
  by_cases h:n<128
  ·rw[Eh h] at hl ⊢
   simp only[List.length_singleton] at hl
   refine g_ (X:=fO out (n:Int)) ?_|>.trans ?_
   ·simp only[eT]
    rw[if_neg (by simp;omega)]
   ·unfold fO vv
    rw[wrap_u8 (by omega) (by omega),R5 (by omega)]
    rfl
  ·rw[I9 h] at hl ⊢
   simp only[List.length_cons] at hl
   refine(hU (s':=(out++[((n % 128+128:Nat):Int)],((n / 128:Nat):Int))) ?_).trans ?_
   ·simp only[eT]
    rw[if_pos (by simp;omega),Ry,b9,YY (by omega) (by omega)]
    unfold vv
    rw[R5 (by omega)]
    simp only[b9,al3,Sh.next]
    rfl
   ·rw[ih (by omega) (by simp;omega) (by simp;omega)]
    simp
theorem Pp{n:Nat}{out:List Int}(hn:n≤2147483648)(hl:out.length<900000000):j7 out (n:Int)=some (out++Dk n):=by
 have:=Eg 5 n (by omega) (by omega)
 exact ZT (f:=Sh.nU) (bC (by omega)) (by omega) (by omega)
theorem Xh{n:Nat}{out:List Int}(hn:n≤2147483648)(hl:out.length<900000000):iS out (n:Int)=some (out++Dk n):=Pp hn hl

def sj(n:Int):Bool:=decide (-1≤n)&&decide (n≤2147483647)
def E4(l:List Int):List Int:=l.flatMap fun n=>Dk (n+1).toNat
def Px(l:List Int):List UInt8×Int:=
 if 100000<l.length then([],4) else if l.all sj then(Sh.str (Dk l.length++E4 l),0) else([],1)
theorem R_{l:List Int}(h:l.all sj=true):(E4 l).length≤5*l.length:=by
 induction l with
 |nil=>simp[E4]
 |cons n l ih=>
  simp only[List.all_cons,Bool.and_eq_true] at h
  obtain⟨h1,h2⟩:=h
  simp only[sj,Bool.and_eq_true,decide_eq_true_eq] at h1
  have:=ih h2
  have:=Eg 5 (n+1).toNat (by omega) (by omega)
  simp only[E4,List.flatMap_cons,List.length_append,List.length_cons] at*
  omega
theorem aq3(l:List Int)(hl:l.length<9223372036854775807):DK l=some (Px l):=by
 unfold DK Px
 by_cases h1:100000<l.length
 ·rw[if_pos (by simp[Sh.len];omega),if_pos h1]
 ·rw[if_neg (by simp[Sh.len];omega),if_neg h1]
  have hg:=Eg 5 l.length (by omega) (by omega)
  simp only[vw,b9,bW,Pp (n:=l.length) (out:=[]) (by omega) (by simp),List.nil_append]
  have round:∀k,k<l.length→(∀j,j<k→sj (l.getD j 0)=true)→rF l (Dk l.length++E4 (l.take k)) (k:Int)=
    if sj (l.getD k 0) then some (.inl (Dk l.length++E4 (l.take (k+1)),((k+1:Nat):Int))) else some (.inr ([],1)):=by
   intro k hk hj
   have hd:l.getD k 0=l[k]:=by simp[List.getD,List.getElem?_eq_getElem hk]
   have hall:(l.take k).all sj=true:=by
    rw[List.all_eq_true]
    intro x hx
    obtain⟨j,YA,rfl⟩:=List.getElem_of_mem hx
    have To:j<k:=by simp at YA;omega
    have:=hj j To
    rw[List.getElem_take]
    simpa [List.getD,List.getElem?_eq_getElem (show j<l.length by omega)] using this
   have hbl:=R_ hall
   have htk:(l.take k).length≤k:=by simp;omega
   rw[hd]
   simp only[rF,bW,dec_lt,hk,decide_true,if_true,bM hk,b9,ya]
   unfold sj
   by_cases a:l[k]< -1
   ·have:¬(-1:Int)≤l[k]:=by omega
    simp[a,this,Sh.exit]
   ·by_cases b:(2147483647:Int)<l[k]
    ·have:¬l[k]≤2147483647:=by omega
     simp[a,b,this,Sh.exit]
    ·have h2:(-1:Int)≤l[k]:=by omega
     have h3:l[k]≤2147483647:=by omega
     have h4:dz (l[k]+1)=(((l[k]+1).toNat:Nat):Int):=by rw[gA (by omega) (by omega)];omega
     simp only[a,b,h2,h3,decide_true,decide_false,Bool.and_self,iC,if_false,if_true,vw,b9,h4,Xh (n:=(l[k]+1).toNat) (out:=Dk l.length++E4 (l.take k)) (by omega) (by simp only[List.length_append];omega),bn (k:=k) (by omega),Sh.next]
     rw[show E4 (l.take (k+1))=E4 (l.take k)++Dk (l[k]+1).toNat from by
      unfold E4
      rw[List.take_add_one,List.getElem?_eq_getElem hk,Option.toList_some,List.flatMap_append,List.flatMap_singleton],List.append_assoc]
  by_cases hall:l.all sj=true
  ·rw[if_pos hall]
   have hat:∀j,j<l.length→sj (l.getD j 0)=true:=fun j hj=>by
    have:l.getD j 0=l[j]:=by simp[List.getD,List.getElem?_eq_getElem hj]
    rw[this];exact List.all_eq_true.1 hall _ (List.getElem_mem hj)
   refine ig (fun k=>(Dk l.length++E4 (l.take k),(k:Int))) l.length (Aw (Dk l.length++E4 l)) (bC (by omega)) (fun k hk=> ?_) ?_ (by simp[E4])|>.trans ?_
   ·show rF l _ _=_
    rw[round k hk (fun j hj=>hat j (by omega)),if_pos (hat k hk)]
   ·simp[rF,bW]
   ·rfl
  ·rw[if_neg hall]
   have hex:∃k,k<l.length∧sj (l.getD k 0)=false:=by
    have:l.all sj=false:=by simpa using hall
    rw[List.all_eq_false] at this
    obtain⟨x,hx,hn⟩:=this
    obtain⟨k,hk,rfl⟩:=List.getElem_of_mem hx
    exact⟨k,hk,by simpa [List.getD,List.getElem?_eq_getElem hk] using hn⟩
   obtain⟨k,⟨hk,hn⟩,hmin⟩:=exists_least _ hex
   have hat:∀j,j<k→sj (l.getD j 0)=true:=fun j hj=>by
    cases hq:sj (l.getD j 0) with
    |true=>rfl
    |false=>have:=hmin j ⟨by omega,hq⟩;omega
   refine ig (fun k=>(Dk l.length++E4 (l.take k),(k:Int))) k (some ([],1)) (bC (by omega)) (fun q hq=> ?_) ?_ (by simp[E4])
   ·show rF l _ _=_
    rw[round q (by omega) (fun j hj=>hat j (by omega)),if_pos (hat q hq)]
   ·show rF l _ _=_
    rw[round k hk hat,hn]
    rfl
end Pl
namespace Pl
open Go Go.Av G
def rd(most:Nat):Nat→Nat→Nat→List UInt8→Nat×List UInt8×Int
 |0,_,_,_=>(0,[],2)
 |_+1,_,_,[]=>(0,[],16)
 |g+1,i,n,x::r=>
  if 128≤x.toNat then rd most g (i+1) (n+(x.toNat % 128)*128 ^ i) r
  else if(0<i∧x.toNat=0)∨most<n+(x.toNat % 128)*128 ^ i then(0,[],2)
  else(n+(x.toNat % 128)*128 ^ i,r,0)
def Rw(r:Nat×List UInt8×Int):Int×List UInt8×Int:=((r.1:Int),r.2.1,r.2.2)
theorem amN{n m i:Nat}(hn:n<128 ^ i)(hm:m<128):n+m*128 ^ i<128 ^ (i+1):=by
 rw[Nat.pow_succ]
 have:m*128 ^ i≤127*128 ^ i:=Nat.mul_le_mul (by omega) (Nat.le_refl _)
 omega
theorem ZU{s:List UInt8}{most:Nat}(hs:s.length<9223372036854775807):∀(g i n f:Nat),g+i=5→i≤s.length→n<128 ^ i→g<f→
  Sh.iter (fun(p:Int×Int)=>rG s (most:Int) p.1 p.2) f ((n:Int),(i:Int))=some (Rw (rd most g i n (s.drop i))):=by
 intro g
 induction g with
 |zero=>
  intro i n f h5 hi hn hf
  obtain⟨f,rfl⟩:∃m,f=m+1:=⟨f - 1,by omega⟩
  refine g_ (X:=y_) ?_
  simp only[rG]
  rw[if_neg (by simp;omega)]
 |succ g ih=>
  intro i n f h5 hi hn hf
  obtain⟨f,rfl⟩:∃m,f=m+1:=⟨f - 1,by omega⟩
  have hlt:decide ((i:Int)<5)=true:=by simp;omega
  by_cases he:i=s.length
  ·subst he
   refine kj ?_
   simp only[rG,hlt,if_true,bW,decide_true]
   simp[rd,Rw,Sh.exit]
  ·have Yz:i<s.length:=by omega
   have hne:decide ((i:Int)=Sh.len s)=false:=by simp[Sh.len];omega
   have hd:s.drop i=s[i]::s.drop (i+1):=List.drop_eq_getElem_cons Yz
   have hx:=(s[i]).toNat_lt
   have hmod:(s[i]).toNat % 128<128:=Nat.mod_lt _ (by omega)
   have hv:=amN hn hmod
   rw[hd]
   simp only[rd]
   have To:∀b,s7 s (n:Int) (i:Int) (((s[i]).toNat % 128*128 ^ i:Nat):Int) b=some (.inr (if b then(0,[],2) else(((n+(s[i]).toNat % 128*128 ^ i:Nat):Int),s.drop (i+1),0))):=fun b=>by
    unfold s7
    cases b with
    |true=>rfl
    |false=>
     have e1:dz ((i:Int)+1)=((i+1:Nat):Int):=bn (by omega)
     have e2:Sh.sub s ((i+1:Nat):Int) (Sh.len s)=some (s.drop (i+1)):=by
      rw[bW,NJ (by omega) (by omega)]
      rw[List.take_of_length_le (by simp)]
     simp only[iC,if_false,e1,e2,b9,MM hn hmod (show i<5 by omega),Sh.exit,Option.map_some]
   by_cases hb:128≤(s[i]).toNat
   ·rw[if_pos hb]
    refine(hU (s':=(((n+(s[i]).toNat % 128*128 ^ i:Nat):Int),((i+1:Nat):Int))) ?_).trans (ih (i+1) _ f (by omega) (by omega) hv (by omega))
    have L8:decide ((128:Int)≤((s[i]).toNat:Int))=true:=by simp;omega
    simp only[rG,hlt,if_true,hne,iC,if_false,bM Yz,b9,Od,O2 hmod (show i<5 by omega),L8,MM hn hmod (show i<5 by omega),bn (k:=i) (by omega),Sh.next]
   ·rw[if_neg hb]
    refine kj ?_
    have L8:decide ((128:Int)≤((s[i]).toNat:Int))=false:=by simp;omega
    simp only[rG,hlt,if_true,hne,iC,if_false,bM Yz,b9,Od,O2 hmod (show i<5 by omega),L8,MM hn hmod (show i<5 by omega),To]
    have e3:decide ((most:Int)<((n+(s[i]).toNat % 128*128 ^ i:Nat):Int))=decide (most<n+(s[i]).toNat % 128*128 ^ i):=dec_lt
    rw[e3]
    by_cases h0:0<i
    ·by_cases hz:(s[i]).toNat=0
     ·simp[h0,hz,Rw]
     ·by_cases hm:most<n+(s[i]).toNat % 128*128 ^ i <;> simp[h0,hz,hm,Rw]
    ·by_cases hm:most<n+(s[i]).toNat % 128*128 ^ i <;> simp[h0,hm,Rw]
theorem Xj{s:List UInt8}{most:Nat}(hs:s.length<9223372036854775807):vz s (most:Int)=some (Rw (rd most 5 0 0 s)):=by
 have:=ZU (most:=most) hs 5 0 0 Sh.nU rfl (by omega) (by simp) (by decide)
 simpa [vz,Sh.loop] using this

theorem Fb{n:Nat}(h:n<128):Sh.str (Dk n)=[UInt8.ofNat n]:=by rw[Eh h];rfl
theorem Im{n:Nat}(h:¬n<128):Sh.str (Dk n)=UInt8.ofNat (n % 128+128)::Sh.str (Dk (n / 128)):=by
 rw[I9 h];rfl
theorem Nx{most:Nat}:∀(g i n:Nat) (s:List UInt8),(∃e,e≠0∧rd most g i n s=(0,[],e))∨
  ∃m rest,rd most g i n s=(n+m*128 ^ i,rest,0)∧s=Sh.str (Dk m)++rest∧n+m*128 ^ i≤most∧(0<i→m≠0):=by
 intro g
 induction g with
 |zero=>intro i n s;exact .inl ⟨2,by decide,rfl⟩
 |succ g ih=>
  intro i n s
  cases s with
  |nil=>exact .inl ⟨16,by decide,rfl⟩
  |cons x r=>
   have hx:=x.toNat_lt
   simp only[rd]
   by_cases hb:128≤x.toNat
   ·rw[if_pos hb]
    rcases ih (i+1) (n+x.toNat % 128*128 ^ i) r with⟨e,h1,h2⟩|⟨m,rest,h1,h2,h3,h4⟩
    ·exact .inl ⟨e,h1,h2⟩
    ·refine .inr ⟨m*128+x.toNat % 128,rest, ?_, ?_, ?_, ?_⟩
     ·rw[h1]
      have:n+x.toNat % 128*128 ^ i+m*128 ^ (i+1)=n+(m*128+x.toNat % 128)*128 ^ i:=by
       rw[Nat.pow_succ,Nat.add_mul,Nat.mul_assoc m,Nat.mul_comm 128 (128 ^ i)];omega
      rw[this]
     ·have hm:=h4 (by omega)
      rw[Im (by omega),h2]
      have e1:(m*128+x.toNat % 128) % 128+128=x.toNat:=by omega
      have e2:(m*128+x.toNat % 128) / 128=m:=by omega
      rw[e1,e2,UInt8.ofNat_toNat];rfl
     ·have:n+x.toNat % 128*128 ^ i+m*128 ^ (i+1)=n+(m*128+x.toNat % 128)*128 ^ i:=by
       rw[Nat.pow_succ,Nat.add_mul,Nat.mul_assoc m,Nat.mul_comm 128 (128 ^ i)];omega
      omega
     ·intro _;have:=h4 (by omega);omega
   ·rw[if_neg hb]
    by_cases hc:(0<i∧x.toNat=0)∨most<n+x.toNat % 128*128 ^ i
    ·rw[if_pos hc];exact .inl ⟨2,by decide,rfl⟩
    ·rw[if_neg hc]
     have e1:x.toNat % 128=x.toNat:=Nat.mod_eq_of_lt (by omega)
     rw[e1] at hc
     refine .inr ⟨x.toNat,r,by rw[e1], ?_,by omega,by omega⟩
     rw[Fb (by omega),UInt8.ofNat_toNat];rfl

def Hh:Nat→List UInt8→List Int→List Int×Int
 |0,s,out=>if s=[] then(out,0) else([],2)
 |k+1,s,out=>if(rd 2147483648 5 0 0 s).2.2≠0 then([],(rd 2147483648 5 0 0 s).2.2) else Hh k (rd 2147483648 5 0 0 s).2.1 (out++[((rd 2147483648 5 0 0 s).1:Int) - 1])
def AN(s:List UInt8):List Int×Int:=
 if(rd 100000 5 0 0 s).2.2≠0 then([],(rd 100000 5 0 0 s).2.2) else Hh (rd 100000 5 0 0 s).1 (rd 100000 5 0 0 s).2.1 []

theorem Jj{most:Nat}(s:List UInt8):(rd most 5 0 0 s).2.1.length≤s.length∧(rd most 5 0 0 s).1≤most:=by
 rcases Nx (most:=most) 5 0 0 s with⟨e,_,h⟩|⟨m,rest,h,h2,h3,_⟩
 ·rw[h];simp
 ·rw[h];refine⟨?_,h3⟩;rw[h2];simp
theorem aml(r:Int×List UInt8×Int)(N:Nat)(hN:r.1=N)(hN2:N≤100000):∀(k i f:Nat) (s:List UInt8) (out:List Int),i+k=N→out.length=i→k<f→s.length<9223372036854775807→
  Sh.iter (fun(p:(List UInt8)×(List Int)×Int)=>ug r p.1 p.2.1 p.2.2) f (s,out,(i:Int))=some (Hh k s out):=by
 intro k
 induction k with
 |zero=>
  intro i f s out hik ho hf hs
  obtain⟨f,rfl⟩:∃m,f=m+1:=⟨f - 1,by omega⟩
  refine(g_ (X:=x_ s out) ?_).trans ?_
  ·simp only[ug]
   rw[if_neg (by simp;omega)]
  ·unfold x_ Hh
   by_cases h:s=[] <;> simp[h]
 |succ k ih=>
  intro i f s out hik ho hf hs
  obtain⟨f,rfl⟩:∃m,f=m+1:=⟨f - 1,by omega⟩
  have hlt:decide ((i:Int)<r.1)=true:=by simp;omega
  have hr:=Jj (most:=2147483648) s
  have hn:=Xj (most:=2147483648) hs
  have hn':vz s 2147483648=some (Rw (rd 2147483648 5 0 0 s)):=hn
  simp only[Hh]
  by_cases he:(rd 2147483648 5 0 0 s).2.2=0
  ·rw[if_neg (by simpa using he)]
   refine(hU (s':=((rd 2147483648 5 0 0 s).2.1,out++[((rd 2147483648 5 0 0 s).1:Int) - 1],((i+1:Nat):Int))) ?_).trans (ih (i+1) f _ _ (by omega) (by simp;omega) (by omega) (by omega))
   have hd:decide ((Rw (rd 2147483648 5 0 0 s)).2.2≠0)=false:=by simp[Rw,he]
   simp only[ug,hlt,if_true,hn',b9,hd,iC,if_false]
   have e1:dz ((Rw (rd 2147483648 5 0 0 s)).1 - 1)=((rd 2147483648 5 0 0 s).1:Int) - 1:=by
    show dz (((rd 2147483648 5 0 0 s).1:Int) - 1)=_
    exact gA (by omega) (by omega)
   rw[e1,dX (by simp;omega),b9,bn (by omega)]
   rfl
  ·rw[if_pos (by simpa using he)]
   refine kj ?_
   have hd:decide ((Rw (rd 2147483648 5 0 0 s)).2.2≠0)=true:=by simp[Rw,he]
   simp only[ug,hlt,if_true,hn',b9,hd]
   rfl
theorem aq1{s:List UInt8}(hs:s.length<9223372036854775807):Bk s=some (AN s):=by
 have hn:=Xj (most:=100000) hs
 have hn':vz s 100000=some (Rw (rd 100000 5 0 0 s)):=hn
 have hr:=Jj (most:=100000) s
 unfold Bk AN
 rw[hn',b9]
 by_cases he:(rd 100000 5 0 0 s).2.2=0
 ·rw[if_neg (by simp[Rw,he]),if_neg (by simpa using he)]
  exact aml _ _ rfl hr.2 _ 0 Sh.nU _ [] (by omega) rfl (bC (by omega)) (by show(rd 100000 5 0 0 s).2.1.length<_;omega)
 ·rw[if_pos (by simp[Rw,he]),if_pos (by simpa using he)]
  rfl

theorem Cg(a b:List Int):Sh.str (a++b)=Sh.str a++Sh.str b:=by simp[Sh.str]
theorem Og(n:Int)(l:List Int):E4 (n::l)=Dk (n+1).toNat++E4 l:=by simp[E4]
theorem UI:∀(k:Nat) (s:List UInt8) (out:List Int),((Hh k s out).2≠0∧(Hh k s out).1=[])∨∃l,Hh k s out=(out++l,0)∧l.length=k∧l.all sj=true∧s=Sh.str (E4 l):=by
 intro k
 induction k with
 |zero=>
  intro s out
  unfold Hh
  by_cases h:s=[]
  ·rw[if_pos h];exact .inr ⟨[],by simp,rfl,rfl,by simp[h,E4,Sh.str]⟩
  ·rw[if_neg h];exact .inl ⟨by simp,rfl⟩
 |succ k ih=>
  intro s out
  simp only[Hh]
  rcases Nx (most:=2147483648) 5 0 0 s with⟨e,h1,h2⟩|⟨m,rest,h1,h2,h3,_⟩
  ·rw[h2];simp only;rw[if_pos h1];exact .inl ⟨h1,rfl⟩
  ·rw[h1]
   simp only[ne_eq,not_true,if_false,Nat.pow_zero,Nat.mul_one,Nat.zero_add] at h3 ⊢
   rcases ih rest (out++[(m:Int) - 1]) with h|⟨l,q1,q2,q3,q4⟩
   ·exact .inl h
   ·refine .inr ⟨((m:Int) - 1)::l,by rw[q1];simp,by simp[q2], ?_, ?_⟩
    ·simp only[List.all_cons,q3,Bool.and_true,sj,Bool.and_eq_true,decide_eq_true_eq];omega
    ·rw[Og,Cg,←q4,h2]
     have:((m:Int) - 1+1).toNat=m:=by omega
     rw[this]
theorem JG(s:List UInt8):((AN s).2≠0∧(AN s).1=[])∨∃l,AN s=(l,0)∧l.length≤100000∧l.length≤s.length∧l.all sj=true∧Px l=(s,0):=by
 unfold AN
 rcases Nx (most:=100000) 5 0 0 s with⟨e,h1,h2⟩|⟨m,rest,h1,h2,h3,_⟩
 ·rw[h2];simp only;rw[if_pos h1];exact .inl ⟨h1,rfl⟩
 ·rw[h1]
  simp only[ne_eq,not_true,if_false,Nat.pow_zero,Nat.mul_one,Nat.zero_add] at h3 ⊢
  rcases UI m rest [] with h|⟨l,q1,q2,q3,q4⟩
  ·exact .inl h
  ·refine .inr ⟨l,by rw[q1];simp,by omega, ?_,q3, ?_⟩
   ·have key:∀l:List Int,l.length≤(Sh.str (E4 l)).length:=by
     intro l
     induction l with
     |nil=>simp
     |cons n l ih=>
      rw[Og,Cg]
      have:0<(Sh.str (Dk (n+1).toNat)).length:=by
       by_cases h:(n+1).toNat<128
       ·rw[Fb h];simp
       ·rw[Im h];simp
      simp only[List.length_append,List.length_cons];omega
    rw[h2,List.length_append,q4]
    have:=key l
    omega
   ·unfold Px
    rw[if_neg (by omega),if_pos q3,Cg,←q4,q2,h2]
end Pl
end

section
/- Certificates as numbers, and back. -/
namespace Pl
open Go Go.Av G

def mb(l:List Int)(g:Bool):List Int×Bool×Int:=match l with|[]=>([],false,0)|n::r=>(r,g,n)
theorem Mi(l:List Int)(g:Bool):iK l g=some (mb l g):=by
 unfold iK mb
 cases l with
 |nil=>rfl
 |cons n r=>
  rw[if_neg (by simp[Sh.len];omega)]
  have e1:Sh.idx (n::r) 0=some n:=rfl
  have e2:Sh.sub (n::r) 1 (Sh.len (n::r))=some r:=by
   have:=NJ (l:=n::r) (m:=1) (k:=r.length+1) (by omega) (by simp)
   rw[bW]
   simpa using this
  rw[e1,b9,e2]
  rfl
def Aq(g:Bool)(l:List Int):Int×Bool×List Int:=((mb l g).2.2,(mb l g).2.1&&decide (0≤(mb l g).2.2),(mb l g).1)
theorem FK(g:Bool)(l:List Int):oQ g l=some (Aq g l):=by
 unfold oQ Aq si
 rw[Mi,b9]
 cases(mb l g).2.1 <;> rfl
theorem Gh(l:List Int):(Aq false l).2.1=false:=by cases l <;> rfl
theorem SO{f:Nat}{left acc:List Int}{n:Int}:Sh.iter (fun(p:Bool×(List Int)×(List Int)×Int)=>je p.1 p.2.1 p.2.2.1 p.2.2.2) (f+1) (false,left,acc,n)=some (acc,false,left):=
 kj rfl
theorem aae:∀(f:Nat) (left acc:List Int) (n:Nat),left.length+1<f→acc.length+left.length≤200000→n<9223372036854775808→
  Sh.iter (fun(p:Bool×(List Int)×(List Int)×Int)=>je p.1 p.2.1 p.2.2.1 p.2.2.2) f (true,left,acc,(n:Int))=
   some (if n≤left.length then(acc++left.take n,true,left.drop n) else(acc++left++[0],false,[])):=by
 intro f
 induction f with
 |zero=>intro left acc n h;omega
 |succ f ih=>
  intro left acc n hf hb hn
  by_cases h0:n=0
  ·subst h0
   refine kj ?_
   simp[je,lH,uu,Sh.exit]
  ·have hd:decide ((0:Int)<(n:Int))=true:=decide_eq_true (by omega)
   have hw:dz ((n:Int) - 1)=((n - 1:Nat):Int):=by rw[gA (by omega) (by omega)];omega
   cases left with
   |nil=>
    obtain⟨f,rfl⟩:∃m,f=m+1:=⟨f - 1,by simp at hf;omega⟩
    refine(hU (s':=(false,[],acc++[0],((n - 1:Nat):Int))) ?_).trans ?_
    ·simp only[je,lH,hd,if_true,Mi,mb,b9]
     rw[dX (by simp at hb ⊢;omega),hw]
     rfl
    ·rw[SO,if_neg (by simp;omega)]
     simp
   |cons x r=>
    simp only[List.length_cons] at hf hb
    refine(hU (s':=(true,r,acc++[x],((n - 1:Nat):Int))) ?_).trans ?_
    ·simp only[je,lH,hd,if_true,Mi,mb,b9]
     rw[dX (by simp;omega),hw]
     rfl
    ·rw[ih r (acc++[x]) (n - 1) (by omega) (by simp;omega) (by omega)]
     by_cases hle:n≤r.length+1
     ·rw[if_pos (by omega),if_pos (by simpa using hle)]
      obtain⟨m,rfl⟩:∃m,n=m+1:=⟨n - 1,by omega⟩
      simp
     ·rw[if_neg (by omega),if_neg (by simpa using hle)]
      simp
def B_(g:Bool)(l:List Int):List Int×Bool×List Int:=
 if(Aq g l).2.1 then(if(Aq g l).1.toNat≤(Aq g l).2.2.length then((Aq g l).2.2.take (Aq g l).1.toNat,true,(Aq g l).2.2.drop (Aq g l).1.toNat) else((Aq g l).2.2++[0],false,[])) else([],false,(Aq g l).2.2)
def KX(l:List Int):Prop:=l.length≤100000∧∀n∈l,n<9223372036854775807
theorem KX.tail{n:Int}{l:List Int}(h:KX (n::l)):KX l:=⟨by have:=h.1;simp at this;omega,fun x hx=>h.2 x (List.mem_cons_of_mem _ hx)⟩
theorem KX.drop{l:List Int}(h:KX l)(k:Nat):KX (l.drop k):=⟨by have:=h.1;simp;omega,fun x hx=>h.2 x (List.mem_of_mem_drop hx)⟩
theorem QC{g:Bool}{l:List Int}(h:KX l):KX (Aq g l).2.2∧(Aq g l).1<9223372036854775807:=by
 cases l with
 |nil=>exact⟨h,by simp[Aq,mb]⟩
 |cons n r=>exact⟨h.tail,h.2 n (List.mem_cons_self ..)⟩
theorem ZW{g:Bool}{l:List Int}(h:KX l):rL g l=some (B_ g l):=by
 unfold rL B_
 rw[FK,b9]
 obtain⟨h1,h2⟩:=QC (g:=g) h
 cases hg:(Aq g l).2.1 with
 |false=>exact SO (f:=Sh.nU - 1)
 |true=>
  have h0:0≤(Aq g l).1:=by
   unfold Aq at hg ⊢
   simp only[Bool.and_eq_true,decide_eq_true_eq] at hg
   exact hg.2
  have hn:(Aq g l).1=(((Aq g l).1.toNat:Nat):Int):=by omega
  have:=h1.1
  have key:=aae Sh.nU (Aq g l).2.2 [] (Aq g l).1.toNat (bC (by omega)) (by simp;omega) (by omega)
  rw[←hn] at key
  simp only[List.nil_append] at key
  simp only[if_true]
  exact key
theorem aag{g:Bool}{l:List Int}(h:KX l):KX (B_ g l).2.2:=by
 have h1:=(QC (g:=g) h).1
 unfold B_
 split
 ·split
  ·exact h1.drop _
  ·exact⟨by simp,fun x hx=>by simp at hx⟩
 ·exact h1
theorem Bq(l:List Int):(B_ false l).2.1=false:=by
 unfold B_
 rw[Gh]
 rfl
def RF:List Int→Option (List Int×List Int)
 |[]=>none
 |n::r=>if 0≤n∧n.toNat≤r.length then some (r.take n.toNat,r.drop n.toNat) else none
theorem Ks(n:Int)(r:List Int):RF (n::r)=if 0≤n∧n.toNat≤r.length then some (r.take n.toNat,r.drop n.toNat) else none:=rfl
theorem Kp(l:List Int):(∃a b,RF l=some (a,b)∧B_ true l=(a,true,b))∨(RF l=none∧(B_ true l).2.1=false):=by
 cases l with
 |nil=>exact .inr ⟨rfl,rfl⟩
 |cons n r=>
  rw[Ks]
  unfold B_ Aq mb
  by_cases h0:0≤n
  ·by_cases h1:n.toNat≤r.length
   ·exact .inl ⟨_,_,by rw[if_pos ⟨h0,h1⟩],by simp[h0,h1]⟩
   ·refine .inr ⟨by rw[if_neg (fun h=>h1 h.2)], ?_⟩
    simp[h0,h1]
  ·refine .inr ⟨by rw[if_neg (fun h=>h0 h.1)], ?_⟩
   simp[h0]
theorem Cb{l a b:List Int}(h:RF l=some (a,b)):l=(a.length:Int)::(a++b):=by
 cases l with
 |nil=>cases h
 |cons n r=>
  rw[Ks] at h
  split at h
  ·rename_i hc
   simp only[Option.some.injEq,Prod.mk.injEq] at h
   obtain⟨rfl,rfl⟩:=h
   have:((r.take n.toNat).length:Int)=n:=by simp;omega
   rw[this,List.take_append_drop]
  ·cases h
def wB:Nat→List Int→List aP→Option (List aP×List Int)
 |0,l,acc=>some (acc,l)
 |_+1,[],_=>none
 |k+1,key::l,acc=>match RF l with
  |none=>none
  |some (L,r)=>wB k r (acc++[⟨key,L⟩])
def tS:Nat→List Int→List au→Option (List au×List Int)
 |0,l,acc=>some (acc,l)
 |k+1,a::b::c::l,acc=>match RF l with
  |none=>none
  |some (L,r)=>tS k r (acc++[⟨⟨a,b,c⟩,L⟩])
 |_+1,_,_=>none
def ZC:bh×Int:=(⟨0,false,[],[],[]⟩,2)

section
variable (p:(List Int)×Bool×Int) (q:Int×Bool×(List Int)) (r:(List Int)×Bool×(List Int))
theorem ZE(v:List aP)(left:List Int)(t:List au):sI p q r v left true t=some (if left=[] then(⟨p.2.2,decide (q.1=1),r.1,v,t⟩,0) else ZC):=by
 unfold sI xP
 cases left with
 |nil=>simp[Sh.len]
 |cons x l=>
  have:decide ((0:Int)<Sh.len (x::l))=true:=decide_eq_true (by simp only[Sh.len,List.length_cons];omega)
  rw[this];rfl
theorem G3{f:Nat}{v:List aP}{left:List Int}{acc:List au}{n:Int}:Sh.iter (fun(x:(List Int)×Bool×(List au)×Int)=>oR p q r v x.1 x.2.1 x.2.2.1 x.2.2.2) (f+1) (left,false,acc,n)=some ZC:=
 kj rfl
theorem KC{l:List Int}(h:KX l)(g:Bool):KX (mb l g).1:=by
 cases l with
 |nil=>exact h
 |cons n r=>exact h.tail
theorem X6(v:List aP):∀(f:Nat) (left:List Int) (acc:List au) (n:Nat),left.length+1<f→acc.length+left.length≤200000→KX left→n<9223372036854775808→
  Sh.iter (fun(x:(List Int)×Bool×(List au)×Int)=>oR p q r v x.1 x.2.1 x.2.2.1 x.2.2.2) f (left,true,acc,(n:Int))=
   match tS n left acc with
   |some (t,l)=>sI p q r v l true t
   |none=>some ZC:=by
 intro f
 induction f with
 |zero=>intro left acc n h;omega
 |succ f ih=>
  intro left acc n hf hb hN hn
  by_cases h0:n=0
  ·subst h0
   refine(g_ (X:=sI p q r v left true acc) ?_).trans ?_
   ·simp[oR,vn]
   ·rfl
  ·obtain⟨n,rfl⟩:∃m,n=m+1:=⟨n - 1,by omega⟩
   have hd:decide ((0:Int)<((n+1:Nat):Int))=true:=decide_eq_true (by omega)
   have hw:dz (((n+1:Nat):Int) - 1)=(n:Int):=by rw[gA (by omega) (by omega)];omega
   have n1:=KC hN true
   have n2:=KC n1 (mb left true).2.1
   have n3:=KC n2 (mb (mb left true).1 (mb left true).2.1).2.1
   have body:oR p q r v left true acc ((n+1:Nat):Int)=
     (Sh.app 48 acc ([(au.mk (aa.mk (mb left true).2.2 (mb (mb left true).1 (mb left true).2.1).2.2 (mb (mb (mb left true).1 (mb left true).2.1).1 (mb (mb left true).1 (mb left true).2.1).2.1).2.2) (B_ (mb (mb (mb left true).1 (mb left true).2.1).1 (mb (mb left true).1 (mb left true).2.1).2.1).2.1 (mb (mb (mb left true).1 (mb left true).2.1).1 (mb (mb left true).1 (mb left true).2.1).2.1).1).1)]:List au)).bind fun l=>
      Sh.next ((B_ (mb (mb (mb left true).1 (mb left true).2.1).1 (mb (mb left true).1 (mb left true).2.1).2.1).2.1 (mb (mb (mb left true).1 (mb left true).2.1).1 (mb (mb left true).1 (mb left true).2.1).2.1).1).2.2,(B_ (mb (mb (mb left true).1 (mb left true).2.1).1 (mb (mb left true).1 (mb left true).2.1).2.1).2.1 (mb (mb (mb left true).1 (mb left true).2.1).1 (mb (mb left true).1 (mb left true).2.1).2.1).1).2.1,l,(n:Int)):=by
    simp only[oR,vn,hd,if_true,Mi,b9,ZW n3,hw]
   rw[dX (by simp;omega),b9] at body
   have fin:∀a b d,oR p q r v left true acc ((n+1:Nat):Int)=Sh.next (a,false,b,d)→Sh.iter (fun(x:(List Int)×Bool×(List au)×Int)=>oR p q r v x.1 x.2.1 x.2.2.1 x.2.2.2) (f+1) (left,true,acc,((n+1:Nat):Int))=some ZC:=by
    intro a b d hbb
    obtain⟨f,rfl⟩:∃m,f=m+1:=⟨f - 1,by omega⟩
    exact(hU (s':=(a,false,b,d)) hbb).trans (G3 p q r)
   match left,hf,hb,hN,body,fin with
   |[],_,_,_,body,fin=>
    have hz:(B_ false []).2.1=false:=Bq []
    simp only[mb,hz] at body
    exact fin _ _ _ body
   |[x],_,_,_,body,fin=>
    have hz:(B_ false []).2.1=false:=Bq []
    simp only[mb,hz] at body
    exact fin _ _ _ body
   |[x,y],_,_,_,body,fin=>
    have hz:(B_ false []).2.1=false:=Bq []
    simp only[mb,hz] at body
    exact fin _ _ _ body
   |x::y::z::l,hf,hb,hN,body,fin=>
    simp only[mb] at body
    rcases Kp l with⟨a,b,h1,h2⟩|⟨h1,h2⟩
    ·rw[h2] at body
     simp only[tS,h1]
     have hl:=Cb h1
     have hlen:l.length=a.length+b.length+1:=by rw[hl,List.length_cons,List.length_append]
     simp only[List.length_cons] at hf hb
     refine(hU (s':=(b,true,acc++[⟨⟨x,y,z⟩,a⟩],(n:Int))) body).trans (ih b _ n (by omega) (by simp;omega) ?_ (by omega))
     have:b=l.drop (a.length+1):=by rw[hl];simp
     rw[this];exact(hN.tail.tail.tail).drop _
    ·rw[h2] at body
     simp only[tS,h1]
     exact fin _ _ _ body
theorem WC(left:List Int)(v:List aP):oS p q r left false v=some ZC:=by
 unfold oS
 rw[FK,b9,Gh]
 exact G3 p q r (f:=Sh.nU - 1)
theorem ZD{left:List Int}(hN:KX left)(v:List aP):oS p q r left true v=match left with
  |[]=>some ZC
  |n::l=>if 0≤n then(match tS n.toNat l [] with
   |some (t,l)=>sI p q r v l true t
   |none=>some ZC) else some ZC:=by
 unfold oS
 rw[FK,b9]
 cases left with
 |nil=>exact G3 p q r (f:=Sh.nU - 1)
 |cons n l=>
  have h2:=hN.2 n (List.mem_cons_self ..)
  have h1:=hN.tail
  have h3:=h1.1
  by_cases h0:0≤n
  ·have:Aq true (n::l)=(n,true,l):=by simp[Aq,mb,h0]
   rw[this]
   simp only[h0,if_true]
   have hn:n=((n.toNat:Nat):Int):=by omega
   have:=X6 p q r v Sh.nU l [] n.toNat (bC (by omega)) (by simp;omega) h1 (by omega)
   rw[←hn] at this
   exact this
  ·have:Aq true (n::l)=(n,false,l):=by simp[Aq,mb,h0]
   rw[this]
   simp only[h0,if_false]
   exact G3 p q r (f:=Sh.nU - 1)
theorem DR{f:Nat}{left:List Int}{acc:List aP}{n:Int}:Sh.iter (fun(x:(List Int)×Bool×(List aP)×Int)=>mz p q r x.1 x.2.1 x.2.2.1 x.2.2.2) (f+1) (left,false,acc,n)=some ZC:=
 (g_ (b:=fun(x:(List Int)×Bool×(List aP)×Int)=>mz p q r x.1 x.2.1 x.2.2.1 x.2.2.2) (X:=oS p q r left false acc) rfl).trans (WC p q r left acc)
theorem XO:∀(f:Nat) (left:List Int) (acc:List aP) (n:Nat),left.length+1<f→acc.length+left.length≤200000→KX left→n<9223372036854775808→
  Sh.iter (fun(x:(List Int)×Bool×(List aP)×Int)=>mz p q r x.1 x.2.1 x.2.2.1 x.2.2.2) f (left,true,acc,(n:Int))=
   match wB n left acc with
   |some (t,l)=>oS p q r l true t
   |none=>some ZC:=by
 intro f
 induction f with
 |zero=>intro left acc n h;omega
 |succ f ih=>
  intro left acc n hf hb hN hn
  by_cases h0:n=0
  ·subst h0
   refine(g_ (X:=oS p q r left true acc) ?_).trans ?_
   ·simp[mz,vo]
   ·rfl
  ·obtain⟨n,rfl⟩:∃m,n=m+1:=⟨n - 1,by omega⟩
   have hd:decide ((0:Int)<((n+1:Nat):Int))=true:=decide_eq_true (by omega)
   have hw:dz (((n+1:Nat):Int) - 1)=(n:Int):=by rw[gA (by omega) (by omega)];omega
   have n1:=KC hN true
   have body:mz p q r left true acc ((n+1:Nat):Int)=
     (Sh.app 32 acc ([(aP.mk (mb left true).2.2 (B_ (mb left true).2.1 (mb left true).1).1)]:List aP)).bind fun l=>
      Sh.next ((B_ (mb left true).2.1 (mb left true).1).2.2,(B_ (mb left true).2.1 (mb left true).1).2.1,l,(n:Int)):=by
    simp only[mz,vo,hd,if_true,Mi,b9,ZW n1,hw]
   rw[dX (by simp;omega),b9] at body
   have fin:∀a b d,mz p q r left true acc ((n+1:Nat):Int)=Sh.next (a,false,b,d)→Sh.iter (fun(x:(List Int)×Bool×(List aP)×Int)=>mz p q r x.1 x.2.1 x.2.2.1 x.2.2.2) (f+1) (left,true,acc,((n+1:Nat):Int))=some ZC:=by
    intro a b d hbb
    obtain⟨f,rfl⟩:∃m,f=m+1:=⟨f - 1,by omega⟩
    exact(hU (s':=(a,false,b,d)) hbb).trans (DR p q r)
   match left,hf,hb,hN,body,fin with
   |[],_,_,_,body,fin=>
    have hz:(B_ false []).2.1=false:=Bq []
    simp only[mb,hz] at body
    exact fin _ _ _ body
   |x::l,hf,hb,hN,body,fin=>
    simp only[mb] at body
    rcases Kp l with⟨a,b,h1,h2⟩|⟨h1,h2⟩
    ·rw[h2] at body
     simp only[wB,h1]
     have hl:=Cb h1
     have hlen:l.length=a.length+b.length+1:=by rw[hl,List.length_cons,List.length_append]
     simp only[List.length_cons] at hf hb
     refine(hU (s':=(b,true,acc++[⟨x,a⟩],(n:Int))) body).trans (ih b _ n (by omega) (by simp;omega) ?_ (by omega))
     have:b=l.drop (a.length+1):=by rw[hl];simp
     rw[this];exact hN.tail.drop _
    ·rw[h2] at body
     simp only[wB,h1]
     exact fin _ _ _ body
end
def yz:List Int→Option bh
 |lev::yes::r=>if 0≤yes∧yes≤1 then(match RF r with
  |some (ord,nr::r3)=>if 0≤nr then(match wB nr.toNat r3 [] with
   |some (rows,nt::r5)=>if 0≤nt then(match tS nt.toNat r5 [] with
    |some (tree,[])=>some ⟨lev,decide (yes=1),ord,rows,tree⟩
    |_=>none) else none
   |_=>none) else none
  |_=>none) else none
 |_=>none
theorem T3:∀(k:Nat) (l:List Int) (acc rows:List aP) (r:List Int),KX l→wB k l acc=some (rows,r)→KX r:=by
 intro k
 induction k with
 |zero=>intro l acc rows r hN h;simp only[wB,Option.some.injEq,Prod.mk.injEq] at h;rw[←h.2];exact hN
 |succ k ih=>
  intro l acc rows r hN h
  cases l with
  |nil=>cases h
  |cons x l=>
   simp only[wB] at h
   cases h1:RF l with
   |none=>rw[h1] at h;cases h
   |some ab=>
    obtain⟨a,b⟩:=ab
    rw[h1] at h
    have hl:=Cb h1
    have:b=l.drop (a.length+1):=by rw[hl];simp
    exact ih b _ _ _ (by rw[this];exact hN.tail.drop _) h
theorem O5(p:(List Int)×Bool×Int)(q:Int×Bool×(List Int))(hN:KX q.2.2):qM p q false=some ZC:=by
 unfold qM
 rw[ZW hN,b9,Bq,FK,b9,Gh]
 exact DR _ _ _ (f:=Sh.nU - 1)
theorem Xg{s:List UInt8}(hs:s.length<9223372036854775807):uO s=some (if(AN s).2≠0 then(⟨0,false,[],[],[]⟩,(AN s).2) else match yz (AN s).1 with|some c=>(c,0)|none=>ZC):=by
 unfold uO
 rw[aq1 hs,b9]
 by_cases he:(AN s).2=0
 ·have hN:KX (AN s).1:=by
   rcases JG s with⟨h,_⟩|⟨l,h1,h2,_,h4,_⟩
   ·exact absurd he h
   ·rw[h1]
    refine⟨h2,fun n hn=> ?_⟩
    have:=List.all_eq_true.1 h4 n hn
    simp only[sj,Bool.and_eq_true,decide_eq_true_eq] at this
    omega
  rw[if_neg (by simp[he]),if_neg (by simp[he])]
  generalize (AN s).1=l at hN
  have n1:=KC hN true
  rw[Mi,b9,FK,b9]
  have n2:=(QC (g:=(mb l true).2.1) n1).1
  have bad:(Aq (mb l true).2.1 (mb l true).1).2.1=false∨((Aq (mb l true).2.1 (mb l true).1).2.1=true∧¬(Aq (mb l true).2.1 (mb l true).1).1≤1)→(if(Aq (mb l true).2.1 (mb l true).1).2.1=true then qM (mb l true) (Aq (mb l true).2.1 (mb l true).1) (decide ((Aq (mb l true).2.1 (mb l true).1).1≤1)) else qM (mb l true) (Aq (mb l true).2.1 (mb l true).1) false)=some ZC:=by
   rintro(h|⟨h,h2⟩)
   ·rw[h];exact O5 _ _ n2
   ·rw[h,if_pos rfl,decide_eq_false h2];exact O5 _ _ n2
  match l,hN,n1,n2,bad with
  |[],_,_,_,bad=>exact bad (.inl rfl)
  |[x],_,_,_,bad=>exact bad (.inl rfl)
  |lev::yes::r,hN,n1,n2,bad=>
   have hNr:KX r:=hN.tail.tail
   by_cases h0:0≤yes
   ·by_cases h1:yes≤1
    ·have e1:Aq true (yes::r)=(yes,true,r):=by simp[Aq,mb,h0]
     simp only[mb,e1,yz,h0,h1,and_self,if_true,decide_true]
     unfold qM
     simp only
     rw[ZW hNr,b9]
     have hNb:=aag (g:=true) hNr
     rcases Kp r with⟨a,b,g1,g2⟩|⟨g1,g2⟩
     ·rw[g2] at hNb ⊢
      simp only at hNb
      simp only[g1]
      rw[FK,b9]
      cases b with
      |nil=>exact DR _ _ _ (f:=Sh.nU - 1)
      |cons nr r3=>
       have k1:=hNb.2 nr (List.mem_cons_self ..)
       have k2:=hNb.tail
       have k3:=k2.1
       by_cases hnr:0≤nr
       ·have e2:Aq true (nr::r3)=(nr,true,r3):=by simp[Aq,mb,hnr]
        rw[e2]
        simp only[hnr,if_true]
        have hn:nr=((nr.toNat:Nat):Int):=by omega
        have key:=XO (yes::r,true,lev) (yes,true,r) (a,true,nr::r3) Sh.nU r3 [] nr.toNat (bC (by omega)) (by simp;omega) k2 (by omega)
        rw[←hn] at key
        refine key.trans ?_
        cases hro:wB nr.toNat r3 [] with
        |none=>rfl
        |some x=>
         obtain⟨rows,r4⟩:=x
         have hN4:=T3 _ _ _ _ _ k2 hro
         simp only
         rw[ZD _ _ _ hN4]
         cases r4 with
         |nil=>rfl
         |cons nt r5=>
          simp only
          by_cases hnt:0≤nt
          ·simp only[hnt,if_true]
           cases htr:tS nt.toNat r5 [] with
           |none=>rfl
           |some y=>
            obtain⟨tree,r6⟩:=y
            simp only
            rw[ZE]
            cases r6 with
            |nil=>rfl
            |cons _ _=>rfl
          ·simp only[hnt,if_false]
       ·have e2:Aq true (nr::r3)=(nr,false,r3):=by simp[Aq,mb,hnr]
        rw[e2]
        simp only[hnr,if_false]
        exact DR _ _ _ (f:=Sh.nU - 1)
     ·rw[g2]
      simp only[g1]
      rw[FK,b9,Gh]
      exact DR _ _ _ (f:=Sh.nU - 1)
    ·have e1:Aq true (yes::r)=(yes,true,r):=by simp[Aq,mb,h0]
     have hp:yz (lev::yes::r)=none:=by simp[yz,h1]
     rw[hp]
     exact bad (.inr ⟨by simp[mb,e1],by simp[mb,e1,h1]⟩)
   ·have e1:Aq true (yes::r)=(yes,false,r):=by simp[Aq,mb,h0]
    have hp:yz (lev::yes::r)=none:=by simp[yz,h0]
    rw[hp]
    exact bad (.inl (by simp[mb,e1]))
 ·rw[if_pos (by simp[he]),if_pos (by simp[he])]
end Pl
namespace Pl
open Go Go.Av G
def l_(l:List aP):List Int:=l.flatMap fun r=>r.Key::(r.L.length:Int)::r.L
def mc(l:List au):List Int:=l.flatMap fun n=>n.C.Key::n.C.A::n.C.B::(n.bR.length:Int)::n.bR
def ints(c:bh):List Int:=
 c.Level::(if c.j9 then 1 else 0)::(c.Order.length:Int)::(c.Order++(c.Rows.length:Int)::(l_ c.Rows++(c.Tree.length:Int)::mc c.Tree))
theorem XQ:∀(k:Nat) (l:List Int) (acc rows:List aP) (r:List Int),wB k l acc=some (rows,r)→∃m,rows=acc++m∧m.length=k∧l=l_ m++r:=by
 intro k
 induction k with
 |zero=>
  intro l acc rows r h
  simp only[wB,Option.some.injEq,Prod.mk.injEq] at h
  exact⟨[],by simp[h.1],rfl,by simp[l_,h.2]⟩
 |succ k ih=>
  intro l acc rows r h
  cases l with
  |nil=>cases h
  |cons x l=>
   simp only[wB] at h
   cases h1:RF l with
   |none=>rw[h1] at h;cases h
   |some ab=>
    obtain⟨a,b⟩:=ab
    rw[h1] at h
    obtain⟨m,e1,e2,e3⟩:=ih b _ _ _ h
    refine⟨⟨x,a⟩::m,by rw[e1];simp,by simp[e2], ?_⟩
    rw[Cb h1,e3]
    simp[l_]
theorem X7:∀(k:Nat) (l:List Int) (acc rows:List au) (r:List Int),tS k l acc=some (rows,r)→∃m,rows=acc++m∧m.length=k∧l=mc m++r:=by
 intro k
 induction k with
 |zero=>
  intro l acc rows r h
  simp only[tS,Option.some.injEq,Prod.mk.injEq] at h
  exact⟨[],by simp[h.1],rfl,by simp[mc,h.2]⟩
 |succ k ih=>
  intro l acc rows r h
  match l,h with
  |x::y::z::l,h=>
   simp only[tS] at h
   cases h1:RF l with
   |none=>rw[h1] at h;cases h
   |some ab=>
    obtain⟨a,b⟩:=ab
    rw[h1] at h
    obtain⟨m,e1,e2,e3⟩:=ih b _ _ _ h
    refine⟨⟨⟨x,y,z⟩,a⟩::m,by rw[e1];simp,by simp[e2], ?_⟩
    rw[Cb h1,e3]
    simp[mc]
theorem TM{l:List Int}{c:bh}(h:yz l=some c):ints c=l:=by
 match l,h with
 |lev::yes::r,h=>
  simp only[yz] at h
  split at h
  ·rename_i hy
   split at h
   ·rename_i ord nr r3 h1
    split at h
    ·rename_i hnr
     split at h
     ·rename_i rows nt r5 h2
      split at h
      ·rename_i hnt
       split at h
       ·rename_i tree h3
        simp only[Option.some.injEq] at h
        subst h
        obtain⟨m,e1,e2,e3⟩:=XQ _ _ _ _ _ h2
        obtain⟨t,f1,f2,f3⟩:=X7 _ _ _ _ _ h3
        simp only[List.nil_append] at e1 f1
        subst e1;subst f1
        have g1:(if decide (yes=1) then(1:Int) else 0)=yes:=by
         by_cases h:yes=1
         ·simp[h]
         ·have:yes=0:=by omega
          simp[this]
        have g2:((rows.length:Nat):Int)=nr:=by omega
        have g3:((tree.length:Nat):Int)=nt:=by omega
        unfold ints
        simp only[g1,g2,g3]
        rw[Cb h1,e3,f3]
        simp
       ·cases h
      ·cases h
     ·cases h
    ·cases h
   ·cases h
  ·cases h

theorem Nq{a b:List Int}(h:a.length+b.length≤2000000):rM a b=some (b++(a.length:Int)::a):=by
 unfold rM
 rw[dX (by simp;omega),b9,dX (by simp;omega)]
 simp[Sh.len]
theorem Ea{α:Type}(f:α→List Int){l:List α}{k:Nat}(hk:k<l.length):(l.take (k+1)).flatMap f=(l.take k).flatMap f++f l[k]:=by
 rw[List.take_add_one,List.getElem?_eq_getElem hk,Option.toList_some,List.flatMap_append,List.flatMap_singleton]
theorem I4{α:Type}(f:α→List Int)(l:List α)(k:Nat):((l.take k).flatMap f).length≤(l.flatMap f).length:=by
 conv=>rhs;rw[←List.take_append_drop k l]
 rw[List.flatMap_append,List.length_append];omega
theorem ams{c:bh}(h:(ints c).length≤1000000):zD c=some (Px (ints c)):=by
 have hy:zD c=vp c (if c.j9 then 1 else 0):=by unfold zD;cases c.j9 <;> rfl
 have hlen:(ints c).length=3+c.Order.length+1+(l_ c.Rows).length+1+(mc c.Tree).length:=by simp[ints];omega
 have hlr:c.Rows.length≤(l_ c.Rows).length:=by
  have:∀l:List aP,l.length≤(l_ l).length:=by
   intro l;induction l with
   |nil=>simp
   |cons x l ih=>simp only[l_,List.flatMap_cons,List.length_append,List.length_cons] at*;omega
  exact this _
 have hlt:c.Tree.length≤(mc c.Tree).length:=by
  have:∀l:List au,l.length≤(mc l).length:=by
   intro l;induction l with
   |nil=>simp
   |cons x l ih=>simp only[mc,List.flatMap_cons,List.length_append,List.length_cons] at*;omega
  exact this _
 rw[hy]
 unfold vp
 rw[dX (by simp),b9,Nq (by simp;omega),b9]
 rw[dX (by simp;omega),b9]
 generalize hB:([]++[c.Level,if c.j9 then 1 else 0]++(c.Order.length:Int)::c.Order++[Sh.len c.Rows])=B
 have hBl:B.length=4+c.Order.length:=by rw[←hB];simp;omega
 refine c6 (fun k=>B++l_ (c.Rows.take k)) c.Rows.length (xS c (B++l_ c.Rows)) (bC (by omega)) (fun k hk=> ?_) ?_ (by simp[l_])|>.trans ?_
 ·have VQ:=Ea (fun(r:aP)=>r.Key::(r.L.length:Int)::r.L) hk
  have uR:=I4 (fun(r:aP)=>r.Key::(r.L.length:Int)::r.L) c.Rows (k+1)
  have hk3:((c.Rows.take (k+1)).flatMap fun(r:aP)=>r.Key::(r.L.length:Int)::r.L).length=(l_ (c.Rows.take k)).length+2+(c.Rows[k]).L.length:=by
   rw[VQ];simp[l_];omega
  have hk4:(l_ (c.Rows.take k)).length+2+(c.Rows[k]).L.length≤(l_ c.Rows).length:=by rw[←hk3];exact uR
  simp only[xR,bW,dec_lt,hk,decide_true,if_true,bM hk,b9]
  rw[dX (by simp;omega),b9,Nq (by simp;omega)]
  simp only[b9,bn (k:=k) (by omega),Sh.next]
  rw[show l_ (c.Rows.take (k+1))=l_ (c.Rows.take k)++((c.Rows[k]).Key::((c.Rows[k]).L.length:Int)::(c.Rows[k]).L) from VQ]
  simp
 ·simp[xR,bW]
 ·unfold xS
  rw[dX (by simp;omega),b9]
  generalize hD:B++l_ c.Rows++[Sh.len c.Tree]=D
  have hDl:D.length=5+c.Order.length+(l_ c.Rows).length:=by rw[←hD];simp;omega
  refine c6 (fun k=>D++mc (c.Tree.take k)) c.Tree.length (xT (D++mc c.Tree)) (bC (by omega)) (fun k hk=> ?_) ?_ (by simp[mc])|>.trans ?_
  ·have VQ:=Ea (fun(n:au)=>n.C.Key::n.C.A::n.C.B::(n.bR.length:Int)::n.bR) hk
   have uR:=I4 (fun(n:au)=>n.C.Key::n.C.A::n.C.B::(n.bR.length:Int)::n.bR) c.Tree (k+1)
   have hk3:((c.Tree.take (k+1)).flatMap fun(n:au)=>n.C.Key::n.C.A::n.C.B::(n.bR.length:Int)::n.bR).length=(mc (c.Tree.take k)).length+4+(c.Tree[k]).bR.length:=by
    rw[VQ];simp[mc];omega
   have hk4:(mc (c.Tree.take k)).length+4+(c.Tree[k]).bR.length≤(mc c.Tree).length:=by rw[←hk3];exact uR
   simp only[xQ,bW,dec_lt,hk,decide_true,if_true,bM hk,b9]
   rw[dX (by simp;omega),b9,Nq (by simp;omega)]
   simp only[b9,bn (k:=k) (by omega),Sh.next]
   rw[show mc (c.Tree.take (k+1))=mc (c.Tree.take k)++((c.Tree[k]).C.Key::(c.Tree[k]).C.A::(c.Tree[k]).C.B::((c.Tree[k]).bR.length:Int)::(c.Tree[k]).bR) from VQ]
   simp
  ·simp[xQ,bW]
  ·have e:D++mc c.Tree=ints c:=by rw[←hD,←hB];simp[ints,Sh.len]
   unfold xT
   rw[e,aq3 _ (by omega)]
   rfl
end Pl
end

section
/- Numbers as bytes, and back, as the reference has them. -/
namespace Pl
open Go Go.Av G
theorem US{a b:List UInt8}(h:a.length+b.length<9223372036854775807):Sh.cat a b=some (a++b):=by
 unfold Sh.cat;rw[if_pos (by omega)]
theorem aeQ{n:Nat}(h:n<9223372036854775807):Sh.quo dz (n:Int) 128=some ((n / 128:Nat):Int):=by
 unfold Sh.quo
 rw[if_pos (by decide),Int.tdiv_eq_ediv_of_nonneg (by omega),gA (by omega) (by omega)]
 congr 1
theorem SM:∀(f n:Nat),n<f→n≤2147483648→nj f (n:Int)=some (Sh.str (Dk n))
 |0,n,h,_=>by omega
 |f+1,n,h,hn=>by
  show jE (nj f) (n:Int)=_
  unfold jE
  by_cases hs:n<128
  ·rw[if_pos (by simp;omega),wrap_u8 (by omega) (by omega),Eh hs]
  ·have hl:=Eg 5 (n / 128) (by omega) (by omega)
   rw[if_neg (by simp;omega),Ry,b9,aeQ (by omega),b9,SM f (n / 128) (by omega) (by omega),b9,gA (by omega) (by omega),wrap_u8 (by omega) (by omega),US (by simp[Sh.str];omega),I9 hs]
   simp only[b9]
   congr 1
   simp only[Sh.str,List.map_cons,List.map_nil,List.singleton_append]
   congr 2
   omega
theorem XF{n:Nat}(hn:n≤2147483648):s4 (n:Int)=some (Sh.str (Dk n)):=SM _ n (bC (by omega)) hn
theorem SS(l:List Int):(Sh.str l).length=l.length:=by simp[Sh.str]
theorem afg(l:List Int)(hl:l.length<9223372036854775807):sv l=some (Px l):=by
 unfold sv Px
 by_cases h1:100000<l.length
 ·rw[if_pos (by simp[Sh.len];omega),if_pos h1]
 ·rw[if_neg (by simp[Sh.len];omega),if_neg h1,bW,XF (by omega),b9]
  have hg:=Eg 5 l.length (by omega) (by omega)
  have round:∀k,k<l.length→(∀j,j<k→sj (l.getD j 0)=true)→fC l (Sh.str (Dk l.length++E4 (l.take k))) (k:Int)=
    if sj (l.getD k 0) then some (.inl (Sh.str (Dk l.length++E4 (l.take (k+1))),((k+1:Nat):Int))) else some (.inr ([],1)):=by
   intro k hk hj
   have hd:l.getD k 0=l[k]:=by simp[List.getD,List.getElem?_eq_getElem hk]
   have hall:(l.take k).all sj=true:=by
    rw[List.all_eq_true]
    intro x hx
    obtain⟨j,YA,rfl⟩:=List.getElem_of_mem hx
    have To:j<k:=by simp at YA;omega
    have:=hj j To
    rw[List.getElem_take]
    simpa [List.getD,List.getElem?_eq_getElem (show j<l.length by omega)] using this
   have hbl:=R_ hall
   have htk:(l.take k).length≤k:=by simp;omega
   rw[hd]
   simp only[fC,bW,dec_lt,hk,decide_true,if_true,bM hk,b9,ov]
   unfold sj
   by_cases a:l[k]< -1
   ·have:¬(-1:Int)≤l[k]:=by omega
    simp[a,this,Sh.exit]
   ·by_cases b:(2147483647:Int)<l[k]
    ·have:¬l[k]≤2147483647:=by omega
     simp[a,b,this,Sh.exit]
    ·have h2:(-1:Int)≤l[k]:=by omega
     have h3:l[k]≤2147483647:=by omega
     have h4:dz (l[k]+1)=(((l[k]+1).toNat:Nat):Int):=by rw[gA (by omega) (by omega)];omega
     have h5:=Eg 5 (l[k]+1).toNat (by omega) (by omega)
     simp only[a,b,h2,h3,decide_true,decide_false,Bool.and_self,iC,if_false,if_true,b9,h4,XF (n:=(l[k]+1).toNat) (by omega),bn (k:=k) (by omega),Sh.next]
     rw[US (by rw[SS,SS,List.length_append];omega),b9,show E4 (l.take (k+1))=E4 (l.take k)++Dk (l[k]+1).toNat from by
      unfold E4
      rw[List.take_add_one,List.getElem?_eq_getElem hk,Option.toList_some,List.flatMap_append,List.flatMap_singleton],←List.append_assoc,Cg (Dk l.length++E4 (l.take k))]
  by_cases hall:l.all sj=true
  ·rw[if_pos hall]
   have hat:∀j,j<l.length→sj (l.getD j 0)=true:=fun j hj=>by
    have:l.getD j 0=l[j]:=by simp[List.getD,List.getElem?_eq_getElem hj]
    rw[this];exact List.all_eq_true.1 hall _ (List.getElem_mem hj)
   refine ig (fun k=>(Sh.str (Dk l.length++E4 (l.take k)),(k:Int))) l.length (rX (Sh.str (Dk l.length++E4 l))) (bC (by omega)) (fun k hk=> ?_) ?_ (by simp[E4])|>.trans ?_
   ·show fC l _ _=_
    rw[round k hk (fun j hj=>hat j (by omega)),if_pos (hat k hk)]
   ·simp[fC,bW]
   ·rfl
  ·rw[if_neg hall]
   have hex:∃k,k<l.length∧sj (l.getD k 0)=false:=by
    have:l.all sj=false:=by simpa using hall
    rw[List.all_eq_false] at this
    obtain⟨x,hx,hn⟩:=this
    obtain⟨k,hk,rfl⟩:=List.getElem_of_mem hx
    exact⟨k,hk,by simpa [List.getD,List.getElem?_eq_getElem hk] using hn⟩
   obtain⟨k,⟨hk,hn⟩,hmin⟩:=exists_least _ hex
   have hat:∀j,j<k→sj (l.getD j 0)=true:=fun j hj=>by
    cases hq:sj (l.getD j 0) with
    |true=>rfl
    |false=>have:=hmin j ⟨by omega,hq⟩;omega
   refine ig (fun k=>(Sh.str (Dk l.length++E4 (l.take k)),(k:Int))) k (some ([],1)) (bC (by omega)) (fun q hq=> ?_) ?_ (by simp[E4])
   ·show fC l _ _=_
    rw[round q (by omega) (fun j hj=>hat j (by omega)),if_pos (hat q hq)]
   ·show fC l _ _=_
    rw[round k hk hat,hn]
    rfl

def vl:List Nat→Nat
 |[]=>0
 |d::l=>d+128*vl l
theorem NL:∀(l:List Nat) (d:Nat),vl (l++[d])=vl l+d*128 ^ l.length
 |[],d=>by simp[vl]
 |e::l,d=>by
  simp only[List.cons_append,vl,NL l d,List.length_cons,Nat.pow_succ]
  rw[Nat.mul_add,Nat.add_assoc]
  congr 2
  rw[←Nat.mul_assoc,Nat.mul_comm 128 d,Nat.mul_assoc,Nat.mul_comm 128]
theorem acQ:∀(l:List Nat),(∀d∈l,d<128)→vl l<128 ^ l.length
 |[],_=>by simp[vl]
 |e::l,h=>by
  have h1:=acQ l (fun d hd=>h d (List.mem_cons_of_mem _ hd))
  have h2:=h e (List.mem_cons_self ..)
  simp only[vl,List.length_cons,Nat.pow_succ]
  omega
def dg(s:List UInt8)(a i:Nat):List Nat:=((s.drop a).take i).map fun x=>x.toNat % 128
theorem QG{s:List UInt8}{a i:Nat}(h:a+i≤s.length):(dg s a i).length=i:=by simp[dg];omega
theorem agW{s:List UInt8}{a i:Nat}:∀d∈dg s a i,d<128:=fun d hd=>by
 obtain⟨x,_,rfl⟩:=List.mem_map.1 hd;omega
theorem Sc{s:List UInt8}{a i:Nat}(h:a+i<s.length):dg s a (i+1)=dg s a i++[s[a+i].toNat % 128]:=by
 unfold dg
 rw[List.take_add_one,List.getElem?_drop,List.getElem?_eq_getElem h];simp
theorem aap{l:List Nat}(hd:∀d∈l,d<128)(hl:l.length≤5)(k:Nat):vl (l.drop k)<34359738368:=by
 have h1:=acQ (l.drop k) (fun d h=>hd d (List.mem_of_mem_drop h))
 have h2:128 ^ (l.drop k).length≤128 ^ 5:=Nat.pow_le_pow_right (by decide) (by simp;omega)
 omega
theorem down{s:List UInt8}{a to:Nat}{most:Int}(ht:a≤to)(hlen:to<s.length)(h5:to<a+5)(hs:s.length<9223372036854775807):
  Sh.loop (fun(p:Int×Int)=>kg s (a:Int) most (to:Int) p.1 p.2) (0,(to:Int))=ow s (a:Int) most (to:Int) ((vl (dg s a (to+1 - a)):Nat):Int):=by
 have hdl:(dg s a (to+1 - a)).length=to+1 - a:=QG (by omega)
 refine ig (fun k=>(((vl ((dg s a (to+1 - a)).drop (to+1 - a - k)):Nat):Int),(to:Int) - (k:Int))) (to+1 - a) _ (bC (by omega)) (fun k hk=> ?_) ?_ ?_
 ·have hi:to - k<s.length:=by omega
  have hx:(to:Int) - (k:Int)=((to - k:Nat):Int):=by omega
  have hv:=aap (l:=dg s a (to+1 - a)) agW (by omega) (to+1 - a - k)
  simp only[kg]
  rw[hx,if_pos (by simp;omega),bM hi,b9,gA (n:=((s[to - k].toNat:Nat):Int)) (by omega) (by have:=s[to - k].toNat_lt;omega),Ry,b9]
  unfold Sh.next
  have e1:(dg s a (to+1 - a)).drop (to+1 - a - (k+1))=(s[to - k].toNat % 128)::(dg s a (to+1 - a)).drop (to+1 - a - k):=by
   rw[List.drop_eq_getElem_cons (show to+1 - a - (k+1)<(dg s a (to+1 - a)).length by omega)]
   congr 1
   ·simp only[dg,List.getElem_map,List.getElem_take,List.getElem_drop]
    congr 3
    omega
   ·congr 1;omega
  rw[e1]
  simp only[vl]
  rw[gA (n:=128*_) (by omega) (by omega),gA (by omega) (by omega),gA (by omega) (by omega)]
  congr 3
  ·omega
  ·omega
 ·simp only[kg]
  rw[if_neg (by simp;omega),Nat.sub_self,List.drop_zero]
 ·simp only[Nat.sub_zero,Int.natCast_zero,Int.sub_zero]
  rw[List.drop_of_length_le (by omega)];rfl
def oneOf(s:List UInt8)(r:Nat×List UInt8×Int):Int×Int×Int:=if r.2.2≠0 then(0,0,r.2.2) else((r.1:Int),((s.length - r.2.1.length:Nat):Int),0)
theorem acD{s:List UInt8}{a most:Nat}(hs:s.length<9223372036854775000):∀(g i f:Nat),g+i=5→a+i≤s.length→g<f→
  Sh.iter (fun(p:Int)=>gw s (a:Int) (most:Int) p) f ((a+i:Nat):Int)=some (oneOf s (rd most g i (vl (dg s a i)) (s.drop (a+i))))
 |0,i,0,_,_,h=>by omega
 |0,i,f+1,h5,hl,_=>by
  have e5:dz ((a:Int)+5)=((a+i:Nat):Int):=by rw[gA (by omega) (by omega)];omega
  refine g_ (X:=eU s a most ((a+i:Nat):Int)) ?_|>.trans ?_
  ·simp only[gw]
   have j4:iy s a most ((a+i:Nat):Int) false=Sh.exit (eU s a most ((a+i:Nat):Int)):=rfl
   rw[e5,show decide (((a+i:Nat):Int)<((a+i:Nat):Int))=false by simp,bW]
   by_cases hh:a+i<s.length
   ·rw[if_pos (by simp;omega),bM hh,b9]
    split <;> exact j4
   ·rw[if_neg (by simp;omega)];exact j4
  ·unfold eU
   rw[if_pos (by rw[e5];simp)];rfl
 |g+1,i,0,_,_,h=>by omega
 |g+1,i,f+1,h5,hl,hf=>by
  have e5:dz ((a:Int)+5)=((a+5:Nat):Int):=by rw[gA (by omega) (by omega)];omega
  have hne:decide (((a+i:Nat):Int)=dz ((a:Int)+5))=false:=by rw[e5];simp;omega
  by_cases hh:a+i<s.length
  ·rw[List.drop_eq_getElem_cons hh]
   simp only[rd]
   by_cases hx:128≤(s[a+i]).toNat
   ·rw[if_pos hx]
    refine(hU (s':=((a+(i+1):Nat):Int)) ?_).trans ?_
    ·simp only[gw]
     rw[bW,if_pos (by simp;omega),bM hh,b9,if_pos (by simp;omega),e5]
     unfold iy
     rw[if_pos (by simp;omega),bn (by omega)];rfl
    ·rw[acD hs g (i+1) f (by omega) (by omega) (by omega),Sc hh,NL,QG (by omega)]
     rfl
   ·rw[if_neg hx]
    refine g_ (X:=eU s a most ((a+i:Nat):Int)) ?_|>.trans ?_
    ·simp only[gw]
     rw[bW,if_pos (by simp;omega),bM hh,b9,if_neg (by simp;omega)];rfl
    ·unfold eU
     rw[hne,if_neg (by simp),if_neg (by simp[Sh.len];omega),down (by omega) hh (by omega) (by omega),show a+i+1 - a=i+1 by omega,Sc hh,NL,QG (by omega)]
     unfold ow
     have hm:s[a+i].toNat % 128=0↔s[a+i].toNat=0:=by omega
     have e1:∀m:Nat,iw ((a+i:Nat):Int) (m:Int) (decide ((most:Int)<(m:Int)))=some (oneOf s (if most<m then(0,[],2) else(m,s.drop (a+i+1),0))):=fun m=>by
      unfold iw oneOf
      by_cases hq:most<m
      ·rw[if_pos (by simp;omega),if_pos hq];rfl
      ·rw[if_neg (by simp;omega),if_neg hq,bn (by omega)]
       simp only[ne_eq,not_true_eq_false,if_false,List.length_drop]
       congr 3
       omega
     by_cases h0:0<i
     ·rw[if_pos (by simp;omega),bM hh,b9]
      by_cases hz:s[a+i].toNat=0
      ·rw[if_pos (by simp[hz]),if_pos (.inl ⟨h0,hz⟩)];rfl
      ·rw[if_neg (by simp;omega),e1]
       by_cases hq:most<vl (dg s a i)+s[a+i].toNat % 128*128 ^ i
       ·rw[if_pos hq,if_pos (.inr hq)]
       ·rw[if_neg hq,if_neg (fun h=>h.elim (fun h=>hz h.2) hq)]
     ·rw[if_neg (by simp;omega),e1]
      by_cases hq:most<vl (dg s a i)+s[a+i].toNat % 128*128 ^ i
      ·rw[if_pos hq,if_pos (.inr hq)]
      ·rw[if_neg hq,if_neg (fun h=>h.elim (fun h=>h0 h.1) hq)]
  ·rw[List.drop_of_length_le (by omega)]
   simp only[rd]
   refine g_ (X:=eU s a most ((a+i:Nat):Int)) ?_|>.trans ?_
   ·simp only[gw]
    rw[bW,if_neg (by simp;omega)];rfl
   ·unfold eU
    rw[hne,if_neg (by simp),if_pos (by simp[Sh.len];omega)];rfl
theorem acE{s:List UInt8}{a most:Nat}(hs:s.length<9223372036854775000)(ha:a≤s.length):lT s (a:Int) (most:Int)=some (oneOf s (rd most 5 0 0 (s.drop a))):=by
 have:=acD (s:=s) (a:=a) (most:=most) hs 5 0 Sh.nU rfl ha (bC (by omega))
 unfold lT Sh.loop
 simpa [dg,vl] using this
theorem HH{most:Nat}:∀(g i n:Nat) (s:List UInt8),(rd most g i n s).2.1<:+s∨(rd most g i n s).2.2≠0
 |0,_,_,_=>.inr (by simp[rd])
 |_+1,_,_,[]=>.inr (by simp[rd])
 |g+1,i,n,x::r=>by
  simp only[rd]
  split
  ·exact(HH g (i+1) _ r).imp (fun h=>h.trans (List.suffix_cons x r)) id
  ·split
   ·exact .inr (by simp)
   ·exact .inl (List.suffix_cons x r)
theorem amz{s:List UInt8}{N:Nat}{yd:Int×Int×Int}(hr:yd.1=N)(hN:N≤100000)(hs:s.length<9223372036854775000):∀(k i f a:Nat) (out:List Int),i+k=N→out.length=i→a≤s.length→k<f→
  Sh.iter (fun(p:Int×(List Int)×Int)=>iu s yd p.1 p.2.1 p.2.2) f ((a:Int),out,(i:Int))=some (Hh k (s.drop a) out)
 |0,i,0,_,_,_,_,_,h=>by omega
 |0,i,f+1,a,out,hi,ho,ha,_=>by
  refine g_ (X:=ou s a out) ?_|>.trans ?_
  ·simp only[iu]
   rw[hr,if_neg (by simp;omega)]
  ·unfold ou
   simp only[Hh,List.drop_eq_nil_iff]
   by_cases h:s.length≤a
   ·rw[if_neg (by simp[Sh.len];omega),if_pos h]
   ·rw[if_pos (by simp[Sh.len];omega),if_neg h]
 |k+1,i,0,_,_,_,_,_,h=>by omega
 |k+1,i,f+1,a,out,hi,ho,ha,hf=>by
  have e1:=acE (most:=2147483648) hs ha
  simp only[Hh]
  by_cases he:(rd 2147483648 5 0 0 (s.drop a)).2.2≠0
  ·rw[if_pos he]
   refine kj ?_
   simp only[iu]
   rw[hr,if_pos (by simp;omega),show(2147483648:Int)=((2147483648:Nat):Int) from rfl,e1,b9]
   unfold oneOf
   rw[if_pos he,if_pos (by simpa using he)];rfl
  ·rw[if_neg he]
   have hsuf:=((HH 5 0 0 (s.drop a)).resolve_right he)
   have hle:=hsuf.length_le
   rw[List.length_drop] at hle
   have hrest:s.drop (s.length - (rd 2147483648 5 0 0 (s.drop a)).2.1.length)=(rd 2147483648 5 0 0 (s.drop a)).2.1:=(List.suffix_iff_eq_drop.1 (hsuf.trans (List.drop_suffix a s))).symm
   have hm:=(Jj (most:=2147483648) (s.drop a)).2
   refine(hU (s':=(((s.length - (rd 2147483648 5 0 0 (s.drop a)).2.1.length:Nat):Int),out++[((rd 2147483648 5 0 0 (s.drop a)).1:Int) - 1],((i+1:Nat):Int))) ?_).trans ?_
   ·simp only[iu]
    rw[hr,if_pos (by simp;omega),show(2147483648:Int)=((2147483648:Nat):Int) from rfl,e1,b9]
    unfold oneOf
    rw[if_neg he]
    simp only[ne_eq,not_true_eq_false,decide_false,iC,if_false]
    rw[dX (by simp;omega),b9,bn (by omega),gA (by omega) (by omega)];rfl
   ·rw[amz hr hN hs k (i+1) f _ _ (by omega) (by simp;omega) (by omega) (by omega),hrest]
theorem afc{s:List UInt8}(hs:s.length<9223372036854775000):o5 s=some (AN s):=by
 have e1:lT s 0 100000=some (oneOf s (rd 100000 5 0 0 (s.drop 0))):=acE (s:=s) (a:=0) (most:=100000) hs (Nat.zero_le _)
 unfold o5 AN
 rw[List.drop_zero] at e1
 rw[e1,b9]
 unfold oneOf
 by_cases he:(rd 100000 5 0 0 s).2.2≠0
 ·rw[if_pos he,if_pos he,if_pos (by simpa using he)]
 ·have hsuf:=((HH 5 0 0 s).resolve_right he)
  have hrest:s.drop (s.length - (rd 100000 5 0 0 s).2.1.length)=(rd 100000 5 0 0 s).2.1:=(List.suffix_iff_eq_drop.1 hsuf).symm
  have hm:=(Jj (most:=100000) s).2
  rw[if_neg he,if_neg he,if_neg (by simp)]
  have:=amz (s:=s) (N:=(rd 100000 5 0 0 s).1) (yd:=((((rd 100000 5 0 0 s).1:Nat):Int),(((s.length - (rd 100000 5 0 0 s).2.1.length:Nat)):Int),0)) rfl hm hs (rd 100000 5 0 0 s).1 0 Sh.nU (s.length - (rd 100000 5 0 0 s).2.1.length) [] (by omega) rfl (by omega) (bC (by omega))
  rw[hrest] at this
  exact this
end Pl
end

section
/- Certificates as numbers, and back, as the reference has them. -/
namespace Pl
open Go Go.Av G
def rR(r:aP):aj:=⟨r.Key,r.L⟩
def nN(n:au):ak:=⟨n.C,n.bR⟩
def E8(c:bh):aY:=⟨c.Level,c.j9,c.Order,c.Rows.map rR,c.Tree.map nN⟩
theorem afe{l:List au}(h:(mc l).length≤1000000):lU (l.map nN)=some ((l.length:Int)::mc l):=by
 have hlt:l.length≤(mc l).length:=by
  have:∀l:List au,l.length≤(mc l).length:=by
   intro l;induction l with
   |nil=>simp
   |cons x l ih=>simp only[mc,List.flatMap_cons,List.length_append,List.length_cons] at*;omega
  exact this _
 unfold lU
 refine c6 (fun k=>(l.length:Int)::mc (l.take k)) l.length _ (bC (by omega)) (fun k hk=> ?_) ?_ (by simp[mc,Sh.len])
 ·have VQ:=Ea (fun(n:au)=>n.C.Key::n.C.A::n.C.B::(n.bR.length:Int)::n.bR) hk
  have uR:=I4 (fun(n:au)=>n.C.Key::n.C.A::n.C.B::(n.bR.length:Int)::n.bR) l (k+1)
  have hk3:((l.take (k+1)).flatMap fun(n:au)=>n.C.Key::n.C.A::n.C.B::(n.bR.length:Int)::n.bR).length=(mc (l.take k)).length+4+(l[k]).bR.length:=by
   rw[VQ];simp[mc];omega
  have hk4:(mc (l.take k)).length+4+(l[k]).bR.length≤(mc l).length:=by rw[←hk3];exact uR
  have hkm:k<(l.map nN).length:=by simpa using hk
  have hx:(l.map nN)[k]=nN l[k]:=by simp
  simp only[lC,bW,List.length_map,dec_lt,hk,decide_true,if_true,bM hkm,hx,b9]
  rw[dX (by simp <;> omega),b9,dX (by simp <;> omega),b9,dX (by simp <;> omega),b9,dX (by simp <;> omega),b9,dX (by simp[nN];omega)]
  simp only[b9,bn (k:=k) (by omega),Sh.next]
  rw[show mc (l.take (k+1))=mc (l.take k)++((l[k]).C.Key::(l[k]).C.A::(l[k]).C.B::((l[k]).bR.length:Int)::(l[k]).bR) from VQ]
  simp[nN]
 ·simp[lC,qu,bW,Sh.exit]
theorem amF{c:bh}(h:(ints c).length≤1000000):jZ (E8 c)=some (ints c):=by
 have hlen:(ints c).length=3+c.Order.length+1+(l_ c.Rows).length+1+(mc c.Tree).length:=by simp[ints];omega
 have hlr:c.Rows.length≤(l_ c.Rows).length:=by
  have:∀l:List aP,l.length≤(l_ l).length:=by
   intro l;induction l with
   |nil=>simp
   |cons x l ih=>simp only[l_,List.flatMap_cons,List.length_append,List.length_cons] at*;omega
  exact this _
 have hy:jZ (E8 c)=jF (E8 c) (if c.j9 then 1 else 0):=by unfold jZ E8;cases c.j9 <;> rfl
 rw[hy]
 unfold jF
 rw[dX (by simp[E8];omega),b9,dX (by simp[E8];omega),b9]
 generalize hB:[(E8 c).Level,if c.j9 then 1 else 0,Sh.len (E8 c).Order]++(E8 c).Order++[Sh.len (E8 c).Rows]=B
 have hBl:B.length=4+c.Order.length:=by rw[←hB];simp[E8];omega
 refine c6 (fun k=>B++l_ (c.Rows.take k)) c.Rows.length (nq (E8 c) (B++l_ c.Rows)) (bC (by omega)) (fun k hk=> ?_) ?_ (by simp[l_])|>.trans ?_
 ·have VQ:=Ea (fun(r:aP)=>r.Key::(r.L.length:Int)::r.L) hk
  have uR:=I4 (fun(r:aP)=>r.Key::(r.L.length:Int)::r.L) c.Rows (k+1)
  have hk3:((c.Rows.take (k+1)).flatMap fun(r:aP)=>r.Key::(r.L.length:Int)::r.L).length=(l_ (c.Rows.take k)).length+2+(c.Rows[k]).L.length:=by
   rw[VQ];simp[l_];omega
  have hk4:(l_ (c.Rows.take k)).length+2+(c.Rows[k]).L.length≤(l_ c.Rows).length:=by rw[←hk3];exact uR
  have hkm:k<(c.Rows.map rR).length:=by simpa using hk
  have hx:(c.Rows.map rR)[k]=rR c.Rows[k]:=by simp
  simp only[nk,show(E8 c).Rows=c.Rows.map rR from rfl,bW,List.length_map,dec_lt,hk,decide_true,if_true,bM hkm,hx,b9]
  rw[dX (by simp <;> omega),b9,dX (by simp <;> omega),b9,dX (by simp[rR];omega)]
  simp only[b9,bn (k:=k) (by omega),Sh.next]
  rw[show l_ (c.Rows.take (k+1))=l_ (c.Rows.take k)++((c.Rows[k]).Key::((c.Rows[k]).L.length:Int)::(c.Rows[k]).L) from VQ]
  simp[rR]
 ·simp[nk,E8,bW]
 ·unfold nq
  rw[show(E8 c).Tree=c.Tree.map nN from rfl,afe (by omega),b9,dX (by simp <;> omega),b9,←hB]
  simp[ints,E8,Sh.len]
theorem afh{c:bh}(h:(ints c).length≤1000000):sw (E8 c)=some (Px (ints c)):=by
 unfold sw
 rw[amF h,b9,afg _ (by omega)];rfl

section
variable {l:List Int}
theorem Ji(a:Nat):fD l (a:Int)=some (if h:a<l.length then l[a] else -1):=by
 unfold fD j0
 rw[if_neg (by simp <;> omega)]
 by_cases h:a<l.length
 ·rw[if_neg (by simp[Sh.len];omega),bM h,dif_pos h];rfl
 ·rw[if_pos (by simp[Sh.len];omega),dif_neg h]
theorem XH:fD l (-1)=some (-1):=rfl
theorem TY(hl:l.length≤1000000)(a:Nat):lV l (a:Int)=some (match RF (l.drop a) with|some (x,r)=>(x,((l.length - r.length:Nat):Int))|none=>([], -1)):=by
 unfold lV oz
 rw[Ji,b9]
 by_cases h:a<l.length
 ·rw[dif_pos h,List.drop_eq_getElem_cons h,Ks]
  by_cases h0:l[a]<0
  ·rw[if_pos (by simpa using h0),if_pos rfl,if_neg (by omega)]
  ·rw[if_neg (by simpa using h0),gA (n:=Sh.len l - (a:Int)) (by simp[Sh.len];omega) (by simp[Sh.len];omega),gA (by simp[Sh.len];omega) (by simp[Sh.len];omega)]
   by_cases h1:(l[a]).toNat≤(l.drop (a+1)).length
   ·have h2:=h1
    rw[List.length_drop] at h2
    obtain⟨n,hn⟩:∃n:Nat,l[a]=n:=⟨(l[a]).toNat,by omega⟩
    rw[if_neg (by simp[Sh.len];omega),if_pos ⟨by omega,h1⟩,bn (by omega),gA (by omega) (by omega),hn]
    have e:((a+1:Nat):Int)+(n:Int)=((a+1+n:Nat):Int):=by omega
    rw[e,NJ (by omega) (by rw[hn] at h2;simp at h2;omega),b9]
    simp only[Int.toNat_natCast,List.length_drop]
    rw[hn] at h2
    simp only[Int.toNat_natCast] at h2
    congr 2
    ·congr 1;omega
    ·congr 1;omega
   ·rw[if_pos (by rw[List.length_drop] at h1;simp[Sh.len];omega),if_neg (fun h=>h1 h.2)]
 ·rw[dif_neg h,List.drop_of_length_le (by omega),if_pos (by decide),if_pos rfl];rfl
theorem Kt{a b m:List Int}(h:RF m=some (a,b)):b.length+1≤m.length∧b<:+m:=by
 have:=Cb h
 subst this
 exact⟨by simp <;> omega,(List.suffix_append a b).trans (List.suffix_cons _ _)⟩
theorem Ju{b:List Int}(h:b<:+l):l.drop (l.length - b.length)=b:=(List.suffix_iff_eq_drop.1 h).symm
def Oq(l:List Int)(o:Option (List au×List Int)):List ak×Int:=match o with
 |some (t,r)=>(t.map nN,((l.length - r.length:Nat):Int))
 |none=>([], -1)
theorem XK(hl:l.length≤1000000){Qq:Int}{N:Nat}(hN:Qq=N):∀(f k i to:Nat) (acc:List au),i+k=N→i≤to→acc.length≤to→to≤l.length→l.length - to+1<f→
  Sh.iter (fun(p:(List ak)×Int×Int)=>fN l Qq p.1 p.2.1 p.2.2) f (acc.map nN,(to:Int),(i:Int))=some (Oq l (tS k (l.drop to) acc))
 |0,_,_,_,_,_,_,_,_,h=>by omega
 |f+1,0,i,to,acc,hi,_,_,ht,_=>by
  refine g_ (X:=nu (acc.map nN) to) ?_|>.trans ?_
  ·simp only[fN]
   rw[hN,if_neg (by simp <;> omega)]
  ·unfold nu Oq
   simp only[tS,List.length_drop]
   congr 3;omega
 |f+1,k+1,i,to,acc,hi,hit,hat,ht,hf=>by
  have e4:dz ((to:Int)+4)=((to+4:Nat):Int):=by rw[gA (by omega) (by omega)];omega
  have e3:dz ((to:Int)+3)=((to+3:Nat):Int):=by rw[gA (by omega) (by omega)];omega
  have e2:dz ((to:Int)+2)=((to+2:Nat):Int):=by rw[gA (by omega) (by omega)];omega
  have e1:dz ((to:Int)+1)=((to+1:Nat):Int):=by rw[gA (by omega) (by omega)];omega
  by_cases h4:l.length<to+4
  ·have hT:tS (k+1) (l.drop to) acc=none:=by
    have hlen:(l.drop to).length<4:=by simp <;> omega
    match hd:l.drop to,hlen with
    |[],_=>rfl
    |[a],_=>rfl
    |[a,b],_=>rfl
    |[a,b,c],_=>rfl
    |a::b::c::d::r,hh=>simp at hh;omega
   rw[hT]
   refine kj ?_
   simp only[fN]
   rw[hN,if_pos (by simp <;> omega),e4,if_pos (by simp[Sh.len];omega)];rfl
  ·have d0:l.drop to=l[to]::l[to+1]::l[to+2]::l.drop (to+3):=by
    rw[List.drop_eq_getElem_cons (show to<l.length by omega),List.drop_eq_getElem_cons (show to+1<l.length by omega),List.drop_eq_getElem_cons (show to+2<l.length by omega)]
   rw[d0]
   simp only[tS]
   cases hw:RF (l.drop (to+3)) with
   |none=>
    refine kj ?_
    simp only[fN]
    rw[hN,if_pos (by simp <;> omega),e4,if_neg (by simp[Sh.len];omega),e3,TY hl,hw];rfl
   |some q=>
    obtain⟨L,r⟩:=q
    obtain⟨w1,w2⟩:=Kt hw
    rw[List.length_drop] at w1
    have w3:=Ju (w2.trans (List.drop_suffix (to+3) l))
    refine(hU (s':=((acc++[(⟨⟨l[to],l[to+1],l[to+2]⟩,L⟩:au)]).map nN,((l.length - r.length:Nat):Int),((i+1:Nat):Int))) ?_).trans ?_
    ·simp only[fN]
     rw[hN,if_pos (by simp <;> omega),e4,if_neg (by simp[Sh.len];omega),e3,TY hl,hw]
     simp only[b9]
     rw[if_neg (by simp <;> omega),bM (show to<l.length by omega),b9,e1,bM (show to+1<l.length by omega),b9,e2,bM (show to+2<l.length by omega),b9,dX (by simp <;> omega),b9,bn (by omega),List.map_append]
     rfl
    ·rw[XK hl hN f k (i+1) _ _ (by omega) (by omega) (by simp <;> omega) (by omega) (by omega),w3]
theorem amL(hl:l.length≤1000000)(a:Nat)(ha:a≤l.length):rE l (a:Int)=some (match l.drop a with|nt::r=>if 0≤nt then Oq l (tS nt.toNat r []) else([], -1)|[]=>([], -1)):=by
 unfold rE
 rw[Ji,b9]
 by_cases h:a<l.length
 ·rw[dif_pos h,List.drop_eq_getElem_cons h]
  by_cases h0:l[a]<0
  ·rw[if_pos (by simpa using h0)]
   simp only
   rw[if_neg (by omega)]
  ·rw[if_neg (by simpa using h0)]
   simp only
   rw[if_pos (by omega),bn (by omega)]
   exact XK hl (N:=(l[a]).toNat) (by omega) Sh.nU (l[a]).toNat 0 (a+1) [] (by omega) (by omega) (by simp) (by omega) (bC (by omega))
 ·rw[dif_neg h,List.drop_of_length_le (by omega),if_pos (by decide)]
def agY(l:List Int)(x y:Int)(ord:List Int)(o:Option (List aP×List Int))(p:aY×Bool):Prop:=match o with
 |none=>p.2=false
 |some (rows,r)=>p=(⟨x,decide (y=1),ord,rows.map rR,(match r with|nt::r=>if 0≤nt then Oq l (tS nt.toNat r []) else([], -1)|[]=>([], -1)).1⟩,decide ((match r with|nt::r=>if 0≤nt then Oq l (tS nt.toNat r []) else([], -1)|[]=>([], -1)).2=(l.length:Int)))
theorem XJ(hl:l.length≤1000000){Ai Az Ew:Int}{r32:List Int×Int}{N:Nat}(hN:Az=N):∀(f k i at':Nat) (acc:List aP),i+k=N→i≤at'→acc.length≤at'→at'≤l.length→l.length - at'+1<f→
  ∃p,Sh.iter (fun(p:Int×(List aj)×Int)=>fq l Ai r32 Az Ew p.1 p.2.1 p.2.2) f ((at':Int),acc.map rR,(i:Int))=some p∧agY l Ew Ai r32.1 (wB k (l.drop at') acc) p
 |0,_,_,_,_,_,_,_,_,h=>by omega
 |f+1,0,i,at',acc,hi,_,_,ht,_=>by
  refine⟨_,g_ (X:=lB l Ai r32 Ew at' (acc.map rR)) ?_|>.trans ?_,rfl⟩
  ·simp only[fq]
   rw[hN,if_neg (by simp <;> omega)]
  ·unfold lB
   rw[amL hl at' ht,b9]
 |f+1,k+1,i,at',acc,hi,hit,hat,ht,hf=>by
  have e1:dz ((at':Int)+1)=((at'+1:Nat):Int):=by rw[gA (by omega) (by omega)];omega
  by_cases h:at'<l.length
  ·rw[List.drop_eq_getElem_cons h]
   simp only[wB]
   cases hw:RF (l.drop (at'+1)) with
   |none=>
    refine⟨_,kj (r:=((⟨0,false,[],[],[]⟩:aY),false)) ?_,rfl⟩
    simp only[fq]
    rw[hN,if_pos (by simp <;> omega),e1,TY hl,hw];rfl
   |some q=>
    obtain⟨L,r⟩:=q
    obtain⟨w1,w2⟩:=Kt hw
    rw[List.length_drop] at w1
    have w3:=Ju (w2.trans (List.drop_suffix (at'+1) l))
    obtain⟨p,h1,h2⟩:=XJ hl (Ai:=Ai) (Ew:=Ew) (r32:=r32) hN f k (i+1) (l.length - r.length) (acc++[⟨l[at'],L⟩]) (by omega) (by omega) (by simp <;> omega) (by omega) (by omega)
    rw[w3] at h2
    refine⟨p,(hU (s':=(((l.length - r.length:Nat):Int),(acc++[(⟨l[at'],L⟩:aP)]).map rR,((i+1:Nat):Int))) ?_).trans h1,h2⟩
    simp only[fq]
    rw[hN,if_pos (by simp <;> omega),e1,TY hl,hw]
    simp only[b9]
    rw[if_neg (by simp <;> omega),bM h,b9,dX (by simp <;> omega),b9,bn (by omega),List.map_append]
    rfl
  ·rw[List.drop_of_length_le (by omega)]
   refine⟨_,kj (r:=((⟨0,false,[],[],[]⟩:aY),false)) ?_,rfl⟩
   simp only[fq]
   rw[hN,if_pos (by simp <;> omega),e1,TY hl,List.drop_of_length_le (by omega)];rfl
theorem Mx:∀(k:Nat) (m:List Int) (acc t:List au) (r:List Int),tS k m acc=some (t,r)→r<:+m
 |0,m,acc,t,r,h=>by simp[tS] at h;rw[h.2];exact List.suffix_refl _
 |k+1,a::b::c::m,acc,t,r,h=>by
  simp only[tS] at h
  split at h
  ·cases h
  ·rename_i L r' hw
   exact(Mx k _ _ _ _ h).trans ((Kt hw).2.trans ((List.suffix_cons c m).trans ((List.suffix_cons b _).trans (List.suffix_cons a _))))
 |k+1,[],_,_,_,h=>by simp[tS] at h
 |k+1,[_],_,_,_,h=>by simp[tS] at h
 |k+1,[_,_],_,_,_,h=>by simp[tS] at h
theorem Mo:∀(k:Nat) (m:List Int) (acc t:List aP) (r:List Int),wB k m acc=some (t,r)→r<:+m
 |0,m,acc,t,r,h=>by simp[wB] at h;rw[h.2];exact List.suffix_refl _
 |k+1,a::m,acc,t,r,h=>by
  simp only[wB] at h
  split at h
  ·cases h
  ·rename_i L r' hw
   exact(Mo k _ _ _ _ h).trans ((Kt hw).2.trans (List.suffix_cons a m))
 |k+1,[],_,_,_,h=>by simp[wB] at h
theorem afd(hl:l.length≤1000000):∃x b,pW l=some (x,b)∧((b=true∧∃c,yz l=some c∧x=E8 c)∨(b=false∧yz l=none)):=by
 have bad:∀Ai r32 Az,fA l Ai r32 Az true=some (⟨0,false,[],[],[]⟩,false):=fun _ _ _=>rfl
 unfold pW
 rw[show(1:Int)=((1:Nat):Int) from rfl,show(2:Int)=((2:Nat):Int) from rfl,Ji,b9,TY hl,b9]
 match l,hl with
 |[],_=>exact⟨_,_,rfl,.inr ⟨rfl,rfl⟩⟩
 |[a],_=>exact⟨_,_,rfl,.inr ⟨rfl,rfl⟩⟩
 |lev::yes::m,hl=>
  have h1:1<(lev::yes::m).length:=by simp
  rw[dif_pos h1]
  simp only[List.drop_succ_cons,List.drop_zero,List.getElem_cons_succ,List.getElem_cons_zero]
  unfold yz
  simp only
  cases hw:RF m with
  |none=>
   refine⟨⟨0,false,[],[],[]⟩,false, ?_,.inr ⟨rfl,by simp⟩⟩
   simp only[XH,b9]
   split
   ·exact bad _ _ _
   ·split
    ·exact bad _ _ _
    ·rfl
  |some q=>
   obtain⟨ord,r⟩:=q
   obtain⟨w1,w2⟩:=Kt hw
   have hml:(lev::yes::m).length=m.length+2:=rfl
   have w3:=Ju (w2.trans ((List.suffix_cons yes m).trans (List.suffix_cons lev _)))
   simp only[Ji,b9]
   by_cases hy:0≤yes∧yes≤1
   ·rw[if_pos hy,if_neg (by simp <;> omega),if_neg (by simp <;> omega),if_neg (by simp <;> omega)]
    unfold fA
    cases r with
    |nil=>
     rw[dif_neg (by simp),if_pos (by decide)]
     exact⟨_,_,rfl,.inr ⟨rfl,rfl⟩⟩
    |cons nr r3=>
     have hlt:(lev::yes::m).length - (nr::r3).length<(lev::yes::m).length:=by simp <;> omega
     have hnr:(lev::yes::m)[(lev::yes::m).length - (nr::r3).length]=nr:=by
      have:=List.drop_eq_getElem_cons hlt
      rw[w3] at this
      exact(List.cons.inj this).1.symm
     have CA:(lev::yes::m).drop ((lev::yes::m).length - (nr::r3).length+1)=r3:=by
      have:=List.drop_eq_getElem_cons hlt
      rw[w3] at this
      exact(List.cons.inj this).2.symm
     rw[dif_pos hlt,hnr]
     by_cases h0:0≤nr
     ·rw[if_neg (by simp <;> omega)]
      simp only[if_pos h0]
      have ap9:dz ((((lev::yes::m).length - (nr::r3).length:Nat):Int)+1)=(((lev::yes::m).length - (nr::r3).length+1:Nat):Int):=bn (by omega)
      rw[ap9]
      obtain⟨p,h3,h4⟩:=XJ hl (Ai:=yes) (Az:=nr) (Ew:=lev) (r32:=(ord,(((lev::yes::m).length - (nr::r3).length:Nat):Int))) (N:=nr.toNat) (by omega) Sh.nU nr.toNat 0 ((lev::yes::m).length - (nr::r3).length+1) [] (by omega) (by omega) (by simp) (by omega) (bC (by omega))
      rw[CA] at h4
      refine⟨p.1,p.2,h3, ?_⟩
      cases ho:wB nr.toNat r3 [] with
      |none=>rw[ho] at h4;exact .inr ⟨h4,rfl⟩
      |some q=>
       obtain⟨rows,r⟩:=q
       rw[ho] at h4
       have hsr:=Mo _ _ _ _ _ ho
       simp only[agY] at h4
       cases r with
       |nil=>
        subst h4
        exact .inr ⟨by simp <;> omega,rfl⟩
       |cons nt r5=>
        simp only at h4 ⊢
        by_cases hn:0≤nt
        ·simp only[if_pos hn] at h4 ⊢
         cases ht:tS nt.toNat r5 [] with
         |none=>
          rw[ht] at h4
          subst h4
          refine .inr ⟨?_,rfl⟩
          show decide ((Oq (lev::yes::m) none).2=((lev::yes::m).length:Int))=false
          exact decide_eq_false (by show ¬((-1:Int)=_);omega)
         |some q=>
          obtain⟨t,e⟩:=q
          rw[ht] at h4
          have hl5:=(Mx _ _ _ _ _ ht).length_le
          have hl3:=hsr.length_le
          simp only[List.length_cons] at hl3 w1
          cases e with
          |nil=>
           subst h4
           exact .inl ⟨by simp[Oq],_,rfl,by simp[E8,Oq]⟩
          |cons z e=>
           subst h4
           refine .inr ⟨?_,rfl⟩
           show decide ((((lev::yes::m).length - (z::e).length:Nat):Int)=((lev::yes::m).length:Int))=false
           exact decide_eq_false (by simp only[List.length_cons] at*;omega)
        ·simp only[if_neg hn] at h4 ⊢
         subst h4
         exact .inr ⟨by simp <;> omega,trivial⟩
     ·rw[if_pos (by simp <;> omega)]
      exact⟨_,_,rfl,.inr ⟨rfl,by simp[h0]⟩⟩
   ·rw[if_neg hy]
    refine⟨⟨0,false,[],[],[]⟩,false, ?_,.inr ⟨rfl,rfl⟩⟩
    by_cases ha:yes<0
    ·rw[if_pos (by simpa using ha)];exact bad _ _ _
    ·rw[if_neg (by simpa using ha),if_pos (by simp <;> omega)];exact bad _ _ _
end
theorem amE{s:List UInt8}(hs:s.length<9223372036854775000){d:bh}{e:Int}(h:uO s=some (d,e)):o6 s=some (E8 d,e):=by
 rw[Xg (by omega)] at h
 unfold o6
 rw[afc hs,b9]
 by_cases he:(AN s).2≠0
 ·rw[if_pos he] at h
  cases h
  rw[if_pos (by simpa using he)];rfl
 ·rw[if_neg he] at h
  rw[if_neg (by simpa using he)]
  have hlen:(AN s).1.length≤1000000:=by
   rcases JG s with h1|⟨l,h1,h2,_⟩
   ·exact absurd h1.1 he
   ·rw[h1];simp only;omega
  obtain⟨x,b,h1,h2⟩:=afd hlen
  rw[h1,b9]
  rcases h2 with⟨rfl,c,h3,rfl⟩|⟨rfl,h3⟩
  ·rw[h3] at h
   cases h;rfl
  ·rw[h3] at h
   cases h;rfl
end Pl
end

section
/- Rows, and their choices, as the reference has them. -/
namespace Pl
open Go Go.Av G
section
variable {h:af}
theorem Iq(hr:right h=true)(k:Int):gK h k=vP h k:=by unfold gK vP UD;rw[if_pos hr]
theorem Pw:∀{l m:List Int},l.Nodup→(∀x∈l,x∈m)→m.length≤l.length→l.Perm m
 |[],m,_,_,hl=>by
  have:m=[]:=List.eq_nil_of_length_eq_zero (by simpa using hl)
  rw[this]
 |a::l,m,hn,hs,hl=>by
  have Zd:=List.nodup_cons.1 hn
  have ha:=hs a (List.mem_cons_self ..)
  have hp:=List.perm_cons_erase ha
  have hle:=hp.length_eq
  simp only[List.length_cons] at hle hl
  exact(List.Perm.cons a (Pw Zd.2 (fun x hx=>(List.mem_erase_of_ne (fun e:x=a=>Zd.1 (by rw[←e];exact hx))).2 (hs x (List.mem_cons_of_mem _ hx))) (by omega))).trans hp.symm
def zQ(h:af)(ks:List Nat):List Nat:=ks.filter fun k=>decide (vP h k≠[])
def FC(h:af):List Int:=if right h then(zQ h (List.range 16)).map fun k:Nat=>(k:Int) else []
theorem acC(hf:Fits h):jR h=some (FC h):=by
 unfold jR
 refine c6 (fun k=>if right h then(zQ h (List.range k)).map fun k:Nat=>(k:Int) else []) 16 _ (by decide) (fun k hk=> ?_) ?_ (by simp[zQ])
 ·have uR:(k:Int)<16:=by omega
  simp only[mD,uR,decide_true,if_true,DN hf,b9,bn (k:=k) (by omega),mE,Sh.next]
  cases hr:right h with
  |false=>
   have:gK h (k:Int)=[]:=by unfold gK;rw[if_neg (by rw[hr];simp)]
   rw[this];rfl
  |true=>
   have hle:(zQ h (List.range k)).length≤k:=by
    have:=List.length_filter_le (fun k:Nat=>decide (vP h k≠[])) (List.range k);simpa [zQ] using this
   rw[Iq hr]
   simp only[if_true,zQ,List.range_succ,List.filter_append,List.map_append]
   by_cases hw:vP h k=[]
   ·simp[hw]
   ·have hp:decide ((0:Int)<Sh.len (vP h k))=true:=by
     have:=List.length_pos_iff.2 hw
     simp[Sh.len];omega
    rw[if_pos hp,dX (by unfold zQ at hle;simp only[List.length_map,List.length_singleton];omega)]
    simp[hw]
 ·simp only[mD]
  rfl
theorem WG(hr:right h=true):(FC h).length≤16:=by
 unfold FC;rw[if_pos hr,List.length_map]
 have:=List.length_filter_le (fun k:Nat=>decide (vP h k≠[])) (List.range 16);simpa [zQ] using this
def RD(h:af)(k:Int)(r:aP):Bool:=decide (r.Key=k)&&(decide (r.L.length=(vP h k).length)&&(vP h k).all fun x=>decide (x∈r.L))
theorem aad{k:Int}{r:aP}:RD h k r=(decide (r.Key=k)&&decide (vP h k=Sh.sK r.L)):=by
 unfold RD
 congr 1
 rw[Bool.eq_iff_iff]
 simp only[Bool.and_eq_true,decide_eq_true_eq,List.all_eq_true]
 constructor
 ·rintro⟨h1,h2⟩
  have hp:(vP h k).Perm r.L:=Pw (Ev h k) h2 (by omega)
  exact Sh.Ce (hp.trans (Sh.rP r.L).symm) ((KI h k).imp fun h=>by omega) (Sh.y8 r.L)
 ·intro h1
  have hp:=Sh.rP r.L
  rw[←h1] at hp
  exact⟨hp.length_eq.symm,fun x hx=>hp.mem_iff.1 hx⟩
def DE(h:af):List Nat→List aP→Bool
 |[],l=>l.isEmpty
 |_::_,[]=>false
 |k::ks,r::l=>RD h k r&&DE h ks l
theorem JU:∀(ks:List Nat) (l:List aP),nW h ks l=DE h (zQ h ks) l
 |[],l=>rfl
 |k::ks,l=>by
  unfold nW zQ
  by_cases hw:vP h k=[]
  ·rw[if_pos hw,List.filter_cons,if_neg (by simp[hw])]
   exact JU ks l
  ·rw[if_neg hw,List.filter_cons,if_pos (by simp[hw])]
   cases l with
   |nil=>rfl
   |cons r l=>
    simp only[DE]
    rw[aad,JU ks l,Bool.and_assoc];rfl
theorem JT:∀(ks:List Nat) (l:List aP),DE h ks l=(decide (l.length=ks.length)&&decide (∀i,i<l.length→RD h ((ks.getD i 0:Nat):Int) (l.getD i default)=true))
 |[],[]=>by simp[DE]
 |[],r::l=>by simp[DE]
 |k::ks,[]=>by simp[DE]
 |k::ks,r::l=>by
  simp only[DE]
  rw[JT ks l,Bool.eq_iff_iff]
  simp only[Bool.and_eq_true,decide_eq_true_eq,List.length_cons,Nat.add_right_cancel_iff]
  constructor
  ·rintro⟨a,b,c⟩
   refine⟨b,fun i hi=> ?_⟩
   cases i with
   |zero=>exact a
   |succ i=>exact c i (by omega)
  ·rintro⟨b,c⟩
   exact⟨c 0 (by omega),b,fun i hi=>c (i+1) (by omega)⟩
theorem PF{o:List Int}(ho:o.length≤9223372036854775807)(t:Int):i_ o t=some (pos o (fun x=>decide (x=t))):=by
 unfold i_
 rw[qD o (fun x=>decide (x=t)) (fun k=>(k:Int)) (some (-1)) (bC (by omega)) (fun k hk=> ?_) ?_,uU]
 ·simp[lz,qt]
 ·simp only[lz,dec_lt,hk,decide_true,if_true,bM hk,b9,bn (k:=k) (by omega)]
  rfl
theorem Um(hr:right h=true)(k:Int):(vP h k).length≤32:=Nat.le_trans (NP h k) (sC hr)
theorem PG(hf:Fits h){l:List aP}(hl:l.length≤1000000)(hL:∀r∈l,r.L.length≤1000000):lS h (l.map rR)=some (right h&&nW h (List.range 16) l):=by
 unfold lS
 rw[FM hf,b9,acC hf,b9]
 cases hr:right h with
 |false=>rfl
 |true=>
  have hk:FC h=(zQ h (List.range 16)).map fun k:Nat=>(k:Int):=by unfold FC;rw[if_pos hr]
  simp only[Bool.not_true,iC,if_false,Bool.true_and,lp,bW,List.length_map]
  rw[JU,JT]
  by_cases hlen:l.length=(FC h).length
  ·rw[if_neg (by simp[hlen])]
   have hlk:l.length=(zQ h (List.range 16)).length:=by rw[hlen,hk,List.length_map]
   rw[decide_eq_true hlk,Bool.true_and]
   refine(Ku (fun i=>((i:Nat):Int)) l.length (fun i=>RD h (((zQ h (List.range 16)).getD i 0:Nat):Int) (l.getD i default)) (some true) (some false) (bC (by omega)) (fun i hi _=> ?_) (fun _=> ?_) rfl).trans ?_
   ·have Yz:i<(FC h).length:=by omega
    have hi3:i<(zQ h (List.range 16)).length:=by omega
    have him:i<(l.map rR).length:=by simpa using hi
    have hx:(l.map rR)[i]=rR l[i]:=by simp
    have hkk:(FC h)[i]=(((zQ h (List.range 16))[i]:Nat):Int):=by simp only[hk,List.getElem_map]
    have Y_:(zQ h (List.range 16)).getD i 0=(zQ h (List.range 16))[i]:=by simp[List.getD,List.getElem?_eq_getElem hi3]
    have hg2:l.getD i default=l[i]:=by simp[List.getD,List.getElem?_eq_getElem hi]
    have hc:=hL _ (List.getElem_mem hi)
    rw[Y_,hg2]
    generalize hK:(((zQ h (List.range 16))[i]:Nat):Int)=K at*
    simp only[k_,bW,List.length_map,dec_lt,hi,decide_true,if_true,bM Yz,bM him,hx,hkk,DN hf,Iq hr,b9,show(rR l[i]).Key=(l[i]).Key from rfl,show(rR l[i]).L=(l[i]).L from rfl,lu]
    unfold RD
    by_cases a:(l[i]).Key=K
    ·rw[if_neg (by simp[a])]
     by_cases b:(l[i]).L.length=(vP h K).length
     ·rw[if_neg (by simp[b]),decide_eq_true a,decide_eq_true b,Bool.true_and,Bool.true_and]
      have hw:=Um hr K
      refine(Ku (fun j=>((j:Nat):Int)) (vP h K).length (fun j=>decide ((vP h K).getD j 0∈(l[i]).L)) (lq (i:Int)) (Sh.exit (some false)) (bC (by omega)) (fun j hj _=> ?_) (fun _=> ?_) rfl).trans ?_
      ·have hg:(vP h K).getD j 0=(vP h K)[j]:=by simp[List.getD,List.getElem?_eq_getElem hj]
       simp only[lg,bW,dec_lt,hj,decide_true,if_true,bM hj,bM him,hx,show(rR l[i]).L=(l[i]).L from rfl,b9,PF (show(l[i]).L.length≤9223372036854775807 by omega),bn (k:=j) (by omega),hg]
       by_cases m:(vP h K)[j]∈(l[i]).L
       ·have:=Jh.2 m
        rw[if_neg (by simp;omega),if_pos (decide_eq_true m)];rfl
       ·have:=mt Jh.1 m
        rw[if_pos (by simp;omega),if_neg (by simp[m])]
      ·simp[lg,bW]
      ·have e:(∀j,j<(vP h K).length→decide ((vP h K).getD j 0∈(l[i]).L)=true)↔((vP h K).all fun x=>decide (x∈(l[i]).L))=true:=by
        rw[List.all_eq_true]
        constructor
        ·intro q x hx
         obtain⟨j,hj,rfl⟩:=List.getElem_of_mem hx
         have:=q j hj
         simpa [List.getD,List.getElem?_eq_getElem hj] using this
        ·intro q j hj
         have:=q _ (List.getElem_mem hj)
         simpa [List.getD,List.getElem?_eq_getElem hj] using this
       by_cases q:((vP h K).all fun x=>decide (x∈(l[i]).L))=true
       ·rw[if_pos (e.2 q),if_pos q]
        unfold lq
        rw[bn (k:=i) (by omega)];rfl
       ·rw[if_neg (mt e.1 q),if_neg q]
     ·rw[if_pos (by simp;omega),decide_eq_false b];simp
    ·rw[if_pos (by simp[a]),decide_eq_false a];simp
   ·simp[k_,qs,bW]
   ·by_cases q:∀i,i<l.length→RD h (((zQ h (List.range 16)).getD i 0:Nat):Int) (l.getD i default)=true
    ·rw[if_pos q,decide_eq_true q]
    ·rw[if_neg q,decide_eq_false q]
  ·rw[if_pos (by simp;omega),decide_eq_false (show ¬l.length=(zQ h (List.range 16)).length by rw[hk,List.length_map] at hlen;exact hlen)];rfl

theorem pos_at{o:List Int}{t:Int}(ht:t∈o):pos o (fun x=>decide (x=t))=(HU o t:Int):=by
 have h1:=MI ht
 have h2:=Ge ht
 unfold pos
 have:o.findIdx? (fun x=>decide (x=t))=some (HU o t):=by
  rw[List.findIdx?_eq_some_iff_getElem]
  refine⟨h1,by simp[h2],fun j hj=> ?_⟩
  have:=List.not_of_lt_findIdx hj
  simpa using this
 rw[this];rfl
theorem Ig:(yT h).length≤65536:=Gk _ 4096 (fun _=>Nat.le_trans (Ka _ _) (Nat.mul_le_mul Eu Eu)) 16
theorem Ru(hf:Fits h)(hr:right h=true){l:List aP}(hm:nW h (List.range 16) l=true)(hl:l.length≤1000000)(hL:∀r∈l,r.L.length≤1000000):jv h (l.map rR)=some (Lr h l):=by
 have hp:=Ig (h:=h)
 unfold jv
 rw[PG hf hl hL,hr,hm,b9]
 simp only[Bool.and_self,Bool.not_true,iC,if_false]
 rw[TP hf,b9]
 have tab:=Me hr hm
 have spec:=DF (h:=h) (m:=16) (v:=0) (l:=l) (by simpa [List.range_eq_range'] using hm)
 refine c6 (fun i=>((yT h).take i).map (Ab l)) (yT h).length _ (bC (by omega)) (fun i hi=> ?_) ?_ (by simp)
 ·have hc:=HE hr (List.getElem_mem hi)
  obtain⟨⟨hne,ia,ib⟩,hk,wa,wb⟩:=Jf hr hc
  generalize hC:(yT h)[i]=c at*
  have hidx:Sh.idx (yT h) (i:Int)=some c:=by rw[bM hi,hC]
  have hA:=(Nb hm hk c.A).2 (Eo.2 ⟨fI.1 ia,wa⟩)
  have hB:=(Nb hm hk c.B).2 (Eo.2 ⟨fI.1 ib,wb⟩)
  simp only[jw,bW,dec_lt,hi,decide_true,if_true,hidx,b9]
  let turns:aP→Bool:=fun r=>decide (r.Key=c.Key)&&decide (pos r.L (fun x=>decide (x=c.B))<pos r.L (fun x=>decide (x=c.A)))
  have fin:(if l.any turns then back c else c)=Ab l c:=by
   obtain⟨r,hrm,e1,e2⟩:=JN (List.ne_nil_of_mem hA)
   rw[e2] at hA hB
   have asG:HU r.L c.A≠HU r.L c.B:=fun e=>hne (MJ hA hB e)
   have hall:l.any turns=decide (HU r.L c.B<HU r.L c.A):=by
    rw[Bool.eq_iff_iff,List.any_eq_true,decide_eq_true_eq]
    constructor
    ·rintro⟨q,hq,ht⟩
     simp only[turns,Bool.and_eq_true,decide_eq_true_eq] at ht
     have:DC l q.Key=q.L:=O6 spec.2.1 hq
     rw[ht.1,e2] at this
     rw[←this,pos_at hA,pos_at hB] at ht
     omega
    ·intro hlt
     refine⟨r,hrm, ?_⟩
     simp only[turns,Bool.and_eq_true,decide_eq_true_eq]
     rw[pos_at hA,pos_at hB]
     exact⟨e1,by omega⟩
   unfold Ab place
   rw[hall,e2,if_pos hA,if_pos hB]
   by_cases hlt:HU r.L c.B<HU r.L c.A
   ·rw[if_pos (decide_eq_true hlt),if_neg (by omega)]
   ·rw[if_neg (by simp[hlt]),if_pos (by omega)]
  refine(c6 (fun k=>if(l.take k).any turns then back c else c) l.length (jy (((yT h).take i).map (Ab l)) (i:Int) (Ab l c)) (bC (by omega)) (fun k uR=> ?_) ?_ (by simp)).trans ?_
  ·have hkm:k<(l.map rR).length:=by simpa using uR
   have hx:(l.map rR)[k]=rR l[k]:=by simp
   have hcl:=hL _ (List.getElem_mem uR)
   have hkey:(if(l.take k).any turns=true then back c else c).Key=c.Key:=by split <;> rfl
   have ht:(l.take (k+1)).any turns=((l.take k).any turns||turns l[k]):=by
    rw[List.take_add_one,List.getElem?_eq_getElem uR,Option.toList_some,List.any_append];simp
   simp only[jx,bW,List.length_map,dec_lt,uR,decide_true,if_true,bM hkm,hx,show(rR l[k]).Key=(l[k]).Key from rfl,show(rR l[k]).L=(l[k]).L from rfl,b9,hkey,hidx,PF (show(l[k]).L.length≤9223372036854775807 by omega),jB,jA,bn (k:=k) (by omega),nK]
   rw[ht]
   by_cases a:(l[k]).Key=c.Key
   ·rw[if_pos (decide_eq_true a)]
    by_cases b:pos (l[k]).L (fun x=>decide (x=c.B))<pos (l[k]).L (fun x=>decide (x=c.A))
    ·rw[if_pos (decide_eq_true b)]
     simp only[turns,a,b,decide_true,Bool.and_self,Bool.or_true,if_true];rfl
    ·rw[if_neg (by simp[b])]
     simp only[turns,a,b,decide_true,decide_false,Bool.and_false,Bool.or_false];rfl
   ·rw[if_neg (by simp[a]),if_neg (by simp)]
    simp only[turns,a,decide_false,Bool.false_and,Bool.or_false];rfl
  ·simp only[jx,bW,List.length_map]
   rw[if_neg (by simp),List.take_length,fin]
  ·unfold jy nQ
   rw[dX (by simp;omega),b9,bn (by omega),List.take_add_one,List.getElem?_eq_getElem hi,Option.toList_some,List.map_append,hC];rfl
 ·simp[jw,nP,bW,Lr]
theorem XG(hf:Fits h)(hn:h.aC.length≤1000000){l:List aP}(hl:l.length≤1000000)(hL:∀r∈l,r.L.length≤1000000):∃b,Bt h l=some b∧pT h (l.map rR)=some b:=by
 obtain⟨b,h1,h2⟩:=ZR hf hn hl hL
 have hp:=Ig (h:=h)
 refine⟨b,h1, ?_⟩
 unfold pT
 rw[PG hf hl hL,b9]
 cases hr:right h with
 |false=>
  have:b=false:=by cases b with|false=>rfl|true=>have:=(h2.1 rfl).1;rw[hr] at this;cases this
  subst this;rfl
 |true=>
  cases hm:nW h (List.range 16) l with
  |false=>
   have:b=false:=by cases b with|false=>rfl|true=>have:=(h2.1 rfl).2.1;rw[hm] at this;cases this
   subst this;rfl
  |true=>
   simp only[Bool.and_self,Bool.not_true,iC,if_false]
   rw[Ru hf hr hm hl hL,b9,Xw hf hr 1 (by simp[Lr];omega) (fun c hc=>SQ hr hc)]
   simp only[b9]
   congr 1
   rw[Bool.eq_iff_iff,←RC hr hm,h2]
   simp[hr,hm]

theorem TJ{o:List Int}(p:F8 h.aC.length o)(key:Int):o.filter (fun t=>gL (tx h t) key)=Sh.AI o (vP h key):=by
 have hpm:(o.filter (fun t=>gL (tx h t) key)).Perm (vP h key):=by
  refine(List.perm_ext_iff_of_nodup (p.nodup.filter _) (Ev h key)).2 fun t=> ?_
  rw[List.mem_filter,Eo]
  constructor
  ·rintro⟨h1,h2⟩;exact⟨p.node t h1,h2⟩
  ·rintro⟨h1,h2⟩
   have:=p.all (k:=t.toNat) (by omega)
   rw[show((t.toNat:Nat):Int)=t by omega] at this
   exact⟨this,h2⟩
 have hin:∀t∈o.filter (fun t=>gL (tx h t) key),t∈o:=fun t ht=>(List.mem_filter.1 ht).1
 refine Sh.HT o (hpm.trans (Sh.xD o (vP h key)).symm) ?_ ?_ (Sh.Ci o (vP h key))
 ·exact(hpm.map (Sh.ix o)).nodup_iff.2 (O4 p key)
 ·have hs:o.Pairwise (fun a b=>Sh.ix o a≤Sh.ix o b):=by
   rw[List.pairwise_iff_getElem]
   intro i j hi hj hij
   rw[Sp (List.getElem_mem hi),Sp (List.getElem_mem hj),MH p.nodup hi,MH p.nodup hj]
   omega
  exact hs.filter _
theorem XP(o:List Int)(p:F8 h.aC.length o):∀ks:List Nat,(ks.filterMap (rowAt h o)).map rR=(zQ h ks).map fun k:Nat=>(⟨(k:Int),o.filter (fun t=>gL (tx h t) (k:Int))⟩:aj)
 |[]=>rfl
 |k::ks=>by
  have ih:=XP o p ks
  unfold zQ at ih ⊢
  rw[List.filterMap_cons,List.filter_cons]
  unfold rowAt at ih ⊢
  by_cases hw:vP h k=[]
  ·rw[if_pos hw,if_neg (by simp[hw])];exact ih
  ·rw[if_neg hw,if_pos (by simp[hw])]
   simp only[List.map_cons]
   rw[ih,TJ p];rfl
theorem aac(hf:Fits h){o:List Int}(ho:o.length≤1000000):nR h o=some ((if right h&&ID h.aC.length o then PL h o else []).map rR):=by
 unfold nR
 rw[FM hf,b9,bW,XI hf.RN,b9]
 cases hr:right h with
 |false=>rfl
 |true=>
  cases hk:ID h.aC.length o with
  |false=>rfl
  |true=>
   have p:=u9.1 hk
   simp only[Bool.not_true,iC,if_false,Bool.and_self,if_true,mT]
   rw[acC hf,b9]
   have hkg:FC h=(zQ h (List.range 16)).map fun k:Nat=>(k:Int):=by unfold FC;rw[if_pos hr]
   have hkl:=WG hr
   unfold PL
   rw[XP o p]
   refine c6 (fun i=>((FC h).take i).map fun k:Int=>(⟨k,o.filter fun t=>gL (tx h t) k⟩:aj)) (FC h).length _ (bC (by omega)) (fun i hi=> ?_) ?_ (by simp)
   ·generalize hK:(FC h)[i]=K at*
    have hidx:Sh.idx (FC h) (i:Int)=some K:=by rw[bM hi,hK]
    simp only[mQ,bW,dec_lt,hi,decide_true,if_true,hidx,b9]
    refine(c6 (fun k=>(o.take k).filter fun t=>gL (tx h t) K) o.length (mU (((FC h).take i).map fun k:Int=>⟨k,o.filter fun t=>gL (tx h t) k⟩) (i:Int) ⟨K,o.filter fun t=>gL (tx h t) K⟩) (bC (by omega)) (fun k uR=> ?_) ?_ (by simp)).trans ?_
    ·have hin:=fI.2 (p.node _ (List.getElem_mem uR))
     have hle:=List.length_filter_le (fun t=>gL (tx h t) K) (o.take k)
     have htk:(o.take k).length≤k:=by simp;omega
     have hwl:=hf.writes _ (sF hin)
     simp only[mR,bW,dec_lt,uR,decide_true,if_true,bM uR,hidx,oH hin,b9,AA hwl,mV,bn (k:=k) (by omega),Sh.next]
     rw[List.take_add_one,List.getElem?_eq_getElem uR,Option.toList_some,List.filter_append]
     cases hw:gL (tx h o[k]) K with
     |true=>
      simp only[if_true]
      rw[dX (by simp only[List.length_singleton];omega)]
      simp[hw]
     |false=>simp[hw]
    ·simp[mR,bW]
    ·unfold mU ru
     rw[dX (by simp;omega),b9,bn (by omega),List.take_add_one,List.getElem?_eq_getElem hi,Option.toList_some,List.map_append,hK];rfl
   ·simp only[mQ,rq,bW]
    rw[if_neg (by simp)]
    rw[List.take_length,hkg,List.map_map];rfl
end
end Pl
end

section
/- Law 27, CertTells: the certificate's functions answer as the reference's do. -/
namespace Pl
open Go Go.Av G
theorem Df{α:Type}(l:List α)(n:Nat):decide ((n:Int)<Sh.len l)= !decide (l.length≤n):=by
 by_cases h:l.length≤n <;> simp[h,Sh.len] <;> omega
def L1(c:bh):Bool:=
 decide (c.Order.length≤40)&&decide (c.Rows.length≤20)&&decide (c.Tree.length≤80)&&c.Rows.all (fun r=>decide (r.L.length≤40))&&c.Tree.all (fun n=>decide (n.bR.length≤40))
theorem afa(c:bh):sk c=some (L1 c):=by
 unfold sk L1
 have d1:decide ((40:Int)<Sh.len c.Order)= !decide (c.Order.length≤40):=Df _ 40
 have d2:decide ((20:Int)<Sh.len c.Rows)= !decide (c.Rows.length≤20):=Df _ 20
 have d3:decide ((80:Int)<Sh.len c.Tree)= !decide (c.Tree.length≤80):=Df _ 80
 have To:c.Tree.length≤80→oc c=some (c.Tree.all (fun n=>decide (n.bR.length≤40))):=fun ht=>by
  unfold oc
  rw[tW c.Tree (fun f=> !decide (f.bR.length≤40)) false (some true) (bC (by omega)) (fun k hk=> ?_) ?_]
  ·rw[List.any_eq_not_all_not]
   simp only[Bool.not_not]
   cases c.Tree.all (fun f=>decide (f.bR.length≤40)) <;> rfl
  ·simp[n_,rT,bW,Sh.exit]
  ·have:=Df (c.Tree[k]).bR 40
   simp only[n_,bW,dec_lt,hk,decide_true,if_true,bM hk,b9,bn (k:=k) (by omega),Sh.exit,Sh.next,Option.map_some]
   simp only[bW] at this
   rw[show((40:Int))=((40:Nat):Int) from rfl,this]
 have YA:c.Rows.length≤20→c.Tree.length≤80→gp c false=some (c.Rows.all (fun r=>decide (r.L.length≤40))&&c.Tree.all (fun n=>decide (n.bR.length≤40))):=fun hr ht=>by
  unfold gp
  simp only[iC,if_false]
  rw[tW c.Rows (fun f=> !decide (f.L.length≤40)) false (some (c.Tree.all (fun n=>decide (n.bR.length≤40)))) (bC (by omega)) (fun k hk=> ?_) ?_]
  ·rw[List.any_eq_not_all_not]
   simp only[Bool.not_not]
   cases c.Rows.all (fun f=>decide (f.L.length≤40)) <;> rfl
  ·simp[oa,To ht,bW,Sh.exit]
  ·have:=Df (c.Rows[k]).L 40
   simp only[oa,bW,dec_lt,hk,decide_true,if_true,bM hk,b9,bn (k:=k) (by omega),Sh.exit,Sh.next,Option.map_some]
   simp only[bW] at this
   rw[show((40:Int))=((40:Nat):Int) from rfl,this]
 have hj1t:gp c true=some false:=rfl
 rw[d1,d2,d3]
 by_cases h1:c.Order.length≤40
 ·by_cases h2:c.Rows.length≤20
  ·by_cases h3:c.Tree.length≤80
   ·simp[h1,h2,h3,YA h2 h3]
   ·simp[h1,h2,h3,hj1t]
  ·simp[h1,h2,hj1t]
 ·simp[h1,hj1t]

theorem Fq{α:Type}(f:α→List Int)(b:Nat):∀l:List α,(∀x∈l,(f x).length≤b)→(l.flatMap f).length≤b*l.length
 |[],_=>by simp
 |x::l,h=>by
  have h1:=h x (List.mem_cons_self ..)
  have h2:=Fq f b l (fun y hy=>h y (List.mem_cons_of_mem _ hy))
  simp only[List.flatMap_cons,List.length_append,List.length_cons,Nat.mul_add,Nat.mul_one]
  omega
theorem QM{c:bh}(h:L1 c=true):(ints c).length≤10000:=by
 simp only[L1,Bool.and_eq_true,decide_eq_true_eq,List.all_eq_true] at h
 obtain⟨⟨⟨⟨h1,h2⟩,h3⟩,h4⟩,h5⟩:=h
 have a:=Fq (fun(r:aP)=>r.Key::(r.L.length:Int)::r.L) 42 c.Rows (fun x hx=>by have:=h4 x hx;simp;omega)
 have b:=Fq (fun(n:au)=>n.C.Key::n.C.A::n.C.B::(n.bR.length:Int)::n.bR) 44 c.Tree (fun x hx=>by have:=h5 x hx;simp;omega)
 have e:(ints c).length=3+c.Order.length+1+(l_ c.Rows).length+1+(mc c.Tree).length:=by simp[ints];omega
 unfold l_ mc at e
 omega


def YN(c:bh):Prop:=c.Order.length≤1000000∧(c.Rows.length≤1000000∧∀r∈c.Rows,r.L.length≤1000000)∧c.Tree.length≤1000000∧∀n∈c.Tree,n.bR.length≤1000000
theorem Ho{α:Type}(f:α→List Int)(hp:∀x,1≤(f x).length):∀l:List α,l.length≤(l.flatMap f).length∧∀x∈l,(f x).length≤(l.flatMap f).length
 |[]=>by simp
 |x::l=>by
  have h1:=hp x
  obtain⟨h2,h3⟩:=Ho f hp l
  simp only[List.flatMap_cons,List.length_append,List.length_cons]
  refine⟨by omega,fun y hy=> ?_⟩
  rcases List.mem_cons.1 hy with rfl|hy
  ·omega
  ·have:=h3 y hy;omega
theorem Wz(c:bh):(ints c).length=3+c.Order.length+1+(l_ c.Rows).length+1+(mc c.Tree).length:=by simp[ints];omega
theorem P4{c:bh}(h:(ints c).length≤1000000):YN c:=by
 have e:=Wz c
 obtain⟨a,a'⟩:=Ho (fun(r:aP)=>r.Key::(r.L.length:Int)::r.L) (by simp) c.Rows
 obtain⟨b,b'⟩:=Ho (fun(n:au)=>n.C.Key::n.C.A::n.C.B::(n.bR.length:Int)::n.bR) (by simp) c.Tree
 unfold l_ mc at e
 refine⟨by omega,⟨by omega,fun r hr=> ?_⟩,by omega,fun r hr=> ?_⟩
 ·have:=a' r hr;simp only[List.length_cons] at this;omega
 ·have:=b' r hr;simp only[List.length_cons] at this;omega
theorem Np{c:bh}(hz:YN c):eO c=some (E8 c):=by
 obtain⟨-,⟨h1, -⟩,h2, -⟩:=hz
 unfold eO
 refine c6 (fun k=>(c.Rows.take k).map rR) c.Rows.length (kI c (c.Rows.map rR)) (bC (by omega)) (fun k hk=> ?_) ?_ (by simp)|>.trans ?_
 ·simp only[kH,bW,dec_lt,hk,decide_true,if_true,bM hk,b9]
  rw[dX (by simp;omega)]
  simp only[b9,bn (k:=k) (by omega),Sh.next]
  rw[List.take_add_one,List.getElem?_eq_getElem hk,Option.toList_some,List.map_append]
  rfl
 ·simp[kH,bW]
 ·unfold kI
  refine c6 (fun k=>(c.Tree.take k).map nN) c.Tree.length _ (bC (by omega)) (fun k hk=> ?_) ?_ (by simp)
  ·simp only[kG,bW,dec_lt,hk,decide_true,if_true,bM hk,b9]
   rw[dX (by simp;omega)]
   simp only[b9,bn (k:=k) (by omega),Sh.next]
   rw[List.take_add_one,List.getElem?_eq_getElem hk,Option.toList_some,List.map_append]
   rfl
  ·simp[kG,p9,bW,E8]
theorem XS{a:List Int}(h:a.length≤1000000):qP a a=some true:=by
 unfold qP
 simp only[ne_eq,not_true,decide_false,iC,if_false]
 refine QD a.length true (bC (by omega)) (fun k hk=> ?_) ?_
 ·simp only[mB,bW,dec_lt,hk,decide_true,if_true,bM hk,b9,ne_eq,not_true,decide_false,iC,if_false,bn (k:=k) (by omega),Sh.next]
 ·simp[mB,qQ,bW,Sh.exit]
theorem XT{a:List aj}(h:a.length≤1000000)(h2:∀r∈a,r.L.length≤1000000):rz a a=some true:=by
 unfold rz
 simp only[ne_eq,not_true,decide_false,iC,if_false]
 refine QD a.length true (bC (by omega)) (fun k hk=> ?_) ?_
 ·have hx:=h2 _ (List.getElem_mem hk)
  simp only[mW,bW,dec_lt,hk,decide_true,if_true,bM hk,b9,ne_eq,not_true,decide_false,iC,if_false,mZ]
  refine ig (fun i=>((i:Nat):Int)) (a[k]).L.length (mY (k:Int)) (bC (by omega)) (fun i hi=> ?_) ?_ rfl|>.trans ?_
  ·simp only[mX,bW,dec_lt,bM hk,hi,decide_true,if_true,bM hi,b9,ne_eq,not_true,decide_false,iC,if_false,bn (k:=i) (by omega),Sh.next]
  ·simp[mX,bW,bM hk]
  ·unfold mY
   rw[bn (k:=k) (by omega)];rfl
 ·simp[mW,rA,bW,Sh.exit]
theorem XU{a:List ak}(h:a.length≤1000000)(h2:∀r∈a,r.bR.length≤1000000):rB a a=some true:=by
 unfold rB
 simp only[ne_eq,not_true,decide_false,iC,if_false]
 refine QD a.length true (bC (by omega)) (fun k hk=> ?_) ?_
 ·have hx:=h2 _ (List.getElem_mem hk)
  simp only[m_,bW,dec_lt,hk,decide_true,if_true,bM hk,b9,ne_eq,not_true,decide_false,Bool.not_true,iC,if_false,ni]
  refine ig (fun i=>((i:Nat):Int)) (a[k]).bR.length (nh (k:Int)) (bC (by omega)) (fun i hi=> ?_) ?_ rfl|>.trans ?_
  ·simp only[ng,bW,dec_lt,bM hk,hi,decide_true,if_true,bM hi,b9,ne_eq,not_true,decide_false,iC,if_false,bn (k:=i) (by omega),Sh.next]
  ·simp[ng,bW,bM hk]
  ·unfold nh
   rw[bn (k:=k) (by omega)];rfl
 ·simp[m_,rC,bW,Sh.exit]
theorem XR{c:bh}(hz:YN c):iA (E8 c) (E8 c)=some true:=by
 obtain⟨h1,⟨h2,h4⟩,h3,h5⟩:=hz
 unfold iA
 rw[XS (show(E8 c).Order.length≤1000000 from h1),b9,
  XT (show(E8 c).Rows.length≤1000000 by simp[E8];omega) (fun r hr=>by
   obtain⟨x,hx,rfl⟩:=List.mem_map.1 hr
   exact h4 x hx),b9,
  XU (show(E8 c).Tree.length≤1000000 by simp[E8];omega) (fun r hr=>by
   obtain⟨x,hx,rfl⟩:=List.mem_map.1 hr
   exact h5 x hx),b9]
 simp

section
variable {h:af}
theorem aq4(hf:Fits h)(hn:h.aC.length≤1000000)(lev:Int){o:List Int}(ho:o.length≤1000000):∃y,zF h lev o=some y∧YN y∧sx h lev o=some (E8 y):=by
 unfold zF sx
 by_cases h0:lev=0
 ·rw[if_pos (decide_eq_true h0),if_pos (decide_eq_true h0)]
  refine⟨⟨lev,true,o,[],[]⟩, ?_,⟨ho,by simp,by simp⟩,rfl⟩
  unfold jH
  rw[dX (by simp;omega)];rfl
 ·rw[if_neg (by simpa using h0),if_neg (by simpa using h0),amu hf hn ho,aac hf ho]
  refine⟨⟨lev,true,[],if right h&&ID h.aC.length o then PL h o else [],[]⟩,rfl,⟨by simp, ?_,by simp⟩,rfl⟩
  cases right h&&ID h.aC.length o with
  |false=>simp
  |true=>
   refine⟨Nat.le_trans (List.length_filterMap_le ..) (by simp),fun r hr=> ?_⟩
   obtain⟨k,_,hk⟩:=List.mem_filterMap.1 hr
   unfold rowAt at hk
   split at hk
   ·cases hk
   ·cases hk
    have:=(Sh.xD o (vP h k)).length_eq
    have:=NP h (k:Int)
    show(Sh.AI o (vP h k)).length≤_
    omega
theorem pNo(lev:Int){t:List au}(ht:t.length≤1000000)(hc:∀n∈t,n.bR.length≤1000000):BN lev t=some ⟨lev,false,[],[],t⟩:=by
 unfold BN
 refine c6 (fun k=>t.take k) t.length _ (bC (by omega)) (fun k hk=> ?_) ?_ (by simp)
 ·have hx:=hc _ (List.getElem_mem hk)
  simp only[zC,bW,dec_lt,hk,decide_true,if_true,bM hk,b9,jH]
  rw[dX (by simp;omega),b9,dX (by simp;omega),b9,bn (k:=k) (by omega),List.take_add_one,List.getElem?_eq_getElem hk]
  rfl
 ·simp[zC,BO,bW]
theorem afk{α β:Type}{a:List α}{b:List β}(ha:a.length≤1000000)(hb:b.length≤1000000):decide (dz (Sh.len a+Sh.len b)=0)=(decide (Sh.len a=0)&&decide (Sh.len b=0)):=by
 simp only[bW]
 rw[gA (by omega) (by omega),Bool.eq_iff_iff]
 simp only[Bool.and_eq_true,decide_eq_true_eq]
 omega
theorem Nh{α β:Type}(f:α→β)(l:List α):Sh.len (l.map f)=Sh.len l:=by simp[bW]
theorem ac4(hf:Fits h)(hb:∀t∈h.aC,t.Reads.length≤1000000)(hn:h.aC.length≤1000000){c:bh}(hz:YN c)(ht:D1 c.Tree):∃b,vb h c=some b∧pV h (E8 c)=some b:=by
 obtain⟨h1,⟨h2,h4⟩,h3,h5⟩:=hz
 obtain⟨lev,yes,ord,rows,tree⟩:=c
 simp only at h1 h2 h3 h4 ht
 have r2:(rows.map rR).length≤1000000:=by simpa using h2
 have r3:(tree.map nN).length≤1000000:=by simpa using h3
 rw[show E8 ⟨lev,yes,ord,rows,tree⟩=⟨lev,yes,ord,rows.map rR,tree.map nN⟩ from rfl]
 unfold vb pV
 dsimp only
 cases yes with
 |false=>
  simp only[Bool.not_false,if_true]
  rw[ZS hf lev (l:=[]) (by simp) ht,show tree.map nN=tree.map nd from rfl,aab hf (FM hf) lev (l:=[]) (by simp) ht,afk h1 r2,Nh]
  cases decide (Sh.len ord=0) <;> cases decide (Sh.len rows=0) <;> cases check h lev [] tree <;> exact⟨_,rfl,rfl⟩
 |true=>
  simp only[Bool.not_true,iC,if_false]
  rw[afk r2 r3,afk h1 r3,Nh,Nh,aeA hf hb,ae9 hf hb]
  by_cases h0:lev=0
  ·simp only[decide_eq_true h0,if_true]
   cases decide (Sh.len rows=0) <;> cases decide (Sh.len tree=0) <;> cases Js h ord <;> exact⟨_,rfl,rfl⟩
  ·simp only[decide_eq_false h0,iC,if_false]
   by_cases h6:lev=1
   ·simp only[decide_eq_true h6,decide_eq_false (not_not_intro h6:¬lev≠1),iC,if_true,if_false]
    obtain⟨b,e1,e2⟩:=XG hf hn h2 h4
    rw[e1,e2]
    cases decide (Sh.len ord=0) <;> cases decide (Sh.len tree=0) <;> cases b <;> exact⟨_,rfl,rfl⟩
   ·simp only[decide_eq_false h6,decide_eq_true (show lev≠1 from h6),iC,if_true,if_false]
    exact⟨_,rfl,rfl⟩
end

theorem YW:sP=some true:=by kernel_rfl
theorem Sf{s:List UInt8}(hs:s.length≤600){d:bh}{e:Int}(h:uO s=some (d,e)):YN d:=by
 rw[Xg (by omega)] at h
 have z:YN ⟨0,false,[],[],[]⟩:=⟨by simp,by simp,by simp⟩
 rcases JG s with⟨h1,_⟩|⟨l,h1,_,h3,_⟩
 ·rw[if_pos h1] at h;cases h;exact z
 ·rw[h1] at h
  simp only[ne_eq,not_true,if_false] at h
  cases hp:yz l with
  |none=>rw[hp] at h;cases h;exact z
  |some c=>
   rw[hp] at h
   cases h
   exact P4 (by rw[TM hp];omega)
theorem S1(h:af)(c:bh)(s:List UInt8)(hf:Fits h):oI h c s=some true:=by
 unfold oI
 rw[YW,b9,arf (by omega),afa]
 simp only[b9,Bool.not_true,iC,if_false]
 have j1t:eX h c s true=some true:=rfl
 cases h8:few h 8 with
 |false=>exact j1t
 |true=>
  cases hF:L1 c with
  |false=>exact j1t
  |true=>
   by_cases hs:s.length≤600
   ·have hd:decide ((600:Int)<Sh.len s)=false:=decide_eq_false (by simp only[Sh.len];omega)
    have hi:=QM hF
    have hz:YN c:=P4 (by omega)
    have ht:D1 c.Tree:=by
     simp only[L1,Bool.and_eq_true,decide_eq_true_eq,List.all_eq_true] at hF
     exact⟨by omega,fun x hx=>by have:=hF.2 x hx;omega⟩
    have hn:h.aC.length≤1000000:=by have:=Y6 h8;omega
    obtain⟨y,y1,y2,y3⟩:=aq4 hf hn c.Level hz.1
    obtain⟨b,b1,b2⟩:=ac4 hf (Th h8) hn hz ht
    have g1:∃d e,uO s=some (d,e):=by rw[Xg (by omega)];exact⟨_,_,rfl⟩
    obtain⟨d,e,g1⟩:=g1
    have Zd:YN ⟨c.Level,false,[],[],c.Tree⟩:=⟨by simp,by simp,hz.2.2⟩
    simp only[hd,Bool.not_true,iC,if_false,eX,Np hz,ams (c:=c) (by omega),afh (c:=c) (by omega),g1,amE (s:=s) (by omega) g1,y1,Np y2,y3,pNo c.Level hz.2.2.1 hz.2.2.2,Np Zd,b1,b2,b9,beq_self_eq_true,if_true,decide_true,Np (Sf hs g1),XR (Sf hs g1),XR y2]
    exact congrArg (·.bind fun r=>some r) (XR Zd)
   ·have hd:decide ((600:Int)<Sh.len s)=true:=decide_eq_true (by simp only[Sh.len];omega)
    rw[hd]
    exact j1t
end Pl
end
