/- What the plain functions answer. -/
import Derived.Test.YtleihjegenjacaaGreatPl
import Derived.KernelRfl
set_option linter.unusedSimpArgs false
set_option linter.unusedVariables false
section
/- Trees in a row of nodes. -/

namespace Pl
open Go Go.Av G

inductive Tree where
 |leaf (x:aq)
 |br (x:aq) (a b:Tree)
namespace Tree
def flat:Tree→List aq
 |leaf x=>[x]
 |br x a b=>x::(a.flat++b.flat)
def ok:Tree→Bool
 |leaf x=>decide (0<x.dY.length)
 |br x a b=>decide (x.dY.length=0)&&a.ok&&b.ok
def leaves:Tree→Nat
 |leaf _=>1
 |br _ a b=>a.leaves+b.leaves
def deep:Tree→Nat
 |leaf _=>0
 |br _ a b=>1+max a.deep b.deep
theorem L6:∀t:Tree,0<t.flat.length
 |leaf _=>by simp[flat]
 |br _ _ _=>by simp[flat]
theorem CU:∀t:Tree,t.leaves≤t.flat.length
 |leaf _=>by simp[flat,leaves]
 |br _ a b=>by simp only[flat,leaves,List.length_cons,List.length_append];have:=CU a;have:=CU b;omega
theorem ED:∀t:Tree,t.deep<t.flat.length
 |leaf _=>by simp[flat,deep]
 |br _ a b=>by simp only[flat,deep,List.length_cons,List.length_append];have:=ED a;have:=ED b;have:=L6 a;have:=L6 b;omega
end Tree

def parse:Nat→List aq→Option (Tree×List aq)
 |0,_=>none
 |_+1,[]=>none
 |n+1,x::l=>
  if 0<x.dY.length then some (.leaf x,l)
  else match parse n l with
   |none=>none
   |some (a,l1)=>match parse n l1 with
    |none=>none
    |some (b,l2)=>some (.br x a b,l2)
theorem u5:∀(n:Nat) {l r:List aq} {t:Tree},parse n l=some (t,r)→t.ok=true∧l=t.flat++r
 |0,_,_,_,h=>by cases h
 |_+1,[],_,_,h=>by cases h
 |n+1,x::l,r,t,h=>by
  simp only[parse] at h
  split at h
  ·rename_i hx;cases h;simp[Tree.ok,Tree.flat,hx]
  ·rename_i hx
   cases h1:parse n l with
   |none=>rw[h1] at h;cases h
   |some p=>
    obtain⟨a,l1⟩:=p
    rw[h1] at h
    dsimp only at h
    cases h2:parse n l1 with
    |none=>rw[h2] at h;cases h
    |some q=>
     obtain⟨b,l2⟩:=q
     rw[h2] at h
     cases h
     obtain⟨a1,a2⟩:=u5 n h1
     obtain⟨b1,b2⟩:=u5 n h2
     have hx0:x.dY.length=0:=by omega
     refine⟨by simp only[Tree.ok,a1,b1,hx0,decide_true,Bool.and_self], ?_⟩
     rw[a2,b2];simp[Tree.flat]
theorem Ij:∀(t:Tree) (n:Nat) (r:List aq),t.ok=true→t.flat.length≤n→parse n (t.flat++r)=some (t,r)
 |.leaf x,n,r,h,hn=>by
  obtain⟨n,rfl⟩:∃m,n=m+1:=⟨n - 1,by simp[Tree.flat] at hn;omega⟩
  simp only[Tree.ok,decide_eq_true_eq] at h
  simp[Tree.flat,parse,h]
 |.br x a b,n,r,h,hn=>by
  obtain⟨n,rfl⟩:∃m,n=m+1:=⟨n - 1,by simp[Tree.flat] at hn;omega⟩
  simp only[Tree.ok,Bool.and_eq_true,decide_eq_true_eq] at h
  simp only[Tree.flat,List.length_cons,List.length_append] at hn
  have h0:¬0<x.dY.length:=by omega
  simp only[Tree.flat,List.cons_append,List.append_assoc,parse,if_neg h0]
  rw[Ij a n _ h.1.2 (by omega)]
  dsimp only
  rw[Ij b n _ h.2 (by omega)]
theorem Uu{n m:Nat}{l:List aq}(hn:l.length≤n)(hm:l.length≤m):parse n l=parse m l:=by
 have key:∀{n m:Nat},l.length≤n→l.length≤m→∀p,parse n l=some p→parse m l=some p:=fun{n m} hn hm p hp=>by
  obtain⟨t,r⟩:=p
  obtain⟨h1,h2⟩:=u5 n hp
  have hl:t.flat.length≤m:=by have:=congrArg List.length h2;simp at this;omega
  have:=Ij t m r h1 hl
  rwa [←h2] at this
 cases h1:parse n l with
 |some p=>exact(key hn hm p h1).symm
 |none=>
  cases h2:parse m l with
  |none=>rfl
  |some p=>rw[key hm hn p h2] at h1;cases h1
def whole(l:List aq):Option Tree:=
 match parse l.length l with
 |some (t,[])=>some t
 |_=>none
theorem Pw{l:List aq}{t:Tree}(h:whole l=some t):t.ok=true∧l=t.flat:=by
 unfold whole at h
 split at h
 ·rename_i t' hp
  cases h
  have:=u5 _ hp
  simpa using this
 ·cases h

theorem gt0{α:Type}(l:List α):decide ((0:Int)<Sh.len l)=decide (0<l.length):=by
 by_cases h:0<l.length
 ·simp[Sh.len,h]
 ·simp[Sh.len,h]
theorem O6(x:aq)(l:List aq):dJ ⟨x::l⟩=some (x,⟨l⟩):=by
 unfold dJ
 have h0:¬(Sh.len (x::l))=0:=by simp[Sh.len];omega
 have h1:Sh.idx (x::l) 0=some x:=by simp[Sh.idx]
 have h2:Sh.sub (x::l) 1 (Sh.len (x::l))=some l:=by
  simp[Sh.sub,Sh.len];omega
 show(if decide (Sh.len (x::l)=0)=true then none else _)=_
 rw[if_neg (by simp),h1,fm,h2,fm]
theorem Z1:dJ ⟨[]⟩=none:=by simp[dJ,Sh.len]
theorem KU:∀(n:Nat) (l:List aq),l.length≤4611686018427387904→cg n ⟨l⟩=(parse n l).map fun p=>(⟨p.2⟩,(p.1.leaves:Int),(p.1.deep:Int))
 |0,_,_=>rfl
 |n+1,[],_=>by simp[cg,dZ,Z1,parse]
 |n+1,x::l,hl=>by
  simp only[List.length_cons] at hl
  simp only[cg,dZ,O6,fm,parse,gt0]
  by_cases hx:0<x.dY.length
  ·simp[hx,Tree.leaves,Tree.deep]
  ·simp only[hx,decide_false,nF,if_false]
   rw[KU n l (by omega)]
   cases h1:parse n l with
   |none=>rfl
   |some p=>
    obtain⟨a,l1⟩:=p
    obtain⟨a1,a2⟩:=u5 n h1
    have e1:=congrArg List.length a2
    simp only[List.length_append] at e1
    simp only[Option.map_some,fm]
    rw[KU n l1 (by omega)]
    cases h2:parse n l1 with
    |none=>rfl
    |some q=>
     obtain⟨b,l2⟩:=q
     obtain⟨b1,b2⟩:=u5 n h2
     have e2:=congrArg List.length b2
     simp only[List.length_append] at e2
     have:=a.CU;have:=b.CU;have:=a.ED;have:=b.ED
     simp only[Option.map_some,fm,Tree.leaves,Tree.deep]
     have w1:gJ ((a.leaves:Int)+(b.leaves:Int))=((a.leaves+b.leaves:Nat):Int):=by rw[Ax (by omega) (by omega)];omega
     have w2:gJ (1+Sh.max (a.deep:Int) (b.deep:Int))=((1+max a.deep b.deep:Nat):Int):=by
      have hm:Sh.max (a.deep:Int) (b.deep:Int)=((max a.deep b.deep:Nat):Int):=by
       simp only[Sh.max];split <;> omega
      rw[hm,Ax (by omega) (by omega)];omega
     rw[w1,w2]
def shapeOf(l:List aq):Int×Int×Bool:=match whole l with|some t=>((t.leaves:Int),(t.deep:Int),true)|none=>(0,0,false)
theorem Pk{l:List aq}(h:whole l=none):shapeOf l=(0,0,false):=by unfold shapeOf;rw[h]
theorem Pm{l:List aq}{t:Tree}(h:whole l=some t):shapeOf l=((t.leaves:Int),(t.deep:Int),true):=by unfold shapeOf;rw[h]
theorem Z5{l:List aq}(hl:l.length≤1000000):uk l=some (shapeOf l):=by
 unfold uk
 rw[KU _ _ (by omega),Uu (n:=l.length+1) (m:=l.length) (by omega) (Nat.le_refl _)]
 unfold shapeOf whole
 cases h:parse l.length l with
 |none=>rfl
 |some p=>
  obtain⟨t,r⟩:=p
  cases r with
  |nil=>simp[Sh.len]
  |cons y r=>
   simp only[Option.map_some,gt0]
   simp
end Pl
end

section
/- What a tree says of choices: the program, and the reference. -/
namespace Pl
open Go Go.Av G

def Tree.held(h:af)(lev:Int):Tree→List aa→Bool
 |.leaf x,l=>decide (x.C=⟨0,0,0⟩)&&ring h lev l x.dY
 |.br x a b,l=>a.held h lev (l++[x.C])&&b.held h lev (l++[back x.C])&&one h x.C
def G3(t:Tree):Prop:=∀x∈t.flat,x.dY.length<9223372036854775808
theorem G3.br{x:aq}{a b:Tree}(h:G3 (.br x a b)):G3 a∧G3 b:=
 ⟨fun y hy=>h y (by simp[Tree.flat,hy]),fun y hy=>h y (by simp[Tree.flat,hy])⟩

theorem Yk{h:af}(hf:Fits h)(x:Int)(c:aa):iW x h c=some (inr h x&&ja (tx h x) c.Key):=by
 unfold iW
 by_cases hx:inr h x=true
 ·obtain⟨a,b⟩:=iM.1 hx
  have:=hf.writes _ (vb hx)
  rw[if_pos (by simpa using a),if_pos (by simpa [Sh.len] using b),t_ hx,fm,Ur (by omega),fm,hx]
  rfl
 ·have h1:inr h x=false:=by simpa using hx
  rw[h1]
  unfold inr at h1
  by_cases a:0≤x <;> by_cases b:x<(h.az.length:Int) <;> simp[a,b,Sh.len] at h1 ⊢
theorem Z2{h:af}(hf:Fits h)(c:aa):qN h c=some (one h c):=by
 unfold qN one
 rw[Yk hf,Yk hf]
 simp only[fm]
 by_cases a:c.A=c.B
 ·simp[a]
 ·simp only[a,ne_eq,not_false_eq_true,decide_true,if_true,Bool.true_and]
  cases inr h c.A <;> cases ja (tx h c.A) c.Key <;> cases inr h c.B <;> cases ja (tx h c.B) c.Key <;> rfl
theorem ag4(l:List aa):eu l=some l:=by
 simp[eu,Sh.sub,Sh.len]
theorem O5{h:af}(hf:Fits h)(lev:Int):∀(t:Tree) (n:Nat) (l:List aa) (r:List aq),t.ok=true→t.flat.length≤n→l.length+t.deep≤1000000→G3 t→
  gG n h lev l ⟨t.flat++r⟩=some (⟨r⟩,t.held h lev l)
 |.leaf x,n,l,r,hok,hn,hl,hs=>by
  obtain⟨n,rfl⟩:∃m,n=m+1:=⟨n - 1,by simp[Tree.flat] at hn;omega⟩
  simp only[Tree.ok] at hok
  have hx:=hs x (by simp[Tree.flat])
  simp only[Tree.deep] at hl
  simp only[Tree.flat,List.singleton_append,gG,gO,O6,fm,gt0,hok,if_true,Tree.held]
  rw[Z0 hf (show l.length<9223372036854775807 by omega) lev hx]
  by_cases hc:x.C=⟨0,0,0⟩ <;> simp[hc]
 |.br x a b,n,l,r,hok,hn,hl,hs=>by
  obtain⟨n,rfl⟩:∃m,n=m+1:=⟨n - 1,by simp[Tree.flat] at hn;omega⟩
  simp only[Tree.ok,Bool.and_eq_true,decide_eq_true_eq] at hok
  simp only[Tree.flat,List.length_cons,List.length_append] at hn
  simp only[Tree.deep] at hl
  have h0:decide (0<x.dY.length)=false:=by simp[hok.1.1]
  have i1:=O5 hf lev a n (l++[x.C]) (b.flat++r) hok.1.2 (by omega) (by simp;omega) hs.br.1
  have i2:=O5 hf lev b n (l++[back x.C]) r hok.2 (by omega) (by simp;omega) hs.br.2
  have e1:Sh.app 24 l [x.C]=some (l++[x.C]):=rC (by simp;omega)
  have e2:Sh.app 24 l [back x.C]=some (l++[back x.C]):=rC (by simp;omega)
  simp only[Tree.flat,List.cons_append,List.append_assoc,gG,gO,O6,fm,gt0,h0,nF,if_false,ag4,e1,i1,vF,show aa.mk x.C.Key x.C.B x.C.A=back x.C from rfl,e2,i2,Z2 hf,Tree.held]
  cases a.held h lev (l++[x.C]) <;> cases b.held h lev (l++[back x.C]) <;> simp
def check(h:af)(lev:Int)(l:List aa)(tree:List aq):Bool:=
 match whole tree with
 |some t=>may h lev&&t.held h lev l
 |none=>false
def JA(tree:List aq):Prop:=tree.length≤1000∧∀x∈tree,x.dY.length<9223372036854775808
theorem WB{h:af}(hf:Fits h)(lev:Int){l:List aa}(hl:l.length≤1000){tree:List aq}(ht:JA tree):sA h lev l tree=some (check h lev l tree):=by
 unfold sA check
 rw[Z5 (by have:=ht.1;omega),Ih hf]
 simp only[fm]
 cases hw:whole tree with
 |none=>simp[gi,Pk hw]
 |some t=>
  rw[Pm hw]
  obtain⟨h1,h2⟩:=Pw hw
  have hd:=t.ED
  have hlen:=congrArg List.length h2
  have key:qV h lev l ⟨tree⟩=some (⟨[]⟩,t.held h lev l):=by
   have:=O5 hf lev t Sh.sL l [] h1 (Nat.le_of_lt (bZ (by have:=ht.1;omega))) (by have:=ht.1;omega) (fun x hx=>ht.2 x (by rw[h2];exact hx))
   rw[List.append_nil,←h2] at this
   exact this
  simp only[Bool.not_true,nF,if_false,may]
  cases right h with
  |false=>simp[gi]
  |true=>
   by_cases a:lev=0
   ·simp[a,gi] at key ⊢
    rw[key];rfl
   ·by_cases b:lev=1
    ·simp[b,gi] at key ⊢
     rw[key];rfl
    ·simp[a,b,gi]

end Pl
end

section
/- Law 24: trees that refute. -/
namespace Pl
open Go Go.Av G

end Pl
end

section
/- Law 24: what a tree refutes. -/
namespace Pl
open Go Go.Av G

theorem FG{h:af}{lev:Int}{s:List aa}(hall:∀c,one h c=true→c∈s∨back c∈s):∀(t:Tree) {l:List aa},(∀c∈l,c∈s)→t.held h lev l=true→∃row,ring h lev s row=true
 |.leaf x,l,hs,hh=>by
  simp only[Tree.held,Bool.and_eq_true] at hh
  exact⟨x.dY,UW hs hh.2⟩
 |.br x a b,l,hs,hh=>by
  simp only[Tree.held,Bool.and_eq_true] at hh
  have key:∀c:aa,c∈s→∀d∈l++[c],d∈s:=fun c hc d hd=>by
   rcases List.mem_append.1 hd with h|h
   ·exact hs d h
   ·rw[List.mem_singleton.1 h];exact hc
  rcases hall _ hh.2 with hc|hc
  ·exact FG hall a (key _ hc) hh.1.1
  ·exact FG hall b (key _ hc) hh.1.2
theorem SZ{h:af}{lev:Int}{s:List aa}(hall:∀c,one h c=true→c∈s∨back c∈s){t:Tree}(hh:t.held h lev []=true):DU h lev s=false:=by
 obtain⟨row,hr⟩:=FG hall t (fun c hc=>by cases hc) hh
 have hw:=UX hr
 unfold DU
 rw[EC.2 hw]
 rfl
end Pl
end

section
/- Rows as choices: the same graph. -/
namespace Pl
open Go Go.Av G

theorem Path.front{N:Nat}{nx:Nat→List Int}{x y z:Nat}(hx:x<N)(hy:y<N)(e:(y:Int)∈nx x)(p:Path N nx y z):Path N nx x z:=by
 induction p with
 |one _ hz e2=>exact .more (.one hx hy e) hz e2
 |more _ hz e2 ih=>exact .more ih hz e2
theorem Nv{N:Nat}{nx:Nat→List Int}{f:Nat→Nat→Bool}(he:∀x y,x<N→y<N→((y:Int)∈nx x↔f x y=true)){x y:Nat}:Path N nx x y↔Way N f x y:=by
 constructor
 ·intro p
  induction p with
  |one a b e=>exact .rE a b ((he _ _ a b).1 e)
  |more q b e ih=>exact ih.snoc b ((he _ _ q.lt.2 b).1 e)
 ·intro w
  induction w with
  |rE a b e=>exact .one a b ((he _ _ a b).2 e)
  |cons a b e _ ih=>exact .front a b ((he _ _ a b).2 e) ih

section
variable {h:af} {l:List aA}
def DJ(l:List aA)(c:aa):aa:=if place l c.Key c.A<place l c.Key c.B then c else back c
def IE(h:af)(l:List aA):List aa:=(sQ h).map (DJ l)
theorem Lc:∀p:List aa,Jz p (p.map (DJ l))
 |[]=>.nil
 |c::p=>by
  rw[List.map_cons]
  unfold DJ
  by_cases hlt:place l c.Key c.A<place l c.Key c.B
  ·rw[if_pos hlt];exact .so (Lc p)
  ·rw[if_neg hlt];exact .not (Lc p)
theorem IF:Jz (sQ h) (IE h l):=Lc _
theorem WT(hr:right h=true){c:aa}(hc:c∈IE h l):one h c=true:=IF.all (p:=fun c=>one h c=true) (fun c hc=>FN hr hc) (fun c=>Nk) c hc
theorem Wq(hm:nY h (List.range 16) l=true){k:Int}(hk:0≤k∧k<16)(t:Int):t∈xG l k↔t∈Dw h k:=by
 rw[List.range_eq_range'] at hm
 obtain⟨a,b,c⟩:=Gb hm
 obtain⟨q,rfl⟩:∃q:Nat,k=(q:Int):=⟨k.toNat,by omega⟩
 by_cases hw:Dw h q=[]
 ·rw[hw]
  constructor
  ·intro ht
   obtain⟨r,hr,e,e2⟩:=HZ (List.ne_nil_of_mem ht)
   have:=(a r hr).2
   rw[e,hw] at this
   have h2:=(Sh.ta r.L)
   rw[this] at h2
   rw[e2,List.nil_perm.1 h2] at ht
   exact ht
  ·intro ht;cases ht
 ·obtain⟨r,hr,e⟩:=c q (by omega) (by omega) hw
  rw[←e,TY b hr,←(a r hr).2]
  exact(Sh.ta r.L).mem_iff.symm
theorem sx(hm:nY h (List.range 16) l=true){k:Int}(hk:0≤k∧k<16)(t:Int):0<place l k t↔inr h t=true∧ja (tx h t) k=true:=by
 rw[iM,←GW,←Wq hm hk]
 unfold place
 by_cases ht:t∈xG l k
 ·rw[if_pos ht];simp only[ht,iff_true];omega
 ·rw[if_neg ht];simp[ht]
theorem Rb(hm:nY h (List.range 16) l=true){k:Int}(hk:0≤k∧k<16){a b:Int}(ha:0<place l k a)(hb:0<place l k b)(e:place l k a=place l k b):a=b:=by
 have m1:=place_pos' ha
 have m2:=place_pos' hb
 unfold place at e
 rw[if_pos m1,if_pos m2] at e
 exact GH m1 m2 (by omega)
 where
 place_pos' {t:Int} (hp:0<place l k t):t∈xG l k:=by
  unfold place at hp
  by_cases ht:t∈xG l k
  ·exact ht
  ·rw[if_neg ht] at hp;omega
theorem KP(hr:right h=true){c:aa}(hc:one h c=true):(c.A≠c.B∧inr h c.A=true∧inr h c.B=true)∧(0≤c.Key∧c.Key<16)∧ja (tx h c.A) c.Key=true∧ja (tx h c.B) c.Key=true:=by
 unfold one at hc
 simp only[Bool.and_eq_true,decide_eq_true_eq] at hc
 exact⟨⟨hc.1.1.1.1,hc.1.1.1.2,hc.1.1.2⟩,PL hr (vb hc.1.1.1.2) hc.1.2,hc.1.2,hc.2⟩
theorem GV(hr:right h=true)(hm:nY h (List.range 16) l=true){c:aa}:c∈IE h l↔one h c=true∧place l c.Key c.A<place l c.Key c.B:=by
 have turn_lt:∀c,one h c=true→place l (DJ l c).Key (DJ l c).A<place l (DJ l c).Key (DJ l c).B:=fun c hc=>by
  obtain⟨⟨hne,ia,ib⟩,hk,wa,wb⟩:=KP hr hc
  unfold DJ
  by_cases hlt:place l c.Key c.A<place l c.Key c.B
  ·rw[if_pos hlt];exact hlt
  ·rw[if_neg hlt]
   show place l c.Key c.B<place l c.Key c.A
   have:place l c.Key c.A≠place l c.Key c.B:=fun e=>hne (Rb hm hk ((sx hm hk _).2 ⟨ia,wa⟩) ((sx hm hk _).2 ⟨ib,wb⟩) e)
   omega
 constructor
 ·intro hc
  refine⟨WT hr hc, ?_⟩
  obtain⟨d,hd,rfl⟩:=List.mem_map.1 hc
  exact turn_lt d (FN hr hd)
 ·rintro⟨ho,hlt⟩
  rcases JV hr ho with hp|hp
  ·refine List.mem_map.2 ⟨c,hp, ?_⟩
   unfold DJ;rw[if_pos hlt]
  ·refine List.mem_map.2 ⟨back c,hp, ?_⟩
   unfold DJ
   rw[if_neg (show ¬place l (back c).Key (back c).A<place l (back c).Key (back c).B from by show ¬place l c.Key c.B<place l c.Key c.A;omega)]
   rfl
theorem tA(hr:right h=true)(hm:nY h (List.range 16) l=true){x y:Nat}(hx:x<h.az.length)(hy:y<h.az.length):s4 h l x y=dF h (IE h l) x y:=by
 unfold s4 dF Jk J5 Vl
 rw[show decide ((x:Int)<(y:Int))=decide (x<y) from decide_eq_decide.2 (by omega),Bool.or_assoc]
 congr 2
 rw[Bool.eq_iff_iff]
 unfold Yz
 simp only[List.any_eq_true,Bool.and_eq_true,decide_eq_true_eq]
 constructor
 ·rintro⟨k,hk,ha⟩
  have zN:=C7 hr hx k hk
  unfold s7 at ha
  simp only[Bool.and_eq_true,Bool.or_eq_true,decide_eq_true_eq] at ha
  have hyw:=(sx hm zN _).1 ha.1
  have hlt:0<place l k x∧place l k x<place l k y:=by
   rcases ha.2 with e|e
   ·omega
   ·exact e
  refine⟨⟨k,x,y⟩,(GV hr hm).2 ⟨?_,hlt.2⟩,rfl,rfl⟩
  unfold one
  have hne:(x:Int)≠(y:Int):=fun e=>by rw[e] at hlt;omega
  simp only[Bool.and_eq_true,decide_eq_true_eq]
  exact⟨⟨⟨⟨hne,vj.2 hx⟩,vj.2 hy⟩,EN.2 hk⟩,hyw.2⟩
 ·rintro⟨c,hc,ea,eb⟩
  obtain⟨ho,hlt⟩:=(GV hr hm).1 hc
  obtain⟨⟨_,ia,ib⟩,hk,wa,wb⟩:=KP hr ho
  rw[ea] at wa ia hlt
  rw[eb] at wb ib hlt
  refine⟨c.Key,EN.1 wa, ?_⟩
  unfold s7
  simp only[Bool.and_eq_true,Bool.or_eq_true,decide_eq_true_eq]
  exact⟨(sx hm hk _).2 ⟨ib,wb⟩,.inr ⟨(sx hm hk _).2 ⟨ia,wa⟩,hlt⟩⟩
theorem KT(hr:right h=true)(hm:nY h (List.range 16) l=true){x y:Nat}(hx:x<h.az.length)(hy:y<h.az.length):Ck h l x y=R6 h (IE h l) x y:=by
 rw[Bool.eq_iff_iff]
 unfold Ck R6 HV
 simp only[List.any_eq_true,Bool.and_eq_true,Bool.or_eq_true,decide_eq_true_eq]
 constructor
 ·rintro⟨hne,r,hrm,ha⟩
  have hk:=Cu hr hx r hrm
  unfold s7 at ha
  simp only[Bool.and_eq_true,Bool.or_eq_true,decide_eq_true_eq] at ha
  have hyw:=(sx hm hk _).1 ha.1
  rcases J1 hr hx hrm with e|⟨e1,e2,e3⟩
  ·refine .inl ⟨by omega,r,hrm, ?_⟩
   unfold BV
   simp only[Bool.and_eq_true,decide_eq_true_eq]
   exact⟨e,hyw.2⟩
  ·have hlt:0<place l r.Key r.bY∧place l r.Key r.bY<place l r.Key y:=by
    rcases ha.2 with e|e
    ·omega
    ·exact e
   refine .inr ⟨⟨r.Key,r.bY,y⟩,(GV hr hm).2 ⟨?_,hlt.2⟩, ?_⟩
   ·unfold one
    have hn2:r.bY≠(y:Int):=fun e=>by rw[e] at hlt;omega
    simp only[Bool.and_eq_true,decide_eq_true_eq]
    exact⟨⟨⟨⟨hn2,iM.2 e1⟩,vj.2 hy⟩,e3⟩,hyw.2⟩
   ·unfold rwC
    simp only[Bool.and_eq_true,decide_eq_true_eq]
    refine⟨⟨trivial,by omega⟩, ?_⟩
    rw[FF hr (vj.2 hx)]
    exact List.any_eq_true.2 ⟨r,hrm,by simp⟩
 ·rintro(⟨hne,r,hrm,hi⟩|⟨c,hc,hrw⟩)
  ·have hk:=Cu hr hx r hrm
   unfold BV at hi
   simp only[Bool.and_eq_true,decide_eq_true_eq] at hi
   refine⟨by omega,r,hrm, ?_⟩
   unfold s7
   simp only[Bool.and_eq_true,Bool.or_eq_true,decide_eq_true_eq]
   exact⟨(sx hm hk _).2 ⟨vj.2 hy,hi.2⟩,.inl (by omega)⟩
  ·unfold rwC at hrw
   simp only[Bool.and_eq_true,decide_eq_true_eq] at hrw
   obtain⟨ho,hlt⟩:=(GV hr hm).1 hc
   obtain⟨⟨_,ia,ib⟩,hk,wa,wb⟩:=KP hr ho
   rw[FF hr (vj.2 hx)] at hrw
   obtain⟨r,hrm,e⟩:=List.any_eq_true.1 hrw.2
   have e:=of_decide_eq_true e
   subst e
   rw[hrw.1.1] at hlt wb ib
   refine⟨by have:=hrw.1.2;omega,_,hrm, ?_⟩
   unfold s7
   simp only[Bool.and_eq_true,Bool.or_eq_true,decide_eq_true_eq]
   exact⟨(sx hm hk _).2 ⟨ib,wb⟩,.inr ⟨(sx hm hk _).2 ⟨ia,wa⟩,hlt⟩⟩
theorem P3(hr:right h=true)(hm:nY h (List.range 16) l=true)(x y:Nat)(hx:x<h.az.length)(hy:y<h.az.length):(y:Int)∈ZW h l x↔yX h 1 (IE h l) x y=true:=by
 rw[PZ]
 unfold yX Jk EB
 simp only[if_true,Bool.or_eq_true,List.any_eq_true,List.mem_range,Bool.and_eq_true]
 constructor
 ·rintro⟨_,e|⟨z,hz,e1,e2⟩⟩
  ·rw[tA hr hm hx hy] at e
   exact .inl e
  ·rw[tA hr hm hx hz] at e1
   rw[KT hr hm hz hy] at e2
   exact .inr ⟨z,hz,e1,e2⟩
 ·rintro(e|⟨z,hz,e1,e2⟩)
  ·rw[←tA hr hm hx hy] at e
   exact⟨⟨by omega,by omega⟩,.inl e⟩
  ·rw[←tA hr hm hx hz] at e1
   rw[←KT hr hm hz hy] at e2
   exact⟨⟨by omega,by omega⟩,.inr ⟨z,hz,e1,e2⟩⟩
theorem Pg(hr:right h=true)(hm:nY h (List.range 16) l=true):¬PC h l↔DU h 1 (IE h l)=true:=by
 unfold PC DU
 rw[Bool.not_eq_true',←Bool.not_eq_true,EC]
 refine not_congr ⟨fun⟨z,p⟩=>⟨z,(Nv (P3 hr hm)).1 p⟩,fun⟨z,w⟩=>⟨z,(Nv (P3 hr hm)).2 w⟩⟩
end
end Pl
end

section
/- The rows of an order; and one by one nothing leads back. -/
namespace Pl
open Go Go.Av G

theorem D6{h:af}{o:List Int}:∀ks:List Nat,nY h ks (ks.filterMap (rowAt h o))=true
 |[]=>rfl
 |k::ks=>by
  unfold nY
  by_cases hw:Dw h k=[]
  ·rw[if_pos hw]
   have:rowAt h o k=none:=by unfold rowAt;rw[if_pos hw]
   rw[List.filterMap_cons_none this]
   exact D6 ks
  ·rw[if_neg hw]
   have:rowAt h o k=some ⟨k,Sh.ye o (Dw h k)⟩:=by unfold rowAt;rw[if_neg hw]
   rw[List.filterMap_cons_some this]
   simp only[decide_true,Bool.true_and,D6 ks,Bool.and_true,decide_eq_true_eq]
   exact Sh.Ee ((Sh.vc o _).symm.trans (Sh.ta _).symm) ((IS h k).imp fun hab=>by omega) (Sh.z8 _)
theorem UY{h:af}{o:List Int}{r:aA}(hr:r∈uO h o):∃k:Nat,k<16∧Dw h k≠[]∧r=⟨k,Sh.ye o (Dw h k)⟩:=by
 unfold uO at hr
 obtain⟨k,hk,e⟩:=List.mem_filterMap.1 hr
 unfold rowAt at e
 by_cases hw:Dw h k=[]
 ·rw[if_pos hw] at e;cases e
 ·rw[if_neg hw] at e
  exact⟨k,List.mem_range.1 hk,hw,(Option.some.inj e).symm⟩
theorem JR{h:af}(hr:right h=true){o:List Int}{k:Nat}(hne:xG (uO h o) k≠[]):xG (uO h o) k=Sh.ye o (Dw h k):=by
 obtain⟨r,hm,hk,e⟩:=HZ hne
 obtain⟨q,_,_,e2⟩:=UY hm
 subst e2
 have:(q:Int)=k:=hk
 rw[e]
 show Sh.ye o (Dw h (q:Int))=_
 rw[this]
theorem FO{l:List aA}{k t:Int}(hp:0<place l k t):t∈xG l k:=by
 unfold place at hp
 by_cases ht:t∈xG l k
 ·exact ht
 ·rw[if_neg ht] at hp;omega
theorem IB{h:af}(hr:right h=true){o:List Int}{k:Nat}{t:Int}(hp:0<place (uO h o) k t):t∈Dw h k:=by
 have h1:=FO hp
 rw[JR hr (List.ne_nil_of_mem h1)] at h1
 exact(Sh.vc o _).mem_iff.1 h1
theorem WQ{h:af}(hr:right h=true){o:List Int}(p:Es h.az.length o){k:Nat}{a b:Int}(ha:0<place (uO h o) k a)(hb:0<place (uO h o) k b)(hlt:place (uO h o) k a<place (uO h o) k b):xw o a<xw o b:=by
 have ma:=FO ha
 have mb:=FO hb
 have wa:=IB hr ha
 have wb:=IB hr hb
 have e:=JR hr (List.ne_nil_of_mem ma)
 unfold place at hlt
 rw[if_pos ma,if_pos mb] at hlt
 have hl:xw (xG (uO h o) k) a<xw (xG (uO h o) k) b:=by omega
 have hs:=Sh.Az o (Dw h k)
 rw[←e] at hs
 have:=List.pairwise_iff_getElem.1 hs _ _ (yg ma) (yg mb) hl
 rw[vf ma,vf mb,Yb (Ln p wa),Yb (Ln p wb)] at this
 have hne:a≠b:=fun e2=>by subst e2;omega
 have:xw o a≠xw o b:=fun e2=>hne (GH (Ln p wa) (Ln p wb) e2)
 omega
theorem LG{h:af}(hr:right h=true){o:List Int}(p:Es h.az.length o){k a b:Int}(hk:0≤k)(hh:s7 (uO h o) k a b=true):ja (tx h b) k=true∧(a<0∨xw o a<xw o b):=by
 obtain⟨q,rfl⟩:∃q:Nat,k=(q:Int):=⟨k.toNat,by omega⟩
 unfold s7 at hh
 simp only[Bool.and_eq_true,Bool.or_eq_true,decide_eq_true_eq] at hh
 refine⟨(GW.1 (IB hr hh.1)).2, ?_⟩
 rcases hh.2 with e|⟨e1,e2⟩
 ·exact .inl e
 ·exact .inr (WQ hr p e1 hh.1 e2)

section
variable {h:af} {o:List Int}
theorem zl(hc:qi h o=true):right h=true∧Es h.az.length o∧(∀t:Nat,t<h.az.length→∀r∈(tx h t).Reads,vz h (o.take (xw o t)) r.Key=r.bY)∧Ff h o=true:=by
 unfold qi at hc
 simp only[Bool.and_eq_true,decide_eq_true_eq] at hc
 exact⟨hc.1.1.1,wo.1 hc.1.1.2,Uv.1 hc.1.2,hc.2⟩
theorem Pj(hc:qi h o=true){x y:Nat}(hx:x<h.az.length)(hy:y<h.az.length)(hd:s4 h (uO h o) x y=true):xw o x<xw o y:=by
 obtain⟨hr,p,hp,hs⟩:=zl hc
 have mx:=p.all hx
 have my:=p.all hy
 unfold s4 at hd
 simp only[Bool.or_eq_true,Bool.and_eq_true,decide_eq_true_eq,List.any_eq_true] at hd
 rcases hd with⟨h1,h2⟩|⟨r,hm,e⟩|⟨k,hm,e⟩
 ·apply Classical.byContradiction
  intro hn
  have hne:xw o (y:Int)≠xw o (x:Int):=fun e=>by
   have:=GH my mx e;omega
  have:=NJ.1 hs (xw o y) (xw o x) (by omega) (yg mx)
  rw[vf mx,vf my] at this
  exact this ⟨h1,h2.symm⟩
 ·have h1:=hp y hy r hm
  have hly:=yg my
  rcases M6 (h:=h) (o:=o) (key:=r.Key) (xw o y) (by omega) with⟨a,_⟩|⟨j,hj,hjl,a,_⟩
  ·rw[a,e] at h1;omega
  ·rw[a,e] at h1
   rw[←h1,Kn p.nodup hj];exact hjl
 ·have hk:=C7 hr hx k hm
  rcases(LG hr p hk.1 e).2 with e2|e2
  ·omega
  ·exact e2
theorem U1(hc:qi h o=true){x y:Nat}(hx:x<h.az.length)(hy:y<h.az.length)(hd:Ck h (uO h o) x y=true):xw o x<xw o y:=by
 obtain⟨hr,p,hp,hs⟩:=zl hc
 have mx:=p.all hx
 have my:=p.all hy
 unfold Ck at hd
 simp only[Bool.and_eq_true,decide_eq_true_eq,List.any_eq_true] at hd
 obtain⟨hne,r,hm,e⟩:=hd
 have hk:=Cu hr hx r hm
 obtain⟨hw,hlt⟩:=LG hr p hk.1 e
 apply Classical.byContradiction
 intro hn
 have amw:xw o (y:Int)≠xw o (x:Int):=fun e=>hne (GH my mx e).symm
 have hlx:=yg mx
 have h1:=hp x hx r hm
 rcases M6 (h:=h) (o:=o) (key:=r.Key) (xw o x) (by omega) with⟨a,b⟩|⟨j,hj,hjl,a,_,b⟩
 ·have:=b (xw o y) (yg my) (by omega)
  rw[vf my,hw] at this;cases this
 ·rw[a] at h1
  have hnn:0≤r.bY:=by rw[←h1];exact(p.node _ (List.getElem_mem hj)).1
  rcases hlt with e2|e2
  ·omega
  ·rw[←h1,Kn p.nodup hj] at e2
   have:=b (xw o y) (yg my) e2 (by omega)
   rw[vf my,hw] at this;cases this
end
end Pl
end

section
/- Law 27, CertSound: what proves its answer tells the truth. -/
namespace Pl
open Go Go.Av G

theorem BH{α:Type}(l:List α)(n:Nat):decide ((n:Int)<Sh.len l)= !decide (l.length≤n):=by
 by_cases h:l.length≤n <;> simp[h,Sh.len] <;> omega
def JK(c:bn):Bool:=
 decide (c.Order.length≤40)&&decide (c.Rows.length≤20)&&decide (c.Tree.length≤80)&&c.Rows.all (fun r=>decide (r.L.length≤40))&&c.Tree.all (fun n=>decide (n.dY.length≤40))
theorem aal(c:bn):nt c=some (JK c):=by
 unfold nt JK
 have d1:decide ((40:Int)<Sh.len c.Order)= !decide (c.Order.length≤40):=BH _ 40
 have d2:decide ((20:Int)<Sh.len c.Rows)= !decide (c.Rows.length≤20):=BH _ 20
 have d3:decide ((80:Int)<Sh.len c.Tree)= !decide (c.Tree.length≤80):=BH _ 80
 have hj2:c.Tree.length≤80→mL c=some (c.Tree.all (fun n=>decide (n.dY.length≤40))):=fun ht=>by
  unfold mL
  rw[Bq c.Tree (fun f=> !decide (f.dY.length≤40)) false (some true) (bZ (by omega)) (fun k hk=> ?_) ?_]
  ·rw[List.any_eq_not_all_not]
   simp only[Bool.not_not]
   cases c.Tree.all (fun f=>decide (f.dY.length≤40)) <;> rfl
  ·simp[mJ,pS,gN,Sh.exit]
  ·have:=BH (c.Tree[k]).dY 40
   simp only[mJ,gN,dec_lt,hk,decide_true,if_true,dI hk,fm,bL (k:=k) (by omega),Sh.exit,Sh.next,Option.map_some]
   simp only[gN] at this
   rw[show((40:Int))=((40:Nat):Int) from rfl,this]
 have hj1:c.Rows.length≤20→c.Tree.length≤80→gp c false=some (c.Rows.all (fun r=>decide (r.L.length≤40))&&c.Tree.all (fun n=>decide (n.dY.length≤40))):=fun hr ht=>by
  unfold gp
  simp only[nF,if_false]
  rw[Bq c.Rows (fun f=> !decide (f.L.length≤40)) false (some (c.Tree.all (fun n=>decide (n.dY.length≤40)))) (bZ (by omega)) (fun k hk=> ?_) ?_]
  ·rw[List.any_eq_not_all_not]
   simp only[Bool.not_not]
   cases c.Rows.all (fun f=>decide (f.L.length≤40)) <;> rfl
  ·simp[mK,hj2 ht,gN,Sh.exit]
  ·have:=BH (c.Rows[k]).L 40
   simp only[mK,gN,dec_lt,hk,decide_true,if_true,dI hk,fm,bL (k:=k) (by omega),Sh.exit,Sh.next,Option.map_some]
   simp only[gN] at this
   rw[show((40:Int))=((40:Nat):Int) from rfl,this]
 have hj1t:gp c true=some false:=rfl
 rw[d1,d2,d3]
 by_cases h1:c.Order.length≤40
 ·by_cases h2:c.Rows.length≤20
  ·by_cases h3:c.Tree.length≤80
   ·simp[h1,h2,h3,hj1 h2 h3]
   ·simp[h1,h2,h3,hj1t]
  ·simp[h1,h2,hj1t]
 ·simp[h1,hj1t]

theorem aat{h:af}(hf:Fits h)(hr:right h=true)(lev:Int):∀(rest l p:List aa) (n:Nat),p.drop l.length=rest→l.length≤p.length→p.length≤1000000→rest.length<n→(∀c∈p,one h c=true)→(∀c∈l,one h c=true)→
  ∃b,jT n h lev p l=some b∧(b=true↔∃s,Jz rest s∧DU h lev (l++s)=true):=by
 intro rest
 induction rest with
 |nil=>
  intro l p n hd hl hp hn hop hol
  obtain⟨n,rfl⟩:∃m,n=m+1:=⟨n - 1,by simp at hn;omega⟩
  have hlen:l.length=p.length:=by
   have:(p.drop l.length).length=0:=by rw[hd];rfl
   simp at this;omega
  simp only[jT,jP,Sh.len,hlen,decide_true,if_true]
  rw[UL hf hr lev (show l.length<9223372036854775807 by omega) hol]
  refine⟨_,rfl,fun hg=>⟨[],.nil,by rw[List.append_nil];exact hg⟩, ?_⟩
  rintro⟨s,hs,hg⟩
  cases hs
  rwa [List.append_nil] at hg
 |cons x rest ih=>
  intro l p n hd hl hp hn hop hol
  obtain⟨n,rfl⟩:∃m,n=m+1:=⟨n - 1,by simp at hn;omega⟩
  have hlt:l.length<p.length:=by
   have:(p.drop l.length).length=rest.length+1:=by rw[hd];rfl
   simp at this;omega
  have hx:p[l.length]=x∧p.drop (l.length+1)=rest:=by
   rw[List.drop_eq_getElem_cons hlt] at hd
   simp only[List.cons.injEq] at hd
   exact hd
  have hox:one h x=true:=by rw[←hx.1];exact hop _ (List.getElem_mem hlt)
  have hne:¬((l.length:Int)=(p.length:Int)):=by omega
  have e1:Sh.app 24 [] l=some l:=by rw[rC (by simp;omega)];rfl
  have e2:Sh.app 24 l [x]=some (l++[x]):=rC (by simp;omega)
  have e3:Sh.idx (l++[x]) (l.length:Int)=some x:=by
   rw[dI (by simp)];simp
  have e4:Sh.set (l++[x]) (l.length:Int) (back x)=l++[back x]:=by
   rw[FW];simp
  obtain⟨b1,i1,q1⟩:=ih (l++[x]) p n (by simp[hx.2]) (by simp;omega) hp (by simp at hn;omega) hop
   (fun c hc=>by
    rcases List.mem_append.1 hc with h1|h1
    ·exact hol c h1
    ·rw[List.mem_singleton.1 h1];exact hox)
  obtain⟨b2,i2,q2⟩:=ih (l++[back x]) p n (by simp[hx.2]) (by simp;omega) hp (by simp at hn;omega) hop
   (fun c hc=>by
    rcases List.mem_append.1 hc with h1|h1
    ·exact hol c h1
    ·rw[List.mem_singleton.1 h1];exact Nk hox)
  refine⟨b1||b2, ?_, ?_⟩
  ·simp only[jT,jP,Sh.len,hne,decide_false,nF,if_false,e1,fm,dI hlt,hx.1,e2,i1,o_,show aa.mk x.Key x.B x.A=back x from rfl,e3,e4,i2]
   cases b1 <;> simp
  ·rw[Bool.or_eq_true,q1,q2]
   simp only[List.append_assoc,List.singleton_append]
   constructor
   ·rintro(⟨s,hs,hg⟩|⟨s,hs,hg⟩)
    ·exact⟨x::s,.so hs,hg⟩
    ·exact⟨back x::s,.not hs,hg⟩
   ·rintro⟨s,hs,hg⟩
    cases hs with
    |so hs=>exact .inl ⟨_,hs,hg⟩
    |not hs=>exact .inr ⟨_,hs,hg⟩
theorem aao{h:af}(hf:Fits h)(hr:right h=true)(lev:Int)(hp:(sQ h).length≤1000000):∃b,nA h lev=some b∧(b=true↔∃s,Jz (sQ h) s∧DU h lev s=true):=by
 have hn:=nB hr
 unfold nA ue
 rw[JY hf]
 simp only[fm]
 obtain⟨b,e,q⟩:=aat hf hr lev (sQ h) [] (sQ h) Sh.sL rfl (Nat.zero_le _) hp (bZ (by omega)) (fun c hc=>FN hr hc) (fun c hc=>by cases hc)
 exact⟨b,by rw[e];rfl,by simpa using q⟩

theorem aap{h:af}{self:af→List Int→Option Bool}{o:List Int}(ho:o.length≤1000000)(t:Int):Sh.loop (fun(p:Bool×Int)=>jr self h o t p.1 p.2) (false,0)=jt self h o t (o.any fun x=>decide (x=t)):=by
 refine fV (fun i=>(o.take i).any fun x=>decide (x=t)) o.length _ (bZ (by omega)) (fun i hi=> ?_) ?_ (by simp)
 ·simp only[jr,lT,gN,dec_lt,hi,decide_true,if_true,dI hi,fm,bL (k:=i) (by omega),Sh.next]
  rw[xk hi]
  cases(o.take i).any fun x=>decide (x=t) <;> simp
 ·simp[jr,gN]
theorem aaq{h:af}(hf:Fits h)(hb:∀t∈h.az,t.Reads.length≤1000000)(hn:h.az.length≤1000000):∀(m n:Nat) (o:List Int),o.length+m=h.az.length→m<n→∃b,e7 n h o=some b∧(b=true↔∃r,qi h (o++r)=true):=by
 have full:∀{o:List Int},qi h o=true→o.length=h.az.length:=fun{o} hc=>(zl hc).2.1.len
 intro m
 induction m with
 |zero=>
  intro n o hl hm
  obtain⟨n,rfl⟩:∃q,n=q+1:=⟨n - 1,by omega⟩
  refine⟨qi h o, ?_,fun hc=>⟨[],by rw[List.append_nil];exact hc⟩, ?_⟩
  ·simp only[e7,jO]
   rw[if_pos (by simp[Sh.len];omega),aak hf hb];rfl
  ·rintro⟨r,hc⟩
   have:=full hc
   rw[List.length_append] at this
   have:r=[]:=List.length_eq_zero_iff.1 (by omega)
   rw[this,List.append_nil] at hc
   exact hc
 |succ m ih=>
  intro n o hl hm
  obtain⟨n,rfl⟩:∃q,n=q+1:=⟨n - 1,by omega⟩
  have rounds:∀(d k fu:Nat),k+d=h.az.length→d<fu→∃b,Sh.iter (fun(p:Int)=>fQ (e7 n) h o p) fu (k:Int)=some b∧(b=true↔∃t:Nat,k≤t∧t<h.az.length∧(t:Int)∉o∧∃r,qi h (o++(t:Int)::r)=true):=by
   intro d
   induction d with
   |zero=>
    intro k fu hk hfu
    obtain⟨fu,rfl⟩:∃q,fu=q+1:=⟨fu - 1,by omega⟩
    refine⟨false,(sw (X:=pz) ?_).trans rfl,by simp, ?_⟩
    ·simp only[fQ,gN]
     rw[if_neg (by simp;omega)]
    ·rintro⟨t,h1,h2,_⟩;omega
   |succ d ihd=>
    intro k fu hk hfu
    obtain⟨fu,rfl⟩:∃q,fu=q+1:=⟨fu - 1,by omega⟩
    have hkn:k<h.az.length:=by omega
    obtain⟨b2,e2,q2⟩:=ihd (k+1) fu (by omega) (by omega)
    have nx:js (k:Int)=some (.inl ((k+1:Nat):Int)):=by
     unfold js Sh.next
     rw[bL (k:=k) (by omega)]
    have hbody:fQ (e7 n) h o (k:Int)=jt (e7 n) h o (k:Int) (o.any fun x=>decide (x=(k:Int))):=by
     simp only[fQ,gN,dec_lt,hkn,decide_true,if_true]
     exact aap (by omega) _
    by_cases hin:(k:Int)∈o
    ·have ha:(o.any fun x=>decide (x=(k:Int)))=true:=List.any_eq_true.2 ⟨_,hin,by simp⟩
     refine⟨b2,(tE (by rw[hbody,ha];exact nx)).trans e2,q2.trans ?_⟩
     constructor
     ·rintro⟨t,h1,h2⟩;exact⟨t,by omega,h2⟩
     ·rintro⟨t,h1,h2,h3,h4⟩
      have:t≠k:=fun e=>h3 (by rw[e];exact hin)
      exact⟨t,by omega,h2,h3,h4⟩
    ·have ha:(o.any fun x=>decide (x=(k:Int)))=false:=by
      rw[Bool.eq_false_iff];intro hc
      obtain⟨x,hx,e⟩:=List.any_eq_true.1 hc
      exact hin (by rw[←of_decide_eq_true e];exact hx)
     obtain⟨b1,e1,q1⟩:=ih n (o++[(k:Int)]) (by simp;omega) (by omega)
     have a1:Sh.app 8 [] o=some o:=by rw[rC (by simp;omega)];rfl
     have a2:Sh.app 8 o [(k:Int)]=some (o++[(k:Int)]):=rC (by simp;omega)
     have q1':b1=true↔∃r,qi h (o++(k:Int)::r)=true:=by
      rw[q1];simp only[List.append_assoc,List.singleton_append]
     have V6:fQ (e7 n) h o (k:Int)=if b1 then Sh.exit (some true) else some (.inl ((k+1:Nat):Int)):=by
      rw[hbody,ha]
      simp only[jt,nF,if_false,a1,a2,fm,e1,nx]
     cases b1 with
     |true=>
      refine⟨true,sw (by rw[V6];rfl),fun _=>⟨k,by omega,hkn,hin,q1'.1 rfl⟩,fun _=>rfl⟩
     |false=>
      refine⟨b2,(tE (by rw[V6];rfl)).trans e2,q2.trans ?_⟩
      constructor
      ·rintro⟨t,h1,h2⟩;exact⟨t,by omega,h2⟩
      ·rintro⟨t,h1,h2,h3,h4⟩
       have:t≠k:=fun e=>by
        subst e
        have:=q1'.2 h4
        cases this
       exact⟨t,by omega,h2,h3,h4⟩
  obtain⟨b,e,q⟩:=rounds h.az.length 0 Sh.sL (by omega) (bZ (by omega))
  refine⟨b, ?_,q.trans ?_⟩
  ·simp only[e7,jO]
   rw[if_neg (by simp[Sh.len];omega)]
   exact e
  ·constructor
   ·rintro⟨t,_,_,_,r,hc⟩;exact⟨_,hc⟩
   ·rintro⟨r,hc⟩
    have hlen:=full hc
    rw[List.length_append] at hlen
    cases r with
    |nil=>simp at hlen;omega
    |cons a r=>
     obtain⟨_,p,_⟩:=zl hc
     have ha:=p.node a (by simp)
     obtain⟨t,rfl⟩:∃t:Nat,a=(t:Int):=⟨a.toNat,by omega⟩
     refine⟨t,Nat.zero_le _,by omega,fun hin=> ?_,r,hc⟩
     have:=List.nodup_append.1 p.nodup
     exact this.2.2 _ hin _ (by simp) rfl
theorem aan{h:af}(hf:Fits h)(hb:∀t∈h.az,t.Reads.length≤1000000)(hn:h.az.length≤1000000):∃b,ny h=some b∧(b=true↔∃o,qi h o=true):=by
 obtain⟨b,e,q⟩:=aaq hf hb hn h.az.length Sh.sL [] (by simp) (bZ (by omega))
 refine⟨b, ?_,by simpa using q⟩
 unfold ny ud
 rw[e];rfl

theorem Qh{h:af}{lev:Int}{tree:List aq}(hr:right h=true)(hc:check h lev [] tree=true){s:List aa}(hs:Jz (sQ h) s):DU h lev s=false:=by
 unfold check at hc
 cases hw:whole tree with
 |none=>rw[hw] at hc;cases hc
 |some t=>
  rw[hw] at hc
  simp only[Bool.and_eq_true] at hc
  refine SZ (fun c hc=> ?_) hc.2
  rcases JV hr hc with h1|h1
  ·exact hs.mem c h1
  ·have:=hs.mem _ h1
   rw[QC] at this
   exact this.symm
theorem QE{h:af}{lev:Int}{tree:List aq}(hc:check h lev [] tree=true):right h=true∧(lev=0∨lev=1):=by
 unfold check at hc
 cases hw:whole tree with
 |none=>rw[hw] at hc;cases hc
 |some t=>
  rw[hw] at hc
  simp only[Bool.and_eq_true] at hc
  have:=hc.1
  unfold may at this
  simpa using this
theorem U0{h:af}{o:List Int}(hc:qi h o=true):DU h 0 (IE h (uO h o))=true:=by
 obtain⟨hr,p,_,_⟩:=zl hc
 have hm:nY h (List.range 16) (uO h o)=true:=D6 _
 have aaw:∀{x z:Nat},Way h.az.length (yX h 0 (IE h (uO h o))) x z→xw o x<xw o z:=fun w=>by
  have one:∀{a b:Nat},a<h.az.length→b<h.az.length→yX h 0 (IE h (uO h o)) a b=true→xw o a<xw o b:=fun{a b} ha hb hh=>by
   unfold yX Jk at hh
   simp only[Bool.or_eq_true,show ¬(0:Int)=1 by decide,if_false] at hh
   rcases hh with e|e
   ·rw[←tA hr hm ha hb] at e
    exact Pj hc ha hb e
   ·rw[←KT hr hm ha hb] at e
    exact U1 hc ha hb e
  induction w with
  |rE a b e=>exact one a b e
  |cons a b e _ ih=>exact Nat.lt_trans (one a b e) ih
 unfold DU
 rw[Bool.not_eq_true',←Bool.not_eq_true,EC]
 rintro⟨z,w⟩
 have:=aaw w
 omega

theorem VU:nM=some true:=by kernel_rfl
theorem L4{c:bn}(hF:JK c=true):c.Rows.length≤1000000∧(∀r∈c.Rows,r.L.length≤1000000)∧JA c.Tree:=by
 simp only[JK,Bool.and_eq_true,decide_eq_true_eq,List.all_eq_true] at hF
 refine⟨by omega,fun r hr=>by have:=hF.1.2 r hr;omega,by omega,fun x hx=>by have:=hF.2 x hx;omega⟩
theorem Ow{h:af}{c:bn}(hf:Fits h)(hr:right h=true)(hb:∀t∈h.az,t.Reads.length≤1000000)(hF:JK c=true):
  ∃b,rD h c=some b∧(b=true→(c.Level=0∧(c.pL=true↔∃o,qi h o=true))∨(c.Level=1∧(c.pL=true↔∃s,Jz (sQ h) s∧DU h 1 s=true))):=by
 obtain⟨hR,hRL,hT⟩:=L4 hF
 have hn:=nB hr
 unfold rD
 cases hy:c.pL with
 |false=>
  simp only[Bool.not_false,if_true,WB hf c.Level (l:=[]) (by simp) hT,fm]
  have done:∃b,some (check h c.Level [] c.Tree)=some b∧(b=true→(c.Level=0∧(false=true↔∃o,qi h o=true))∨(c.Level=1∧(false=true↔∃s,Jz (sQ h) s∧DU h 1 s=true))):=by
   refine⟨_,rfl,fun hc=> ?_⟩
   rcases(QE hc).2 with e|e
   ·refine .inl ⟨e,by simp, ?_⟩
    rintro⟨o,ho⟩
    have h1:=U0 ho
    rw[e] at hc
    rw[Qh hr hc IF] at h1
    cases h1
   ·refine .inr ⟨e,by simp, ?_⟩
    rintro⟨s,hs,hg⟩
    rw[e] at hc
    rw[Qh hr hc hs] at hg
    cases hg
  have no:∃b,some false=some b∧(b=true→(c.Level=0∧(false=true↔∃o,qi h o=true))∨(c.Level=1∧(false=true↔∃s,Jz (sQ h) s∧DU h 1 s=true))):=⟨false,rfl,by simp⟩
  split
  ·split
   ·exact done
   ·exact no
  ·exact no
 |true=>
  have no:∃b,some false=some b∧(b=true→(c.Level=0∧(true=true↔∃o,qi h o=true))∨(c.Level=1∧(true=true↔∃s,Jz (sQ h) s∧DU h 1 s=true))):=⟨false,rfl,by simp⟩
  rw[if_neg (show ¬(!true)=true by decide)]
  by_cases h0:c.Level=0
  ·rw[if_pos (decide_eq_true h0),ZZ hf hb,fm]
   split
   ·split
    ·exact⟨_,rfl,fun hc=>.inl ⟨h0,fun _=>⟨_,hc⟩,fun _=>rfl⟩⟩
    ·exact no
   ·exact no
  ·rw[if_neg (by simpa using h0)]
   by_cases h1:c.Level=1
   ·rw[if_pos (decide_eq_true h1)]
    obtain⟨b,eb,hbb⟩:=WA (l:=c.Rows) hf (by omega) hR hRL
    rw[eb,fm]
    split
    ·split
     ·refine⟨b,rfl,fun hc=>.inr ⟨h1,fun _=> ?_,fun _=>rfl⟩⟩
      obtain⟨_,hm,hg⟩:=hbb.1 hc
      exact⟨IE h c.Rows,IF,(Pg hr hm).1 hg⟩
     ·exact no
    ·exact no
   ·rw[if_neg (by simpa using h1)]
    exact no
theorem Qt(h:af)(c:bn)(hf:Fits h):jK h c=some true:=by
 unfold jK
 rw[VU,fm,aas hf (by omega),aal]
 simp only[fm,Bool.not_true,nF,if_false]
 have j1t:fc h c true=some true:=rfl
 cases hs:YK h 5&&right h&&decide (((sQ h).length:Int)≤6) with
 |false=>exact j1t
 |true=>
  simp only[Bool.and_eq_true,decide_eq_true_eq] at hs
  obtain⟨⟨h5,hr⟩,hp⟩:=hs
  simp only[Bool.not_true,nF,if_false]
  cases hF:JK c with
  |false=>exact j1t
  |true=>
   have hb:=QI h5
   have hn:=nB hr
   simp only[Bool.not_true,nF,if_false]
   obtain⟨b,e,hbb⟩:=Ow hf hr hb hF
   rw[e,fm]
   cases b with
   |false=>exact j1t
   |true=>
    obtain⟨b20,e20,q20⟩:=aan hf hb (by omega)
    obtain⟨b21,e21,q21⟩:=aao hf hr 1 (by omega)
    unfold fc
    simp only[Bool.not_true,nF,if_false]
    rcases hbb rfl with⟨h0,hy⟩|⟨h1,hy⟩
    ·have:c.pL=b20:=Bool.eq_iff_iff.2 (hy.trans q20.symm)
     simp[h0,e20,this]
    ·have:c.pL=b21:=Bool.eq_iff_iff.2 (hy.trans q21.symm)
     rw[h1,e21]
     simp[this]
end Pl
end
