/- What the plain functions answer. -/
import Derived.Test.YtleihjegenjacaaGreatSh
import Derived.KernelRfl
set_option linter.unusedSimpArgs false
set_option linter.unusedVariables false
section
/- What is used to reason about the plain functions. -/
namespace Pl
open Go Go.Av G

theorem gA{n:Int}(h1: -9223372036854775808≤n)(h2:n<9223372036854775808):dz n=n:=Wy h1 h2
theorem bM{α:Type}{l:List α}{k:Nat}(h:k<l.length):Sh.idx l (k:Int)=some l[k]:=by
 simp[Sh.idx,h]
theorem Q3{α:Type}{l:List α}{i:Int}(h0:0≤i)(h:i<l.length):Sh.idx l i=some (l[i.toNat]'(by omega)):=by
 unfold Sh.idx
 rw[if_pos h0]
 exact List.getElem?_eq_getElem (by omega)
theorem dX{α:Type}{b:Nat}{l m:List α}(h:(l.length+m.length)*b≤140737488355328):Sh.app b l m=some (l++m):=by
 simp[Sh.app,h]
theorem acs{α:Type}{b m:Nat}{z:α}(h:b*m≤140737488355328)(h2:m≤4611686018427387904):Sh.mk b (m:Int) (m:Int) z=some (List.replicate m z):=by
 have:((b:Int)*(m:Int))≤140737488355328:=by
  rw[←Int.natCast_mul];omega
 unfold Sh.mk
 rw[if_pos ⟨by omega,by omega,this,by omega⟩]
 simp
theorem NJ{α:Type}{l:List α}{m k:Nat}(h1:m≤k)(h2:k≤l.length):Sh.sub l (m:Int) (k:Int)=some ((l.drop m).take (k - m)):=by
 unfold Sh.sub
 rw[if_pos ⟨by omega,by omega,by omega⟩]
 simp
theorem HN{α:Type}(l:List α)(k:Nat)(x:α):Sh.set l (k:Int) x=l.set k x:=by simp[Sh.set]
theorem count{σ α:Type}{b:σ×Int→Option ((σ×Int)⊕α)}(S:Nat→σ)(m:Nat)(r:α)(hm:m<Sh.nU)(h:∀k,k<m→b (S k,(k:Int))=some (.inl (S (k+1),((k+1:Nat):Int))))(hr:b (S m,(m:Int))=some (.inr r)){s:σ}(hs:s=S 0):
  Sh.loop b (s,0)=some r:=by
 subst hs
 exact Sh.DD (fun k=>(S k,(k:Int))) m r hm h hr
theorem QD{α:Type}{b:Int→Option (Int⊕α)}(m:Nat)(r:α)(hm:m<Sh.nU)(h:∀k,k<m→b (k:Int)=some (.inl ((k+1:Nat):Int)))(hr:b (m:Int)=some (.inr r)):Sh.loop b 0=some r:=
 Sh.DD (fun k=>(k:Int)) m r hm h hr
theorem Bh{σ α:Type}(s:σ):Sh.next (α:=α) s=some (.inl s):=rfl
theorem qC{σ α:Type}(x:α):Sh.exit (σ:=σ) (some x)=some (.inr x):=rfl
theorem bC{n:Nat}(h:n<9223372036854775808):n<Sh.nU:=h
theorem bn{k:Nat}(h:k<9223372036854775807):dz ((k:Int)+1)=((k+1:Nat):Int):=by
 rw[gA (by omega) (by omega)];omega
theorem bW{α:Type}(l:List α):Sh.len l=(l.length:Int):=rfl
theorem dec_lt{k n:Nat}:decide ((k:Int)<(n:Int))=decide (k<n):=by
 congr 1;exact propext (by omega)
end Pl
namespace Pl
open Go Go.Av G
theorem scan{α:Type}{b:Int→Option (Int⊕α)}(s m:Nat)(p:Nat→Bool)(A B:α)(hsm:s≤m)(hm:m<Sh.nU)(h:∀k,s≤k→k<m→b (k:Int)=if p k then some (.inl ((k+1:Nat):Int)) else some (.inr B))(hr:b (m:Int)=some (.inr A)):
  Sh.loop b (s:Int)=some (if ∀k,k<m→s≤k→p k=true then A else B):=by
 by_cases hall:∀k,k<m→s≤k→p k=true
 ·rw[if_pos hall]
  refine Sh.DD (fun k=>((s+k:Nat):Int)) (m - s) A (by omega) (fun k hk=> ?_) ?_
  ·rw[h (s+k) (by omega) (by omega),if_pos (hall _ (by omega) (by omega))];rfl
  ·rw[show s+(m - s)=m by omega];exact hr
 ·rw[if_neg hall]
  have hex:∃k,s≤k∧k<m∧p k=false:=by
   apply Classical.byContradiction
   intro hn
   exact hall (fun k h2 h1=>by
    cases hp:p k with
    |true=>rfl
    |false=>exact absurd ⟨k,h1,h2,hp⟩ hn)
  obtain⟨k,hk,hmin⟩:=exists_least _ hex
  refine Sh.DD (fun q=>((s+q:Nat):Int)) (k - s) B (by omega) (fun q hq=> ?_) ?_
  ·have:p (s+q)=true:=by
    cases hp:p (s+q) with
    |true=>rfl
    |false=>have:=hmin (s+q) ⟨by omega,by omega,hp⟩;omega
   rw[h (s+q) (by omega) (by omega),if_pos this];rfl
  ·rw[show s+(k - s)=k by omega,h k hk.1 hk.2.1,if_neg (by rw[hk.2.2];simp)]
theorem PM{α:Type}{b:Int→Option (Int⊕α)}(m:Nat)(p:Nat→Bool)(A B:α)(hm:m<Sh.nU)(h:∀k,k<m→b (k:Int)=if p k then some (.inl ((k+1:Nat):Int)) else some (.inr B))(hr:b (m:Int)=some (.inr A)):
  Sh.loop b 0=some (if ∀k,k<m→p k=true then A else B):=by
 have:=scan 0 m p A B (by omega) hm (fun k _ hk=>h k hk) hr
 simpa using this
theorem vC{b:Int→Option (Int⊕Bool)}(m:Nat)(p:Nat→Bool)(hm:m<Sh.nU)(h:∀k,k<m→b (k:Int)=if p k then some (.inl ((k+1:Nat):Int)) else some (.inr false))(hr:b (m:Int)=some (.inr true)):
  Sh.loop b 0=some (decide (∀k,k<m→p k=true)):=by
 rw[PM m p true false hm h hr]
 by_cases hq:∀k,k<m→p k=true
 ·rw[if_pos hq,decide_eq_true hq]
 ·rw[if_neg hq,decide_eq_false hq]
end Pl
namespace Pl
open Go Go.Av G
theorem ig{σ α:Type}{b:σ→Option (σ⊕α)}(S:Nat→σ)(m:Nat)(X:Option α)(hm:m<Sh.nU)(h:∀k,k<m→b (S k)=some (.inl (S (k+1))))(hr:b (S m)=Sh.exit X){s:σ}(hs:s=S 0):Sh.loop b s=X:=by
 subst hs
 unfold Sh.loop
 rw[show Sh.nU=m+((Sh.nU - m - 1)+1) by omega,Sh.Sn S m h]
 simp only[Sh.iter,hr]
 cases X <;> rfl
theorem c6{σ α:Type}{b:σ×Int→Option ((σ×Int)⊕α)}(S:Nat→σ)(m:Nat)(X:Option α)(hm:m<Sh.nU)(h:∀k,k<m→b (S k,(k:Int))=some (.inl (S (k+1),((k+1:Nat):Int))))(hr:b (S m,(m:Int))=Sh.exit X){s:σ}(hs:s=S 0):
  Sh.loop b (s,0)=X:=ig (fun k=>(S k,(k:Int))) m X hm h hr (by rw[hs];rfl)
end Pl
end

section
/- Loops over lists. -/
namespace Pl
open Go Go.Av G

def yN{σ α β:Type}(step:Nat→σ→α→σ⊕β)(X:σ→Option β):Nat→List α→σ→Option β
 |_,[],s=>X s
 |k,x::l,s=>match step k s x with
  |.inl s'=>yN step X (k+1) l s'
  |.inr r=>some r

theorem hU{σ β:Type}{b:σ→Option (σ⊕β)}{n:Nat}{s s':σ}(h:b s=some (.inl s')):Sh.iter b (n+1) s=Sh.iter b n s':=by simp[Sh.iter,h]
theorem kj{σ β:Type}{b:σ→Option (σ⊕β)}{n:Nat}{s:σ}{r:β}(h:b s=some (.inr r)):Sh.iter b (n+1) s=some r:=by simp[Sh.iter,h]
theorem g_{σ β:Type}{b:σ→Option (σ⊕β)}{n:Nat}{s:σ}{X:Option β}(h:b s=Sh.exit X):Sh.iter b (n+1) s=X:=by cases X <;> simp[Sh.iter,h,Sh.exit]

theorem Tx{σ τ α β:Type}{b:τ→Option (τ⊕β)}(S:σ→Nat→τ)(step:Nat→σ→α→σ⊕β)(X:σ→Option β)(l0:List α)
  (h:∀(k:Nat) (s:σ) (hk:k<l0.length),b (S s k)=match step k s l0[k] with|.inl s'=>some (.inl (S s' (k+1)))|.inr r=>some (.inr r))
  (he:∀s,b (S s l0.length)=Sh.exit (X s)):∀(l:List α) (k n:Nat) (s:σ),l0.drop k=l→k≤l0.length→l.length<n→Sh.iter b n (S s k)=yN step X k l s:=by
 intro l
 induction l with
 |nil=>
  intro k n s hl hk hn
  have uR:k=l0.length:=by
   have:(l0.drop k).length=0:=by rw[hl];rfl
   simp at this;omega
  subst uR
  obtain⟨n,rfl⟩:∃m,n=m+1:=⟨n - 1,by simp at hn;omega⟩
  exact g_ (he s)
 |cons x l ih=>
  intro k n s hl hk hn
  have hlen:(l0.drop k).length=l.length+1:=by rw[hl];rfl
  have uR:k<l0.length:=by simp at hlen;omega
  obtain⟨n,rfl⟩:∃m,n=m+1:=⟨n - 1,by simp at hn;omega⟩
  have hx:l0[k]=x∧l0.drop (k+1)=l:=by
   rw[List.drop_eq_getElem_cons uR] at hl
   simp only[List.cons.injEq] at hl
   exact hl
  have hb:=h k s uR
  rw[hx.1] at hb
  simp only[yN]
  cases hs:step k s x with
  |inl s'=>
   rw[hs] at hb
   rw[hU hb]
   exact ih (k+1) n s' hx.2 uR (by simp at hn;omega)
  |inr r=>
   rw[hs] at hb
   exact kj hb

theorem Em{σ τ α β:Type}{b:τ→Option (τ⊕β)}(S:σ→Nat→τ)(step:Nat→σ→α→σ⊕β)(X:σ→Option β)(l:List α)(hm:l.length<Sh.nU)
  (h:∀(k:Nat) (s:σ) (hk:k<l.length),b (S s k)=match step k s l[k] with|.inl s'=>some (.inl (S s' (k+1)))|.inr r=>some (.inr r))
  (he:∀s,b (S s l.length)=Sh.exit (X s))(s:σ){t:τ}(ht:t=S s 0):Sh.loop b t=yN step X 0 l s:=by
 subst ht
 exact Tx S step X l h he l 0 Sh.nU s rfl (Nat.zero_le _) hm

theorem qD{α β:Type}{b:Int→Option (Int⊕β)}(l:List α)(p:α→Bool)(A:Nat→β)(X:Option β)(hm:l.length<Sh.nU)
  (h:∀(k:Nat) (hk:k<l.length),b (k:Int)=if p l[k] then some (.inr (A k)) else some (.inl ((k+1:Nat):Int)))
  (he:b (l.length:Int)=Sh.exit X):Sh.loop b 0=(l.findIdx? p).elim X (fun k=>some (A k)):=by
 rw[Em (σ:=Unit) (α:=α) (fun _ k=>(k:Int)) (fun k _ x=>if p x then .inr (A k) else .inl ()) (fun _=>X) l hm (fun k s hk=> ?_) (fun _=>he) () (t:=(0:Int)) rfl]
 ·have key:∀(l:List α) (k:Nat),yN (fun k (_:Unit) x=>if p x then Sum.inr (A k) else Sum.inl ()) (fun _=>X) k l ()=(l.findIdx? p).elim X (fun i=>some (A (k+i))):=by
   intro l
   induction l with
   |nil=>intro k;simp[yN]
   |cons x l ih=>
    intro k
    simp only[yN,List.findIdx?_cons]
    cases hp:p x with
    |true=>simp
    |false=>
     simp only[iC,if_false]
     rw[ih (k+1)]
     cases l.findIdx? p with
     |none=>rfl
     |some i=>simp only[Option.map_some,Option.elim_some];congr 2;omega
  rw[key l 0]
  simp
 ·rw[h k hk]
  cases p l[k] <;> rfl

theorem tW{α β:Type}{b:Int→Option (Int⊕β)}(l:List α)(p:α→Bool)(A:β)(X:Option β)(hm:l.length<Sh.nU)
  (h:∀(k:Nat) (hk:k<l.length),b (k:Int)=if p l[k] then some (.inr A) else some (.inl ((k+1:Nat):Int)))
  (he:b (l.length:Int)=Sh.exit X):Sh.loop b 0=if l.any p then some A else X:=by
 rw[qD l p (fun _=>A) X hm h he]
 cases hf:l.findIdx? p with
 |none=>
  have:l.any p=false:=by
   rw[List.findIdx?_eq_none_iff] at hf
   rw[List.any_eq_false]
   intro x hx
   simpa using hf x hx
  rw[this];rfl
 |some i=>
  have:l.any p=true:=by
   rw[List.any_eq_true]
   rw[List.findIdx?_eq_some_iff_getElem] at hf
   obtain⟨hi,hp,_⟩:=hf
   exact⟨l[i],List.getElem_mem hi,hp⟩
  rw[this];rfl

def pos{α:Type}(l:List α)(p:α→Bool):Int:=(l.findIdx? p).elim (-1) (fun k=>(k:Int))
theorem uU{α:Type}(l:List α)(p:α→Bool):(l.findIdx? p).elim (some (-1:Int)) (fun k=>some (k:Int))=some (pos l p):=by unfold pos;cases l.findIdx? p <;> rfl
theorem gX{α:Type}(l:List α)(p:α→Bool):decide ((0:Int)≤pos l p)=l.any p:=by
 unfold pos
 cases hf:l.findIdx? p with
 |none=>
  have:l.any p=false:=by
   rw[List.findIdx?_eq_none_iff] at hf
   rw[List.any_eq_false]
   intro x hx
   simpa using hf x hx
  rw[this];rfl
 |some i=>
  have:l.any p=true:=by
   rw[List.any_eq_true]
   rw[List.findIdx?_eq_some_iff_getElem] at hf
   obtain⟨hi,hp,_⟩:=hf
   exact⟨l[i],List.getElem_mem hi,hp⟩
  rw[this];simp
end Pl
end

section
/- Whether a history may be. -/
namespace Pl
open Go Go.Av G

theorem aq2{l:List Int}(hl:l.length<9223372036854775808)(v:Int):nB l v=some (pos l (fun x=>decide (v=x))):=by
 unfold nB
 rw[qD l (fun x=>decide (v=x)) (fun k=>(k:Int)) (some (-1)) (bC hl) (fun k hk=> ?_) ?_,uU]
 ·simp[jJ,nT]
 ·simp only[jJ,dec_lt,hk,decide_true,if_true,bM hk,b9,bn (k:=k) (by omega)]
  rfl
theorem Xi{l:List Int}(hl:l.length<9223372036854775808)(v:Int):dJ l v=some (l.any (fun x=>decide (v=x))):=by
 unfold dJ
 rw[aq2 hl,b9,gX]

def rising:Int→List Int→Bool
 |_,[]=>true
 |last,x::l=>decide (last<x)&&decide (x<16)&&rising x l
def gL(t:ai)(k:Int):Bool:=t.bH.any (fun x=>decide (k=x))
def there(h:af)(n:Int)(x:an):Bool:=
 decide (x.bT= -1)||(decide (0≤x.bT)&&decide (x.bT<(h.aC.length:Int))&&decide (x.bT≠n)&&match h.aC[x.bT.toNat]? with|some t=>gL t x.Key|none=>false)
def tR(h:af)(n:Int):Int→List an→Bool
 |_,[]=>true
 |last,x::l=>decide (last<x.Key)&&decide (x.Key<16)&&there h n x&&tR h n x.Key l
def Je(h:af)(n:Int)(t:ai):Bool:=rising (-1) t.bH&&tR h n (-1) t.Reads&&decide (0≤t.bB)&&decide (t.bB<8)
def xb(h:af):Nat→List ai→Bool
 |_,[]=>true
 |n,t::l=>Je h n t&&xb h (n+1) l
def right(h:af):Bool:=decide (h.aC.length≤32)&&xb h 0 h.aC

structure Fits (h:af):Prop where
 RN:h.aC.length≤9223372036854775807
 writes:∀t∈h.aC,t.bH.length≤9223372036854775807
 reads:∀t∈h.aC,t.Reads.length≤9223372036854775807

theorem y1(c y:Bool):iL c y=some (if y then(c,true) else(false,false)):=by cases y <;> rfl

theorem aeJ{h:af}(hf:Fits h)(n:Int)(x:an){α:Type}(K:Bool→Option α):
  (if decide (x.bT=(-1)) then K true else if decide ((0:Int)≤x.bT) then if decide (x.bT<(Sh.len h.aC)) then if decide (x.bT≠n) then(Sh.idx h.aC x.bT).bind fun aaC=>(dJ aaC.bH x.Key).bind fun TX=>K TX else K false else K false else K false)=K (there h n x):=by
 unfold there
 by_cases h1:x.bT= -1
 ·simp[h1]
 ·by_cases h2:0≤x.bT
  ·by_cases h3:x.bT<(h.aC.length:Int)
   ·by_cases h4:x.bT=n
    ·subst h4;simp[h1,h2,h3]
    ·have h5:h.aC[x.bT.toNat]? =some (h.aC[x.bT.toNat]'(by omega)):=List.getElem?_eq_getElem (by omega)
     rw[Q3 h2 h3,h5]
     have:=hf.writes _ (List.getElem_mem (show x.bT.toNat<h.aC.length by omega))
     have h6:=Xi (l:=(h.aC[x.bT.toNat]'(by omega)).bH) (by omega) x.Key
     simp[h1,h2,h3,h4,h6,gL]
   ·simp[h1,h2,h3]
  ·simp[h1,h2]

theorem aeF{h:af}(hf:Fits h)(n:Int)(t:ai)(ht:t∈h.aC)(c:Bool):cT h n t c=if tR h n (-1) t.Reads then cU n t c else some (.inr (false,false)):=by
 unfold cT
 have hl:=hf.reads t ht
 rw[Em (σ:=Bool×Int) (fun s k=>(s.1,s.2,(k:Int))) (fun _ s x=>if decide (s.2<x.Key)&&decide (x.Key<16)&&there h n x then .inl (s.1,x.Key) else .inr (.inr (false,false))) (fun s=>cU n t s.1) t.Reads (bC (by omega)) (fun k s hk=> ?_) (fun s=> ?_) (c, -1) (t:=(c,(-1:Int),(0:Int))) rfl]
 ·have key:∀(l:List an) (k:Nat) (last:Int),yN (fun _ (s:Bool×Int) (x:an)=>if decide (s.2<x.Key)&&decide (x.Key<16)&&there h n x then Sum.inl (s.1,x.Key) else Sum.inr (.inr (false,false))) (fun s=>cU n t s.1) k l (c,last)=if tR h n last l then cU n t c else some (.inr (false,false)):=by
   intro l
   induction l with
   |nil=>intro k last;simp[yN,tR]
   |cons x l ih=>
    intro k last
    simp only[yN]
    rw[show tR h n last (x::l)=(decide (last<x.Key)&&decide (x.Key<16)&&there h n x&&tR h n x.Key l) from rfl]
    by_cases hq:(decide (last<x.Key)&&decide (x.Key<16)&&there h n x)=true
    ·rw[if_pos hq,hq,Bool.true_and];exact ih (k+1) x.Key
    ·rw[if_neg hq,Bool.eq_false_iff.2 hq];simp
  exact key t.Reads 0 (-1)
 ·obtain⟨c,last⟩:=s
  simp only[fh,dec_lt,hk,decide_true,if_true,bM hk,b9]
  rw[aeJ hf n t.Reads[k] (fun b=>cG c last k t.Reads[k] b)]
  simp only[cG,y1,eA,bn (k:=k) (by omega),b9]
  by_cases h1:last<t.Reads[k].Key
  ·by_cases h2:t.Reads[k].Key<16
   ·cases h3:there h n t.Reads[k] <;> simp[h1,h2,Sh.exit,Sh.next]
   ·simp[h1,h2,Sh.exit]
  ·simp[h1,Sh.exit]
 ·simp[fh]

theorem ZX{h:af}(hf:Fits h)(n:Nat)(hn:n<9223372036854775807)(t:ai)(ht:t∈h.aC)(c:Bool):
  Sh.loop (fun(p:Bool×Int×Int)=>ew h n t p.1 p.2.1 p.2.2) (c,(-1),0)=if Je h n t then some (.inl (c,((n+1:Nat):Int))) else some (.inr (false,false)):=by
 have hl:=hf.writes t ht
 rw[Em (σ:=Bool×Int) (fun s k=>(s.1,s.2,(k:Int))) (fun _ s x=>if decide (s.2<x)&&decide (x<16) then .inl (s.1,x) else .inr (.inr (false,false))) (fun s=>cT h n t s.1) t.bH (bC (by omega)) (fun k s hk=> ?_) (fun s=> ?_) (c, -1) (t:=(c,(-1:Int),(0:Int))) rfl]
 ·have key:∀(l:List Int) (k:Nat) (last:Int),yN (fun _ (s:Bool×Int) (x:Int)=>if decide (s.2<x)&&decide (x<16) then Sum.inl (s.1,x) else Sum.inr (.inr (false,false))) (fun s=>cT h n t s.1) k l (c,last)=if rising last l then cT h n t c else some (.inr (false,false)):=by
   intro l
   induction l with
   |nil=>intro k last;simp[yN,rising]
   |cons x l ih=>
    intro k last
    simp only[yN]
    rw[show rising last (x::l)=(decide (last<x)&&decide (x<16)&&rising x l) from rfl]
    by_cases hq:(decide (last<x)&&decide (x<16))=true
    ·rw[if_pos hq,hq,Bool.true_and];exact ih (k+1) x
    ·rw[if_neg hq,Bool.eq_false_iff.2 hq];simp
  rw[key t.bH 0 (-1),aeF hf n t ht]
  unfold Je
  cases h1:rising (-1) t.bH
  ·simp
  ·cases h2:tR h n (-1) t.Reads
   ·simp
   ·simp only[cU,y1,fk,bn hn,b9]
    by_cases h3:0≤t.bB
    ·by_cases h4:t.bB<8 <;> simp[h3,h4,Sh.exit,Sh.next]
    ·simp[h3,Sh.exit]
 ·obtain⟨c,last⟩:=s
  simp only[ew,dec_lt,hk,decide_true,if_true,bM hk,b9,y1,fm,bn (k:=k) (by omega)]
  by_cases h1:last<t.bH[k]
  ·by_cases h2:t.bH[k]<16 <;> simp[h1,h2,Sh.exit,Sh.next]
  ·simp[h1,Sh.exit]
 ·simp[ew]

theorem HC{h:af}(hf:Fits h):rO h=some (right h):=by
 have hl:=hf.RN
 have hloop:∀c,Sh.loop (fun(p:Bool×Int)=>eu h p.1 p.2) (c,0)=if xb h 0 h.aC then some (c,true) else some (false,false):=by
  intro c
  rw[Em (σ:=Bool) (fun s k=>(s,(k:Int))) (fun k s x=>if Je h k x then .inl s else .inr (false,false)) (fun s=>some (s,true)) h.aC (bC (by omega)) (fun k s hk=> ?_) (fun s=> ?_) c (t:=(c,(0:Int))) rfl]
  ·have key:∀(l:List ai) (k:Nat),yN (fun k (s:Bool) (x:ai)=>if Je h (k:Nat) x then Sum.inl s else Sum.inr (false,false)) (fun s=>some (s,true)) k l c=if xb h k l then some (c,true) else some (false,false):=by
    intro l
    induction l with
    |nil=>intro k;simp[yN,xb]
    |cons x l ih=>
     intro k
     simp only[yN]
     rw[show xb h k (x::l)=(Je h (k:Nat) x&&xb h (k+1) l) from rfl]
     by_cases hq:Je h (k:Nat) x=true
     ·rw[if_pos hq,hq,Bool.true_and];exact ih (k+1)
     ·rw[if_neg hq,Bool.eq_false_iff.2 hq];simp
   exact key h.aC 0
  ·simp only[eu,dec_lt,hk,decide_true,if_true,bM hk,b9]
   rw[ZX hf k (by omega) _ (List.getElem_mem hk)]
   cases Je h k h.aC[k] <;> rfl
  ·simp[eu]
 unfold rO Ar iR right
 simp only[b9,y1,bW]
 by_cases h1:h.aC.length≤32
 ·have h2:((h.aC.length:Int)≤32):=by omega
  simp only[h1,h2,decide_true,if_true,hloop,Bool.true_and]
  cases xb h 0 h.aC <;> simp
 ·have h2:¬((h.aC.length:Int)≤32):=by omega
  simp[h1,h2]

theorem AA{t:ai}(hl:t.bH.length≤9223372036854775807)(k:Int):dP t k=some (gL t k):=by
 unfold dP gL
 rw[tW t.bH (fun x=>decide (k=x)) true (some false) (bC (by omega)) (fun i hi=> ?_) ?_]
 ·cases t.bH.any (fun x=>decide (k=x)) <;> rfl
 ·simp[jQ,oJ]
 ·simp only[jQ,dec_lt,hi,decide_true,if_true,bM hi,b9,bn (k:=i) (by omega),Sh.exit,Sh.next,Option.map_some]
  by_cases h1:t.bH[i]=k
  ·simp[h1]
  ·have:¬k=t.bH[i]:=fun h=>h1 h.symm
   simp[h1,this]
end Pl
end

section
/- The reference's word on histories: whether one may be, and whether it is small. -/
namespace Pl
open Go Go.Av G

def AL{α:Type}(key:α→Int)(ok:α→Bool):Int→List α→Bool
 |_,[]=>true
 |last,x::l=>decide (last<key x)&&decide (key x<16)&&ok x&&AL key ok (key x) l
theorem HM:∀(l:List Int) (last:Int),rising last l=AL id (fun _=>true) last l
 |[],_=>rfl
 |x::l,last=>by
  rw[show rising last (x::l)=(decide (last<x)&&decide (x<16)&&rising x l) from rfl,HM l x]
  simp[AL]
theorem Kz(h:af)(n:Int):∀(l:List an) (last:Int),tR h n last l=AL (·.Key) (there h n) last l
 |[],_=>rfl
 |x::l,last=>by
  rw[show tR h n last (x::l)=(decide (last<x.Key)&&decide (x.Key<16)&&there h n x&&tR h n x.Key l) from rfl,Kz h n l x.Key]
  rfl
theorem Jt{α:Type}{key:α→Int}{ok:α→Bool}:∀{l:List α} {last:Int},AL key ok last l=true↔
  ∀k (hk:k<l.length),key l[k]<16∧ok l[k]=true∧(if h0:k=0 then last<key l[k] else key (l[k - 1]'(by omega))<key l[k])
 |[],last=>by simp[AL]
 |x::l,last=>by
  simp only[AL,Bool.and_eq_true,decide_eq_true_eq,Jt (l:=l)]
  constructor
  ·rintro⟨⟨⟨h1,h2⟩,h3⟩,h4⟩ k hk
   cases k with
   |zero=>exact⟨h2,h3,by simpa using h1⟩
   |succ k=>
    have:=h4 k (by simpa using hk)
    refine⟨by simpa using this.1,by simpa using this.2.1, ?_⟩
    have h5:=this.2.2
    rw[dif_neg (by omega)]
    cases k with
    |zero=>simpa using h5
    |succ k=>simpa using h5
  ·intro h
   have h0:=h 0 (by simp)
   refine⟨⟨⟨by simpa using h0.2.2,by simpa using h0.1⟩,by simpa using h0.2.1⟩,fun k hk=> ?_⟩
   have:=h (k+1) (by simpa using hk)
   refine⟨by simpa using this.1,by simpa using this.2.1, ?_⟩
   have h5:=this.2.2
   rw[dif_neg (by omega)] at h5
   cases k with
   |zero=>simpa using h5
   |succ k=>simpa using h5
def step{α:Type}(key:α→Int)(ok:α→Bool)(l:List α)(k:Nat):Bool:=
 match l[k]? with
 |none=>true
 |some x=>decide (0≤key x)&&decide (key x<16)&&ok x&&(decide (k=0)||match l[k - 1]? with|none=>true|some y=>decide (key y<key x))
theorem H6{α:Type}(key:α→Int)(ok:α→Bool)(l:List α):decide (∀k,k<l.length→step key ok l k=true)=AL key ok (-1) l:=by
 rw[Bool.eq_iff_iff,decide_eq_true_eq,Jt]
 constructor
 ·intro h k hk
  have h1:=h k hk
  simp only[step,List.getElem?_eq_getElem hk,Bool.and_eq_true,decide_eq_true_eq,Bool.or_eq_true] at h1
  refine⟨h1.1.1.2,h1.1.2, ?_⟩
  split
  ·have:=h1.1.1.1;omega
  ·have h2:=h1.2.resolve_left (by assumption)
   rw[List.getElem?_eq_getElem (show k - 1<l.length by omega)] at h2
   simpa using h2
 ·intro h
  have pos:∀k (hk:k<l.length),0≤key l[k]:=by
   intro k
   induction k with
   |zero=>
    intro hk
    have:=(h 0 hk).2.2
    rw[dif_pos rfl] at this;omega
   |succ k ih=>
    intro hk
    have h1:=ih (by omega)
    have:=(h (k+1) hk).2.2
    rw[dif_neg (by omega)] at this
    simp only[Nat.add_sub_cancel] at this
    omega
  intro k hk
  obtain⟨h1,h2,h3⟩:=h k hk
  simp only[step,List.getElem?_eq_getElem hk,Bool.and_eq_true,decide_eq_true_eq,Bool.or_eq_true]
  refine⟨⟨⟨pos k hk,h1⟩,h2⟩, ?_⟩
  by_cases h0:k=0
  ·exact .inl h0
  ·rw[dif_neg h0] at h3
   rw[List.getElem?_eq_getElem (show k - 1<l.length by omega)]
   exact .inr (by simpa using h3)
theorem SR{α:Type}(key:α→Int)(ok:α→Bool)(l:List α)(k:Nat)(hk:k<l.length):
  step key ok l k=(decide (0≤key l[k])&&decide (key l[k]<16)&&ok l[k]&&(if h0:k=0 then true else decide (key (l[k - 1]'(by omega))<key l[k]))):=by
 unfold step
 rw[List.getElem?_eq_getElem hk]
 by_cases h0:k=0
 ·subst h0;simp
 ·rw[List.getElem?_eq_getElem (show k - 1<l.length by omega)]
  simp[h0]

theorem Qg{k:Nat}(h0:0<k)(h:k<9223372036854775807):dz ((k:Int) - 1)=((k - 1:Nat):Int):=by
 rw[gA (by omega) (by omega)];omega
theorem Rv{h:af}(hf:Fits h)(n:Nat)(x:an):there h n x=(!(decide (x.bT< -1)||decide ((h.aC.length:Int)≤x.bT)||decide (x.bT=n))&&(decide (x.bT<0)||match h.aC[x.bT.toNat]? with|some t=>gL t x.Key|none=>false)):=by
 unfold there
 by_cases a:x.bT= -1
 ·have h1:¬((-1:Int)=n):=by omega
  have h2:¬((h.aC.length:Int)≤ -1):=by omega
  simp[a,h1,h2]
 ·by_cases b:0≤x.bT
  ·have h1:¬x.bT< -1:=by omega
   have h2:¬x.bT<0:=by omega
   by_cases c:x.bT<(h.aC.length:Int)
   ·have h3:¬((h.aC.length:Int)≤x.bT):=by omega
    by_cases d:x.bT=n <;> simp[a,b,c,d,h1,h2,h3]
   ·have h3:((h.aC.length:Int)≤x.bT):=by omega
    simp[a,b,c,h3]
  ·have h1:x.bT< -1:=by omega
   simp[a,b,h1]
theorem amJ{h:af}(hf:Fits h){n:Nat}(hn:n<h.aC.length):sq h n=some (Je h n h.aC[n]):=by
 have hw:=hf.writes _ (List.getElem_mem hn)
 have hr:=hf.reads _ (List.getElem_mem hn)
 have hreads:oo h n h.aC[n]=some (tR h n (-1) (h.aC[n]).Reads):=by
  unfold oo
  rw[Kz,←H6]
  refine vC (h.aC[n]).Reads.length (step (·.Key) (there h n) (h.aC[n]).Reads) (bC (by omega)) (fun k hk=> ?_) ?_
  ·have h5:∀b:Bool,(b=false→((h.aC[n]).Reads[k]).bT<(h.aC.length:Int))→cH h k ((h.aC[n]).Reads[k]) b=if !b&&(decide (((h.aC[n]).Reads[k]).bT<0)||match h.aC[((h.aC[n]).Reads[k]).bT.toNat]? with|some t=>gL t ((h.aC[n]).Reads[k]).Key|none=>false) then some (.inl ((k+1:Nat):Int)) else some (.inr false):=fun b hb=>by
    unfold cH
    cases b with
    |true=>simp[Sh.exit]
    |false=>
     have hlt:=hb rfl
     by_cases a:((h.aC[n]).Reads[k]).bT<0
     ·simp[a,j_,bn (k:=k) (by omega),Sh.next]
     ·have hi:((h.aC[n]).Reads[k]).bT.toNat<h.aC.length:=by omega
      rw[Q3 (by omega) hlt,List.getElem?_eq_getElem hi]
      simp only[a,decide_false,iC,if_false,b9,AA (hf.writes _ (List.getElem_mem hi)),j_,bn (k:=k) (by omega),Sh.exit,Sh.next,Option.map_some,Bool.not_false,Bool.true_and,Bool.false_or]
      cases gL h.aC[((h.aC[n]).Reads[k]).bT.toNat] ((h.aC[n]).Reads[k]).Key <;> simp
   simp only[oh,dec_lt,hk,decide_true,if_true,bM hk,b9,SR _ _ _ k hk,Rv hf]
   by_cases a0:((h.aC[n]).Reads[k]).Key<0
   ·rw[if_pos (by simpa using a0),h5 _ (by simp)]
    have:¬0≤((h.aC[n]).Reads[k]).Key:=by omega
    simp[this]
   rw[if_neg (by simpa using a0)]
   by_cases a1:15<((h.aC[n]).Reads[k]).Key
   ·rw[if_pos (by simpa using a1),h5 _ (by simp)]
    have:¬((h.aC[n]).Reads[k]).Key<16:=by omega
    simp[this]
   rw[if_neg (by simpa using a1)]
   have b0:0≤((h.aC[n]).Reads[k]).Key:=by omega
   have b1:((h.aC[n]).Reads[k]).Key<16:=by omega
   have tail:(if decide (((h.aC[n]).Reads[k]).bT<(-1)) then cH h k ((h.aC[n]).Reads[k]) true else if decide ((Sh.len h.aC)≤((h.aC[n]).Reads[k]).bT) then cH h k ((h.aC[n]).Reads[k]) true else cH h k ((h.aC[n]).Reads[k]) (decide (((h.aC[n]).Reads[k]).bT=n)))
     =if there h n ((h.aC[n]).Reads[k]) then some (.inl ((k+1:Nat):Int)) else some (.inr false):=by
    rw[Rv hf]
    by_cases c:((h.aC[n]).Reads[k]).bT< -1
    ·rw[if_pos (by simpa using c),h5 _ (by simp)]
     simp[c]
    rw[if_neg (by simpa using c)]
    by_cases d:(h.aC.length:Int)≤((h.aC[n]).Reads[k]).bT
    ·rw[if_pos (by simpa using d),h5 _ (by simp)]
     simp[d]
    rw[if_neg (by simpa using d),h5 _ (fun _=>by omega)]
    simp[c,d]
   rw[tail,Rv hf]
   cases k with
   |zero=>simp[b0,b1]
   |succ k=>
    have uR:k<(h.aC[n]).Reads.length:=by omega
    rw[if_pos (by simp),Qg (by omega) (by omega),bM (show k+1 - 1<_ by omega)]
    simp only[Nat.add_sub_cancel,b9]
    by_cases e:((h.aC[n]).Reads[k+1]).Key≤((h.aC[n]).Reads[k]).Key
    ·rw[if_pos (by simpa using e),h5 _ (by simp)]
     have:¬((h.aC[n]).Reads[k]).Key<((h.aC[n]).Reads[k+1]).Key:=by omega
     simp[this]
    ·rw[if_neg (by simpa using e)]
     have:((h.aC[n]).Reads[k]).Key<((h.aC[n]).Reads[k+1]).Key:=by omega
     simp[this,b0,b1]
  ·simp[oh,rV,Sh.exit]
 have hwrites:Sh.loop (fun(p:Int)=>ir h n h.aC[n] p) 0=some (rising (-1) (h.aC[n]).bH&&tR h n (-1) (h.aC[n]).Reads):=by
  have h6:∀(k:Nat) (b:Bool),k<9223372036854775807→gq k b=if b then some (.inr false) else some (.inl ((k+1:Nat):Int)):=fun k b hk=>by
   unfold gq
   rw[bn hk]
   cases b <;> rfl
  have:=PM (b:=fun(p:Int)=>ir h n h.aC[n] p) (h.aC[n]).bH.length (step id (fun _=>true) (h.aC[n]).bH) (tR h n (-1) (h.aC[n]).Reads) false (bC (by omega)) (fun k hk=> ?_) ?_
  ·rw[this,HM,←H6]
   by_cases hq:∀k,k<(h.aC[n]).bH.length→step id (fun _=>true) (h.aC[n]).bH k=true
   ·rw[if_pos hq,decide_eq_true hq,Bool.true_and]
   ·rw[if_neg hq,decide_eq_false hq,Bool.false_and]
  ·simp only[ir,dec_lt,hk,decide_true,if_true,bM hk,b9,SR _ _ _ k hk,h6 k _ (by omega),id]
   by_cases a0:(h.aC[n]).bH[k]<0
   ·have:¬0≤(h.aC[n]).bH[k]:=by omega
    simp[a0,this]
   rw[if_neg (by simpa using a0)]
   by_cases a1:15<(h.aC[n]).bH[k]
   ·have:¬(h.aC[n]).bH[k]<16:=by omega
    simp[a1,this]
   rw[if_neg (by simpa using a1)]
   have b0:0≤(h.aC[n]).bH[k]:=by omega
   have b1:(h.aC[n]).bH[k]<16:=by omega
   cases k with
   |zero=>simp[b0,b1]
   |succ k=>
    have uR:k<(h.aC[n]).bH.length:=by omega
    rw[if_pos (by simp),Qg (by omega) (by omega),bM (show k+1 - 1<_ by omega)]
    simp only[Nat.add_sub_cancel,b9]
    by_cases e:(h.aC[n]).bH[k+1]≤(h.aC[n]).bH[k]
    ·have:¬(h.aC[n]).bH[k]<(h.aC[n]).bH[k+1]:=by omega
     simp[e,this]
    ·have:(h.aC[n]).bH[k]<(h.aC[n]).bH[k+1]:=by omega
     simp[e,this,b0,b1]
  ·simp only[ir,dec_lt,Nat.lt_irrefl,decide_false,iC,if_false,hreads]
   rfl
 unfold sq om
 rw[bM hn]
 simp only[b9,hwrites]
 unfold Je
 by_cases a:(h.aC[n]).bB<0
 ·have:¬0≤(h.aC[n]).bB:=by omega
  simp[a,this]
 ·have a2:0≤(h.aC[n]).bB:=by omega
  by_cases b:7<(h.aC[n]).bB
  ·have:¬(h.aC[n]).bB<8:=by omega
   simp[a,b,this]
  ·have b2:(h.aC[n]).bB<8:=by omega
   simp[a,b,a2,b2]
theorem Hx(h:af):∀(l:List ai) (n:Nat),xb h n l=decide (∀k (hk:k<l.length),Je h ((n+k:Nat):Int) l[k]=true)
 |[],n=>by simp[xb]
 |t::l,n=>by
  rw[show xb h n (t::l)=(Je h (n:Nat) t&&xb h (n+1) l) from rfl,Hx h l (n+1),Bool.eq_iff_iff,Bool.and_eq_true,decide_eq_true_eq,decide_eq_true_eq]
  constructor
  ·rintro⟨h1,h2⟩ k hk
   cases k with
   |zero=>simpa using h1
   |succ k=>
    have:=h2 k (by simpa using hk)
    rw[show n+1+k=n+(k+1) by omega] at this
    simpa using this
  ·intro h1
   refine⟨h1 0 (by simp),fun k hk=> ?_⟩
   have:=h1 (k+1) (by simpa using hk)
   rw[show n+1+k=n+(k+1) by omega]
   simpa using this
theorem FM{h:af}(hf:Fits h):cn h=some (right h):=by
 unfold cn right
 by_cases h1:h.aC.length≤32
 ·have h2:¬(32:Int)<(h.aC.length:Int):=by omega
  simp only[Sh.len,h2,decide_false,iC,if_false,h1,decide_true,Bool.true_and]
  rw[Hx]
  have:=vC (b:=fun(p:Int)=>iE h p) h.aC.length (fun k=>match h.aC[k]? with|some t=>Je h k t|none=>true) (bC (by omega)) (fun k hk=> ?_) ?_
  ·rw[this]
   congr 2
   refine propext ⟨fun h3 k hk=> ?_,fun h3 k hk=> ?_⟩
   ·have:=h3 k hk
    simp only[List.getElem?_eq_getElem hk] at this
    simpa using this
   ·simp only[List.getElem?_eq_getElem hk]
    simpa using h3 k hk
  ·simp only[iE,dec_lt,hk,decide_true,if_true,amJ hf hk,b9,List.getElem?_eq_getElem hk,bn (k:=k) (by omega)]
   cases Je h k h.aC[k] <;> simp[Sh.exit,Sh.next]
  ·simp[iE,p_,Sh.exit]
 ·have h2:(32:Int)<(h.aC.length:Int):=by omega
  simp[Sh.len,h2,h1]

theorem QE{α:Type}(l:List α):decide ((20:Int)<Sh.len l)= !decide (l.length≤20):=by
 by_cases h:l.length≤20 <;> simp[h,Sh.len] <;> omega
def few(h:af)(m:Int):Bool:=decide ((h.aC.length:Int)≤m)&&h.aC.all (fun t=>decide (t.bH.length≤20)&&decide (t.Reads.length≤20))
theorem arf{h:af}{m:Int}(hm:m<9223372036854775807):sn h m=some (few h m):=by
 unfold sn few
 by_cases h1:(h.aC.length:Int)≤m
 ·have h2:¬m<(h.aC.length:Int):=by omega
  simp only[Sh.len,h2,decide_false,iC,if_false,h1,decide_true,Bool.true_and]
  rw[tW h.aC (fun t=> !(decide (t.bH.length≤20)&&decide (t.Reads.length≤20))) false (some true) (bC (by omega)) (fun k hk=> ?_) ?_]
  ·rw[List.any_eq_not_all_not]
   simp only[Bool.not_not]
   cases h.aC.all (fun t=>decide (t.bH.length≤20)&&decide (t.Reads.length≤20)) <;> rfl
  ·simp[od,rU]
  ·simp only[od,dec_lt,hk,decide_true,if_true,bM hk,b9,QE,og,bn (k:=k) (by omega),Sh.exit,Sh.next,Option.map_some]
   by_cases a:(h.aC[k]).bH.length≤20 <;> by_cases b:(h.aC[k]).Reads.length≤20 <;> simp[a,b]
 ·have h2:m<(h.aC.length:Int):=by omega
  simp[Sh.len,h2,h1]
end Pl
end

section
/- Edges, one by one: what the program and the reference answer. -/

namespace Pl
open Go Go.Av G

def tx(h:af)(x:Int):ai:=(h.aC[x.toNat]?).getD default
def inr(h:af)(x:Int):Bool:=decide (0≤x)&&decide (x<(h.aC.length:Int))
theorem fI{h:af}{x:Int}:inr h x=true↔0≤x∧x<(h.aC.length:Int):=by simp[inr]
theorem oH{h:af}{x:Int}(hx:inr h x=true):Sh.idx h.aC x=some (tx h x):=by
 rw[fI] at hx
 rw[Q3 hx.1 hx.2]
 simp[tx,List.getElem?_eq_getElem (show x.toNat<h.aC.length by omega)]
theorem sF{h:af}{x:Int}(hx:inr h x=true):tx h x∈h.aC:=by
 rw[fI] at hx
 simp only[tx,List.getElem?_eq_getElem (show x.toNat<h.aC.length by omega),Option.getD_some]
 exact List.getElem_mem _

def YC(h:af)(x y:Int)(c:aa):Bool:=decide (c.A=x)&&decide (c.B=y)&&decide (x≠y)&&gL (tx h x) c.Key&&gL (tx h y) c.Key
def ac6(h:af)(l:List aa)(x y:Int):Bool:=
 (decide (x<y)&&decide ((tx h x).bB=(tx h y).bB))||(tx h y).Reads.any (fun r=>decide (r.bT=x))||l.any (YC h x y)
def isO(h:af)(l:List aa)(y:Int)(r:an):Bool:=
 gL (tx h y) r.Key&&(decide (r.bT<0)||(decide (r.bT≠y)&&l.any (fun c=>decide (aa.mk r.Key r.bT y=c))))
def UJ(h:af)(l:List aa)(x y:Int):Bool:=decide (x≠y)&&(tx h x).Reads.any (isO h l y)
def two(h:af)(x y:Int):Bool:=right h&&inr h x&&inr h y
def direct(h:af)(l:List aa)(x y:Int):Bool:=two h x y&&ac6 h l x y
def Ez(h:af)(l:List aa)(x y:Int):Bool:=two h x y&&UJ h l x y
def wQ(h:af)(lev:Int)(l:List aa)(x y:Int):Bool:=
 if lev=0 then direct h l x y||Ez h l x y
 else if lev=1 then(List.range h.aC.length).any (fun m=>direct h l x m&&(decide ((m:Int)=y)||Ez h l m y))
 else false
def ring(h:af)(lev:Int)(l:List aa)(row:List Int):Bool:=
 decide (0<row.length)&&(List.range row.length).all (fun i=> !((row.take i).any (fun x=>decide (row.getD i 0=x)))&&wQ h lev l (row.getD i 0) (row.getD ((i+1) % row.length) 0))

theorem DQ{h:af}(hr:right h=true){t:ai}(ht:t∈h.aC):∃n:Int,tR h n (-1) t.Reads=true:=by
 simp only[right,Bool.and_eq_true] at hr
 have key:∀(l:List ai) (n:Nat),xb h n l=true→∀t∈l,∃n:Int,Je h n t=true:=by
  intro l
  induction l with
  |nil=>intro n _ t ht;cases ht
  |cons x l ih=>
   intro n hn t ht
   rw[show xb h n (x::l)=(Je h (n:Nat) x&&xb h (n+1) l) from rfl,Bool.and_eq_true] at hn
   rcases List.mem_cons.1 ht with rfl|ht
   ·exact⟨_,hn.1⟩
   ·exact ih _ hn.2 t ht
 obtain⟨n,hn⟩:=key _ 0 hr.2 t ht
 simp only[Je,Bool.and_eq_true] at hn
 exact⟨n,hn.1.1.2⟩
theorem AH{h:af}{n:Int}:∀{l:List an} {last:Int},tR h n last l=true→∀r∈l,there h n r=true
 |[],_,_,r,hr=>by cases hr
 |x::l,last,ht,r,hr=>by
  rw[show tR h n last (x::l)=(decide (last<x.Key)&&decide (x.Key<16)&&there h n x&&tR h n x.Key l) from rfl] at ht
  simp only[Bool.and_eq_true] at ht
  rcases List.mem_cons.1 hr with rfl|hr
  ·exact ht.1.2
  ·exact AH ht.2 r hr
theorem U4{h:af}(hr:right h=true){t:ai}(ht:t∈h.aC){r:an}(hm:r∈t.Reads):r.bT<0↔r.bT= -1:=by
 obtain⟨n,hn⟩:=DQ hr ht
 have:=AH hn r hm
 simp only[there,Bool.or_eq_true,Bool.and_eq_true,decide_eq_true_eq] at this
 rcases this with h1|h1
 ·omega
 ·have:=h1.1.1.1;omega

theorem HD{h:af}(hf:Fits h){x:Int}(hx:inr h x=true)(k:Int):tY h x k=some (gL (tx h x) k):=by
 unfold tY
 have:=hf.writes _ (sF hx)
 rw[oH hx]
 simp only[b9]
 rw[Xi (by omega)]
 rfl
theorem amt{h:af}(hf:Fits h){x y:Int}(hy:inr h y=true)(u:cF):vV u h x y=some ((tx h y).Reads.any (fun r=>decide (r.bT=x))):=by
 have hl:=hf.reads _ (sF hy)
 unfold vV
 rw[oH hy]
 simp only[b9]
 unfold c8 dw
 rw[qD (tx h y).Reads (fun r=>decide (r.bT=x)) (fun k=>(k:Int)) (some (-1)) (bC (by omega)) (fun k hk=> ?_) ?_,uU,b9,gX]
 ·rfl
 ·simp[cz,dc]
 ·simp only[cz,dec_lt,hk,decide_true,if_true,bM hk,b9,tO,bn (k:=k) (by omega)]
  rfl
theorem Xl{h:af}(hf:Fits h){x y:Int}(hx:inr h x=true)(hy:inr h y=true){l:List aa}(hl:l.length<9223372036854775807):tg l h x y=some (l.any (YC h x y)):=by
 have h1:∀c,mA c x y h=some (YC h x y c):=fun c=>by
  unfold mA YC
  by_cases a:c.A=x <;> by_cases b:c.B=y <;> by_cases d:x=y <;> simp[a,b,d,HD hf hx,HD hf hy]
  cases gL (tx h x) c.Key <;> simp
 unfold tg cC cI
 rw[qD l (YC h x y) (fun k=>(k:Int)) (some (-1)) (bC (by omega)) (fun k hk=> ?_) ?_,uU,b9,gX]
 ·rfl
 ·simp[bY,cD]
 ·simp only[bY,dec_lt,hk,decide_true,if_true,bM hk,b9,h1,bn (k:=k) (by omega)]
  rfl
theorem amo{l:List aa}(hl:l.length<9223372036854775807)(v:aa):ef l v=some (l.any (fun c=>decide (v=c))):=by
 unfold ef gi
 rw[qD l (fun c=>decide (v=c)) (fun k=>(k:Int)) (some (-1)) (bC (by omega)) (fun k hk=> ?_) ?_,uU,b9,gX]
 ·simp[er,fE]
 ·simp only[er,dec_lt,hk,decide_true,if_true,bM hk,b9,bn (k:=k) (by omega)]
  rfl
theorem amq{h:af}(hf:Fits h){x y:Int}(hx:inr h x=true)(hy:inr h y=true){l:List aa}(hl:l.length<9223372036854775807):vU l h x y=some (UJ h l x y):=by
 have hr:=hf.reads _ (sF hx)
 have h1:∀r,qN r h y l=some (isO h l y r):=fun r=>by
  unfold qN isO
  rw[HD hf hy]
  simp only[b9,amo hl]
  cases gL (tx h y) r.Key
  ·rfl
  ·by_cases a:r.bT<0
   ·simp[a]
   ·by_cases b:r.bT=y
    ·have a':¬y<0:=b▸a
     simp[b,a']
    ·simp[a,b]
 unfold vU UJ
 by_cases hxy:x=y
 ·simp[hxy]
 ·rw[oH hx]
  simp only[ne_eq,hxy,not_false_eq_true,decide_true,if_true,b9,Bool.true_and]
  unfold c7 dr
  rw[qD (tx h x).Reads (isO h l y) (fun k=>(k:Int)) (some (-1)) (bC (by omega)) (fun k hk=> ?_) ?_,uU,b9,gX]
  ·rfl
  ·simp[cw,c_]
  ·simp only[cw,dec_lt,hk,decide_true,if_true,bM hk,b9,h1,bn (k:=k) (by omega)]
   rfl
theorem Xk{h:af}{x y:Int}(hx:inr h x=true)(hy:inr h y=true)(u:bO):tc u h x y=some (decide (x<y)&&decide ((tx h x).bB=(tx h y).bB)):=by
 unfold tc
 rw[oH hx,oH hy]
 by_cases h1:x<y <;> simp[h1]

theorem Ni{h:af}{x y:Int}:(decide (Sh.min x y<0)=false∧decide (Sh.len h.aC≤Sh.max x y)=false)↔(inr h x=true∧inr h y=true):=by
 rw[decide_eq_false_iff_not,decide_eq_false_iff_not,fI,fI]
 unfold Sh.min Sh.max Sh.len
 split <;> split <;> omega

theorem SF{h:af}(hf:Fits h){l:List aa}(hl:l.length<9223372036854775807)(x y:Int):vr h l x y=some (direct h l x y):=by
 unfold vr u6 direct two
 rw[HC hf]
 simp only[b9,lJ]
 cases hr:right h
 ·simp
 ·by_cases hin:inr h x=true∧inr h y=true
  ·obtain⟨m1,m2⟩:=(Ni (h:=h)).2 hin
   obtain⟨hx,hy⟩:=hin
   simp only[m1,m2,hx,hy,Bool.not_true,iC,if_false,Bool.and_self,Bool.true_and]
   unfold cM cW kC oF kD
   rw[Xk hx hy,amt hf hy,Xl hf hx hy hl]
   simp only[b9,cO,ac6]
   cases decide (x<y)&&decide ((tx h x).bB=(tx h y).bB)
   ·cases(tx h y).Reads.any (fun r=>decide (r.bT=x))
    ·cases l.any (YC h x y) <;> simp
    ·simp
   ·simp
  ·have hm:¬(decide (Sh.min x y<0)=false∧decide (Sh.len h.aC≤Sh.max x y)=false):=fun hm=>hin ((Ni (h:=h)).1 hm)
   have hz:(inr h x&&inr h y)=false:=by
    cases a:inr h x <;> cases b:inr h y <;> simp_all
   rw[Bool.true_and,hz]
   simp only[Bool.not_true,iC,if_false,Bool.false_and]
   cases m1:decide (Sh.min x y<0)
   ·cases m2:decide (Sh.len h.aC≤Sh.max x y)
    ·exact absurd ⟨m1,m2⟩ hm
    ·simp
   ·simp
theorem acv{h:af}(hf:Fits h){l:List aa}(hl:l.length<9223372036854775807)(x y:Int):zj h l x y=some (Ez h l x y):=by
 unfold zj u5 Ez two
 rw[HC hf]
 simp only[b9,lI]
 cases hr:right h
 ·simp
 ·by_cases hin:inr h x=true∧inr h y=true
  ·obtain⟨m1,m2⟩:=(Ni (h:=h)).2 hin
   obtain⟨hx,hy⟩:=hin
   simp only[m1,m2,hx,hy,Bool.not_true,iC,if_false,Bool.and_self,Bool.true_and]
   unfold cL cV oE
   rw[amq hf hx hy hl]
   simp only[b9,cN]
   cases UJ h l x y <;> simp
  ·have hm:¬(decide (Sh.min x y<0)=false∧decide (Sh.len h.aC≤Sh.max x y)=false):=fun hm=>hin ((Ni (h:=h)).1 hm)
   have hz:(inr h x&&inr h y)=false:=by
    cases a:inr h x <;> cases b:inr h y <;> simp_all
   rw[Bool.true_and,hz]
   simp only[Bool.not_true,iC,if_false,Bool.false_and]
   cases m1:decide (Sh.min x y<0)
   ·cases m2:decide (Sh.len h.aC≤Sh.max x y)
    ·exact absurd ⟨m1,m2⟩ hm
    ·simp
   ·simp
theorem pIs{h:af}(hf:Fits h){l:List aa}(hl:l.length<9223372036854775807)(lev x y:Int):Gj h lev l x y=some (wQ h lev l x y):=by
 unfold Gj wQ
 rw[SF hf hl,acv hf hl]
 simp only[b9]
 by_cases h0:lev=0
 ·subst h0
  simp only[decide_true,if_true]
  cases direct h l x y <;> simp
 ·by_cases h1:lev=1
  ·subst h1
   simp only[h0,decide_false,iC,if_false,decide_true,if_true]
   have hrl:(List.range h.aC.length).length=h.aC.length:=by simp
   have ht:=hf.RN
   rw[tW (List.range h.aC.length) (fun m=>direct h l x m&&(decide ((m:Int)=y)||Ez h l m y)) true (some false) (bC (by omega)) (fun k hk=> ?_) ?_]
   ·cases(List.range h.aC.length).any (fun m=>direct h l x m&&(decide ((m:Int)=y)||Ez h l m y)) <;> rfl
   ·simp[zH,xl,dec_lt]
   ·rw[hrl] at hk
    simp only[zH,dec_lt,hk,decide_true,if_true,SF hf hl,acv hf hl,b9,xm,bn (k:=k) (by omega),List.getElem_range]
    cases direct h l x k
    ·rfl
    ·by_cases hy:(k:Int)=y
     ·simp[hy,Sh.exit]
     ·cases Ez h l k y <;> simp[hy,Sh.exit,Sh.next]
  ·simp[h0,h1,xl]
end Pl
end

section
/- Transactions one by one: what the program and the reference play. -/
namespace Pl
open Go Go.Av G

structure F8 (n:Nat) (o:List Int):Prop where
 len:o.length=n
 node:∀a∈o,0≤a∧a<(n:Int)
 nodup:o.Nodup
theorem Ng:∀{n:Nat} {o:List Int},(∀a∈o,0≤a∧a<(n:Int))→o.Nodup→o.length≤n
 |0,o,h,_=>by
  cases o with
  |nil=>simp
  |cons a o=>have:=h a (List.mem_cons_self ..);omega
 |n+1,o,h,hd=>by
  by_cases hn:(n:Int)∈o
  ·have h1:=Ng (n:=n) (o:=o.erase (n:Int)) (fun a ha=>by
    obtain⟨h1,h2⟩:=(List.Nodup.mem_erase_iff hd).1 ha
    have:=h a h2;omega) (hd.erase _)
   rw[List.length_erase_of_mem hn] at h1
   omega
  ·have h1:=Ng (n:=n) (o:=o) (fun a ha=>by
    have:=h a ha
    have:a≠(n:Int):=fun e=>hn (e▸ha)
    omega) hd
   omega
theorem F8.all{n:Nat}{o:List Int}(p:F8 n o){k:Nat}(hk:k<n):(k:Int)∈o:=by
 apply Classical.byContradiction
 intro hn
 have h1:=Ng (n:=n) (o:=(k:Int)::o) (fun a ha=>by
  rcases List.mem_cons.1 ha with e|e
  ·omega
  ·exact p.node a e) (List.nodup_cons.2 ⟨hn,p.nodup⟩)
 simp only[List.length_cons,p.len] at h1
 omega
theorem Kd:∀{n:Nat} {o:List Int},o.length=n→(∀k,k<n→(k:Int)∈o)→o.Nodup∧∀a∈o,0≤a∧a<(n:Int)
 |0,o,hl,_=>by
  have:=List.eq_nil_of_length_eq_zero hl
  subst this;simp
 |n+1,o,hl,h=>by
  have hn:=h n (Nat.lt_succ_self _)
  have hp:=List.perm_cons_erase hn
  have h1:=Kd (n:=n) (o:=o.erase (n:Int)) (by rw[List.length_erase_of_mem hn];omega) (fun k hk=>(List.mem_erase_of_ne (by omega)).2 (h k (by omega)))
  refine⟨hp.nodup_iff.2 (List.nodup_cons.2 ⟨fun hm=> ?_,h1.1⟩),fun a ha=> ?_⟩
  ·have:=h1.2 _ hm;omega
  ·rcases List.mem_cons.1 (hp.mem_iff.1 ha) with e|e
   ·omega
   ·have:=h1.2 a e;omega
def ID(n:Nat)(o:List Int):Bool:=decide (o.length=n∧(∀a∈o,0≤a∧a<(n:Int))∧o.Nodup)
theorem u9{n:Nat}{o:List Int}:ID n o=true↔F8 n o:=by
 unfold ID
 rw[decide_eq_true_eq]
 exact⟨fun⟨a,b,c⟩=>⟨a,b,c⟩,fun p=>⟨p.len,p.node,p.nodup⟩⟩
def HU(o:List Int)(t:Int):Nat:=o.findIdx fun x=>decide (x=t)
theorem MI{o:List Int}{t:Int}(h:t∈o):HU o t<o.length:=List.findIdx_lt_length_of_exists ⟨t,h,by simp⟩
theorem Ge{o:List Int}{t:Int}(h:t∈o):o[HU o t]'(MI h)=t:=by
 have:=List.findIdx_getElem (xs:=o) (p:=fun x=>decide (x=t)) (w:=MI h)
 exact of_decide_eq_true this
theorem Rc{o:List Int}(hd:o.Nodup){i j:Nat}(hi:i<o.length)(hj:j<o.length)(he:o[i]=o[j]):i=j:=by
 have hp:=List.pairwise_iff_getElem.1 hd
 rcases Nat.lt_trichotomy i j with h|h|h
 ·exact absurd he (hp i j hi hj h)
 ·exact h
 ·exact absurd he.symm (hp j i hj hi h)
theorem MH{o:List Int}(hd:o.Nodup){k:Nat}(hk:k<o.length):HU o o[k]=k:=by
 have h1:=Ge (List.getElem_mem hk)
 exact Rc hd _ _ h1
theorem Ib{o:List Int}(hd:o.Nodup){k:Nat}(hk:k<o.length):o[k]∉o.take k:=fun hm=>by
 obtain⟨j,hj,he⟩:=List.mem_iff_getElem.1 hm
 rw[List.getElem_take] at he
 have hj':j<k:=by simp at hj;omega
 have:=Rc hd _ hk he
 omega
theorem oT{o:List Int}{k:Nat}(hk:k<o.length){a:Int}:a∈o.take (k+1)↔a∈o.take k∨a=o[k]:=by
 rw[List.take_succ_eq_append_getElem hk,List.mem_append,List.mem_singleton]

def vm{α:Type}(N:Nat)(F:Nat→α):List α:=(List.range N).map F
section
variable {α:Type} {N:Nat}
@[simp] theorem IV(F:Nat→α):(vm N F).length=N:=by simp[vm]
theorem tN{F G:Nat→α}(h:∀x,x<N→F x=G x):vm N F=vm N G:=List.map_congr_left fun x hx=>h x (List.mem_range.1 hx)
theorem BJ(F:Nat→α){y:Nat}(h:y<N):(vm N F)[y]? =some (F y):=by simp[vm,h]
theorem D3(F:Nat→α){y:Nat}(h:y<N):Sh.idx (vm N F) (y:Int)=some (F y):=by
 unfold Sh.idx
 rw[if_pos (by omega),Int.toNat_natCast,BJ F h]
theorem Gd(F:Nat→α){y:Nat}(h:y<N):Sh.KY N (vm N F) (y:Int)=some (F y):=by
 unfold Sh.KY
 rw[if_pos (IV F),D3 F h]
theorem BK(F:Nat→α){y:Nat}(c:α):Sh.set (vm N F) (y:Int) c=vm N fun x=>if x=y then c else F x:=by
 rw[HN]
 apply List.ext_getElem? fun i=> ?_
 rw[List.getElem?_set]
 by_cases hi:i<N
 ·rw[BJ _ hi]
  by_cases e:y=i
  ·subst e;rw[if_pos rfl,IV,if_pos hi,BJ _ hi,if_pos rfl]
  ·rw[if_neg e,BJ _ hi,if_neg (Ne.symm e)]
 ·have h1:(vm N F)[i]? =none:=List.getElem?_eq_none (by simp;omega)
  have h2:(vm N fun x=>if x=y then c else F x)[i]? =none:=List.getElem?_eq_none (by simp;omega)
  rw[h1,h2]
  split <;> simp;omega
theorem A6(c:α):List.replicate N c=vm N (fun _=>c):=by
 apply List.ext_getElem (by simp) fun i h1 h2=>by simp[vm]
end

theorem Ku{σ α:Type}{b:σ→Option (σ⊕α)}(S:Nat→σ)(m:Nat)(p:Nat→Bool)(A B:Option α)(hm:m<Sh.nU)(h:∀k,k<m→(∀j,j<k→p j=true)→b (S k)=if p k then some (.inl (S (k+1))) else Sh.exit B)(hr:(∀j,j<m→p j=true)→b (S m)=Sh.exit A){s:σ}(hs:s=S 0):
  Sh.loop b s=if ∀k,k<m→p k=true then A else B:=by
 subst hs
 by_cases hall:∀k,k<m→p k=true
 ·rw[if_pos hall]
  exact ig S m A hm (fun k hk=>by rw[h k hk (fun j hj=>hall j (by omega)),if_pos (hall k hk)]) (hr hall) rfl
 ·rw[if_neg hall]
  have hex:∃k,k<m∧p k=false:=by
   apply Classical.byContradiction
   intro hn
   exact hall fun k hk=>by
    cases hp:p k with
    |true=>rfl
    |false=>exact absurd ⟨k,hk,hp⟩ hn
  obtain⟨k,⟨hk,hp⟩,hmin⟩:=exists_least _ hex
  have hb:∀j,j<k→p j=true:=fun j hj=>by
   cases hp:p j with
   |true=>rfl
   |false=>have:=hmin j ⟨by omega,hp⟩;omega
  exact ig S k B (by omega) (fun j hj=>by rw[h j (by omega) (fun i hi=>hb i (by omega)),if_pos (hb j hj)]) (by rw[h k hk hb,hp];rfl) rfl

theorem sC{h:af}(hr:right h=true):h.aC.length≤32:=by
 simp only[right,Bool.and_eq_true,decide_eq_true_eq] at hr;exact hr.1
theorem GQ{h:af}(hr:right h=true){t:Nat}(ht:t<h.aC.length):Je h (t:Int) (tx h t)=true:=by
 simp only[right,Bool.and_eq_true] at hr
 have h2:=hr.2
 rw[Hx,decide_eq_true_eq] at h2
 have:=h2 t ht
 have e:tx h (t:Int)=h.aC[t]:=by simp[tx,ht]
 rw[e]
 simpa using this
theorem Hj{α:Type}{key:α→Int}{ok:α→Bool}:∀{l:List α} {last:Int},AL key ok last l=true→∀x∈l,last<key x∧key x<16
 |[],_,_,x,hx=>by simp at hx
 |y::l,last,h,x,hx=>by
  simp only[AL,Bool.and_eq_true,decide_eq_true_eq] at h
  rcases List.mem_cons.1 hx with e|e
  ·subst e;exact⟨h.1.1.1,h.1.1.2⟩
  ·have:=Hj h.2 x e
   have:=h.1.1.1
   omega
theorem HR{h:af}(hr:right h=true){t:Nat}(ht:t<h.aC.length):∀w∈(tx h t).bH,0≤w∧w<16:=fun w hw=>by
 have h1:=GQ hr ht
 simp only[Je,Bool.and_eq_true] at h1
 have h2:=h1.1.1.1
 rw[HM] at h2
 have:=Hj h2 w hw
 simp only[id] at this
 omega
theorem GL{h:af}(hr:right h=true){t:Nat}(ht:t<h.aC.length):∀r∈(tx h t).Reads,0≤r.Key∧r.Key<16:=fun r hw=>by
 have h1:=GQ hr ht
 simp only[Je,Bool.and_eq_true] at h1
 have h2:=h1.1.1.2
 rw[Kz] at h2
 have:=Hj h2 r hw
 omega
theorem XY{h:af}(hr:right h=true){t:Nat}(ht:t<h.aC.length):0≤(tx h t).bB∧(tx h t).bB<8:=by
 have h1:=GQ hr ht
 simp only[Je,Bool.and_eq_true,decide_eq_true_eq] at h1
 exact⟨h1.1.2,h1.2⟩
theorem vZ{h:af}{t:Nat}(ht:t<h.aC.length):Sh.idx h.aC (t:Int)=some (tx h t):=oH (fI.2 ⟨by omega,by omega⟩)
theorem DY{h:af}{t:Nat}(ht:t<h.aC.length):tx h t∈h.aC:=sF (fI.2 ⟨by omega,by omega⟩)
theorem Gv{t:ai}{k:Int}:gL t k=true↔k∈t.bH:=by simp[gL]

def Bg(h:af)(o:List Int)(key:Int):Int:=(o.reverse.find? fun t=>gL (tx h t) key).getD (-1)
theorem JP{h:af}{o:List Int}{t key:Int}:Bg h (o++[t]) key=if gL (tx h t) key then t else Bg h o key:=by
 unfold Bg
 rw[List.reverse_append,List.reverse_singleton,List.singleton_append,List.find?_cons]
 cases gL (tx h t) key <;> rfl
theorem O8{h:af}{key:Int}:∀{o:List Int},(Bg h o key= -1∧∀t∈o,gL (tx h t) key=false)∨(Bg h o key∈o∧gL (tx h (Bg h o key)) key=true):=by
 intro o
 unfold Bg
 cases hf:o.reverse.find? fun t=>gL (tx h t) key with
 |none=>
  left
  rw[List.find?_eq_none] at hf
  exact⟨rfl,fun t ht=>by simpa using hf t (List.mem_reverse.2 ht)⟩
 |some t=>
  right
  exact⟨List.mem_reverse.1 (List.mem_of_find?_eq_some hf),by simpa using List.find?_some hf⟩
theorem O7{h:af}{o:List Int}{n:Nat}(hp:∀a∈o,0≤a∧a<(n:Int))(key:Int): -1≤Bg h o key∧Bg h o key<(n:Int):=by
 rcases O8 (h:=h) (key:=key) (o:=o) with⟨h1,_⟩|⟨h1,_⟩
 ·rw[h1];omega
 ·have:=hp _ h1;omega
def tu(h:af)(o:List Int)(t:Int):List an:=(tx h t).Reads.map fun r=>⟨r.Key,Bg h (o.take (HU o t)) r.Key⟩
def wu(h:af)(o:List Int):List (List an):=vm h.aC.length fun t:Nat=>tu h o t

theorem SG{h:af}(hf:Fits h)(o:List Int):zn h o=some (right h&&ID h.aC.length o):=by
 unfold zn
 rw[HC hf]
 simp only[b9]
 cases hr:right h with
 |false=>rfl
 |true=>
  have hn:=sC hr
  simp only[Bool.not_true,iC,if_false,Bool.true_and]
  by_cases hl:o.length=h.aC.length
  ·have h1:¬(Sh.len o)≠(Sh.len h.aC):=by simp only[Sh.len];omega
   rw[decide_eq_false h1]
   simp only[wJ,iC,if_false]
   rw[Ku (fun k=>(vm 32 (fun x:Nat=>decide ((x:Int)∈o.take k)),(k:Int))) o.length (fun k=>match o[k]? with|some a=>decide (0≤a∧a<(o.length:Int)∧a∉o.take k)|none=>true) (some true) (some false) (bC (by omega)) (fun k hk hall=> ?_) (fun _=> ?_) (by rw[A6];simp)]
   ·have e:(if ∀k,k<o.length→(match o[k]? with|some a=>decide (0≤a∧a<(o.length:Int)∧a∉o.take k)|none=>true)=true then some true else some false)=some (decide (∀k,k<o.length→(match o[k]? with|some a=>decide (0≤a∧a<(o.length:Int)∧a∉o.take k)|none=>true)=true)):=by
     split
     ·rename_i hq;rw[decide_eq_true hq]
     ·rename_i hq;rw[decide_eq_false hq]
    rw[e]
    congr 1
    rw[Bool.eq_iff_iff,decide_eq_true_eq,u9]
    constructor
    ·intro hq
     have hq':∀k (hk:k<o.length),0≤o[k]∧o[k]<(o.length:Int)∧o[k]∉o.take k:=fun k hk=>by
      have:=hq k hk
      simpa only[List.getElem?_eq_getElem hk,decide_eq_true_eq] using this
     refine⟨hl,fun a ha=> ?_, ?_⟩
     ·obtain⟨k,hk,rfl⟩:=List.mem_iff_getElem.1 ha
      have:=hq' k hk;omega
     ·rw[List.Nodup,List.pairwise_iff_getElem]
      intro i j hi hj hij he
      refine(hq' j hj).2.2 (List.mem_iff_getElem.2 ⟨i,by simp;omega, ?_⟩)
      rw[List.getElem_take];exact he
    ·intro p k hk
     simp only[List.getElem?_eq_getElem hk,decide_eq_true_eq]
     have:=p.node _ (List.getElem_mem hk)
     exact⟨this.1,by rw[p.len];exact this.2,Ib p.nodup hk⟩
   ·have ajl:k<32:=by omega
    simp only[wI,dec_lt,hk,decide_true,if_true,bM hk,b9,List.getElem?_eq_getElem hk]
    by_cases h0:o[k]<0
    ·have:¬(0≤o[k]∧o[k]<(o.length:Int)∧o[k]∉o.take k):=fun hq=>by omega
     rw[decide_eq_true h0,decide_eq_false this];rfl
    ·by_cases h2:(Sh.len o)≤o[k]
     ·have:¬(0≤o[k]∧o[k]<(o.length:Int)∧o[k]∉o.take k):=fun hq=>by simp only[Sh.len] at h2;omega
      rw[decide_eq_false h0,decide_eq_true h2,decide_eq_false this];rfl
     ·simp only[Sh.len] at h2
      obtain⟨y,hy⟩:∃y:Nat,o[k]=(y:Int):=⟨o[k].toNat,by omega⟩
      have aqh:y<32:=by omega
      have h3:¬(o.length:Int)≤(y:Int):=by omega
      have h4:¬(y:Int)<0:=by omega
      simp only[hy,h4,h3,decide_false,iC,if_false,Gd _ aqh,b9,uB,Sh.len]
      by_cases hm:(y:Int)∈o.take k
      ·have:¬(0≤(y:Int)∧(y:Int)<(o.length:Int)∧(y:Int)∉o.take k):=fun hq=>hq.2.2 hm
       rw[decide_eq_true hm,decide_eq_false this];rfl
      ·have:(0≤(y:Int)∧(y:Int)<(o.length:Int)∧(y:Int)∉o.take k):=⟨by omega,by omega,hm⟩
       rw[decide_eq_false hm,decide_eq_true this]
       simp only[iC,if_false,if_true,Sh.next,bn (k:=k) (by omega),BK]
       congr 3
       refine tN fun x _=> ?_
       by_cases hx:x=y
       ·subst hx
        rw[if_pos rfl,decide_eq_true ((oT hk).2 (.inr hy.symm))]
       ·rw[if_neg hx]
        congr 1
        refine propext ⟨fun hq=>(oT hk).2 (.inl hq),fun hq=> ?_⟩
        rcases(oT hk).1 hq with hq|hq
        ·exact hq
        ·omega
   ·simp[wI,zd,Sh.exit]
  ·have h1:(Sh.len o)≠(Sh.len h.aC):=by simp only[Sh.len];omega
   have h2:ID h.aC.length o=false:=by
    cases hq:ID h.aC.length o with
    |false=>rfl
    |true=>exact absurd (u9.1 hq).len hl
   rw[decide_eq_true h1,h2];rfl
end Pl
end

section
/- What the program and the reference play, and whether an order shows a history to be serializable. -/
namespace Pl
open Go Go.Av G

def JO(h:af)(o:List Int)(k:Nat)(y:Nat):Int:=Bg h (o.take k) y+1
def WJ(h:af)(o:List Int)(t:Nat)(k i:Nat)(y:Nat):Int:=if(y:Int)∈(tx h t).bH.take i then(t:Int)+1 else JO h o k y
def Rl(h:af)(o:List Int)(t:Nat)(k i:Nat):List (List an):=vm h.aC.length fun x:Nat=>if x=t then(tu h o t).take i else if(x:Int)∈o.take k then tu h o x else []
def Xa(h:af)(o:List Int)(k:Nat):List (List an):=vm h.aC.length fun x:Nat=>if(x:Int)∈o.take k then tu h o x else []
theorem Bm{h:af}{o:List Int}{t:Int}:(tu h o t).length=(tx h t).Reads.length:=by simp[tu]
theorem amr{h:af}(hf:Fits h)(hb:∀t∈h.aC,t.Reads.length≤1000000)(o:List Int):Bs h o=some (if right h&&ID h.aC.length o then wu h o else []):=by
 unfold Bs
 rw[SG hf o]
 simp only[b9]
 cases hq:(right h&&ID h.aC.length o) with
 |false=>rfl
 |true=>
  simp only[Bool.and_eq_true] at hq
  obtain⟨hr,hok⟩:=hq
  have p:=u9.1 hok
  have hn:=sC hr
  simp only[Bool.not_true,iC,if_false,if_true]
  rw[show Sh.len o=((h.aC.length:Nat):Int) by simp only[Sh.len,p.len],acs (by omega) (by omega)]
  simp only[b9]
  refine ig (fun k=>(vm 16 (JO h o k),Xa h o k,(k:Int))) h.aC.length _ (bC (by omega)) (fun k hk=> ?_) ?_ ?_
  ·have hko:k<o.length:=by rw[p.len];exact hk
   obtain⟨t,ht⟩:∃t:Nat,o[k]=(t:Int):=⟨o[k].toNat,by have:=p.node _ (List.getElem_mem hko);omega⟩
   have htn:t<h.aC.length:=by have:=p.node _ (List.getElem_mem hko);omega
   have hat:HU o t=k:=by rw[←ht];exact MH p.nodup hko
   have hnin:(t:Int)∉o.take k:=by rw[←ht];exact Ib p.nodup hko
   have hbd:=hb _ (DY htn)
   have hfr:=hf.reads _ (DY htn)
   have hfw:=hf.writes _ (DY htn)
   simp only[yh,show Sh.len o=((o.length:Nat):Int) from rfl,dec_lt,hko,decide_true,if_true,bM hko,ht,b9,vZ htn]
   refine ig (fun i=>(Rl h o t k i,(i:Int))) (tx h t).Reads.length _ (bC (by omega)) (fun i hi=> ?_) ?_ ?_
   ·have hkey:=GL hr htn _ (List.getElem_mem hi)
    obtain⟨y,hy⟩:∃y:Nat,(tx h t).Reads[i].Key=(y:Int):=⟨(tx h t).Reads[i].Key.toNat,by omega⟩
    have aeg:y<16:=by omega
    have hb1:=O7 (h:=h) (o:=o.take k) (fun a ha=>p.node a (List.mem_of_mem_take ha)) (y:Int)
    have hrow:Sh.idx (Rl h o t k i) (t:Int)=some ((tu h o t).take i):=by
     unfold Rl;rw[D3 _ htn,if_pos rfl]
    have hpl:(tu h o t).take i++[⟨(tx h t).Reads[i].Key,dz (JO h o k y - 1)⟩]=(tu h o t).take (i+1):=by
     have hi':i<(tu h o t).length:=by rw[Bm];exact hi
     rw[List.take_succ_eq_append_getElem hi']
     congr 2
     simp only[tu,List.getElem_map,hat,hy,JO]
     congr 1
     rw[gA (by omega) (by omega)];omega
    simp only[yl,dec_lt,hi,decide_true,if_true,bM hi,b9,hrow,hy,Gd _ aeg]
    rw[←hy,dX (by simp only[List.length_take,List.length_cons,List.length_nil];omega)]
    simp only[b9,Sh.next,bn (k:=i) (by omega),hpl]
    congr 3
    unfold Rl
    rw[BK]
    refine tN fun x _=> ?_
    by_cases hx:x=t
    ·rw[if_pos hx,if_pos hx]
    ·rw[if_neg hx,if_neg hx,if_neg hx]
   ·simp only[yl,dec_lt,Nat.lt_irrefl,decide_false,iC,if_false]
    have hj3:ym h (vm 16 (JO h o k)) (k:Int) (t:Int) (Rl h o t k (tx h t).Reads.length)=some (.inl (vm 16 (JO h o (k+1)),Xa h o (k+1),((k+1:Nat):Int))):=by
     unfold ym
     simp only[vZ htn,b9]
     refine ig (fun i=>(vm 16 (WJ h o t k i),(i:Int))) (tx h t).bH.length _ (bC (by omega)) (fun i hi=> ?_) ?_ ?_
     ·have hkey:=HR hr htn _ (List.getElem_mem hi)
      obtain⟨y,hy⟩:∃y:Nat,(tx h t).bH[i]=(y:Int):=⟨(tx h t).bH[i].toNat,by omega⟩
      have aeg:y<16:=by omega
      simp only[yj,dec_lt,hi,decide_true,if_true,bM hi,hy,b9,Gd _ aeg,Sh.next,bn (k:=i) (by omega),BK]
      congr 3
      refine tN fun x _=> ?_
      unfold WJ
      by_cases hx:x=y
      ·subst hx
       rw[if_pos rfl,if_pos ((oT hi).2 (.inr hy.symm)),gA (by omega) (by omega)]
      ·rw[if_neg hx]
       have:((x:Int)∈(tx h t).bH.take i)↔((x:Int)∈(tx h t).bH.take (i+1)):=by
        rw[oT hi,hy]
        exact⟨.inl,fun hq=>hq.resolve_right (fun e=>hx (by omega))⟩
       simp only[this]
     ·simp only[yj,dec_lt,Nat.lt_irrefl,decide_false,iC,if_false,AE,Sh.next,bn (k:=k) (by omega)]
      congr 4
      ·refine tN fun x _=> ?_
       unfold WJ JO
       rw[List.take_length,List.take_succ_eq_append_getElem hko,JP,ht]
       by_cases hw:(x:Int)∈(tx h t).bH
       ·rw[if_pos hw,Gv.2 hw,if_pos rfl]
       ·have:gL (tx h t) x=false:=by
         cases hq:gL (tx h t) x with
         |false=>rfl
         |true=>exact absurd (Gv.1 hq) hw
        rw[if_neg hw,this];rfl
      ·unfold Rl Xa
       congr 1
       refine tN fun x _=> ?_
       rw[←Bm (o:=o),List.take_length]
       by_cases hx:x=t
       ·subst hx;rw[if_pos rfl,if_pos ((oT hko).2 (.inr ht.symm))]
       ·rw[if_neg hx]
        have:((x:Int)∈o.take k)↔((x:Int)∈o.take (k+1)):=by
         rw[oT hko,ht]
         exact⟨.inl,fun hq=>hq.resolve_right (fun e=>hx (by omega))⟩
        simp only[this]
     ·rfl
    rw[hj3]
   ·congr 1
    unfold Xa Rl
    refine tN fun x _=> ?_
    by_cases hx:x=t
    ·subst hx;rw[if_pos rfl,if_neg hnin];simp
    ·rw[if_neg hx]
  ·simp only[yh,show Sh.len o=((o.length:Nat):Int) from rfl,p.len,dec_lt,Nat.lt_irrefl,decide_false,iC,if_false,AD]
   congr 2
   unfold wu Xa
   refine tN fun x hx=> ?_
   rw[←p.len,List.take_length,if_pos (p.all hx)]
  ·rw[A6,A6];rfl

theorem aq0{a b:List an}(ha:a.length<9223372036854775807):fH a b=some (decide (a=b)):=by
 unfold fH
 by_cases hl:a.length=b.length
 ·have h1:¬(Sh.len a)≠(Sh.len b):=by simp only[Sh.len];omega
  rw[decide_eq_false h1]
  simp only[iC,if_false]
  rw[vC (b:=fun(p:Int)=>dS a b p) a.length (fun i=>decide (a[i]? =b[i]?)) (bC (by omega)) (fun k hk=> ?_) ?_]
  ·congr 1
   refine decide_eq_decide.2 ⟨fun h=>List.ext_getElem? fun i=> ?_,fun h i _=>by rw[h];exact decide_eq_true rfl⟩
   by_cases hi:i<a.length
   ·simpa using h i hi
   ·rw[List.getElem?_eq_none (by omega),List.getElem?_eq_none (by omega)]
  ·simp[dS,gf,Sh.exit]
  ·have uR:k<b.length:=by omega
   simp only[dS,dec_lt,hk,decide_true,if_true,bM hk,bM uR,b9,bn (k:=k) (by omega),List.getElem?_eq_getElem hk,List.getElem?_eq_getElem uR,Option.some.injEq]
   by_cases he:a[k]=b[k] <;> simp[he,Sh.exit,Sh.next]
 ·have h1:(Sh.len a)≠(Sh.len b):=by simp only[Sh.len];omega
  have h2:¬a=b:=fun e=>hl (by rw[e])
  rw[decide_eq_true h1,decide_eq_false h2];rfl
theorem afi{a b:List an}(ha:a.length<9223372036854775807):pS a b=some (decide (a=b)):=by
 unfold pS
 by_cases hl:a.length=b.length
 ·have h1:¬(Sh.len a)≠(Sh.len b):=by simp only[Sh.len];omega
  rw[decide_eq_false h1]
  simp only[iC,if_false]
  rw[vC (b:=fun(p:Int)=>iJ a b p) a.length (fun i=>decide (a[i]? =b[i]?)) (bC (by omega)) (fun k hk=> ?_) ?_]
  ·congr 1
   refine decide_eq_decide.2 ⟨fun h=>List.ext_getElem? fun i=> ?_,fun h i _=>by rw[h];exact decide_eq_true rfl⟩
   by_cases hi:i<a.length
   ·simpa using h i hi
   ·rw[List.getElem?_eq_none (by omega),List.getElem?_eq_none (by omega)]
  ·simp[iJ,qq,Sh.exit]
  ·have uR:k<b.length:=by omega
   simp only[iJ,dec_lt,hk,decide_true,if_true,bM hk,bM uR,b9,bn (k:=k) (by omega),List.getElem?_eq_getElem hk,List.getElem?_eq_getElem uR,Option.some.injEq]
   by_cases he:a[k]=b[k] <;> simp[he,Sh.exit,Sh.next]
 ·have h1:(Sh.len a)≠(Sh.len b):=by simp only[Sh.len];omega
  have h2:¬a=b:=fun e=>hl (by rw[e])
  rw[decide_eq_true h1,decide_eq_false h2];rfl

theorem aff{o:List Int}(ho:o.length≤9223372036854775807)(t:Int):pM o t=some (pos o (fun x=>decide (x=t))):=by
 unfold pM
 rw[qD o (fun x=>decide (x=t)) (fun k=>(k:Int)) (some (-1)) (bC (by omega)) (fun k hk=> ?_) ?_,uU]
 ·simp[kV,qm]
 ·simp only[kV,dec_lt,hk,decide_true,if_true,bM hk,b9,bn (k:=k) (by omega)]
  rfl
theorem Jh{o:List Int}{t:Int}:(0≤pos o (fun x=>decide (x=t)))↔t∈o:=by
 have h:=gX o (fun x=>decide (x=t))
 rw[Bool.eq_iff_iff,decide_eq_true_eq,List.any_eq_true] at h
 rw[h]
 exact⟨fun⟨x,h1,h2⟩=>by rw[←of_decide_eq_true h2];exact h1,fun h=>⟨t,h,decide_eq_true rfl⟩⟩
theorem XI{n:Nat}(hn:n≤9223372036854775807)(o:List Int):jT o (n:Int)=some (ID n o):=by
 unfold jT
 by_cases hl:o.length=n
 ·have h1:¬(Sh.len o)≠(n:Int):=by simp only[Sh.len];omega
  rw[decide_eq_false h1]
  simp only[iC,if_false]
  rw[vC (b:=fun(p:Int)=>jr o n p) n (fun i=>decide ((i:Int)∈o)) (bC (by omega)) (fun k hk=> ?_) ?_]
  ·congr 1
   rw[Bool.eq_iff_iff,decide_eq_true_eq,u9]
   constructor
   ·intro hq
    have:=Kd hl (fun k hk=>of_decide_eq_true (hq k hk))
    exact⟨hl,this.2,this.1⟩
   ·intro p k hk
    exact decide_eq_true (p.all hk)
  ·simp[jr,qZ,Sh.exit]
  ·simp only[jr,dec_lt,hk,decide_true,if_true,aff (o:=o) (by omega),b9,bn (k:=k) (by omega)]
   by_cases hp:(k:Int)∈o
   ·have:¬pos o (fun x=>decide (x=(k:Int)))<0:=by have:=Jh.2 hp;omega
    rw[decide_eq_false this,decide_eq_true hp];rfl
   ·have:pos o (fun x=>decide (x=(k:Int)))<0:=by
     have h2:¬0≤pos o (fun x=>decide (x=(k:Int))):=fun h=>hp (Jh.1 h)
     omega
    rw[decide_eq_true this,decide_eq_false hp];rfl
 ·have h1:(Sh.len o)≠(n:Int):=by simp only[Sh.len];omega
  have h2:ID n o=false:=by
   cases hq:ID n o with
   |false=>rfl
   |true=>exact absurd (u9.1 hq).len hl
  rw[decide_eq_true h1,h2];rfl
theorem afb{h:af}(hf:Fits h){o:List Int}(p:F8 h.aC.length o)(key:Int):∀(k:Nat),k≤o.length→rj h o (k:Int) key=some (Bg h (o.take k) key):=by
 have hfl:=hf.RN
 have key':∀(k n:Nat),k≤o.length→k<n→Sh.iter (fun(p:Int)=>jt h o key p) n (dz ((k:Int) - 1))=some (Bg h (o.take k) key):=by
  intro k
  induction k with
  |zero=>
   intro n _ hn
   obtain⟨n,rfl⟩:∃m,n=m+1:=⟨n - 1,by omega⟩
   exact kj (by rw[show dz (((0:Nat):Int) - 1)= -1 from by rw[gA (by omega) (by omega)];omega];rfl)
  |succ k ih=>
   intro n hk hn
   obtain⟨n,rfl⟩:∃m,n=m+1:=⟨n - 1,by omega⟩
   have hpl:=p.len
   have hko:k<o.length:=by omega
   obtain⟨t,ht⟩:∃t:Nat,o[k]=(t:Int):=⟨o[k].toNat,by have:=p.node _ (List.getElem_mem hko);omega⟩
   have htn:t<h.aC.length:=by have:=p.node _ (List.getElem_mem hko);omega
   have hb:jt h o key (dz (((k+1:Nat):Int) - 1))=if gL (tx h t) key then some (.inr (t:Int)) else some (.inl (dz ((k:Int) - 1))):=by
    rw[show dz (((k+1:Nat):Int) - 1)=(k:Int) from by rw[gA (by omega) (by omega)];omega]
    have hw:=AA (t:=tx h t) (by have:=hf.writes _ (DY htn);omega) key
    simp only[jt,show(0:Int)≤(k:Int) by omega,decide_true,if_true,bM hko,ht,b9,vZ htn,hw]
    cases gL (tx h t) key <;> rfl
   rw[List.take_succ_eq_append_getElem hko,JP,ht]
   cases hw:gL (tx h t) key with
   |true=>rw[hw] at hb;rw[kj hb];rfl
   |false=>rw[hw] at hb;rw[hU hb];simp only[iC,if_false];exact ih n (by omega) (by omega)
 intro k hk
 unfold rj
 have hpl:=p.len
 exact key' k Sh.nU hk (bC (by omega))
theorem amK{h:af}(hf:Fits h)(hb:∀t∈h.aC,t.Reads.length≤1000000)(o:List Int):nO h o=some (if right h&&ID h.aC.length o then wu h o else []):=by
 unfold nO
 rw[FM hf,show Sh.len h.aC=((h.aC.length:Nat):Int) from rfl,XI hf.RN]
 simp only[b9]
 cases hr:right h with
 |false=>rfl
 |true=>
  cases hok:ID h.aC.length o with
  |false=>rfl
  |true=>
   have p:=u9.1 hok
   have hn:=sC hr
   simp only[Bool.not_true,iC,if_false,Bool.and_self,if_true,mO]
   refine ig (fun k=>((wu h o).take k,(k:Int))) h.aC.length _ (bC (by omega)) (fun t ht=> ?_) ?_ rfl
   ·have hat:=MI (p.all ht)
    have hpl:=p.len
    have hbd:=hb _ (DY ht)
    simp only[mL,show Sh.len h.aC=((h.aC.length:Nat):Int) from rfl,dec_lt,ht,decide_true,if_true]
    refine ig (fun i=>(i:Int)) (HU o (t:Int)) _ (bC (by omega)) (fun i hi=> ?_) ?_ rfl
    ·have hio:i<o.length:=by omega
     have hne:o[i]≠(t:Int):=fun e=>by
      have:=List.not_of_lt_findIdx (p:=fun x=>decide (x=(t:Int))) (xs:=o) hi
      simp[e] at this
     simp only[mN,bM hio,b9,decide_eq_true hne,if_true,Sh.next,bn (k:=i) (by omega)]
    ·have he:=Ge (p.all ht)
     have hne:¬o[HU o (t:Int)]≠(t:Int):=fun e=>e he
     simp only[mN,bM hat,b9,decide_eq_false hne,iC,if_false]
     have hj:mP h o ((wu h o).take t) (t:Int) (HU o (t:Int):Nat)=some (.inl ((wu h o).take (t+1),((t+1:Nat):Int))):=by
      unfold mP
      refine ig (fun i=>((tu h o t).take i,(i:Int))) (tx h t).Reads.length _ (bC (by omega)) (fun i hi=> ?_) ?_ rfl
      ·simp only[mM,vZ ht,b9,dec_lt,hi,decide_true,if_true,bM hi,afb hf p _ _ (Nat.le_of_lt hat)]
       rw[dX (by simp only[List.length_take,List.length_cons,List.length_nil];omega)]
       simp only[b9,Sh.next,bn (k:=i) (by omega)]
       have hi':i<(tu h o t).length:=by rw[Bm];exact hi
       rw[List.take_succ_eq_append_getElem hi']
       simp[tu]
      ·simp only[mM,vZ ht,b9,dec_lt,Nat.lt_irrefl,decide_false,iC,if_false,ri]
       rw[dX (by simp only[List.length_take,List.length_cons,List.length_nil];omega)]
       simp only[b9,q_,Sh.next,bn (k:=t) (by omega)]
       have ht':t<(wu h o).length:=by simp[wu,ht]
       rw[List.take_succ_eq_append_getElem ht',←Bm (o:=o),List.take_length]
       simp[wu,vm,Sh.exit]
     rw[hj]
   ·simp only[mL,show Sh.len h.aC=((h.aC.length:Nat):Int) from rfl,dec_lt,Nat.lt_irrefl,decide_false,iC,if_false,q9]
    rw[List.take_of_length_le (by simp[wu])]
end Pl
end

section
/- The statements of layer 20, in plain words: each answers true. -/

namespace Pl
open Go Go.Av G

def UC(h:af)(a b:Int):Prop:=¬(b<a∧(tx h a).bB=(tx h b).bB)
instance (h:af) (a b:Int):Decidable (UC h a b):=by unfold UC;infer_instance
def Il(h:af)(o:List Int):Bool:=decide (o.Pairwise (UC h))
theorem XX{h:af}{o:List Int}:Il h o=true↔∀(k i:Nat) (hk:k<i) (hi:i<o.length),UC h (o[k]'(by omega)) o[i]:=by
 unfold Il
 rw[decide_eq_true_eq,List.pairwise_iff_getElem]
 exact⟨fun q k i hk hi=>q k i (by omega) hi hk,fun q k i hk hi hki=>q k i hki hi⟩
theorem TZ{h:af}{o:List Int}(p:F8 h.aC.length o)(hn:h.aC.length<1000000):k9 h o=some (Il h o):=by
 unfold k9
 have hpl:=p.len
 have nat:∀k (hk:k<o.length),∃t:Nat,o[k]=(t:Int)∧t<h.aC.length:=fun k hk=>by
  have:=p.node _ (List.getElem_mem hk)
  exact⟨o[k].toNat,by omega,by omega⟩
 rw[vC (b:=fun(p:Int)=>gj h o p) o.length (fun i=>decide (∀k,k<i→(match o[k]?,o[i]? with|some a,some b=>decide (UC h a b)|_,_=>true)=true)) (bC (by omega)) (fun i hi=> ?_) ?_]
 ·congr 1
  rw[Bool.eq_iff_iff,decide_eq_true_eq,XX]
  constructor
  ·intro q k i hk hi
   have:=of_decide_eq_true (q i hi) k hk
   simpa only[List.getElem?_eq_getElem hi,List.getElem?_eq_getElem (show k<o.length by omega),decide_eq_true_eq] using this
  ·intro q i hi
   refine decide_eq_true fun k hk=> ?_
   simp only[List.getElem?_eq_getElem hi,List.getElem?_eq_getElem (show k<o.length by omega),decide_eq_true_eq]
   exact q k i hk hi
 ·simp[gj,mg,Sh.exit]
 ·simp only[gj,show Sh.len o=((o.length:Nat):Int) from rfl,dec_lt,hi,decide_true,if_true]
  rw[Ku (s:=(0:Int)) (fun k=>(k:Int)) i (fun k=>match o[k]?,o[i]? with|some a,some b=>decide (UC h a b)|_,_=>true) (some (Sum.inl ((i+1:Nat):Int)):Option (Int⊕Bool)) (some (Sum.inr false)) (bC (by omega)) (fun k hk _=> ?_) (fun _=> ?_) rfl]
  ·by_cases hq:∀k,k<i→(match o[k]?,o[i]? with|some a,some b=>decide (UC h a b)|_,_=>true)=true
   ·rw[if_pos hq,decide_eq_true hq];rfl
   ·rw[if_neg hq,decide_eq_false hq];rfl
  ·have hko:k<o.length:=by omega
   obtain⟨a,ha,han⟩:=nat k hko
   obtain⟨b,hb,hbn⟩:=nat i hi
   simp only[iM,dec_lt,hk,decide_true,if_true,bM hko,bM hi,b9,ha,hb,vZ han,vZ hbn,List.getElem?_eq_getElem hko,List.getElem?_eq_getElem hi,iN,bn (k:=k) (by omega)]
   by_cases h1:(b:Int)<(a:Int)
   ·have h1':b<a:=by omega
    by_cases h2:(tx h a).bB=(tx h b).bB
    ·have h3:¬UC h a b:=fun q=>q ⟨h1,h2⟩
     simp only[h1',h2,h3,decide_true,decide_false,if_true,iC,if_false];rfl
    ·have h3:UC h a b:=fun q=>h2 q.2
     simp only[h1',h2,h3,decide_true,decide_false,if_true,iC,if_false];rfl
   ·have h1':¬b<a:=by omega
    have h3:UC h a b:=fun q=>h1 q.1
    simp only[h1',h3,decide_true,decide_false,if_true,iC,if_false];rfl
  ·simp only[iM,dec_lt,Nat.lt_irrefl,decide_false,iC,if_false,mh,Sh.next,bn (k:=i) (by omega)]
def Cp(h:af)(o:List Int)(s:Int):Int:=match o.reverse.find? fun t=>decide ((tx h t).bB=s) with|some t=>t+1|none=>0
theorem BZ{h:af}{o:List Int}{t s:Int}:Cp h (o++[t]) s=if(tx h t).bB=s then t+1 else Cp h o s:=by
 unfold Cp
 rw[List.reverse_append,List.reverse_singleton,List.singleton_append,List.find?_cons]
 by_cases hs:(tx h t).bB=s
 ·simp[hs]
 ·simp[hs]
theorem T6{h:af}:∀{o:List Int},o.Nodup→(∀a∈o,0≤a)→((∀k (hk:k<o.length),Cp h (o.take k) (tx h o[k]).bB≤o[k])↔o.Pairwise (UC h)):=by
 intro o hd hpos
 constructor
 ·intro q
  have key:∀i (hi:i<o.length),∀k (hk:k<i),(tx h (o[k]'(by omega))).bB=(tx h o[i]).bB→o[k]'(by omega)<o[i]:=by
   intro i
   induction i using Nat.strongRecOn with
   |ind i ih=>
    intro hi k hk hs
    have h1:=q i hi
    -- the last one of that session
    have aqV:∀(m:Nat) (hm:m≤i),(∃k,∃hk:k<m,(tx h (o[k]'(by omega))).bB=(tx h o[i]).bB)→∃j,∃hj:j<m,(tx h (o[j]'(by omega))).bB=(tx h o[i]).bB∧Cp h (o.take m) (tx h o[i]).bB=o[j]'(by omega)+1∧∀x (hx:x<m),j<x→(tx h (o[x]'(by omega))).bB≠(tx h o[i]).bB:=by
     intro m
     induction m with
     |zero=>intro _ ⟨k,hk,_⟩;omega
     |succ m ihm=>
      intro hm ⟨k,hk,hks⟩
      have hmo:m<o.length:=by omega
      rw[List.take_succ_eq_append_getElem hmo,BZ]
      by_cases he:(tx h o[m]).bB=(tx h o[i]).bB
      ·exact⟨m,by omega,he,if_pos he,fun x hx hjx=>by omega⟩
      ·have hkm:k<m:=by
        rcases Nat.lt_or_ge k m with hlt|hge
        ·exact hlt
        ·have:k=m:=by omega
         subst this;exact absurd hks he
       obtain⟨j,hj,a1,a2,a3⟩:=ihm (by omega) ⟨k,hkm,hks⟩
       refine⟨j,by omega,a1,by rw[if_neg he];exact a2,fun x hx hjx=> ?_⟩
       by_cases hxm:x=m
       ·subst hxm;exact he
       ·exact a3 x (by omega) hjx
    obtain⟨j,hj,a1,a2,a3⟩:=aqV i (Nat.le_refl _) ⟨k,hk,hs⟩
    have hji:o[j]'(by omega)<o[i]:=by rw[a2] at h1;omega
    rcases Nat.lt_trichotomy k j with c|c|c
    ·have:=ih j hj (by omega) k c (hs.trans a1.symm)
     omega
    ·subst c;exact hji
    ·exact absurd hs (a3 k hk c)
  rw[List.pairwise_iff_getElem]
  intro k i hk hi hki
  intro⟨h1,h2⟩
  have:=key i hi k hki h2
  omega
 ·intro q k hk
  have hb:∀(m:Nat) (hm:m≤k),Cp h (o.take m) (tx h o[k]).bB≤o[k]∨(∀x (hx:x<m),(tx h (o[x]'(by omega))).bB≠(tx h o[k]).bB):=by
   intro m
   induction m with
   |zero=>intro _;right;intro x hx;omega
   |succ m ihm=>
    intro hm
    have hmo:m<o.length:=by omega
    rw[List.take_succ_eq_append_getElem hmo,BZ]
    by_cases he:(tx h o[m]).bB=(tx h o[k]).bB
    ·left
     rw[if_pos he]
     have h1:=List.pairwise_iff_getElem.1 q m k hmo hk (by omega)
     have h2:o[m]≠o[k]:=fun e=>by have:=Rc hd hmo hk e;omega
     have h3:¬o[k]<o[m]:=fun hlt=>h1 ⟨hlt,he⟩
     omega
    ·rw[if_neg he]
     rcases ihm (by omega) with c|c
     ·exact .inl c
     ·exact .inr fun x hx=>by
       by_cases hxm:x=m
       ·subst hxm;exact he
       ·exact c x (by omega)
  by_cases h0:∃x,∃hx:x<k,(tx h (o[x]'(by omega))).bB=(tx h o[k]).bB
  ·obtain⟨x,hx,hs⟩:=h0
   rcases hb k (Nat.le_refl _) with c|c
   ·exact c
   ·exact absurd hs (c x hx)
  ·have hne:∀m,m≤k→Cp h (o.take m) (tx h o[k]).bB=0:=by
    intro m
    induction m with
    |zero=>intro _;rfl
    |succ m ihm=>
     intro hm
     have hmo:m<o.length:=by omega
     rw[List.take_succ_eq_append_getElem hmo,BZ,if_neg (fun e=>h0 ⟨m,by omega,e⟩)]
     exact ihm (by omega)
   rw[hne k (Nat.le_refl _)]
   exact hpos _ (List.getElem_mem hk)

def Rx(h:af):List (List an):=vm h.aC.length fun t:Nat=>(tx h t).Reads
def Js(h:af)(o:List Int):Bool:=right h&&ID h.aC.length o&&decide (wu h o=Rx h)&&Il h o
theorem UM{α:Type}{N:Nat}{F G:Nat→α}:vm N F=vm N G↔∀x,x<N→F x=G x:=by
 constructor
 ·intro h x hx
  have:=congrArg (fun l=>l[x]?) h
  simpa [BJ F hx,BJ G hx] using this
 ·exact tN
theorem aeA{h:af}(hf:Fits h)(hb:∀t∈h.aC,t.Reads.length≤1000000)(o:List Int):Br h o=some (Js h o):=by
 unfold Br Js
 rw[SG hf o]
 simp only[b9]
 cases hq:(right h&&ID h.aC.length o) with
 |false=>rfl
 |true=>
  rw[amr hf hb o,hq]
  simp only[Bool.and_eq_true] at hq
  obtain⟨hr,hok⟩:=hq
  have p:=u9.1 hok
  have hn:=sC hr
  have hpl:=p.len
  simp only[Bool.not_true,iC,if_false,if_true,b9,Bool.true_and]
  have YA:wH h o=some (Il h o):=by
   unfold wH
   rw[Ku (fun k=>(vm 8 (fun x:Nat=>Cp h (o.take k) x),(k:Int))) o.length (fun k=>match o[k]? with|some a=>decide (Cp h (o.take k) (tx h a).bB≤a)|none=>true) (some true) (some false) (bC (by omega)) (fun k hk _=> ?_) (fun _=> ?_) (by rw[A6];rfl)]
   ·have e:=T6 (h:=h) p.nodup (fun a ha=>(p.node a ha).1)
    unfold Il
    by_cases hs:o.Pairwise (UC h)
    ·rw[decide_eq_true hs,if_pos (fun k hk=>by
      simp only[List.getElem?_eq_getElem hk,decide_eq_true_eq];exact e.2 hs k hk)]
    ·rw[decide_eq_false hs,if_neg (fun q=>hs (e.1 fun k hk=>by
      have:=q k hk
      simpa only[List.getElem?_eq_getElem hk,decide_eq_true_eq] using this))]
   ·obtain⟨t,ht⟩:∃t:Nat,o[k]=(t:Int):=⟨o[k].toNat,by have:=p.node _ (List.getElem_mem hk);omega⟩
    have htn:t<h.aC.length:=by have:=p.node _ (List.getElem_mem hk);omega
    have hs:=XY hr htn
    obtain⟨s,hse⟩:∃s:Nat,(tx h t).bB=(s:Int):=⟨(tx h t).bB.toNat,by omega⟩
    have hs8:s<8:=by omega
    simp only[wF,show Sh.len o=((o.length:Nat):Int) from rfl,dec_lt,hk,decide_true,if_true,bM hk,ht,b9,vZ htn,hse,Gd _ hs8,List.getElem?_eq_getElem hk]
    by_cases hlt:(t:Int)<Cp h (o.take k) s
    ·have:¬Cp h (o.take k) s≤(t:Int):=by omega
     simp only[hlt,this,decide_true,decide_false,if_true,iC,if_false]
    ·have:Cp h (o.take k) s≤(t:Int):=by omega
     simp only[hlt,this,decide_true,decide_false,if_true,iC,if_false,Sh.next,bn (k:=k) (by omega),BK]
     congr 3
     refine tN fun x _=> ?_
     rw[List.take_succ_eq_append_getElem hk,BZ,ht,hse,gA (by omega) (by omega)]
     by_cases hx:x=s
     ·subst hx;rw[if_pos rfl,if_pos rfl]
     ·rw[if_neg hx,if_neg (fun e=>hx (by omega))]
   ·simp[wF,zc,Sh.exit]
  rw[Ku (s:=(0:Int)) (fun k=>(k:Int)) h.aC.length (fun k=>decide (tu h o (k:Nat)=(tx h (k:Nat)).Reads)) (some (Il h o)) (some false) (bC (by omega)) (fun k hk _=> ?_) (fun _=> ?_) rfl]
  ·by_cases he:wu h o=Rx h
   ·have:=UM.1 he
    rw[decide_eq_true he,if_pos (fun k hk=>decide_eq_true (this k hk))];rfl
   ·rw[decide_eq_false he,if_neg (fun q=>he (tN fun x hx=>of_decide_eq_true (q x hx)))];rfl
  ·have hkl:k<(wu h o).length:=by simp[wu,hk]
   have hrow:Sh.idx (wu h o) (k:Int)=some (tu h o k):=D3 _ hk
   have hbd:=hb _ (DY hk)
   simp only[wG,dec_lt,hkl,decide_true,if_true,hrow,b9,vZ hk,aq0 (a:=tu h o k) (b:=(tx h k).Reads) (by rw[Bm];omega),bn (k:=k) (by omega)]
   cases decide (tu h o k=(tx h k).Reads) <;> rfl
  ·have hkl:¬h.aC.length<(wu h o).length:=by simp[wu]
   simp only[wG,dec_lt,hkl,decide_false,iC,if_false,YA]
theorem ae9{h:af}(hf:Fits h)(hb:∀t∈h.aC,t.Reads.length≤1000000)(o:List Int):pR h o=some (Js h o):=by
 unfold pR Js
 rw[FM hf,show Sh.len h.aC=((h.aC.length:Nat):Int) from rfl,XI hf.RN]
 simp only[b9]
 cases hr:right h with
 |false=>rfl
 |true=>
  cases hok:ID h.aC.length o with
  |false=>rfl
  |true=>
   have p:=u9.1 hok
   have hn:=sC hr
   simp only[Bool.not_true,iC,if_false,Bool.and_self,Bool.true_and,k7,amK hf hb o,hr,hok,if_true,b9]
   rw[Ku (s:=(0:Int)) (fun k=>(k:Int)) h.aC.length (fun k=>decide (tu h o (k:Nat)=(tx h (k:Nat)).Reads)) (some (Il h o)) (some false) (bC (by omega)) (fun k hk _=> ?_) (fun _=> ?_) rfl]
   ·by_cases he:wu h o=Rx h
    ·have:=UM.1 he
     rw[decide_eq_true he,if_pos (fun k hk=>decide_eq_true (this k hk))];rfl
    ·rw[decide_eq_false he,if_neg (fun q=>he (tN fun x hx=>of_decide_eq_true (q x hx)))];rfl
   ·have hrow:Sh.idx (wu h o) (k:Int)=some (tu h o k):=D3 _ hk
    have hbd:=hb _ (DY hk)
    simp only[kZ,show Sh.len h.aC=((h.aC.length:Nat):Int) from rfl,dec_lt,hk,decide_true,if_true,hrow,b9,vZ hk,afi (a:=(tx h k).Reads) (b:=tu h o k) (by omega),bn (k:=k) (by omega)]
    rw[show decide ((tx h k).Reads=tu h o k)=decide (tu h o k=(tx h k).Reads) from decide_eq_decide.2 ⟨Eq.symm,Eq.symm⟩]
    cases decide (tu h o k=(tx h k).Reads) <;> rfl
   ·simp only[kZ,show Sh.len h.aC=((h.aC.length:Nat):Int) from rfl,dec_lt,Nat.lt_irrefl,decide_false,iC,if_false,qp,TZ p (by omega),b9]

theorem Th{h:af}{m:Int}(hf:few h m=true):∀t∈h.aC,t.Reads.length≤1000000:=fun t ht=>by
 simp only[few,Bool.and_eq_true,decide_eq_true_eq,List.all_eq_true] at hf
 have:=(hf.2 t ht).2;omega
theorem Y6{h:af}{m:Int}(hf:few h m=true):(h.aC.length:Int)≤m:=by
 simp only[few,Bool.and_eq_true,decide_eq_true_eq] at hf;exact hf.1

def aq6(h:af)(o:List Int):af:=⟨vm h.aC.length fun t:Nat=>⟨(tx h t).bB,(tx h t).bH,tu h o t⟩⟩
end Pl
end

section
/- The rows of writers. -/
namespace Pl
open Go Go.Av G

def UD(h:af)(key:Int)(n:Nat):List Int:=((List.range n).filter fun(t:Nat)=>gL (tx h t) key).map fun(t:Nat)=>(t:Int)
def vP(h:af)(key:Int):List Int:=UD h key h.aC.length
theorem Yj(h:af)(key:Int)(n:Nat):UD h key (n+1)=if gL (tx h n) key then UD h key n++[(n:Int)] else UD h key n:=by
 unfold UD
 rw[List.range_succ,List.filter_append,List.map_append]
 cases hw:gL (tx h n) key <;> simp[List.filter,hw]
theorem NO(h:af)(key:Int)(n:Nat):(UD h key n).length≤n:=by
 unfold UD
 rw[List.length_map]
 exact Nat.le_trans (List.length_filter_le _ _) (by simp)
theorem Eo{h:af}{key t:Int}:t∈vP h key↔(0≤t∧t<h.aC.length)∧gL (tx h t) key=true:=by
 unfold vP UD
 simp only[List.mem_map,List.mem_filter,List.mem_range]
 constructor
 ·rintro⟨n,⟨h1,h2⟩,rfl⟩;exact⟨⟨by omega,by omega⟩,h2⟩
 ·rintro⟨⟨h1,h2⟩,h3⟩
  refine⟨t.toNat,⟨by omega, ?_⟩,by omega⟩
  rw[show((t.toNat:Nat):Int)=t by omega];exact h3
theorem KI(h:af)(key:Int):(vP h key).Pairwise (· < ·):=by
 unfold vP UD
 refine List.Pairwise.map _ (fun a b h=> ?_) (List.Pairwise.filter _ List.pairwise_lt_range)
 exact Int.ofNat_lt.2 h
theorem Ev(h:af)(key:Int):(vP h key).Nodup:=(KI h key).imp fun h=>by omega
theorem Bj{h:af}(hf:Fits h)(hn:h.aC.length≤1000000)(key:Int):vj h key=some (vP h key):=by
 unfold vj
 refine c6 (fun k=>UD h key k) h.aC.length _ (bC (by omega)) (fun k hk=> ?_) ?_ (by simp[UD])
 ·have hx:Sh.idx h.aC (k:Int)=some (tx h k):=vZ hk
  have hw:=hf.writes _ (DY hk)
  have hl:=NO h key k
  simp only[uX,bW,dec_lt,hk,decide_true,if_true,hx,b9,Xi (show(tx h k).bH.length<9223372036854775808 by omega)]
  rw[show(tx h k).bH.any (fun x=>decide (key=x))=gL (tx h k) key from rfl,Yj,dX (by simp;omega)]
  unfold uY
  cases gL (tx h k) key <;> simp[Sh.next,bn (k:=k) (by omega)]
 ·simp[uX,xM,bW,vP]

theorem aeG{c:List Int}(hc:c.length≤1000000):cq c=some (Sh.sK c):=by
 unfold cq ee dG
 have:cE [] c=some c:=by
  unfold cE
  refine c6 (fun k=>c.take k) c.length _ (bC (by omega)) (fun k hk=> ?_) ?_ (by simp)
  ·simp only[cu,jM,bW,dec_lt,hk,decide_true,if_true,bM hk,b9]
   rw[dX (by simp;omega)]
   simp only[b9,bn (k:=k) (by omega),Sh.next]
   rw[List.take_add_one,List.getElem?_eq_getElem hk,Option.toList_some]
  ·simp[cu,bW]
 rw[this]
 have h2:Sh.sort c=some (Sh.sK c):=by unfold Sh.sort;rw[if_pos (by omega)]
 simp only[b9,h2]
theorem sorted_perm{o:List Int}:(∀k,k<o.length→(Sh.sK o).getD k 0=(k:Int))↔ID o.length o=true:=by
 rw[u9]
 have hp:=Sh.rP o
 have hl:=hp.length_eq
 constructor
 ·intro h
  have hr:Sh.sK o=(List.range o.length).map fun(k:Nat)=>(k:Int):=by
   apply List.ext_getElem
   ·simp[hl]
   ·intro i h1 h2
    have:=h i (by omega)
    simpa [List.getD,List.getElem?_eq_getElem h1] using this
  rw[hr] at hp
  refine⟨rfl,fun a ha=> ?_, ?_⟩
  ·have:=hp.mem_iff.2 ha
   simp at this
   obtain⟨k,hk,rfl⟩:=this
   omega
  ·exact hp.nodup_iff.1 (List.Pairwise.map _ (fun a b h=>by omega) List.nodup_range)
 ·intro p k hk
  have hr:Sh.sK o=(List.range o.length).map fun(k:Nat)=>(k:Int):=by
   refine Sh.Ce ?_ (Sh.y8 o) (List.Pairwise.map _ (fun a b h=>by omega) List.pairwise_le_range)
   refine hp.trans ?_
   rw[List.perm_ext_iff_of_nodup p.nodup (List.Pairwise.map _ (fun a b h=>by omega) List.nodup_range)]
   intro a
   constructor
   ·intro ha
    have:=p.node a ha
    exact List.mem_map.2 ⟨a.toNat,List.mem_range.2 (by omega),by omega⟩
   ·intro ha
    obtain⟨k,hk,rfl⟩:=List.mem_map.1 ha
    exact p.all (List.mem_range.1 hk)
  rw[hr]
  simp[List.getD,hk]

theorem JJ:∀(o:List Int) (x:Int) (i:Nat),x∈o→Lib.idxFrom o x i=((i+HU o x:Nat):Int)
 |[],x,i,h=>by cases h
 |y::o,x,i,h=>by
  unfold Lib.idxFrom HU
  rw[List.findIdx_cons]
  by_cases hy:y=x
  ·simp[hy]
  ·have hm:x∈o:=by
    rcases List.mem_cons.1 h with e|e
    ·exact absurd e.symm hy
    ·exact e
   simp only[hy,if_false,decide_false,cond_false]
   rw[JJ o x (i+1) hm]
   unfold HU
   omega
theorem Sp{o:List Int}{x:Int}(h:x∈o):Sh.ix o x=(HU o x:Int):=by
 unfold Sh.ix Lib.idxOf
 rw[JJ o x 0 h];simp
def rowAt(h:af)(o:List Int)(k:Nat):Option aP:=if vP h k=[] then none else some ⟨k,Sh.AI o (vP h k)⟩
def PL(h:af)(o:List Int):List aP:=(List.range 16).filterMap (rowAt h o)
theorem KH{h:af}{o:List Int}(p:F8 h.aC.length o){key t:Int}(ht:t∈vP h key):t∈o:=by
 have:=(Eo.1 ht).1
 have:=p.all (k:=t.toNat) (by omega)
 rwa [show((t.toNat:Nat):Int)=t by omega] at this
theorem MJ{o:List Int}{a b:Int}(ha:a∈o)(hb:b∈o)(e:HU o a=HU o b):a=b:=by
 have h1:=Ge ha
 have h2:=Ge hb
 rw[←h1,←h2]
 congr 1
theorem O4{h:af}{o:List Int}(p:F8 h.aC.length o)(key:Int):((vP h key).map (Sh.ix o)).Nodup:=by
 rw[List.Nodup,List.pairwise_map]
 refine List.Pairwise.imp_of_mem (fun{a b} ha hb hab e=>hab ?_) (Ev h key)
 rw[Sp (KH p ha),Sp (KH p hb)] at e
 exact MJ (KH p ha) (KH p hb) (by omega)
theorem amu{h:af}(hf:Fits h)(hn:h.aC.length≤1000000){o:List Int}(ho:o.length≤1000000):GX h o=some (if right h&&ID h.aC.length o then PL h o else []):=by
 unfold GX
 have e0:fB o=some ()∨True:=.inr trivial
 rw[aeG ho,HC hf]
 unfold fB
 simp only[b9]
 have j1t:∀r,xy h o r true=some []:=fun _=>rfl
 cases hr:right h with
 |false=>simp[j1t]
 |true=>
  simp only[Bool.not_true,iC,if_false,Bool.true_and,bW]
  by_cases hl:o.length=h.aC.length
  ·have hd:decide ((o.length:Int)≠(h.aC.length:Int))=false:=by simp[hl]
   rw[hd]
   unfold xy
   simp only[iC,if_false]
   have hsl:(Sh.sK o).length=o.length:=(Sh.rP o).length_eq
   have hsc:Sh.loop (fun(p:Int)=>um h o (Sh.sK o) p) 0=if ∀k,k<o.length→(Sh.sK o).getD k 0=(k:Int) then zZ h o else some []:=by
    by_cases hall:∀k,k<o.length→(Sh.sK o).getD k 0=(k:Int)
    ·rw[if_pos hall]
     refine ig (fun k=>((k:Nat):Int)) o.length _ (bC (by omega)) (fun k hk=> ?_) ?_ rfl
     ·have h1:=hall k hk
      have uR:k<(Sh.sK o).length:=by omega
      have h2:(Sh.sK o)[k]=(k:Int):=by simpa [List.getD,List.getElem?_eq_getElem uR] using h1
      simp only[um,bW,hsl,dec_lt,hk,decide_true,if_true,bM uR,b9,h2,ne_eq,not_true,decide_false,iC,if_false,bn (k:=k) (by omega),Sh.next]
     ·simp[um,bW,hsl]
    ·rw[if_neg hall]
     have hex:∃k,k<o.length∧(Sh.sK o).getD k 0≠(k:Int):=by
      apply Classical.byContradiction
      intro hne
      exact hall fun k hk=>Classical.byContradiction fun hc=>hne ⟨k,hk,hc⟩
     obtain⟨k,⟨hk,hne⟩,hmin⟩:=exists_least _ hex
     refine ig (fun k=>((k:Nat):Int)) k _ (bC (by omega)) (fun q hq=> ?_) ?_ rfl
     ·have hq2:q<(Sh.sK o).length:=by omega
      have h2:(Sh.sK o)[q]=(q:Int):=by
       apply Classical.byContradiction
       intro hc
       have:=hmin q ⟨by omega,by simpa [List.getD,List.getElem?_eq_getElem hq2] using hc⟩
       omega
      have hq3:q<o.length:=by omega
      simp only[um,bW,hsl,dec_lt,hq3,decide_true,if_true,bM hq2,b9,h2,ne_eq,not_true,decide_false,iC,if_false,bn (k:=q) (by omega),Sh.next]
     ·have uR:k<(Sh.sK o).length:=by omega
      have h2:¬(k:Int)=(Sh.sK o)[k]:=fun hc=>hne (by simp[List.getD,List.getElem?_eq_getElem uR,←hc])
      simp only[um,bW,hsl,dec_lt,hk,decide_true,if_true,bM uR,b9,h2,ne_eq,not_false_eq_true]
   rw[hsc]
   by_cases hok:ID h.aC.length o=true
   ·rw[if_pos (by rw[←hl] at hok;exact sorted_perm.2 hok),hok,if_pos rfl]
    have p:=u9.1 hok
    unfold zZ
    refine c6 (fun k=>(List.range k).filterMap (rowAt h o)) 16 _ (bC (by omega)) (fun k hk=> ?_) ?_ (by simp)
    ·have hlt:decide ((k:Int)<16)=true:=decide_eq_true (by omega)
     have hwl:=NO h k h.aC.length
     have hfl:((List.range k).filterMap (rowAt h o)).length≤k:=Nat.le_trans (List.length_filterMap_le _ _) (by simp)
     simp only[zY,hlt,if_true,Bj hf hn,b9,bW]
     rw[List.range_succ,List.filterMap_append]
     by_cases hw:vP h k=[]
     ·have:rowAt h o k=none:=by unfold rowAt;rw[if_pos hw]
      simp[hw,this,xz,Sh.next,bn (k:=k) (by omega)]
     ·have hra:rowAt h o k=some ⟨k,Sh.AI o (vP h k)⟩:=by unfold rowAt;rw[if_neg hw]
      have hz:decide (((vP h k).length:Int)=0)=false:=by
       have:=List.length_pos_iff.2 hw
       simp;omega
      have hone:o≠[]:=by
       obtain⟨t,ht⟩:=List.exists_mem_of_ne_nil _ hw
       exact List.ne_nil_of_mem (KH p ht)
      have hs:Sh.Cd o (vP h k)=some (Sh.AI o (vP h k)):=by
       unfold Sh.Cd
       rw[if_pos ⟨by unfold vP;omega,hone,by omega,O4 p k⟩]
      simp only[hz,iC,if_false,hs,b9]
      rw[dX (by simp;omega)]
      simp[hra,xz,Sh.next,bn (k:=k) (by omega)]
    ·simp[zY,Cc,PL]
   ·have hok':ID h.aC.length o=false:=by simpa using hok
    rw[if_neg (by rw[←hl] at hok;exact fun hc=>hok (sorted_perm.1 hc)),hok']
    rfl
  ·have hd:decide ((o.length:Int)≠(h.aC.length:Int))=true:=by simp;omega
   have hok:ID h.aC.length o=false:=by
    cases hc:ID h.aC.length o with
    |false=>rfl
    |true=>exact absurd (u9.1 hc).len hl
   rw[hd,j1t,hok]
   rfl
end Pl
end

section
/- The way through a graph, node by node: it says whether something leads back. -/
namespace Pl
open Go Go.Av G

inductive Path (N:Nat) (nx:Nat→List Int):Nat→Nat→Prop
 |one {x y:Nat}:x<N→y<N→(y:Int)∈nx x→Path N nx x y
 |more {x y z:Nat}:Path N nx x y→z<N→(z:Int)∈nx y→Path N nx x z
theorem Path.lt{N:Nat}{nx:Nat→List Int}{x y:Nat}(h:Path N nx x y):x<N∧y<N:=by
 induction h with
 |one a b _=>exact⟨a,b⟩
 |more _ b _ ih=>exact⟨ih.1,b⟩
def Cu(N:Nat)(c:Nat→Int):Nat:=(List.range N).countP fun y=>decide (c y=0)
theorem Yi(N:Nat)(c:Nat→Int):Cu N c≤N:=by
 unfold Cu
 have:=List.countP_le_length (p:=fun y=>decide (c y=0)) (l:=List.range N)
 simpa using this
theorem Uk{N:Nat}{c:Nat→Int}{x:Nat}{v:Int}(hx:x<N)(h0:c x=0)(hv:v≠0):Cu N (fun y=>if y=x then v else c y)+1=Cu N c:=by
 unfold Cu
 induction N with
 |zero=>omega
 |succ N ih=>
  rw[List.range_succ,List.countP_append,List.countP_append]
  simp only[List.countP_singleton]
  by_cases e:N=x
  ·subst e
   have:(List.range N).countP (fun y=>decide ((if y=N then v else c y)=0))=(List.range N).countP (fun y=>decide (c y=0)):=by
    refine List.countP_congr fun y hy=> ?_
    have:y≠N:=by have:=List.mem_range.1 hy;omega
    simp[this]
   rw[this]
   simp[h0,hv]
  ·have hh:=ih (by omega)
   simp only[e,if_false]
   simp only[] at hh
   have e2:∀(a b d:Nat),a+1=b→a+d+1=b+d:=by omega
   exact e2 _ _ _ hh
theorem RS{N:Nat}{c d:Nat→Int}(h:∀y,y<N→c y≠0→d y≠0):Cu N d≤Cu N c:=by
 unfold Cu
 refine List.countP_mono_left fun y hy hd=> ?_
 simp only[decide_eq_true_eq] at hd ⊢
 exact Classical.byContradiction fun hc=>h y (List.mem_range.1 hy) hc hd

structure Col (N:Nat) (nx:Nat→List Int) (c:Nat→Int):Prop where
 on:∀y,y<N→c y=0∨c y=1∨c y=2
 shut:∀y,y<N→c y=2→∀z:Nat,z<N→(z:Int)∈nx y→c z=2
 back:∀y,y<N→c y=2→¬Path N nx y y
theorem kq{T:List ai}{P:List Int}{N:Nat}{nx:Nat→List Int}(hnx:∀x,x<N→nY (x:Int) T P=some (nx x))(hin:∀x,x<N→∀y∈nx x,0≤y∧y<(N:Int))(hlen:∀x,x<N→(nx x).length≤1000000):
  ∀(f x:Nat) (c:Nat→Int),x<N→Cu N c<f→Col N nx c→(∀g,g<N→c g=1→Path N nx g x)→
   ∃c' b,nX f (x:Int) T P (vm N c)=some (vm N c',b)∧(∀y,y<N→c y≠0→c' y≠0)∧
    (b=true→Col N nx c'∧(∀y,y<N→(c' y=1↔c y=1))∧(∀y,y<N→c y=2→c' y=2)∧c' x=2)∧(b=false→∃z,Path N nx z z):=by
 intro f
 induction f with
 |zero=>intro x c _ h;omega
 |succ f ih=>
  intro x c hx hw hc hg
  show ∃c' b,pY (nX f) (x:Int) T P (vm N c)=_∧_
  unfold pY
  simp only[D3 c hx,b9]
  rcases hc.on x hx with h0|h1|h2
  · -- it is new
   have hd:decide ((0:Int)<c x)=false:=by rw[h0];rfl
   simp only[hd,iC,if_false,hnx x hx,b9,BK]
   have hs1:∃c1:Nat→Int,c1=fun y=>if y=x then 1 else c y:=⟨_,rfl⟩
   obtain⟨c1,Si⟩:=hs1
   rw[←Si]
   have w1:Cu N c1+1=Cu N c:=by rw[Si];exact Uk hx h0 (by decide)
   have c1x:c1 x=1:=by rw[Si];simp
   have c1o:∀y,y≠x→c1 y=c y:=fun y hy=>by rw[Si];simp[hy]
   have aox:Col N nx c1:=by
    refine⟨fun y hy=> ?_,fun y hy h z hz e=> ?_,fun y hy h=> ?_⟩
    ·by_cases e:y=x
     ·subst e;exact .inr (.inl c1x)
     ·rw[c1o y e];exact hc.on y hy
    ·have hyx:y≠x:=fun e=>by subst e;rw[c1x] at h;cases h
     rw[c1o y hyx] at h
     have h2:=hc.shut y hy h z hz e
     have hzx:z≠x:=fun e=>by subst e;rw[h0] at h2;cases h2
     rw[c1o z hzx];exact h2
    ·have hyx:y≠x:=fun e=>by subst e;rw[c1x] at h;cases h
     rw[c1o y hyx] at h
     exact hc.back y hy h
   -- the rounds
   have rounds:∀(m k fu:Nat) (ck:Nat→Int),k+m=(nx x).length→m<fu→Col N nx ck→(∀y,y<N→(ck y=1↔c1 y=1))→(∀y,y<N→c1 y≠0→ck y≠0)→(∀y,y<N→c y=2→ck y=2)→(∀j (hj:j<(nx x).length),j<k→ck (nx x)[j].toNat=2)→
     ∃c' b,Sh.iter (fun(p:(List Int)×Int)=>lZ (nX f) (x:Int) T P (nx x) p.1 p.2) fu (vm N ck,(k:Int))=some (vm N c',b)∧(∀y,y<N→c y≠0→c' y≠0)∧
      (b=true→Col N nx c'∧(∀y,y<N→(c' y=1↔c y=1))∧(∀y,y<N→c y=2→c' y=2)∧c' x=2)∧(b=false→∃z,Path N nx z z):=by
    intro m
    induction m with
    |zero=>
     intro k fu ck hk hfu col Y_ hwh hbl hdone
     obtain⟨fu,rfl⟩:∃q,fu=q+1:=⟨fu - 1,by omega⟩
     refine⟨fun y=>if y=x then 2 else ck y,true, ?_,fun y hy hne=> ?_,fun _=>⟨⟨fun y hy=> ?_,fun y hy h z hz e=> ?_,fun y hy h p=> ?_⟩,fun y hy=> ?_,fun y hy h=> ?_,by simp⟩,fun h=>by cases h⟩
     ·refine(g_ (X:=sD (x:Int) (vm N ck)) ?_).trans ?_
      ·simp only[lZ]
       rw[if_neg (by simp[Sh.len];omega)]
      ·unfold sD
       rw[D3 ck hx,b9,BK]
     ·by_cases e:y=x
      ·simp[e]
      ·simp only[e,if_false]
       exact hwh y hy (by rw[c1o y e];exact hne)
     ·by_cases e:y=x
      ·simp[e]
      ·simp only[e,if_false];exact col.on y hy
     ·by_cases ez:z=x
      ·simp[ez]
      ·simp only[ez,if_false]
       by_cases ey:y=x
       ·subst ey
        obtain⟨j,hj,he⟩:=List.getElem_of_mem e
        have:=hdone j hj (by omega)
        rw[he,Int.toNat_natCast] at this
        exact this
       ·simp only[ey,if_false] at h
        exact col.shut y hy h z hz e
     ·by_cases ey:y=x
      ·subst ey
       -- from the first step on all is black
       have first:∀{a b:Nat},Path N nx a b→a=y→ck b=2:=by
        intro a b q
        induction q with
        |one _ hb e=>
         intro ea;subst ea
         obtain⟨j,hj,he⟩:=List.getElem_of_mem e
         have:=hdone j hj (by omega)
         rw[he,Int.toNat_natCast] at this
         exact this
        |more q hb e ih2=>intro ea;exact col.shut _ q.lt.2 (ih2 ea) _ hb e
       have h2:=first p rfl
       have h3:=(Y_ y hx).2 c1x
       rw[h3] at h2;cases h2
      ·simp only[ey,if_false] at h
       exact col.back y hy h p
     ·by_cases e:y=x
      ·subst e;simp[h0]
      ·simp only[e,if_false]
       rw[Y_ y hy,c1o y e]
     ·by_cases e:y=x
      ·subst e;rw[h0] at h;cases h
      ·simp only[e,if_false];exact hbl y hy h
    |succ m ihm=>
     intro k fu ck hk hfu col Y_ hwh hbl hdone
     obtain⟨fu,rfl⟩:∃q,fu=q+1:=⟨fu - 1,by omega⟩
     have uR:k<(nx x).length:=by omega
     have hy:=hin x hx _ (List.getElem_mem uR)
     have hl:=hlen x hx
     obtain⟨y,hyy⟩:∃y:Nat,(nx x)[k]=(y:Int):=⟨(nx x)[k].toNat,by omega⟩
     have hyN:y<N:=by omega
     have hmem:(y:Int)∈nx x:=by rw[←hyy];exact List.getElem_mem uR
     have wk:Cu N ck<f:=by
      have:=RS (N:=N) (c:=c1) (d:=ck) hwh
      omega
     obtain⟨c2,b,e1,e2,e3,e4⟩:=ih y ck hyN wk col (fun g hgN hgg=>by
      have hg2:=(Y_ g hgN).1 hgg
      by_cases e:g=x
      ·subst e;exact .one hgN hyN hmem
      ·rw[c1o g e] at hg2
       exact .more (hg g hgN hg2) hyN hmem)
     have body:lZ (nX f) (x:Int) T P (nx x) (vm N ck) (k:Int)=if b then some (.inl (vm N c2,((k+1:Nat):Int))) else some (.inr (vm N c2,false)):=by
      simp only[lZ,bW,dec_lt,uR,decide_true,if_true,bM uR,b9,hyy,e1]
      cases b
      ·simp[Sh.exit]
      ·simp[Sh.next,bn (k:=k) (by omega)]
     cases b with
     |false=>
      refine⟨c2,false,kj (by simpa using body),fun z hz hne=>e2 z hz ?_,(fun h=>by cases h),e4⟩
      by_cases e:z=x
      ·exact hwh z hz (by subst e;rw[c1x];decide)
      ·exact hwh z hz (by rw[c1o z e];exact hne)
     |true=>
      obtain⟨f1,f2,f3,f4⟩:=e3 rfl
      obtain⟨c3,b3,g1,g2⟩:=ihm (k+1) fu c2 (by omega) (by omega) f1 (fun z hz=>(f2 z hz).trans (Y_ z hz)) (fun z hz hne=>e2 z hz (hwh z hz hne)) (fun z hz h=>f3 z hz (hbl z hz h)) (fun j hj hjk=>by
       by_cases e:j=k
       ·subst e
        rw[hyy,Int.toNat_natCast];exact f4
       ·have To:=hin x hx _ (List.getElem_mem hj)
        exact f3 _ (by omega) (hdone j hj (by omega)))
      exact⟨c3,b3,(hU (by simpa using body)).trans g1,g2⟩
   have hl:=hlen x hx
   obtain⟨c',b,r1,r2⟩:=rounds (nx x).length 0 Sh.nU c1 (by omega) (bC (by omega)) aox (fun y _=>Iff.rfl) (fun y _ h=>h) (fun y hy h=>by
    have:y≠x:=fun e=>by subst e;rw[h0] at h;cases h
    rw[c1o y this];exact h) (fun j _ hj=>by omega)
   exact⟨c',b,r1,r2⟩
  · -- it is being gone through
   have hd:decide ((0:Int)<c x)=true:=by rw[h1];rfl
   have L8:decide (c x=2)=false:=by rw[h1];rfl
   simp only[hd,if_true,L8]
   exact⟨c,false,rfl,fun _ _ h=>h,(fun h=>by cases h),fun _=>⟨x,hg x hx h1⟩⟩
  · -- it is done
   have hd:decide ((0:Int)<c x)=true:=by rw[h2];rfl
   have L8:decide (c x=2)=true:=by rw[h2];rfl
   simp only[hd,if_true,L8]
   exact⟨c,true,rfl,fun _ _ h=>h,fun _=>⟨hc,fun _ _=>Iff.rfl,fun _ _ h=>h,h2⟩,fun h=>by cases h⟩
theorem Y3{h:af}{P:List Int}{nx:Nat→List Int}(hN:h.aC.length≤1000000)(hnx:∀x,x<h.aC.length→nY (x:Int) h.aC P=some (nx x))(hin:∀x,x<h.aC.length→∀y∈nx x,0≤y∧y<(h.aC.length:Int))(hlen:∀x,x<h.aC.length→(nx x).length≤1000000):
  ∃b,vF h P=some b∧(b=true↔∀z,¬Path h.aC.length nx z z):=by
 unfold vF
 rw[bW,acs (by omega) (by omega),b9,A6]
 have rounds:∀(m k fu:Nat) (ck:Nat→Int),k+m=h.aC.length→m<fu→Col h.aC.length nx ck→(∀y,y<h.aC.length→ck y≠1)→(∀j,j<k→ck j=2)→
   ∃b,Sh.iter (fun(p:(List Int)×Int)=>uk h P (vm h.aC.length fun _=>0) p.1 p.2) fu (vm h.aC.length ck,(k:Int))=some b∧(b=true↔∀z,¬Path h.aC.length nx z z):=by
  intro m
  induction m with
  |zero=>
   intro k fu ck hk hfu col hg hd
   obtain⟨fu,rfl⟩:∃q,fu=q+1:=⟨fu - 1,by omega⟩
   refine⟨true,(g_ (X:=AG) ?_).trans rfl,fun _ z p=> ?_,fun _=>rfl⟩
   ·simp only[uk,bW,IV]
    rw[if_neg (by simp;omega)]
   ·exact col.back z p.lt.1 (hd z (by have:=p.lt.1;omega)) p
  |succ m ih=>
   intro k fu ck hk hfu col hg hd
   obtain⟨fu,rfl⟩:∃q,fu=q+1:=⟨fu - 1,by omega⟩
   have uR:k<h.aC.length:=by omega
   have hwl:=Yi h.aC.length ck
   obtain⟨c2,b,e1,e2,e3,e4⟩:=kq hnx hin hlen Sh.nU k ck uR (bC (by omega)) col (fun g hgN hgg=>absurd hgg (hg g hgN))
   have body:uk h P (vm h.aC.length fun _=>0) (vm h.aC.length ck) (k:Int)=if b then some (.inl (vm h.aC.length c2,((k+1:Nat):Int))) else some (.inr false):=by
    have:A1 (k:Int) h.aC P (vm h.aC.length ck)=some (vm h.aC.length c2,b):=e1
    simp only[uk,bW,IV,dec_lt,uR,decide_true,if_true,this,b9]
    cases b
    ·simp[Sh.exit]
    ·simp[Sh.next,bn (k:=k) (by omega)]
   cases b with
   |false=>
    obtain⟨z,hz⟩:=e4 rfl
    exact⟨false,kj (by simpa using body),by simp;exact⟨z,hz⟩⟩
   |true=>
    obtain⟨f1,f2,f3,f4⟩:=e3 rfl
    obtain⟨b3,g1,g2⟩:=ih (k+1) fu c2 (by omega) (by omega) f1 (fun y hy hc=>hg y hy ((f2 y hy).1 hc)) (fun j hj=>by
     by_cases e:j=k
     ·subst e;exact f4
     ·exact f3 j (by omega) (hd j (by omega)))
    exact⟨b3,(hU (by simpa using body)).trans g1,g2⟩
 exact rounds h.aC.length 0 Sh.nU (fun _=>0) (by omega) (bC (by omega)) ⟨fun _ _=>.inl rfl,fun _ _ h=>by simp at h,fun _ _ h=>by simp at h⟩ (fun _ _ h=>by simp at h) (fun j hj=>by omega)
end Pl
end

section
/- Whether rows may be, and what leads where by them. -/
namespace Pl
open Go Go.Av G

theorem amn{a b:List Int}(ha:a.length<9223372036854775807):nA a b=some (decide (a=b)):=by
 unfold nA
 by_cases hl:a.length=b.length
 ·have h1:¬(Sh.len a)≠(Sh.len b):=by simp only[Sh.len];omega
  rw[decide_eq_false h1]
  simp only[iC,if_false]
  rw[vC (b:=fun(p:Int)=>gJ a b p) a.length (fun i=>decide (a[i]? =b[i]?)) (bC (by omega)) (fun k hk=> ?_) ?_]
  ·congr 1
   refine decide_eq_decide.2 ⟨fun h=>List.ext_getElem? fun i=> ?_,fun h i _=>by rw[h];exact decide_eq_true rfl⟩
   by_cases hi:i<a.length
   ·simpa using h i hi
   ·rw[List.getElem?_eq_none (by omega),List.getElem?_eq_none (by omega)]
  ·simp[gJ,nS,Sh.exit]
  ·have uR:k<b.length:=by omega
   simp only[gJ,dec_lt,hk,decide_true,if_true,bM hk,bM uR,b9,bn (k:=k) (by omega),List.getElem?_eq_getElem hk,List.getElem?_eq_getElem uR,Option.some.injEq]
   by_cases he:a[k]=b[k] <;> simp[he,Sh.exit,Sh.next]
 ·have h1:(Sh.len a)≠(Sh.len b):=by simp only[Sh.len];omega
  have h2:¬a=b:=fun e=>hl (by rw[e])
  rw[decide_eq_true h1,decide_eq_false h2];rfl

def nW(h:af):List Nat→List aP→Bool
 |[],l=>l.isEmpty
 |k::ks,l=>if vP h k=[] then nW h ks l else match l with
  |[]=>false
  |r::l'=>decide (r.Key=(k:Int))&&(decide (vP h k=Sh.sK r.L)&&nW h ks l')
theorem NP(h:af)(key:Int):(vP h key).length≤h.aC.length:=NO h key _
theorem ZV{h:af}(hf:Fits h)(hn:h.aC.length≤1000000){l:List aP}(hl:l.length≤1000000)(hL:∀r∈l,r.L.length≤1000000):DT h l=some (right h&&nW h (List.range 16) l):=by
 unfold DT
 rw[HC hf]
 simp only[b9]
 cases hr:right h with
 |false=>rfl
 |true=>
  simp only[Bool.not_true,iC,if_false,Bool.true_and]
  have rounds:∀(m v n fu:Nat),v+m=16→m<fu→n≤l.length→n≤v→Sh.iter (fun(p:Int×Int)=>oU h l p.1 p.2) fu ((n:Int),(v:Int))=some (nW h (List.range' v m) (l.drop n)):=by
   intro m
   induction m with
   |zero=>
    intro v n fu hv hfu hn1 Zd
    obtain⟨fu,rfl⟩:∃q,fu=q+1:=⟨fu - 1,by omega⟩
    refine(g_ (X:=yq l (n:Int)) ?_).trans ?_
    ·simp only[oU]
     rw[if_neg (by simp;omega)]
    ·unfold yq
     simp only[List.range',nW]
     congr 1
     rw[Bool.eq_iff_iff,List.isEmpty_iff,List.drop_eq_nil_iff]
     simp only[Sh.len,decide_eq_true_eq]
     omega
   |succ m ih=>
    intro v n fu hv hfu hn1 Zd
    obtain⟨fu,rfl⟩:∃q,fu=q+1:=⟨fu - 1,by omega⟩
    have hlt:decide ((v:Int)<16)=true:=decide_eq_true (by omega)
    have nx:∀c:Int,vG (v:Int) c=some (.inl (c,((v+1:Nat):Int))):=fun c=>by
     unfold vG Sh.next
     rw[bn (k:=v) (by omega)]
    have hwl:=NP h v
    simp only[List.range'_succ,nW]
    by_cases hw:vP h v=[]
    ·rw[if_pos hw]
     refine(hU ?_).trans (ih (v+1) n fu (by omega) (by omega) hn1 (by omega))
     simp[oU,hlt,Bj hf hn,hw,nx]
    ·rw[if_neg hw]
     have hz:decide (((vP h v).length:Int)=0)=false:=by
      have:=List.length_pos_iff.2 hw
      simp;omega
     by_cases hend:n=l.length
     ·rw[List.drop_eq_nil_of_le (by omega)]
      refine g_ ?_
      simp only[oU,hlt,if_true,Bj hf hn,b9,bW,hz,iC,if_false,hend,decide_true,rI]
     ·have hn3:n<l.length:=by omega
      have hne:decide ((n:Int)=(l.length:Int))=false:=decide_eq_false (by omega)
      rw[List.drop_eq_getElem_cons hn3]
      have hLn:=hL _ (List.getElem_mem hn3)
      by_cases hk:l[n].Key=(v:Int)
      ·by_cases hs:vP h v=Sh.sK l[n].L
       ·have hsd:decide (vP h v=Sh.sK l[n].L)=true:=decide_eq_true hs
        simp only[hk,hsd,decide_true,Bool.true_and]
        refine(hU ?_).trans (ih (v+1) (n+1) fu (by omega) (by omega) (by omega) (by omega))
        simp only[oU,hlt,if_true,Bj hf hn,b9,bW,hz,iC,if_false,hne,bM hn3,hk,ne_eq,not_true,decide_false,aeG hLn,amn (show(vP h v).length<9223372036854775807 by omega),hsd,Bool.not_true,rI,fB]
        rw[bn (k:=n) (by omega),nx]
       ·simp only[hk,hs,decide_true,decide_false,Bool.true_and,Bool.false_and]
        refine g_ ?_
        simp only[oU,hlt,if_true,Bj hf hn,b9,bW,hz,iC,if_false,hne,bM hn3,hk,ne_eq,not_true,decide_false,aeG hLn,amn (show(vP h v).length<9223372036854775807 by omega),hs,Bool.not_false,rI,fB]
      ·simp only[hk,decide_false,Bool.false_and]
       refine g_ ?_
       simp only[oU,hlt,if_true,Bj hf hn,b9,bW,hz,iC,if_false,hne,bM hn3,hk,ne_eq,not_false_eq_true,decide_true,rI]
  have:=rounds 16 0 0 Sh.nU rfl (bC (by omega)) (by omega) (by omega)
  rw[List.range_eq_range']
  exact this
theorem DF{h:af}:∀{m v:Nat} {l:List aP},nW h (List.range' v m) l=true→(∀r∈l,((v:Int)≤r.Key∧r.Key<((v+m:Nat):Int))∧Sh.sK r.L=vP h r.Key)∧l.Pairwise (fun a b=>a.Key<b.Key)∧(∀k,v≤k→k<v+m→vP h k≠[]→∃r∈l,r.Key=(k:Int)):=by
 intro m
 induction m with
 |zero=>
  intro v l hm
  simp only[List.range',nW,List.isEmpty_iff] at hm
  subst hm
  refine⟨by simp,by simp,fun k h1 h2=>by omega⟩
 |succ m ih=>
  intro v l hm
  simp only[List.range'_succ,nW] at hm
  by_cases hw:vP h v=[]
  ·rw[if_pos hw] at hm
   obtain⟨a,b,c⟩:=ih hm
   refine⟨fun r hr=> ?_,b,fun k h1 h2 h3=> ?_⟩
   ·have:=a r hr;exact⟨⟨by omega,by omega⟩,this.2⟩
   ·have:k≠v:=fun e=>h3 (by rw[e];exact hw)
    exact c k (by omega) (by omega) h3
  ·rw[if_neg hw] at hm
   cases l with
   |nil=>cases hm
   |cons r l=>
    simp only[Bool.and_eq_true,decide_eq_true_eq] at hm
    obtain⟨hk,hs,hm⟩:=hm
    obtain⟨a,b,c⟩:=ih hm
    refine⟨fun q hq=> ?_, ?_,fun k h1 h2 h3=> ?_⟩
    ·rcases List.mem_cons.1 hq with e|e
     ·subst e;exact⟨⟨by omega,by omega⟩,by rw[hk,hs]⟩
     ·have:=a q e;exact⟨⟨by omega,by omega⟩,this.2⟩
    ·refine List.pairwise_cons.2 ⟨fun q hq=> ?_,b⟩
     have:=a q hq;omega
    ·by_cases e:k=v
     ·subst e;exact⟨r,by simp,hk⟩
     ·obtain⟨q,hq,e2⟩:=c k (by omega) (by omega) h3
      exact⟨q,by simp[hq],e2⟩

def DC(l:List aP)(k:Int):List Int:=((l.find? fun r=>decide (r.Key=k)).map (·.L)).getD []
def place(l:List aP)(k t:Int):Int:=if t∈DC l k then(HU (DC l k) t:Int)+1 else 0
def xw(l:List aP):List Int:=vm 512 fun q:Nat=>place l ((q / 32:Nat):Int) ((q % 32:Nat):Int)
theorem Ty{l:List aP}{r:aP}(hd:∀a∈l,a.Key≠r.Key)(k:Int):DC (l++[r]) k=if r.Key=k then r.L else DC l k:=by
 unfold DC
 rw[List.find?_append]
 by_cases e:r.Key=k
 ·subst e
  have:l.find? (fun a=>decide (a.Key=r.Key))=none:=by
   rw[List.find?_eq_none]
   intro a ha;simpa using hd a ha
  simp[this]
 ·simp[e]
theorem JN{l:List aP}{k:Int}(h:DC l k≠[]):∃r∈l,r.Key=k∧DC l k=r.L:=by
 unfold DC at h ⊢
 cases hf:l.find? (fun r=>decide (r.Key=k)) with
 |none=>rw[hf] at h;exact absurd rfl h
 |some r=>exact⟨r,List.mem_of_find?_eq_some hf,by simpa using List.find?_some hf,rfl⟩
theorem O6{l:List aP}(hp:l.Pairwise fun a b=>a.Key<b.Key){r:aP}(hr:r∈l):DC l r.Key=r.L:=by
 unfold DC
 induction l with
 |nil=>cases hr
 |cons a l ih=>
  rw[List.pairwise_cons] at hp
  rw[List.find?_cons]
  rcases List.mem_cons.1 hr with e|e
  ·subst e;simp
  ·have:=hp.1 r e
   have hne:¬a.Key=r.Key:=by omega
   simp only[hne,decide_false]
   exact ih hp.2 e
structure Tab (l:List aP):Prop where
 key:∀r∈l,0≤r.Key∧r.Key<16
 node:∀r∈l,∀t∈r.L,0≤t∧t<32
 nodup:∀r∈l,r.L.Nodup
 arh:l.Pairwise fun a b=>a.Key<b.Key
theorem JQ{n:Nat}{k:Nat}(h:k<n):Sh.lim n (k:Int)=some k:=by
 unfold Sh.lim
 rw[if_pos ⟨by omega,by omega⟩];simp
theorem X5{N:Nat}{F:Nat→Int}{i:Nat}{x:Int}(h:i<N):Sh.Ud (vm N F) i x=some (vm N fun q=>if q=i then x else F q):=by
 have:=BK (N:=N) F (y:=i) x
 unfold Sh.Ud
 rw[if_pos (by simpa [vm] using h),←this]
 simp[Sh.set]
theorem aeI{h:af}{l:List aP}(tb:Tab l)(hl:l.length≤1000000):Sh.loop (fun(p:(List Int)×Int)=>vD h l p.1 p.2) (List.replicate 512 0,0)=vF h (xw l):=by
 refine c6 (fun k=>xw (l.take k)) l.length _ (bC (by omega)) (fun k hk=> ?_) ?_ ?_
 ·simp only[vD,bW,dec_lt,hk,decide_true,if_true,bM hk,b9]
  obtain⟨r,hr⟩:∃r,r=l[k]:=⟨_,rfl⟩
  have hm:r∈l:=by rw[hr];exact List.getElem_mem hk
  rw[←hr]
  obtain⟨kk,hkk⟩:∃kk:Nat,r.Key=(kk:Int):=⟨r.Key.toNat,by have:=tb.key r hm;omega⟩
  have ao6:kk<16:=by have:=tb.key r hm;omega
  have hlen:r.L.length≤32:=Ng (n:=32) (tb.node r hm) (tb.nodup r hm)
  have hfin:(fun q:Nat=>if((q / 32:Nat):Int)=r.Key∧((q % 32:Nat):Int)∈r.L.take r.L.length then(HU r.L ((q % 32:Nat):Int):Int)+1 else place (l.take k) ((q / 32:Nat):Int) ((q % 32:Nat):Int))=fun q:Nat=>place (l.take (k+1)) ((q / 32:Nat):Int) ((q % 32:Nat):Int):=by
   funext q
   have hd:∀a∈l.take k,a.Key≠r.Key:=fun a ha=>by
    obtain⟨i,hi,e⟩:=List.getElem_of_mem ha
    rw[List.getElem_take] at e
    rw[List.length_take] at hi
    have:=List.pairwise_iff_getElem.1 tb.arh i k (by omega) hk (by omega)
    rw[e,←hr] at this
    omega
   have hsn:l.take (k+1)=l.take k++[r]:=by rw[List.take_add_one,List.getElem?_eq_getElem hk,hr];rfl
   unfold place
   rw[hsn,Ty hd,List.take_length]
   by_cases e:r.Key=((q / 32:Nat):Int)
   ·rw[if_pos e]
    have hdn:DC (l.take k) ((q / 32:Nat):Int)=[]:=by
     apply Classical.byContradiction
     intro hc
     obtain⟨a,ha,e2,_⟩:=JN hc
     exact hd a ha (by rw[e2,e])
    rw[hdn]
    by_cases e3:((q % 32:Nat):Int)∈r.L
    ·rw[if_pos ⟨e.symm,e3⟩,if_pos e3]
    ·rw[if_neg (fun c=>e3 c.2),if_neg e3,if_neg (by simp)]
   ·rw[if_neg e,if_neg (fun c=>e c.1.symm)]
  have body:Sh.loop (fun(p:(List Int)×Int)=>vE (k:Int) r p.1 p.2) (xw (l.take k),0)=yp (k:Int) (xw (l.take (k+1))):=by
   refine c6 (fun j=>vm 512 fun q:Nat=>if((q / 32:Nat):Int)=r.Key∧((q % 32:Nat):Int)∈r.L.take j then(HU r.L ((q % 32:Nat):Int):Int)+1 else place (l.take k) ((q / 32:Nat):Int) ((q % 32:Nat):Int)) r.L.length _ (bC (by omega)) (fun j hj=> ?_) ?_ ?_
   ·have hin:=tb.node r hm _ (List.getElem_mem hj)
    obtain⟨t,ht⟩:∃t:Nat,r.L[j]=(t:Int):=⟨r.L[j].toNat,by omega⟩
    have ap6:t<32:=by omega
    simp only[vE,bW,dec_lt,hj,decide_true,if_true,bM hj,b9,ht,hkk,JQ ao6,JQ ap6,bn (k:=j) (by omega)]
    rw[X5 (by omega)]
    simp only[b9,Sh.next]
    refine congrArg (fun X:List Int=>(some (.inl (X,((j+1:Nat):Int))):Option (((List Int)×Int)⊕_))) (tN fun q _=> ?_)
    simp only[oT hj,ht]
    by_cases e:q=kk*32+t
    ·have e1:q / 32=kk:=by omega
     have e2:q % 32=t:=by omega
     have hat:HU r.L (t:Int)=j:=by rw[←ht];exact MH (tb.nodup r hm) hj
     rw[if_pos e,e1,e2,if_pos ⟨rfl,.inr rfl⟩,hat];simp
    ·rw[if_neg e]
     have:((((q / 32:Nat):Int)=(kk:Int))∧(((q % 32:Nat):Int)∈r.L.take j∨((q % 32:Nat):Int)=(t:Int)))↔((((q / 32:Nat):Int)=(kk:Int))∧((q % 32:Nat):Int)∈r.L.take j):=by
      constructor
      ·rintro⟨a,b|b⟩
       ·exact⟨a,b⟩
       ·exact absurd (show q=kk*32+t by omega) e
      ·rintro⟨a,b⟩;exact⟨a,.inl b⟩
     simp only[this]
   ·simp only[vE,bW]
    rw[if_neg (by simp),hfin];rfl
   ·refine tN fun q _=> ?_
    rw[List.take_zero,if_neg (by simp)]
  rw[body]
  unfold yp Sh.next
  rw[bn (k:=k) (by omega)]
 ·simp only[vD,bW]
  rw[if_neg (by simp),List.take_length]
 ·show List.replicate 512 0=vm 512 _
  rw[A6]
  refine tN fun q _=> ?_
  simp[place,DC]
end Pl
end

section
/- What leads where by rows; and the check. -/
namespace Pl
open Go Go.Av G

theorem Ml{h:af}(hr:right h=true){t:Nat}(ht:t<h.aC.length){r:an}(hm:r∈(tx h t).Reads):r.bT= -1∨((0≤r.bT∧r.bT<h.aC.length)∧r.bT≠(t:Int)∧gL (tx h r.bT) r.Key=true):=by
 have h1:=GQ hr ht
 simp only[Je,Bool.and_eq_true] at h1
 have h2:=AH h1.1.1.2 r hm
 simp only[there,Bool.or_eq_true,Bool.and_eq_true,decide_eq_true_eq] at h2
 rcases h2 with h2|h2
 ·exact .inl h2
 ·refine .inr ⟨h2.1.1,h2.1.2, ?_⟩
  have h3:=h2.2
  unfold tx
  have hl:r.bT.toNat<h.aC.length:=by omega
  rw[List.getElem?_eq_getElem hl] at h3 ⊢
  exact h3
def xe(l:List aP)(key a b:Int):Bool:=decide (0<place l key b)&&(decide (a<0)||(decide (0<place l key a)&&decide (place l key a<place l key b)))
def xF(h:af)(l:List aP)(x y:Int):Bool:=(decide (x<y)&&decide ((tx h x).bB=(tx h y).bB))||((tx h y).Reads.any (fun r=>decide (r.bT=x))||(tx h x).bH.any (fun key=>xe l key x y))
def GG(h:af)(l:List aP)(x y:Int):Bool:=decide (x≠y)&&(tx h x).Reads.any (fun r=>xe l r.Key r.bT y)
def WW(h:af)(l:List aP)(y:Int)(w:Nat):List Int:=((List.range w).filter fun z:Nat=>GG h l y z).map fun z:Nat=>(z:Int)
def Uz(h:af)(l:List aP)(x:Int)(v:Nat):List Int:=(List.range v).flatMap fun y:Nat=>if xF h l x y then(y:Int)::WW h l y h.aC.length else []
def nxS(h:af)(l:List aP)(x:Nat):List Int:=Uz h l x h.aC.length
theorem WX(h:af)(l:List aP)(y:Int)(w:Nat):WW h l y (w+1)=if GG h l y w then WW h l y w++[(w:Int)] else WW h l y w:=by
 unfold WW
 rw[List.range_succ,List.filter_append,List.map_append]
 cases hw:GG h l y w <;> simp[List.filter,hw]
theorem SA(h:af)(l:List aP)(y:Int)(w:Nat):(WW h l y w).length≤w:=by
 unfold WW
 rw[List.length_map]
 exact Nat.le_trans (List.length_filter_le _ _) (by simp)
theorem Pg(h:af)(l:List aP)(x:Int)(v:Nat):Uz h l x (v+1)=if xF h l x v then Uz h l x v++[(v:Int)]++WW h l v h.aC.length else Uz h l x v:=by
 unfold Uz
 rw[List.range_succ,List.flatMap_append]
 cases hw:xF h l x v <;> simp[hw]
theorem SB(h:af)(l:List aP)(x:Int)(v:Nat)(hN:h.aC.length≤32):(Uz h l x v).length≤v*33:=by
 induction v with
 |zero=>simp[Uz]
 |succ v ih=>
  rw[Pg]
  have:=SA h l v h.aC.length
  split
  ·simp only[List.length_append,List.length_cons,List.length_nil];omega
  ·omega
theorem Sx{h:af}{l:List aP}{x:Nat}{z:Int}:z∈nxS h l x↔(0≤z∧z<h.aC.length)∧(xF h l x z=true∨∃y:Nat,y<h.aC.length∧xF h l x y=true∧GG h l y z=true):=by
 unfold nxS Uz WW
 simp only[List.mem_flatMap,List.mem_range]
 constructor
 ·rintro⟨y,hy,hz⟩
  split at hz
  ·rename_i hd
   rcases List.mem_cons.1 hz with e|e
   ·subst e;exact⟨⟨by omega,by omega⟩,.inl hd⟩
   ·simp only[List.mem_map,List.mem_filter,List.mem_range] at e
    obtain⟨w,⟨hw,ho⟩,rfl⟩:=e
    exact⟨⟨by omega,by omega⟩,.inr ⟨y,hy,hd,ho⟩⟩
  ·cases hz
 ·rintro⟨⟨h0,h1⟩,hd|⟨y,hy,hd,ho⟩⟩
  ·refine⟨z.toNat,by omega, ?_⟩
   have:((z.toNat:Nat):Int)=z:=by omega
   rw[this,hd];simp
  ·refine⟨y,hy, ?_⟩
   rw[hd,if_pos rfl]
   refine List.mem_cons_of_mem _ (List.mem_map.2 ⟨z.toNat,List.mem_filter.2 ⟨List.mem_range.2 (by omega), ?_⟩,by omega⟩)
   rw[show((z.toNat:Nat):Int)=z by omega];exact ho

theorem Qb(l:List aP){k t:Nat}(hk:k<16)(ht:t<32):Sh.KB (xw l) (k*32+t)=some (place l (k:Int) (t:Int)):=by
 unfold Sh.KB xw
 rw[BJ _ (by omega),show(k*32+t) / 32=k by omega,show(k*32+t) % 32=t by omega]
theorem Xc{l:List aP}{T:List ai}{key a b:Int}(hk:0≤key∧key<16)(ha:a<32)(hb:0≤b∧b<32):o7 key a b T (xw l)=some (xe l key a b):=by
 obtain⟨k,rfl⟩:∃k:Nat,key=(k:Int):=⟨key.toNat,by omega⟩
 obtain⟨t,rfl⟩:∃t:Nat,b=(t:Int):=⟨b.toNat,by omega⟩
 have uR:k<16:=by omega
 have ht2:t<32:=by omega
 unfold o7 xe
 simp only[JQ uR,JQ ht2,b9,Qb l uR ht2]
 by_cases h1:0<place l (k:Int) (t:Int)
 ·simp only[h1,decide_true,if_true,Bool.true_and]
  by_cases h2:a<0
  ·simp[h2]
  ·obtain⟨s,rfl⟩:∃s:Nat,a=(s:Int):=⟨a.toNat,by omega⟩
   have hs2:s<32:=by omega
   simp only[h2,decide_false,iC,if_false,JQ hs2,b9,Qb l uR hs2,Bool.false_or]
   by_cases h3:0<place l (k:Int) (s:Int) <;> simp[h3]
 ·simp[h1]
section
variable {h:af} {l:List aP}
theorem Xe(hf:Fits h){x y:Int}(hy:inr h y=true):cr (tx h y).Reads x=some ((tx h y).Reads.any fun r=>decide (r.bT=x)):=by
 have hl:=hf.reads _ (sF hy)
 unfold cr dm
 rw[qD (tx h y).Reads (fun r=>decide (r.bT=x)) (fun k=>(k:Int)) (some (-1)) (bC (by omega)) (fun k hk=> ?_) ?_,uU,b9,gX]
 ·simp[ct,cS]
 ·simp only[ct,dec_lt,hk,decide_true,if_true,bM hk,b9,r_,bn (k:=k) (by omega)]
  rfl
theorem Xf(hf:Fits h)(hr:right h=true){x y:Int}(hx:inr h x=true)(hy:inr h y=true):c4 (tx h x).bH x y h.aC (xw l)=some ((tx h x).bH.any fun key=>xe l key x y):=by
 have hl:=hf.writes _ (sF hx)
 have hN:=sC hr
 have tj:=fI.1 hx
 have hy2:=fI.1 hy
 unfold c4 eF
 rw[qD (tx h x).bH (fun key=>xe l key x y) (fun k=>(k:Int)) (some (-1)) (bC (by omega)) (fun k hk=> ?_) ?_,uU,b9,gX]
 ·simp[c5,dV]
 ·have hkk:0≤(tx h x).bH[k]∧(tx h x).bH[k]<16:=by
   obtain⟨n,rfl⟩:∃n:Nat,x=(n:Int):=⟨x.toNat,by omega⟩
   exact HR hr (t:=n) (by omega) _ (List.getElem_mem hk)
  simp only[c5,dec_lt,hk,decide_true,if_true,bM hk,b9,sg,Xc (l:=l) (T:=h.aC) (a:=x) (b:=y) hkk (by omega) (by omega),bn (k:=k) (by omega)]
  rfl
theorem Xd(hf:Fits h)(hr:right h=true){x y:Int}(hx:inr h x=true)(hy:inr h y=true):rJ x y h.aC (xw l)=some (xF h l x y):=by
 have hj:∀b,jG x y h.aC (xw l) b=some (b||((tx h y).Reads.any (fun r=>decide (r.bT=x))||(tx h x).bH.any (fun key=>xe l key x y))):=fun b=>by
  unfold jG
  rw[oH hy,oH hx]
  simp only[b9,Xe hf hy,Xf hf hr hx hy]
  cases b
  ·cases(tx h y).Reads.any (fun r=>decide (r.bT=x)) <;> simp
  ·simp
 unfold rJ xF
 rw[hj,oH hx,oH hy]
 simp only[b9,hj]
 by_cases e:x<y <;> simp[e]
theorem aeE(hf:Fits h)(hr:right h=true){x y:Int}(hx:inr h x=true)(hy:inr h y=true):tA x y h.aC (xw l)=some (GG h l x y):=by
 have hl:=hf.reads _ (sF hx)
 have hN:=sC hr
 have tj:=fI.1 hx
 have hy2:=fI.1 hy
 unfold tA GG
 by_cases hxy:x=y
 ·simp[hxy]
 ·rw[oH hx]
  simp only[ne_eq,hxy,not_false_eq_true,decide_true,if_true,b9,Bool.true_and]
  unfold c9 dy
  rw[qD (tx h x).Reads (fun r=>xe l r.Key r.bT y) (fun k=>(k:Int)) (some (-1)) (bC (by omega)) (fun k hk=> ?_) ?_,uU,b9,gX]
  ·rfl
  ·simp[cA,de]
  ·have hm:=List.getElem_mem hk
   have hkk:(0≤(tx h x).Reads[k].Key∧(tx h x).Reads[k].Key<16)∧(tx h x).Reads[k].bT<32:=by
    obtain⟨n,rfl⟩:∃n:Nat,x=(n:Int):=⟨x.toNat,by omega⟩
    refine⟨GL hr (t:=n) (by omega) _ hm, ?_⟩
    rcases Ml hr (t:=n) (by omega) hm with e|e
    ·omega
    ·omega
   simp only[cA,dec_lt,hk,decide_true,if_true,bM hk,b9,tQ,Xc (l:=l) (T:=h.aC) (b:=y) hkk.1 hkk.2 (by omega),bn (k:=k) (by omega)]
   rfl
theorem amp(hf:Fits h)(hr:right h=true){x:Nat}(hx:x<h.aC.length):nY (x:Int) h.aC (xw l)=some (nxS h l x):=by
 have hN:=sC hr
 have hxi:inr h (x:Int)=true:=fI.2 ⟨by omega,by omega⟩
 unfold nY
 refine c6 (fun v=>Uz h l x v) h.aC.length _ (bC (by omega)) (fun v hv=> ?_) ?_ (by simp[Uz])
 ·have hvi:inr h (v:Int)=true:=fI.2 ⟨by omega,by omega⟩
  have hl:=SB h l x v hN
  simp only[pZ,bW,dec_lt,hv,decide_true,if_true,Xd hf hr hxi hvi,b9]
  rw[Pg]
  cases hd:xF h l x v with
  |false=>
   simp only[Bool.not_false,if_true,iC,if_false,l6,Sh.next]
   rw[bn (k:=v) (by omega)]
  |true=>
   simp only[Bool.not_true,iC,if_false,if_true]
   rw[dX (by simp;omega),b9]
   refine c6 (fun w=>Uz h l x v++[(v:Int)]++WW h l v w) h.aC.length _ (bC (by omega)) (fun w hw=> ?_) ?_ (by simp[WW])
   ·have hwi:inr h (w:Int)=true:=fI.2 ⟨by omega,by omega⟩
    have YB:=SA h l v w
    simp only[p6,bW,dec_lt,hw,decide_true,if_true,aeE hf hr hvi hwi,b9]
    rw[WX]
    cases ho:GG h l v w with
    |false=>
     simp only[iC,if_false,l7,Sh.next]
     rw[bn (k:=w) (by omega)]
    |true=>
     simp only[if_true]
     rw[dX (by simp;omega),b9]
     simp only[l7,Sh.next]
     rw[bn (k:=w) (by omega),List.append_assoc (Uz h l x v++[(v:Int)])]
   ·simp only[p6,bW]
    rw[if_neg (by simp)]
    unfold l6 Sh.next Sh.exit
    rw[bn (k:=v) (by omega)]
 ·simp only[pZ,bW]
  rw[if_neg (by simp)];rfl
theorem Me(hr:right h=true)(hm:nW h (List.range 16) l=true):Tab l:=by
 rw[List.range_eq_range'] at hm
 obtain⟨a,b,_⟩:=DF hm
 have hN:=sC hr
 refine⟨fun r hr=>by have:=(a r hr).1;omega,fun r hr t ht=> ?_,fun r hr=> ?_,b⟩
 ·have:=(Sh.rP r.L).mem_iff.2 ht
  rw[(a r hr).2] at this
  have:=(Eo.1 this).1
  omega
 ·have h1:=(Sh.rP r.L).nodup_iff
  rw[←h1,(a r hr).2]
  exact Ev h r.Key
def RZ(h:af)(l:List aP):Prop:=∃z,Path h.aC.length (nxS h l) z z
theorem ZR(hf:Fits h)(hn:h.aC.length≤1000000)(hl:l.length≤1000000)(hL:∀r∈l,r.L.length≤1000000):∃b,Bt h l=some b∧(b=true↔right h=true∧nW h (List.range 16) l=true∧¬RZ h l):=by
 unfold Bt
 rw[ZV hf hn hl hL,b9]
 cases hr:right h with
 |false=>exact⟨false,rfl,by simp⟩
 |true=>
  cases hm:nW h (List.range 16) l with
  |false=>exact⟨false,rfl,by simp⟩
  |true=>
   have tb:=Me hr hm
   have hN:=sC hr
   simp only[Bool.true_and,Bool.not_true,iC,if_false]
   rw[aeI tb hl]
   obtain⟨b,e1,e2⟩:=Y3 (h:=h) (P:=xw l) (nx:=nxS h l) hn (fun x hx=>amp hf hr hx) (fun x hx y hy=>(Sx.1 hy).1) (fun x hx=>by
    have:=SB h l x h.aC.length hN
    unfold nxS;omega)
   refine⟨b,e1,e2.trans ?_⟩
   simp[RZ]
end
end Pl
end

section
/- Rings of edges, and what the reference answers of edges. -/
namespace Pl
open Go Go.Av G

def B2(h:af)(lev:Int)(l:List aa)(row:List Int)(i:Nat):Bool:=
 !((row.take i).any (fun x=>decide (row.getD i 0=x)))&&wQ h lev l (row.getD i 0) (row.getD ((i+1) % row.length) 0)
theorem SN(h:af)(lev:Int)(l:List aa)(row:List Int):
  ring h lev l row=if ∀k,k<row.length→B2 h lev l row k=true then decide (0<row.length) else false:=by
 unfold ring
 by_cases hq:∀k,k<row.length→B2 h lev l row k=true
 ·rw[if_pos hq]
  have:(List.range row.length).all (B2 h lev l row)=true:=List.all_eq_true.2 fun k hk=>hq k (List.mem_range.1 hk)
  rw[show(List.range row.length).all (fun i=> !((row.take i).any (fun x=>decide (row.getD i 0=x)))&&wQ h lev l (row.getD i 0) (row.getD ((i+1) % row.length) 0))=true from this,Bool.and_true]
 ·rw[if_neg hq]
  have:(List.range row.length).all (B2 h lev l row)=false:=by
   cases hc:(List.range row.length).all (B2 h lev l row) with
   |false=>rfl
   |true=>exact absurd (fun k hk=>List.all_eq_true.1 hc k (List.mem_range.2 hk)) hq
  rw[show(List.range row.length).all (fun i=> !((row.take i).any (fun x=>decide (row.getD i 0=x)))&&wQ h lev l (row.getD i 0) (row.getD ((i+1) % row.length) 0))=false from this,Bool.and_false]
theorem I6{l:List Int}{k:Nat}(h:k<l.length):l.getD k 0=l[k]:=by simp[List.getD,List.getElem?_eq_getElem h]
theorem XL{a b:Nat}(hb:0<b)(ha:a<9223372036854775808)(Uw:b<9223372036854775808):Sh.rem (a:Int) (b:Int)=some ((a % b:Nat):Int):=by
 unfold Sh.rem
 have:(b:Int)≠0:=by omega
 simp only[this,ne_eq,not_false_eq_true,if_true]
 rw[Int.tmod_eq_emod_of_nonneg (by omega)]
 rfl
theorem aeB{h:af}(hf:Fits h){l:List aa}(hl:l.length<9223372036854775807)(lev:Int){row:List Int}(hw:row.length<9223372036854775808):
  zG h lev l row=some (ring h lev l row):=by
 unfold zG
 rw[SN]
 refine PM row.length (B2 h lev l row) (decide (0<row.length)) false (bC (by omega)) (fun k hk=> ?_) ?_
 ·have hm:(k+1) % row.length<row.length:=Nat.mod_lt _ (by omega)
  simp only[uP,dec_lt,hk,decide_true,if_true,bM hk,b9,bW]
  rw[show Sh.sub row 0 (k:Int)=some (row.take k) by simpa using NJ (l:=row) (m:=0) (k:=k) (by omega) (by omega)]
  rw[b9,Xi (by simp;omega),b9]
  unfold B2
  rw[I6 hk,I6 hm]
  cases hc:(row.take k).any (fun x=>decide (row[k]=x)) with
  |true=>simp[tE,Sh.exit]
  |false=>
   rw[if_neg (by simp),bn (by omega),XL (by omega) (by omega) (by omega)]
   simp only[b9,bM hm,pIs hf hl,tE,bn (k:=k) (by omega)]
   cases wQ h lev l row[k] row[(k+1) % row.length] <;> simp[Sh.exit,Sh.next]
 ·simp[uP,xG,Sh.exit,bW]

theorem rIn{l:List aa}(hl:l.length<9223372036854775807)(v:aa):tn l v=some (l.any (fun c=>decide (v=c))):=by
 unfold tn
 rw[tW l (fun c=>decide (v=c)) true (some false) (bC (by omega)) (fun i hi=> ?_) ?_]
 ·cases l.any (fun c=>decide (v=c)) <;> rfl
 ·simp[pH,sV]
 ·simp only[pH,dec_lt,hi,decide_true,if_true,bM hi,b9,bn (k:=i) (by omega),Sh.exit,Sh.next,Option.map_some]
  by_cases h1:l[i]=v
  ·simp[h1]
  ·have:¬v=l[i]:=fun h=>h1 h.symm
   simp[h1,this]
theorem amH{h:af}(hf:Fits h)(c:aa):lR h c=some (decide (c.A≠c.B)&&inr h c.A&&inr h c.B&&gL (tx h c.A) c.Key&&gL (tx h c.B) c.Key):=by
 unfold lR
 by_cases h0:c.A=c.B
 ·simp[h0,dA]
 by_cases hA:inr h c.A=true
 ·obtain⟨a1,a2⟩:=fI.1 hA
  by_cases hB:inr h c.B=true
  ·obtain⟨b1,b2⟩:=fI.1 hB
   rw[if_neg (by simpa using h0),if_neg (by simp;omega),if_neg (by simp[Sh.len];omega),if_neg (by simp;omega)]
   unfold dA
   rw[if_neg (by simp[Sh.len];omega),oH hA,oH hB]
   simp only[b9,AA (hf.writes _ (sF hA)),AA (hf.writes _ (sF hB))]
   rw[hA,hB]
   cases gL (tx h c.A) c.Key <;> simp[h0]
  ·have:¬(0≤c.B∧c.B<(h.aC.length:Int)):=fun h1=>hB (fI.2 h1)
   rw[if_neg (by simpa using h0),if_neg (by simp;omega),if_neg (by simp[Sh.len];omega)]
   simp only[Bool.not_eq_true] at hB
   by_cases b1:c.B<0
   ·rw[if_pos (by simpa using b1)]
    simp[dA,hB]
   ·rw[if_neg (by simpa using b1)]
    unfold dA
    rw[if_pos (by simp[Sh.len];omega)]
    simp[hB]
 ·have:¬(0≤c.A∧c.A<(h.aC.length:Int)):=fun h1=>hA (fI.2 h1)
  simp only[Bool.not_eq_true] at hA
  rw[if_neg (by simpa using h0)]
  by_cases a1:c.A<0
  ·rw[if_pos (by simpa using a1)]
   simp[dA,hA]
  ·rw[if_neg (by simpa using a1),if_pos (by simp[Sh.len];omega)]
   simp[dA,hA]
theorem amM{h:af}(hR:cn h=some (right h))(x y:Int):o4 h x y=some (two h x y):=by
 unfold o4 two
 rw[hR]
 simp only[b9,inr,Sh.len]
 cases right h
 ·simp
 ·by_cases a:0≤x
  ·by_cases b:x<(h.aC.length:Int)
   ·by_cases c:0≤y <;> simp[a,b,c]
   ·simp[a,b]
  ·simp[a]
theorem Nv{h:af}(hf:Fits h)(hR:cn h=some (right h)){l:List aa}(hl:l.length<9223372036854775807)(x y:Int):
  kf h l x y=some (direct h l x y):=by
 unfold kf direct
 rw[amM hR]
 simp only[b9]
 cases ht:two h x y with
 |false=>simp
 |true=>
  simp only[two,Bool.and_eq_true] at ht
  obtain⟨⟨_,hx⟩,hy⟩:=ht
  simp only[Bool.not_true,iC,if_false,Bool.true_and,oH hx,oH hy,b9]
  have h2:∀b,gZ h l x y b=some (b||(tx h y).Reads.any (fun r=>decide (r.bT=x))||l.any (YC h x y)):=fun b=>by
   unfold gZ
   cases b
   ·have hr:=hf.reads _ (sF hy)
    simp only[iC,if_false,Bool.false_or]
    rw[tW (tx h y).Reads (fun r=>decide (r.bT=x)) true (jW h l x y) (bC (by omega)) (fun k hk=> ?_) ?_]
    ·cases(tx h y).Reads.any (fun r=>decide (r.bT=x)) with
     |true=>rfl
     |false=>
      simp only[iC,if_false,Bool.false_or]
      unfold jW
      rw[tW l (YC h x y) true (some false) (bC (by omega)) (fun k hk=> ?_) ?_]
      ·cases l.any (YC h x y) <;> rfl
      ·simp[jU,oL]
      ·simp only[jU,dec_lt,hk,decide_true,if_true,bM hk,b9,jY,amH hf,jX,bn (k:=k) (by omega),Sh.exit,Sh.next,Option.map_some]
       unfold YC
       by_cases a:l[k].A=x
       ·by_cases b:l[k].B=y
        ·subst a;subst b
         rw[hx,hy]
         simp[and_assoc]
        ·simp[a,b]
       ·simp[a]
    ·simp only[jV,oH hy,b9,dec_lt]
     simp
    ·simp only[jV,oH hy,b9,dec_lt,hk,decide_true,if_true,bM hk,bn (k:=k) (by omega),Sh.exit,Sh.next,Option.map_some]
   ·simp
  simp only[h2,ac6]
  by_cases a:x<y <;> simp[a]
theorem acB{h:af}(hf:Fits h)(hR:cn h=some (right h)){l:List aa}(hl:l.length<9223372036854775807)(x y:Int):
  nM h l x y=some (Ez h l x y):=by
 unfold nM Ez
 rw[amM hR]
 simp only[b9]
 cases ht:two h x y with
 |false=>simp[js]
 |true=>
  simp only[two,Bool.and_eq_true] at ht
  obtain⟨⟨hri,hx⟩,hy⟩:=ht
  simp only[Bool.not_true,iC,if_false,Bool.true_and,js,UJ]
  by_cases hxy:x=y
  ·simp[hxy]
  ·have hr:=hf.reads _ (sF hx)
   simp only[hxy,decide_false,iC,if_false,ne_eq,not_false_eq_true,decide_true,Bool.true_and]
   rw[tW (tx h x).Reads (isO h l y) true (some false) (bC (by omega)) (fun k hk=> ?_) ?_]
   ·cases(tx h x).Reads.any (isO h l y) <;> rfl
   ·simp only[mK,oH hx,b9,dec_lt]
    simp[q8]
   ·have hn:=U4 hri (sF hx) (List.getElem_mem hk)
    simp only[mK,oH hx,oH hy,b9,dec_lt,hk,decide_true,if_true,bM hk,AA (hf.writes _ (sF hy)),rIn hl,gP,bn (k:=k) (by omega),Sh.exit,Sh.next,Option.map_some]
    unfold isO
    cases gL (tx h y) ((tx h x).Reads[k]).Key with
    |false=>simp
    |true=>
     by_cases a:((tx h x).Reads[k]).bT= -1
     ·have:((tx h x).Reads[k]).bT<0:=by omega
      simp[a,this]
     ·have:¬((tx h x).Reads[k]).bT<0:=fun h1=>a (hn.1 h1)
      simp only[a,this,decide_false,iC,if_false,if_true,Bool.false_or,Bool.true_and]
      cases l.any (fun c=>decide (aa.mk ((tx h x).Reads[k]).Key ((tx h x).Reads[k]).bT y=c)) <;> by_cases b:((tx h x).Reads[k]).bT=y <;> simp[b]
theorem rIs{h:af}(hf:Fits h)(hR:cn h=some (right h)){l:List aa}(hl:l.length<9223372036854775807)(lev x y:Int):
  tq h lev l x y=some (wQ h lev l x y):=by
 unfold tq wQ pP
 by_cases h0:lev=0
 ·subst h0
  simp[Nv hf hR hl,acB hf hR hl]
  cases direct h l x y <;> simp
 ·by_cases h1:lev=1
  ·subst h1
   have hrl:(List.range h.aC.length).length=h.aC.length:=by simp
   have ht:=hf.RN
   simp only[h0,ne_eq,not_false_eq_true,decide_true,if_true,not_true,decide_false,iC,if_false,Nv hf hR hl,b9]
   rw[tW (List.range h.aC.length) (fun m=>direct h l x m&&Ez h l m y) true (some false) (bC (by omega)) (fun k hk=> ?_) ?_]
   ·cases hd:direct h l x y with
    |true=>
     have hy:inr h y=true:=by
      simp only[direct,two,Bool.and_eq_true] at hd;exact hd.1.2
     obtain⟨y0,y1⟩:=fI.1 hy
     have:(List.range h.aC.length).any (fun m=>direct h l x m&&(decide ((m:Int)=y)||Ez h l m y))=true:=by
      rw[List.any_eq_true]
      refine⟨y.toNat,List.mem_range.2 (by omega), ?_⟩
      rw[show((y.toNat:Nat):Int)=y by omega]
      simp[hd]
     rw[this];rfl
    |false=>
     have:∀m∈List.range h.aC.length,(direct h l x (m:Nat)&&Ez h l m y)=(direct h l x m&&(decide ((m:Int)=y)||Ez h l m y)):=fun m _=>by
      by_cases hm:(m:Int)=y
      ·rw[hm,hd];simp
      ·simp[hm]
     have h2:(List.range h.aC.length).any (fun m=>direct h l x m&&Ez h l m y)=(List.range h.aC.length).any (fun m=>direct h l x m&&(decide ((m:Int)=y)||Ez h l m y)):=by
      rw[Bool.eq_iff_iff,List.any_eq_true,List.any_eq_true]
      constructor
      ·rintro⟨m,hm,hp⟩;exact⟨m,hm,by rw[←this m hm];exact hp⟩
      ·rintro⟨m,hm,hp⟩;exact⟨m,hm,by rw[this m hm];exact hp⟩
     rw[h2]
     cases(List.range h.aC.length).any (fun m=>direct h l x m&&(decide ((m:Int)=y)||Ez h l m y)) <;> rfl
   ·simp[pO,sZ]
   ·rw[hrl] at hk
    simp only[pO,dec_lt,hk,decide_true,if_true,Nv hf hR hl,acB hf hR hl,b9,pQ,bn (k:=k) (by omega),List.getElem_range,Sh.exit,Sh.next,Option.map_some]
    cases direct h l x k <;> simp
  ·simp[h0,h1]
theorem ae_{h:af}(hf:Fits h)(hR:cn h=some (right h)){l:List aa}(hl:l.length<9223372036854775807)(lev:Int){row:List Int}(hw:row.length<9223372036854775808):
  pN h lev l row=some (ring h lev l row):=by
 unfold pN
 rw[SN]
 refine PM row.length (B2 h lev l row) (decide (0<row.length)) false (bC (by omega)) (fun k hk=> ?_) ?_
 ·have hm:(k+1) % row.length<row.length:=Nat.mod_lt _ (by omega)
  have hlt:(row.take k).length=k:=by simp;omega
  simp only[kW,dec_lt,hk,decide_true,if_true]
  rw[tW (row.take k) (fun x=>decide (row[k]=x)) (Sum.inr false) (kY h lev l row k) (bC (by omega)) (fun i hi=> ?_) ?_]
  ·unfold B2
   rw[I6 hk,I6 hm]
   cases hc:(row.take k).any (fun x=>decide (row[k]=x)) with
   |true=>simp
   |false=>
    simp only[iC,if_false,kY,bM hk,b9,bW]
    rw[bn (by omega),XL (by omega) (by omega) (by omega)]
    simp only[b9,bM hm,rIs hf hR hl,qo,bn (k:=k) (by omega)]
    cases wQ h lev l row[k] row[(k+1) % row.length] <;> simp[Sh.exit,Sh.next]
  ·rw[hlt];simp[kX]
  ·rw[hlt] at hi
   have Yz:i<row.length:=by omega
   simp only[kX,dec_lt,hi,decide_true,if_true,bM hk,bM Yz,b9,bn (k:=i) (by omega),Sh.exit,Sh.next,Option.map_some,List.getElem_take]
   by_cases a:row[i]=row[k]
   ·simp[a]
   ·have:¬row[k]=row[i]:=fun h=>a h.symm
    simp[a,this]
 ·simp[kW,qn,Sh.exit,bW]
end Pl
end

section
/- Law 19, first half: edges as the reference sees them; what one more choice adds. -/

namespace Pl
open Go Go.Av G

def one(h:af)(c:aa):Bool:=decide (c.A≠c.B)&&inr h c.A&&inr h c.B&&gL (tx h c.A) c.Key&&gL (tx h c.B) c.Key
theorem Y8{h:af}(hr:right h=true){t:ai}(ht:t∈h.aC){r:an}(hm:r∈t.Reads)(h0:¬r.bT<0):inr h r.bT=true∧gL (tx h r.bT) r.Key=true:=by
 obtain⟨n,hn⟩:=DQ hr ht
 have:=AH hn r hm
 simp only[there,Bool.or_eq_true,Bool.and_eq_true,decide_eq_true_eq] at this
 rcases this with h1|h1
 ·omega
 ·obtain⟨⟨⟨a,b⟩,_⟩,d⟩:=h1
  refine⟨fI.2 ⟨a,b⟩, ?_⟩
  unfold tx
  have hi:r.bT.toNat<h.aC.length:=by omega
  rw[List.getElem?_eq_getElem hi] at d ⊢
  exact d
end Pl
end

section
/- Facts: what follows from what; the program's answer and the reference's. -/


namespace Pl
open Go Go.Av G

def back(c:aa):aa:=⟨c.Key,c.B,c.A⟩
def may(h:af)(lev:Int):Bool:=right h&&(decide (lev=0)||decide (lev=1))
def wZ(h:af)(t key:Int):Option Int:=
 if right h&&inr h t then((tx h t).Reads.findIdx? (fun r=>decide (r.Key=key))).map (fun k=>((tx h t).Reads.getD k default).bT) else none
theorem amD{h:af}(hf:Fits h)(t key:Int):qR h t key=some (match wZ h t key with|some v=>(v,true)|none=>(0,false)):=by
 unfold qR wZ
 rw[FM hf]
 simp only[b9]
 cases hr:right h with
 |false=>simp[e7]
 |true=>
  by_cases hx:inr h t=true
  ·obtain⟨a,b⟩:=fI.1 hx
   have h1:¬t<0:=by omega
   have h2:¬(h.aC.length:Int)≤t:=by omega
   have h3:=hf.reads _ (sF hx)
   simp only[Bool.not_true,iC,if_false,h1,decide_false,Sh.len,h2,e7,oH hx,b9,hx,Bool.and_self,if_true]
   rw[qD (tx h t).Reads (fun r=>decide (r.Key=key)) (fun k=>(((tx h t).Reads.getD k default).bT,true)) (some (0,false)) (bC (by omega)) (fun k hk=> ?_) ?_]
   ·cases(tx h t).Reads.findIdx? (fun r=>decide (r.Key=key)) <;> rfl
   ·simp[mC,qS]
   ·have h4:(tx h t).Reads.getD k default=(tx h t).Reads[k]:=by simp[List.getD,List.getElem?_eq_getElem hk]
    simp only[mC,dec_lt,hk,decide_true,if_true,bM hk,b9,bn (k:=k) (by omega),Sh.exit,Sh.next,Option.map_some,h4]
  ·have h1:inr h t=false:=by simpa using hx
   have h2:¬(0≤t∧t<(h.aC.length:Int)):=fun h2=>hx (fI.2 h2)
   rw[h1]
   by_cases c:t<0
   ·simp[c,e7]
   ·have d:(h.aC.length:Int)≤t:=by omega
    simp[c,d,e7,Sh.len]
theorem KA{h:af}{n:Int}:∀{l:List an} {last:Int},tR h n last l=true→∀r∈l,last<r.Key
 |[],_,_,r,hr=>by cases hr
 |x::l,last,ht,r,hr=>by
  rw[show tR h n last (x::l)=(decide (last<x.Key)&&decide (x.Key<16)&&there h n x&&tR h n x.Key l) from rfl] at ht
  simp only[Bool.and_eq_true,decide_eq_true_eq] at ht
  rcases List.mem_cons.1 hr with rfl|hr
  ·exact ht.1.1.1
  ·have:=KA ht.2 r hr;have:=ht.1.1.1;omega
theorem Mv{h:af}{n:Int}:∀{l:List an} {last:Int},tR h n last l=true→∀r∈l,∀s∈l,r.Key=s.Key→r=s
 |[],_,_,r,hr,_,_,_=>by cases hr
 |x::l,last,ht,r,hr,s,hs,he=>by
  rw[show tR h n last (x::l)=(decide (last<x.Key)&&decide (x.Key<16)&&there h n x&&tR h n x.Key l) from rfl] at ht
  simp only[Bool.and_eq_true,decide_eq_true_eq] at ht
  rcases List.mem_cons.1 hr with h1|h1
  ·rcases List.mem_cons.1 hs with h2|h2
   ·rw[h1,h2]
   ·have:=KA ht.2 s h2;rw[h1] at he;omega
  ·rcases List.mem_cons.1 hs with h2|h2
   ·have:=KA ht.2 r h1;rw[h2] at he;omega
   ·exact Mv ht.2 r h1 s h2 he
theorem L6{h:af}(hr:right h=true){t key v:Int}(hx:inr h t=true):wZ h t key=some v↔(tx h t).Reads.any (fun r=>decide (an.mk key v=r))=true:=by
 obtain⟨n,hn⟩:=DQ hr (sF hx)
 unfold wZ
 rw[hr,hx]
 simp only[Bool.and_self,if_true,List.any_eq_true,decide_eq_true_eq]
 constructor
 ·intro h1
  cases hfi:(tx h t).Reads.findIdx? (fun r=>decide (r.Key=key)) with
  |none=>rw[hfi] at h1;cases h1
  |some k=>
   rw[hfi] at h1
   rw[List.findIdx?_eq_some_iff_getElem] at hfi
   obtain⟨hk,hp,_⟩:=hfi
   simp only[Option.map_some,Option.some.injEq,List.getD,List.getElem?_eq_getElem hk,Option.getD_some] at h1
   refine⟨_,List.getElem_mem hk, ?_⟩
   simp only[decide_eq_true_eq] at hp
   cases hc:(tx h t).Reads[k] with
   |mk K F=>rw[hc] at hp h1;simp at hp h1;rw[hp,h1]
 ·rintro⟨r,hm,rfl⟩
  cases hfi:(tx h t).Reads.findIdx? (fun r=>decide (r.Key=key)) with
  |none=>
   rw[List.findIdx?_eq_none_iff] at hfi
   have:=hfi _ hm
   simp at this
  |some k=>
   rw[List.findIdx?_eq_some_iff_getElem] at hfi
   obtain⟨hk,hp,_⟩:=hfi
   simp only[decide_eq_true_eq] at hp
   have:=Mv hn _ (List.getElem_mem hk) _ hm hp
   simp[List.getD,List.getElem?_eq_getElem hk,this]
theorem amI{h:af}(hf:Fits h)(c:aa):lR h c=some (one h c):=amH hf c
end Pl
end

section
/- Sets of numbers as bits: the program's functions, and the reference's, say the same. -/

namespace Pl
open Go Go.Av G

def join(l:List (BitVec 64)):BitVec 64:=l.foldl (· ||| ·) 0#64
@[simp] theorem Xq(i:Int):qE i=some (decide (0≤i∧i≤63)):=by
 unfold qE
 by_cases h:0≤i <;> simp[h]
theorem Mk(i:Nat)(h:i≤63):lP (i:Int)=some (1#64<<<i):=by
 unfold lP
 refine count (fun k=>1#64<<<k) i _ (bC (by omega)) (fun k hk=> ?_) ?_ (by simp)
 ·simp only[kM,dec_lt,hk,decide_true,if_true,Sh.next,bn (k:=k) (by omega)]
  congr 3
  apply BitVec.eq_of_toNat_eq
  simp only[BitVec.toNat_add,BitVec.toNat_shiftLeft,Nat.shiftLeft_eq,BitVec.toNat_ofNat]
  rw[Nat.pow_succ];omega
 ·simp[kM,qd,Sh.exit]
theorem Om(s:BitVec 64)(k:Nat)(hk:k<64):decide (s / (1#64<<<k) % 2#64=1#64)=s.getLsbD k:=by
 have h1:(1#64<<<k).toNat=2 ^ k:=by
  have:2 ^ k<2 ^ 64:=Nat.pow_lt_pow_right (by omega) hk
  simp[Nat.shiftLeft_eq,Nat.mod_eq_of_lt this]
 have h2:(s / (1#64<<<k) % 2#64).toNat=s.toNat / 2 ^ k % 2:=by
  simp only[BitVec.toNat_umod,BitVec.toNat_udiv,h1,BitVec.toNat_ofNat]
 have h3:s.getLsbD k=decide (s.toNat / 2 ^ k % 2=1):=by
  simp only[BitVec.getLsbD,Nat.testBit_eq_decide_div_mod_eq]
 rw[h3]
 congr 1
 apply propext
 rw[←h2]
 constructor
 ·intro h;rw[h];rfl
 ·intro h;apply BitVec.eq_of_toNat_eq;rw[h];rfl
@[simp] theorem Nu(s:BitVec 64)(i:Int):lN s i=some (Bv.has s i):=by
 unfold lN Bv.has
 simp only[Xq,b9]
 by_cases h:0≤i∧i≤63
 ·obtain⟨k,rfl⟩:∃k:Nat,i=k:=⟨i.toNat,by omega⟩
  have hk:k<64:=by omega
  have hne:(1#64<<<k)≠0#64:=by
   intro h0
   have:=congrArg (fun x:BitVec 64=>x.getLsbD k) h0
   simp[hk] at this
  have e1:Sh.udiv s (1#64<<<k)=some (s / (1#64<<<k)):=by simp only[Sh.udiv,hne,ne_eq,not_false_eq_true,if_true]
  simp only[h,decide_true,Bool.not_true,iC,if_false,Mk k (by omega),b9,e1,Sh.umod]
  have e2:(2#64:BitVec 64)≠0#64:=by decide
  simp only[e2,ne_eq,not_false_eq_true,if_true,b9,Om s k hk]
  have:((k:Int)<64):=by omega
  simp[this]
 ·rw[decide_eq_false h]
  by_cases h0:0≤i
  ·have:¬i<64:=by omega
   simp[h0,this]
  ·simp[h0]
theorem M3(s:BitVec 64){k:Nat}(hk:k<64):Bv.has s (k:Int)=s.getLsbD k:=by
 unfold Bv.has
 have h1:(0:Int)≤(k:Int):=by omega
 have h2:(k:Int)<64:=by omega
 simp[h2]
theorem YQ(s:BitVec 64)(k:Nat)(hk:k<64)(hb:s.getLsbD k=false):s+1#64<<<k=s|||1#64<<<k:=by
 rw[BitVec.add_eq_or_of_and_eq_zero]
 apply Bv.ext
 intro j hj
 simp only[BitVec.getLsbD_and,BitVec.getLsbD_shiftLeft,hj,decide_true,Bool.true_and,BitVec.getLsbD_zero]
 by_cases hjk:j=k
 ·subst hjk;simp[hb]
 ·by_cases hlt:j<k
  ·simp[hlt]
  ·simp[hlt,BitVec.getLsbD_one];omega
theorem aez(s:BitVec 64)(k:Nat)(hk:k<64)(hb:s.getLsbD k=true):s|||1#64<<<k=s:=by
 apply Bv.ext
 intro j hj
 simp only[BitVec.getLsbD_or,BitVec.getLsbD_shiftLeft,hj,decide_true,Bool.true_and]
 by_cases hjk:j=k
 ·subst hjk;simp[hb]
 ·by_cases hlt:j<k
  ·simp[hlt]
  ·simp[hlt,BitVec.getLsbD_one];omega
@[simp] theorem yc(s:BitVec 64)(i:Int):eL s i=some (s|||Bv.bit i):=by
 unfold eL mF
 simp only[Nu,Xq,b9]
 by_cases h:0≤i∧i≤63
 ·obtain⟨k,rfl⟩:∃k:Nat,i=k:=⟨i.toNat,by omega⟩
  have hk:k<64:=by omega
  have hbit:Bv.bit (k:Int)=1#64<<<k:=by unfold Bv.bit;rw[if_pos ⟨by omega,by omega⟩];simp
  have hh:Bv.has s (k:Int)=s.getLsbD k:=M3 s hk
  rw[hh,hbit]
  cases hb:s.getLsbD k with
  |true=>simp[aez s k hk hb]
  |false=>simp[h,Mk k (by omega),YQ s k hk hb]
 ·have hbit:Bv.bit i=0#64:=by unfold Bv.bit;rw[if_neg (by omega)]
  have hh:Bv.has s i=false:=by
   unfold Bv.has
   by_cases h0:0≤i
   ·have:¬i<64:=by omega
    simp[this]
   ·simp[h0]
  simp[hh,hbit,h]
end Pl
namespace Pl
open Go Go.Av G
end Pl
end

section
/- Graphs as rows of bits: the program's functions and the reference's, over the edges. -/

namespace Pl
open Go Go.Av G

def row:Nat→(Nat→Bool)→BitVec 64
 |0,_=>0#64
 |n+1,p=>if p n then row n p|||(1#64<<<n) else row n p
theorem T7(k i:Nat)(hk:k<64):(1#64<<<k).getLsbD i=decide (i=k):=by
 by_cases hi:i<64
 ·simp only[BitVec.getLsbD_shiftLeft,hi,decide_true,Bool.true_and]
  by_cases hik:i=k
  ·subst hik;simp
  ·by_cases hlt:i<k
   ·simp[hlt,hik]
   ·simp[hlt,hik,BitVec.getLsbD_one];omega
 ·have:¬i=k:=by omega
  simp[BitVec.getLsbD_of_ge _ i (show 64≤i by omega),this]
theorem Ca{n:Nat}(hn:n≤64)(p:Nat→Bool)(i:Nat):(row n p).getLsbD i=(decide (i<n)&&p i):=by
 induction n with
 |zero=>simp[row]
 |succ n ih=>
  have ih:=ih (by omega)
  unfold row
  by_cases hp:p n=true
  ·rw[if_pos hp,BitVec.getLsbD_or,ih,T7 n i (by omega)]
   by_cases h:i=n
   ·subst h;simp[hp]
   ·by_cases h2:i<n
    ·simp[h,h2,show i<n+1 by omega]
    ·simp[h,h2,show ¬i<n+1 by omega]
  ·rw[if_neg hp,ih]
   by_cases h:i=n
   ·subst h;simp[hp]
   ·by_cases h2:i<n
    ·simp[h2,show i<n+1 by omega]
    ·simp[h2,show ¬i<n+1 by omega]
def rows(n:Nat)(f:Nat→Nat→Bool):List (BitVec 64):=(List.range n).map fun x=>row n (f x)
@[simp] theorem amP(n:Nat)(f:Nat→Nat→Bool):(rows n f).length=n:=by simp[rows]
theorem GS{n:Nat}{f:Nat→Nat→Bool}{x:Nat}(h:x<(rows n f).length):(rows n f)[x]=row n (f x):=by simp[rows]
theorem yg{n:Nat}{f:Nat→Nat→Bool}{x:Nat}(h:x<n):Sh.idx (rows n f) (x:Int)=some (row n (f x)):=by
 rw[bM (by simpa using h),GS]
abbrev rg(n:Nat)(f:Nat→Nat→Bool):aq:=⟨(n:Int),rows n f⟩

theorem SP{n:Nat}(hn:n≤64){p q:Nat→Bool}:row n p=row n q↔∀i,i<n→p i=q i:=by
 constructor
 ·intro h i hi
  have:=congrArg (fun x:BitVec 64=>x.getLsbD i) h
  simpa [Ca hn,hi] using this
 ·intro h
  apply Bv.ext
  intro i _
  rw[Ca hn,Ca hn]
  by_cases hi:i<n
  ·simp[hi,h i hi]
  ·simp[hi]
theorem iO{n:Nat}(hn:n≤64){f h:Nat→Nat→Bool}:rows n f=rows n h↔∀x y,x<n→y<n→f x y=h x y:=by
 constructor
 ·intro e x y hx hy
  have h1:(rows n f)[x]? =(rows n h)[x]? :=by rw[e]
  rw[List.getElem?_eq_getElem (by simpa using hx),List.getElem?_eq_getElem (by simpa using hx),GS,GS] at h1
  exact(SP hn).1 (Option.some.inj h1) y hy
 ·intro e
  unfold rows
  apply List.map_congr_left
  intro x hx
  exact(SP hn).2 (fun y hy=>e x y (by simpa using hx) hy)
def RA(N:Int)(R:List (BitVec 64)):Bool:=decide (0≤N∧N≤64∧(R.length:Int)=N∧∀r∈R,∀i:Nat,i<64→N≤(i:Int)→r.getLsbD i=false)
theorem RB{n:Nat}(hn:n≤64)(f:Nat→Nat→Bool):RA (n:Int) (rows n f)=true:=by
 refine decide_eq_true ⟨by omega,by omega,by simp,fun r hr i _ hi=> ?_⟩
 simp only[rows,List.mem_map] at hr
 obtain⟨x,_,rfl⟩:=hr
 rw[Ca hn]
 have:¬i<n:=by omega
 simp[this]
theorem Ex(n:Nat):List.replicate n 0#64=rows n (fun _ _=>false):=by
 unfold rows
 apply List.ext_getElem (by simp)
 intro x h1 h2
 simp only[List.getElem_replicate,List.getElem_map]
 have:∀m,row m (fun _=>false)=0#64:=fun m=>by
  induction m with
  |zero=>rfl
  |succ m ih=>simp[row,ih]
 rw[this]
theorem aaf{n:Nat}(hn:n≤64)(p:Nat→Bool){k:Nat}(hk:k<n):Bv.has (row n p) (k:Int)=p k:=by
 rw[M3 _ (by omega),Ca hn];simp[hk]
theorem GR{n:Nat}(hn:n≤64)(p:Nat→Bool){k:Nat}(hk:k<n):row n p|||Bv.bit (k:Int)=row n (fun i=>p i||decide (i=k)):=by
 apply Bv.ext
 intro i hi
 rw[Ca hn,BitVec.getLsbD_or,Ca hn]
 have hb:Bv.bit (k:Int)=1#64<<<k:=by unfold Bv.bit;rw[if_pos ⟨by omega,by omega⟩];simp
 rw[hb]
 simp only[BitVec.getLsbD_shiftLeft,hi,decide_true,Bool.true_and]
 by_cases hik:i=k
 ·subst hik;simp[hk]
 ·by_cases hlt:i<k
  ·simp[hlt,hik]
  ·simp[hlt,hik,BitVec.getLsbD_one];omega
theorem GU{n:Nat}(f:Nat→Nat→Bool){x:Nat}(_hx:x<n)(p:Nat→Bool):(rows n f).set x (row n p)=rows n (fun a=>if a=x then p else f a):=by
 apply List.ext_getElem (by simp)
 intro a h1 h2
 rw[List.getElem_set,GS,GS]
 by_cases ha:x=a
 ·subst ha;simp
 ·simp[ha,Ne.symm ha]
def YP(f:Nat→Nat→Bool)(a b:Nat):Nat→Nat→Bool:=fun x y=>f x y||decide (x=a∧y=b)
def NZ(f h:Nat→Nat→Bool):Nat→Nat→Bool:=fun x y=>f x y||h x y
def H7(n:Nat)(f h:Nat→Nat→Bool):Nat→Nat→Bool:=fun x y=>(List.range n).any fun z=>f x z&&h z y
end Pl
end

section
/- The reference's graphs. -/
namespace Pl
open Go Go.Av G

theorem Ay{n:Nat}(hn:n≤64)(f:Nat→Nat→Bool){a:Nat}(ha:a<n){b:Nat}(hb:b<n):eY (rg n f) (a:Int) (b:Int)=some (f a b):=by
 unfold eY
 simp only[yg ha,b9,Nu,aaf hn _ hb]
theorem B6(n:Nat)(hn:n≤64):fG (n:Int)=some ⟨(n:Int),List.replicate n 0#64⟩:=by
 unfold fG
 refine count (fun k=>List.replicate k 0#64) n _ (bC (by omega)) (fun k hk=> ?_) ?_ rfl
 ·simp only[oq,dec_lt,hk,decide_true,if_true]
  rw[dX (by simp;omega)]
  simp only[b9,Sh.next,bn (k:=k) (by omega)]
  rw[List.replicate_succ']
 ·simp only[oq,Int.lt_irrefl,decide_false,iC,if_false,rW,qC]
theorem TS(g:aq)(hl:g.Rows.length<9223372036854775808):lQ g=some (RA g.N g.Rows):=by
 unfold lQ iH RA
 obtain⟨N,R⟩:=g
 by_cases h1:0≤N
 ·by_cases h2:N≤64
  ·by_cases h3:(R.length:Int)=N
   ·subst h3
    have g1:¬((R.length:Int)<0):=by omega
    have g2:¬((64:Int)<R.length):=by omega
    have hR:R.length≤64:=by omega
    simp only[g1,g2,h1,h2,decide_false,iC,if_false,bW,ne_eq,not_true_eq_false,true_and]
    have key:=vC (b:=fun(p:Int)=>iF ⟨(R.length:Int),R⟩ p) R.length (fun k=>decide (∀j:Nat,j<64→R.length≤j→(R.getD k 0#64).getLsbD j=false)) hl (fun k hk=> ?_) ?_
    ·rw[key]
     congr 2
     apply propext
     simp only[decide_eq_true_eq]
     constructor
     ·intro h r hr i hi hN
      obtain⟨k,hk,rfl⟩:=List.getElem_of_mem hr
      have:=h k hk i hi (by omega)
      simpa [List.getD,hk] using this
     ·intro h k hk j hj hjk
      have:=h R[k] (List.getElem_mem hk) j hj (by omega)
      simpa [List.getD,hk] using this
    ·have hg:R.getD k 0#64=R[k]:=by simp[List.getD,hk]
     simp only[iF,dec_lt,hk,decide_true,if_true,hg]
     have:=scan (b:=fun(p:Int)=>iG ⟨(R.length:Int),R⟩ (k:Int) p) R.length 64 (fun j=> !R[k].getLsbD j) (some (.inl ((k+1:Nat):Int))|>.getD (.inr true)) (.inr false) hR (bC (by omega)) (fun j hj To=> ?_) ?_
     ·rw[this]
      by_cases hq:∀j,j<64→R.length≤j→R[k].getLsbD j=false
      ·have hq':∀j,j<64→R.length≤j→(!R[k].getLsbD j)=true:=fun j a b=>by simp[hq j a b]
       rw[if_pos hq',decide_eq_true hq];rfl
      ·have hq':¬∀j,j<64→R.length≤j→(!R[k].getLsbD j)=true:=fun h=>hq (fun j a b=>by simpa using h j a b)
       rw[if_neg hq',decide_eq_false hq];rfl
     ·have hj':(j:Int)<64:=by omega
      simp only[iG,hj',decide_true,if_true,bM hk,b9,Nu,M3 _ To,Sh.next,qC,bn (k:=j) (by omega)]
      cases R[k].getLsbD j <;> rfl
     ·simp[iG,qf,Sh.exit,Sh.next,bn (k:=k) (by omega)]
    ·simp[iF,qe,Sh.exit]
   ·have g1:¬N<0:=by omega
    have g2:¬(64:Int)<N:=by omega
    simp[g1,g2,h3]
  ·have g1:¬N<0:=by omega
   have g2:(64:Int)<N:=by omega
   simp[g1,g2,h2]
 ·have g1:N<0:=by omega
  simp[g1,h1]

def AX(h:Nat→Nat→Bool)(x y:Nat):Nat→Nat→Bool:=fun a b=>if a<x then h a b else if a=x then decide (b<y)&&h a b else false
theorem Pd{n:Nat}(hn:n≤64)(h:Nat→Nat→Bool):rows n (AX h 0 0)=List.replicate n 0#64:=by
 rw[Ex,iO hn]
 intro a b _ _
 unfold AX
 by_cases ha:a=0 <;> simp[ha]
theorem Pc{n:Nat}(hn:n≤64)(h:Nat→Nat→Bool)(x:Nat):rows n (AX h x n)=rows n (AX h (x+1) 0):=by
 rw[iO hn]
 intro a b _ hb
 unfold AX
 by_cases h1:a<x
 ·simp[h1,show a<x+1 by omega]
 ·by_cases h2:a=x
  ·subst h2;simp[hb]
  ·simp[h1,h2,show ¬a<x+1 by omega]
theorem Ss{n:Nat}(hn:n≤64)(h:Nat→Nat→Bool):rows n (AX h n 0)=rows n h:=by
 rw[iO hn]
 intro a b ha _
 simp[AX,ha]
theorem Q_{n:Nat}(hn:n≤64)(h:Nat→Nat→Bool){x y:Nat}(he:h x y=false):rows n (AX h x y)=rows n (AX h x (y+1)):=by
 rw[iO hn]
 intro a b _ _
 unfold AX
 by_cases h1:a<x
 ·simp[h1]
 ·by_cases h2:a=x
  ·subst h2
   by_cases h3:b<y
   ·simp[h3,show b<y+1 by omega]
   ·by_cases h4:b=y
    ·subst h4;simp[he]
    ·simp[h3,show ¬b<y+1 by omega]
  ·simp[h1,h2]
theorem Su{n:Nat}(h:Nat→Nat→Bool){x y:Nat}(hx:x<n):Sh.idx (rows n (AX h x y)) (x:Int)=some (row n (AX h x y x)):=yg hx
theorem I_{n:Nat}(hn:n≤64)(h:Nat→Nat→Bool){x y:Nat}(hx:x<n)(hy:y<n)(he:h x y=true):
  Sh.set (rows n (AX h x y)) (x:Int) (row n (AX h x y x)|||Bv.bit (y:Int))=rows n (AX h x (y+1)):=by
 rw[HN,GR hn _ hy,GU _ hx,iO hn]
 intro a b _ _
 by_cases ha:a=x
 ·subst ha
  unfold AX
  by_cases h3:b<y
  ·have:¬b=y:=by omega
   simp[h3,show b<y+1 by omega,this]
  ·by_cases h4:b=y
   ·subst h4;simp[he]
   ·simp[h3,h4,show ¬b<y+1 by omega]
 ·simp only[ha,if_false]
  unfold AX
  by_cases h1:a<x <;> simp[h1,ha]
theorem Ep{n:Nat}(hn:n≤64)(f h:Nat→Nat→Bool):gN (rg n f) (rg n h)=some (rg n (NZ f h)):=by
 unfold gN
 simp only[B6 n hn,b9]
 refine count (fun x=>rows n (AX (NZ f h) x 0)) n _ (bC (by omega)) (fun x hx=> ?_) ?_ (by rw[Pd hn])
 ·simp only[kN,dec_lt,hx,decide_true,if_true]
  refine count (fun y=>rows n (AX (NZ f h) x y)) n _ (bC (by omega)) (fun y hy=> ?_) ?_ rfl
  ·have e:NZ f h x y=(f x y||h x y):=rfl
   simp only[kO,dec_lt,hy,decide_true,if_true,Ay hn f hx hy,Ay hn h hx hy,b9,kP,kQ,Su _ hx,yc,Sh.next,bn (k:=y) (by omega)]
   cases h1:f x y with
   |true=>simp only[if_true,I_ hn (NZ f h) hx hy (by rw[e,h1];rfl)]
   |false=>
    cases h2:h x y with
    |true=>simp only[iC,if_false,if_true,I_ hn (NZ f h) hx hy (by rw[e,h1,h2];rfl)]
    |false=>simp only[iC,if_false,Q_ hn (NZ f h) (show NZ f h x y=false by rw[e,h1,h2];rfl)]
  ·simp only[kO,Int.lt_irrefl,decide_false,iC,if_false,qh,Bh,qC,Pc hn,bn (k:=x) (by omega)]
 ·simp only[kN,Int.lt_irrefl,decide_false,iC,if_false,qg,qC,Ss hn]
end Pl
namespace Pl
open Go Go.Av G
def vf(c:Nat→Nat→Bool)(x:Nat)(p:Nat→Bool):Nat→Nat→Bool:=fun a b=>if a<x then c a b else if a=x then p b else false
theorem JF{n:Nat}(hn:n≤64)(c:Nat→Nat→Bool):rows n (vf c 0 fun _=>false)=List.replicate n 0#64:=by
 rw[Ex,iO hn]
 intro a b _ _
 simp[vf]
theorem JD{n:Nat}(hn:n≤64)(c:Nat→Nat→Bool)(x:Nat):rows n (vf c x (c x))=rows n (vf c (x+1) fun _=>false):=by
 rw[iO hn]
 intro a b _ _
 unfold vf
 by_cases h1:a<x
 ·simp[h1,show a<x+1 by omega]
 ·by_cases h2:a=x
  ·subst h2;simp
  ·simp[h1,h2,show ¬a<x+1 by omega]
theorem M0{n:Nat}(hn:n≤64)(c:Nat→Nat→Bool):rows n (vf c n fun _=>false)=rows n c:=by
 rw[iO hn]
 intro a b ha _
 simp[vf,ha]
theorem vY{n:Nat}(hn:n≤64)(c:Nat→Nat→Bool)(x:Nat){p q:Nat→Bool}(h:∀b,b<n→p b=q b):rows n (vf c x p)=rows n (vf c x q):=by
 rw[iO hn]
 intro a b _ hb
 simp[vf,h b hb]
theorem JE{n:Nat}(hn:n≤64)(c:Nat→Nat→Bool){x y:Nat}(hx:x<n)(hy:y<n)(p:Nat→Bool):
  Sh.set (rows n (vf c x p)) (x:Int) (row n (vf c x p x)|||Bv.bit (y:Int))=rows n (vf c x fun b=>p b||decide (b=y)):=by
 rw[HN,GR hn _ hy,GU _ hx,iO hn]
 intro a b _ _
 by_cases ha:a=x
 ·subst ha;simp[vf]
 ·simp[ha,vf]
theorem PB{n:Nat}(hn:n≤64)(f h:Nat→Nat→Bool):jj (rg n f) (rg n h)=some (rg n (H7 n f h)):=by
 unfold jj
 simp only[B6 n hn,b9]
 refine count (fun x=>rows n (vf (H7 n f h) x fun _=>false)) n _ (bC (by omega)) (fun x hx=> ?_) ?_ (by rw[JF hn])
 ·simp only[jk,dec_lt,hx,decide_true,if_true]
  refine count (fun y=>rows n (vf (H7 n f h) x fun b=>(List.range y).any fun z=>f x z&&h z b)) n _ (bC (by omega)) (fun y hy=> ?_) ?_ (by simp)
  ·simp only[jl,dec_lt,hy,decide_true,if_true,Ay hn f hx hy,b9]
   have step:rows n (vf (H7 n f h) x fun b=>((List.range y).any fun z=>f x z&&h z b)||(f x y&&h y b))=rows n (vf (H7 n f h) x fun b=>(List.range (y+1)).any fun z=>f x z&&h z b):=by
    apply vY hn
    intro b _
    rw[List.range_succ,List.any_append];simp
   cases hf:f x y with
   |false=>
    rw[hf] at step
    simp only[Bool.false_and,Bool.or_false] at step
    simp only[Bool.not_false,if_true,gH,Sh.next,bn (k:=y) (by omega),step]
   |true=>
    rw[hf] at step
    simp only[Bool.true_and] at step
    simp only[Bool.not_true,iC,if_false]
    refine count (fun z=>rows n (vf (H7 n f h) x fun b=>((List.range y).any fun z=>f x z&&h z b)||(decide (b<z)&&h y b))) n _ (bC (by omega)) (fun z hz=> ?_) ?_ (vY hn _ x (fun b _=>by simp))
    ·have hz':(z:Int)<(n:Int):=by omega
     simp only[jm,dec_lt,hz,decide_true,if_true,Ay hn h hy hz,b9,jo,yg hx,yc,Sh.next,bn (k:=z) (by omega),JE hn _ hx hz]
     cases hh:h y z with
     |true=>
      simp only[if_true]
      congr 3
      apply vY hn
      intro b _
      by_cases h1:b<z
      ·have:¬b=z:=by omega
       simp[h1,show b<z+1 by omega,this]
      ·by_cases h2:b=z
       ·subst h2;simp[hh]
       ·simp[h1,h2,show ¬b<z+1 by omega]
     |false=>
      simp only[iC,if_false]
      congr 3
      apply vY hn
      intro b _
      by_cases h1:b<z
      ·simp[h1,show b<z+1 by omega]
      ·by_cases h2:b=z
       ·subst h2;simp[hh]
       ·simp[h1,show ¬b<z+1 by omega]
    ·simp only[jm,Int.lt_irrefl,decide_false,iC,if_false,gH,Bh,qC,bn (k:=y) (by omega)]
     congr 4
     rw[←step]
     apply vY hn
     intro b hb
     simp[hb]
  ·simp only[jl,Int.lt_irrefl,decide_false,iC,if_false,nJ,Bh,qC,bn (k:=x) (by omega)]
   rw[←JD hn];rfl
 ·simp only[jk,Int.lt_irrefl,decide_false,iC,if_false,nI,qC,M0 hn]
end Pl
end

section
/- Where ways lead. -/

namespace Pl
open Go Go.Av G

inductive Way (n:Nat) (f:Nat→Nat→Bool):Nat→Nat→Prop
 |wQ {x y:Nat}:x<n→y<n→f x y=true→Way n f x y
 |cons {x y z:Nat}:x<n→y<n→f x y=true→Way n f y z→Way n f x z

theorem Way.trans{n:Nat}{f:Nat→Nat→Bool}{x y z:Nat}(h:Way n f x y)(k:Way n f y z):Way n f x z:=by
 induction h with
 |wQ hx hy hf=>exact .cons hx hy hf k
 |cons hx hy hf _ ih=>exact .cons hx hy hf (ih k)
theorem Way.left{n:Nat}{f:Nat→Nat→Bool}{x y:Nat}(h:Way n f x y):x<n:=by cases h <;> assumption
theorem Way.right{n:Nat}{f:Nat→Nat→Bool}{x y:Nat}(h:Way n f x y):y<n:=by
 induction h with
 |wQ _ hy _=>exact hy
 |cons _ _ _ _ ih=>exact ih
theorem Way.snoc{n:Nat}{f:Nat→Nat→Bool}{x y z:Nat}(h:Way n f x y)(hz:z<n)(hf:f y z=true):Way n f x z:=h.trans (.wQ h.right hz hf)
theorem Way.mono{n:Nat}{f h:Nat→Nat→Bool}(hm:∀x y,x<n→y<n→f x y=true→Way n h x y){x y:Nat}(w:Way n f x y):Way n h x y:=by
 induction w with
 |wQ hx hy hf=>exact hm _ _ hx hy hf
 |cons hx hy hf _ ih=>exact(hm _ _ hx hy hf).trans ih
theorem Way.last{n:Nat}{f:Nat→Nat→Bool}{x z:Nat}(h:Way n f x z):∃y,y<n∧f y z=true∧(y=x∨Way n f x y):=by
 induction h with
 |wQ hx hy hf=>exact⟨_,hx,hf,.inl rfl⟩
 |cons hx hy hf _ ih=>
  obtain⟨y,h1,h2,h3⟩:=ih
  refine⟨y,h1,h2,.inr ?_⟩
  rcases h3 with rfl|h3
  ·exact .wQ hx hy hf
  ·exact .cons hx hy hf h3

noncomputable def Qh(n:Nat)(f:Nat→Nat→Bool):Nat→Nat→Bool:=fun x y=> @decide (Way n f x y) (Classical.propDecidable _)
theorem NM{n:Nat}{f:Nat→Nat→Bool}{x y:Nat}:Qh n f x y=true↔Way n f x y:=by
 unfold Qh;exact @decide_eq_true_iff _ (Classical.propDecidable _)

noncomputable def Y0(n:Nat)(f:Nat→Nat→Bool):Bool:= @decide (∃x,Way n f x x) (Classical.propDecidable _)
theorem MP{n:Nat}{f:Nat→Nat→Bool}:Y0 n f=true↔∃x,Way n f x x:=by
 unfold Y0;exact @decide_eq_true_iff _ (Classical.propDecidable _)
end Pl
end

section
/- The statements on graphs. -/

namespace Pl
open Go Go.Av G

end Pl
end

section
/- The statements on where ways lead. -/

namespace Pl
open Go Go.Av G

def I5(f:Nat→Nat→Bool):Nat→Nat→Nat→Bool
 |0=>f
 |k+1=>fun x y=>I5 f k x y||(I5 f k x k&&I5 f k k y)
inductive YO (n:Nat) (f:Nat→Nat→Bool) (k:Nat):Nat→Nat→Prop
 |wQ {x y:Nat}:x<n→y<n→f x y=true→YO n f k x y
 |cons {x y z:Nat}:x<n→y<n→y<k→f x y=true→YO n f k y z→YO n f k x z
theorem Ui{n:Nat}{f:Nat→Nat→Bool}{k x y:Nat}(hk:k<n)(h:YO n f (k+1) x y):YO n f k x y∨(YO n f k x k∧YO n f k k y):=by
 induction h with
 |wQ hx hy hf=>exact .inl (.wQ hx hy hf)
 | @cons x z y hx hz hzk hf _ ih=>
  by_cases hlt:z<k
  ·rcases ih with h|⟨h1,h2⟩
   ·exact .inl (.cons hx hz hlt hf h)
   ·exact .inr ⟨.cons hx hz hlt hf h1,h2⟩
  ·have:z=k:=by omega
   subst this
   rcases ih with h|⟨h1,h2⟩
   ·exact .inr ⟨.wQ hx hk hf,h⟩
   ·exact .inr ⟨.wQ hx hk hf,h2⟩
theorem NK{n:Nat}{f:Nat→Nat→Bool}:∀(k:Nat),k≤n→∀{x y:Nat},YO n f k x y→I5 f k x y=true
 |0,_,x,y,h=>by
  cases h with
  |wQ _ _ hf=>exact hf
  |cons _ _ h0 _ _=>omega
 |k+1,hk,x,y,h=>by
  simp only[I5,Bool.or_eq_true,Bool.and_eq_true]
  rcases Ui (by omega) h with h|⟨h1,h2⟩
  ·exact .inl (NK k (by omega) h)
  ·exact .inr ⟨NK k (by omega) h1,NK k (by omega) h2⟩
theorem Gl{n:Nat}{f:Nat→Nat→Bool}:∀(k:Nat),k≤n→∀{x y:Nat},x<n→y<n→I5 f k x y=true→Way n f x y
 |0,_,x,y,hx,hy,h=>.wQ hx hy h
 |k+1,hk,x,y,hx,hy,h=>by
  simp only[I5,Bool.or_eq_true,Bool.and_eq_true] at h
  rcases h with h|⟨h1,h2⟩
  ·exact Gl k (by omega) hx hy h
  ·exact(Gl k (by omega) hx (by omega) h1).trans (Gl k (by omega) (by omega) hy h2)
theorem aaq{n:Nat}{f:Nat→Nat→Bool}{x y:Nat}(h:Way n f x y):YO n f n x y:=by
 induction h with
 |wQ hx hy hf=>exact .wQ hx hy hf
 |cons hx hy hf _ ih=>exact .cons hx hy hy hf ih
theorem adg{n:Nat}(hn:n≤64)(f:Nat→Nat→Bool):rows n (I5 f n)=rows n (Qh n f):=by
 rw[iO hn]
 intro x y hx hy
 rw[Bool.eq_iff_iff,NM]
 exact⟨Gl n (Nat.le_refl n) hx hy,fun h=>NK n (Nat.le_refl n) (aaq h)⟩
theorem TT{n:Nat}(hn:n≤64)(f:Nat→Nat→Bool):pg (rg n f)=some (rg n (Qh n f)):=by
 unfold pg
 refine Sh.DD (fun k=>((n:Int),rows n (I5 f k),(k:Int))) n _ (bC (by omega)) (fun k hk=> ?_) ?_
 ·simp only[kR,dec_lt,hk,decide_true,if_true,B6 n hn,b9]
  refine count (fun x=>rows n (AX (I5 f (k+1)) x 0)) n _ (bC (by omega)) (fun x hx=> ?_) ?_ (by rw[Pd hn])
  ·simp only[kS,dec_lt,hx,decide_true,if_true]
   refine count (fun y=>rows n (AX (I5 f (k+1)) x y)) n _ (bC (by omega)) (fun y hy=> ?_) ?_ rfl
   ·have e:I5 f (k+1) x y=(I5 f k x y||(I5 f k x k&&I5 f k k y)):=rfl
    simp only[kT,dec_lt,hy,decide_true,if_true,Ay hn _ hx hy,Ay hn _ hx hk,Ay hn _ hk hy,b9,iI,kU,Su _ hx,yc,Sh.next,bn (k:=y) (by omega)]
    cases h1:I5 f k x y with
    |true=>simp only[if_true,I_ hn (I5 f (k+1)) hx hy (by rw[e,h1];rfl)]
    |false=>
     cases h2:I5 f k x k with
     |false=>simp only[iC,if_false,Q_ hn (I5 f (k+1)) (show I5 f (k+1) x y=false by rw[e,h1,h2];rfl)]
     |true=>
      cases h3:I5 f k k y with
      |true=>simp only[iC,if_false,if_true,I_ hn (I5 f (k+1)) hx hy (by rw[e,h1,h2,h3];rfl)]
      |false=>simp only[iC,if_false,if_true,Q_ hn (I5 f (k+1)) (show I5 f (k+1) x y=false by rw[e,h1,h2,h3];rfl)]
   ·simp only[kT,Int.lt_irrefl,decide_false,iC,if_false,ql,Bh,qC,Pc hn,bn (k:=x) (by omega)]
  ·simp only[kS,Int.lt_irrefl,decide_false,iC,if_false,qk,qj,Bh,qC,Ss hn,bn (k:=k) (by omega)]
 ·simp only[kR,Int.lt_irrefl,decide_false,iC,if_false,qi,qC,adg hn]
theorem Rr{n:Nat}(hn:n≤64)(f:Nat→Nat→Bool):ot (rg n f)=some (Y0 n f):=by
 unfold ot
 have hr:lQ (rg n f)=some true:=by
  rw[TS _ (by simp;omega)];exact congrArg some (RB hn f)
 simp only[hr,b9,Bool.not_true,iC,if_false,TT hn]
 refine(PM n (fun k=> !Qh n f k k) false true (bC (by omega)) (fun k hk=> ?_) ?_).trans ?_
 ·simp only[jS,dec_lt,hk,decide_true,if_true,Ay hn _ hk hk,b9,qC,Sh.next,bn (k:=k) (by omega)]
  cases Qh n f k k <;> rfl
 ·simp only[jS,Int.lt_irrefl,decide_false,iC,if_false,oK,qC]
 ·congr 1
  by_cases h:∀k,k<n→(!Qh n f k k)=true
  ·rw[if_pos h]
   symm
   rw[←Bool.not_eq_true,MP]
   rintro⟨x,hx⟩
   have:=h x hx.left
   simp[NM.2 hx] at this
  ·rw[if_neg h]
   symm
   rw[MP]
   apply Classical.byContradiction
   intro hno
   apply h
   intro k hk
   cases hb:Qh n f k k with
   |false=>rfl
   |true=>exact absurd ⟨k,NM.1 hb⟩ hno
end Pl
end

section
/- The reference's graphs of a history: what must come ahead of what. -/
namespace Pl
open Go Go.Av G

theorem y7{h:af}{x:Nat}:inr h (x:Int)=true↔x<h.aC.length:=by rw[fI];omega
theorem Ei{h:af}{x:Nat}(hx:x<h.aC.length):Sh.idx h.aC (x:Int)=some (tx h x):=oH (y7.2 hx)
theorem Qe{h:af}{x:Nat}(hx:x<h.aC.length):tx h x∈h.aC:=sF (y7.2 hx)
theorem PO{n:Nat}(hn:n≤64)(f:Nat→Nat→Bool){a b:Nat}(ha:a<n)(hb:b<n):Sh.set (rows n f) (a:Int) (row n (f a)|||Bv.bit (b:Int))=rows n (YP f a b):=by
 rw[GR hn _ hb,HN,GU f ha,iO hn]
 intro x y _ _
 unfold YP
 by_cases hx:x=a
 ·subst hx;simp
 ·simp[hx]

def NH(h:af)(x y:Nat):Bool:=decide (x<y)&&decide ((tx h x).bB=(tx h y).bB)
def YK(h:af)(x y:Nat):Bool:=(tx h y).Reads.any (fun r=>decide (r.bT=(x:Int)))
def EC(h:af)(r:an)(y:Nat):Bool:=decide (r.bT= -1)&&gL (tx h y) r.Key
def Lg(h:af)(x y:Nat):Bool:=decide (y≠x)&&(tx h x).Reads.any (fun r=>EC h r y)
def wwF(l:List aa)(x y:Nat):Bool:=l.any (fun c=>decide (c.A=(x:Int))&&decide (c.B=(y:Int)))
def rwC(h:af)(c:aa)(x y:Nat):Bool:=decide (c.B=(y:Int))&&decide (x≠y)&&decide (wZ h x c.Key=some c.A)
def YI(h:af)(l:List aa)(x y:Nat):Bool:=Lg h x y||l.any (fun c=>rwC h c x y)


theorem BA{α:Type}{l:List α}{k:Nat}(h:k<l.length)(q:α→Bool):(l.take (k+1)).any q=((l.take k).any q||q l[k]):=by
 rw[List.take_add_one,List.getElem?_eq_getElem h,Option.toList_some,List.any_append,List.any_cons,List.any_nil,Bool.or_false]
theorem aeW{h:af}(hn:h.aC.length≤64):qF h=some (rg h.aC.length (NH h)):=by
 unfold qF
 rw[show(Sh.len h.aC)=((h.aC.length:Nat):Int) from rfl,B6 _ hn]
 simp only[b9]
 refine c6 (fun k=>rows h.aC.length (vf (NH h) k fun _=>false)) h.aC.length _ (bC (by omega)) (fun a ha=> ?_) ?_ (by rw[JF hn])
 ·simp only[pn,dec_lt,ha,decide_true,if_true]
  rw[bn (by omega)]
  refine ig (fun j=>(rows h.aC.length (vf (NH h) a fun y=>decide (y<a+1+j)&&NH h a y),((a+1+j:Nat):Int))) (h.aC.length - (a+1)) _ (bC (by omega)) (fun j hj=> ?_) ?_ ?_
  ·have hb:a+1+j<h.aC.length:=by omega
   have ne:rows h.aC.length (vf (NH h) a fun y=>(decide (y<a+1+j)&&NH h a y)||(decide (y=a+1+j)&&NH h a (a+1+j)))=rows h.aC.length (vf (NH h) a fun y=>decide (y<a+1+(j+1))&&NH h a y):=by
    apply vY hn
    intro y hy
    by_cases e2:y=a+1+j
    ·subst e2;simp
    ·have:(y<a+1+(j+1))↔(y<a+1+j):=by omega
     simp[e2,this]
   simp only[pq,dec_lt,hb,decide_true,if_true,Ei ha,Ei hb,b9,yg ha,yc,JE hn _ ha hb,pz,bn (k:=a+1+j) (by omega),Sh.next]
   have hlt:decide (a<a+1+j)=true:=by simp;omega
   by_cases hs:(tx h a).bB=(tx h (a+1+j:Nat)).bB
   ·have hso:NH h a (a+1+j)=true:=by unfold NH;rw[hlt,hs];simp
    rw[←ne,hso]
    simp only[hs,decide_true,if_true,Bool.and_true]
    rfl
   ·have hso:NH h a (a+1+j)=false:=by unfold NH;rw[decide_eq_false hs];simp
    rw[←ne,hso]
    simp only[hs,decide_false,iC,if_false,Bool.and_false,Bool.or_false]
    rfl
  ·rw[show a+1+(h.aC.length - (a+1))=h.aC.length by omega]
   simp only[pq,dec_lt,Nat.lt_irrefl,decide_false,iC,if_false,sR,bn (k:=a) (by omega),Sh.next]
   rw[←JD hn]
   congr 4
   exact vY hn _ _ fun y hy=>by simp[hy]
  ·congr 1
   refine vY hn _ _ fun y hy=> ?_
   by_cases e2:y<a+1
   ·have:¬a<y:=by omega
    simp[NH,this]
   ·simp[e2]
 ·simp only[pn,dec_lt,Nat.lt_irrefl,decide_false,iC,if_false,sQ]
  rw[M0 hn]

def AM(c:Nat→Nat→Bool)(t:Nat)(p:Nat→Bool):Nat→Nat→Bool:=fun a b=>if b<t then c a b else if b=t then p a else false
theorem Tk{n:Nat}(hn:n≤64)(c:Nat→Nat→Bool):rows n (AM c 0 fun _=>false)=List.replicate n 0#64:=by
 rw[Ex,iO hn]
 intro a b _ _
 simp[AM]
theorem Ti{n:Nat}(hn:n≤64)(c:Nat→Nat→Bool)(x:Nat):rows n (AM c x fun a=>c a x)=rows n (AM c (x+1) fun _=>false):=by
 rw[iO hn]
 intro a b _ _
 unfold AM
 by_cases h1:b<x
 ·simp[h1,show b<x+1 by omega]
 ·by_cases h2:b=x
  ·subst h2;simp
  ·simp[h1,h2,show ¬b<x+1 by omega]
theorem U5{n:Nat}(hn:n≤64)(c:Nat→Nat→Bool):rows n (AM c n fun _=>false)=rows n c:=by
 rw[iO hn]
 intro a b _ hb
 simp[AM,hb]
theorem Gq{n:Nat}(hn:n≤64)(c:Nat→Nat→Bool)(x:Nat){p q:Nat→Bool}(h:∀a,a<n→p a=q a):rows n (AM c x p)=rows n (AM c x q):=by
 rw[iO hn]
 intro a b ha _
 simp[AM,h a ha]
theorem Tj{n:Nat}(hn:n≤64)(c:Nat→Nat→Bool){x y:Nat}(hx:x<n)(hy:y<n)(p:Nat→Bool):
  Sh.set (rows n (AM c y p)) (x:Int) (row n (AM c y p x)|||Bv.bit (y:Int))=rows n (AM c y fun a=>p a||decide (a=x)):=by
 rw[HN,GR hn _ hy,GU _ hx,iO hn]
 intro a b _ _
 by_cases ha:a=x
 ·subst ha
  by_cases hb:b=y
  ·subst hb;simp[AM]
  ·simp[AM,hb]
 ·by_cases hb:b=y
  ·subst hb;simp[ha,AM]
  ·simp[ha,AM,hb]

theorem Y7{h:af}(hr:right h=true){t:Nat}(ht:t<h.aC.length){r:an}(hm:r∈(tx h t).Reads)(h0:¬r.bT<0):∃x:Nat,r.bT=(x:Int)∧x<h.aC.length:=by
 have:=(Y8 hr (Qe ht) hm h0).1
 obtain⟨a,b⟩:=fI.1 this
 exact⟨r.bT.toNat,by omega,by omega⟩
theorem aeX{h:af}(hf:Fits h)(hr:right h=true)(hn:h.aC.length≤64):qG h=some (rg h.aC.length (YK h)):=by
 unfold qG
 rw[show(Sh.len h.aC)=((h.aC.length:Nat):Int) from rfl,B6 _ hn]
 simp only[b9]
 refine c6 (fun k=>rows h.aC.length (AM (YK h) k fun _=>false)) h.aC.length _ (bC (by omega)) (fun t ht=> ?_) ?_ (by rw[Tk hn])
 ·have hl:=hf.reads _ (Qe ht)
  simp only[pE,dec_lt,ht,decide_true,if_true,Ei ht,b9]
  refine c6 (fun i=>rows h.aC.length (AM (YK h) t fun x=>((tx h t).Reads.take i).any (fun r=>decide (r.bT=(x:Int))))) (tx h t).Reads.length _ (bC (by omega)) (fun i hi=> ?_) ?_ (by simp)
  ·have hm:=List.getElem_mem hi
   have ne:rows h.aC.length (AM (YK h) t fun x=>((tx h t).Reads.take i).any (fun r=>decide (r.bT=(x:Int)))||decide (((tx h t).Reads[i]).bT=(x:Int)))=rows h.aC.length (AM (YK h) t fun x=>((tx h t).Reads.take (i+1)).any (fun r=>decide (r.bT=(x:Int)))):=
    Gq hn _ _ fun x _=>by rw[BA hi]
   simp only[pF,dec_lt,hi,decide_true,if_true,bM hi,b9,yc,pG,bn (k:=i) (by omega),Sh.next]
   by_cases h0:((tx h t).Reads[i]).bT<0
   ·have h1:¬0≤((tx h t).Reads[i]).bT:=by omega
    simp only[h1,decide_false,iC,if_false]
    rw[←ne]
    congr 3
    refine Gq hn _ _ fun x _=> ?_
    have:¬((tx h t).Reads[i]).bT=(x:Int):=by omega
    simp[this]
   ·have h1:0≤((tx h t).Reads[i]).bT:=by omega
    obtain⟨x,hx,hxn⟩:=Y7 hr ht hm h0
    simp only[hx,show(0:Int)≤(x:Int) by omega,decide_true,if_true,yg hxn,b9,Tj hn _ hxn ht]
    rw[←ne]
    congr 3
    refine Gq hn _ _ fun y _=> ?_
    rw[hx]
    congr 1
    rw[Bool.eq_iff_iff]
    simp only[decide_eq_true_eq]
    omega
  ·simp only[pF,dec_lt,Nat.lt_irrefl,decide_false,iC,if_false,sU,bn (k:=t) (by omega),Sh.next]
   rw[←Ti hn]
   congr 4
   exact Gq hn _ _ fun y hy=>by rw[List.take_of_length_le (Nat.le_refl _)];rfl
 ·simp only[pE,dec_lt,Nat.lt_irrefl,decide_false,iC,if_false,sS]
  rw[U5 hn]

theorem Xt{h:af}(hf:Fits h)(hr:right h=true)(hn:h.aC.length≤64):qX h=some (rg h.aC.length (NZ (NH h) (YK h))):=by
 unfold qX
 rw[aeW hn,aeX hf hr hn]
 simp only[b9,Ep hn]

theorem Xs{h:af}(hf:Fits h)(hn:h.aC.length≤64):qT h=some (rg h.aC.length (Lg h)):=by
 unfold qT
 rw[show(Sh.len h.aC)=((h.aC.length:Nat):Int) from rfl,B6 _ hn]
 simp only[b9]
 refine c6 (fun k=>rows h.aC.length (vf (Lg h) k fun _=>false)) h.aC.length _ (bC (by omega)) (fun t ht=> ?_) ?_ (by rw[JF hn])
 ·have hl:=hf.reads _ (Qe ht)
  simp only[mG,dec_lt,ht,decide_true,if_true,Ei ht,b9]
  refine c6 (fun i=>rows h.aC.length (vf (Lg h) t fun y=>decide (y≠t)&&((tx h t).Reads.take i).any (fun r=>EC h r y))) (tx h t).Reads.length _ (bC (by omega)) (fun i hi=> ?_) ?_ (by simp)
  ·simp only[mH,dec_lt,hi,decide_true,if_true]
   refine c6 (fun w=>rows h.aC.length (vf (Lg h) t fun y=>(decide (y≠t)&&((tx h t).Reads.take i).any (fun r=>EC h r y))||(decide (y<w)&&(decide (y≠t)&&EC h ((tx h t).Reads[i]) y)))) h.aC.length _ (bC (by omega)) (fun w hw=> ?_) ?_ (by simp)
   ·have ne:rows h.aC.length (vf (Lg h) t fun y=>((decide (y≠t)&&((tx h t).Reads.take i).any (fun r=>EC h r y))||(decide (y<w)&&(decide (y≠t)&&EC h ((tx h t).Reads[i]) y)))||(decide (y=w)&&(decide (w≠t)&&EC h ((tx h t).Reads[i]) w)))=rows h.aC.length (vf (Lg h) t fun y=>(decide (y≠t)&&((tx h t).Reads.take i).any (fun r=>EC h r y))||(decide (y<w+1)&&(decide (y≠t)&&EC h ((tx h t).Reads[i]) y))):=
     vY hn _ _ fun y _=>by
      by_cases e2:y=w
      ·subst e2;simp
      ·have:(y<w+1)↔(y<w):=by omega
       simp[e2,this]
    have hj:∀b:Bool,gO t (rows h.aC.length (vf (Lg h) t fun y=>(decide (y≠t)&&((tx h t).Reads.take i).any (fun r=>EC h r y))||(decide (y<w)&&(decide (y≠t)&&EC h ((tx h t).Reads[i]) y)))) w b=some (.inl (rows h.aC.length (vf (Lg h) t fun y=>((decide (y≠t)&&((tx h t).Reads.take i).any (fun r=>EC h r y))||(decide (y<w)&&(decide (y≠t)&&EC h ((tx h t).Reads[i]) y)))||(decide (y=w)&&b)),((w+1:Nat):Int))):=fun b=>by
     unfold gO
     simp only[yg ht,b9,yc,JE hn _ ht hw,mJ,bn (k:=w) (by omega),Sh.next]
     cases b
     ·simp
     ·simp
    simp only[mI,dec_lt,hw,decide_true,if_true,Ei hw,bM hi,b9,AA (hf.writes _ (Qe hw)),hj]
    rw[←ne]
    unfold EC
    have e3:decide ((w:Int)≠(t:Int))=decide (w≠t):=by congr 1;exact propext (by omega)
    rw[e3]
    cases gL (tx h w) ((tx h t).Reads[i]).Key
    ·simp
    ·by_cases e4:((tx h t).Reads[i]).bT= -1
     ·simp[e4]
     ·simp[e4]
   ·simp only[mI,dec_lt,Nat.lt_irrefl,decide_false,iC,if_false,qW,bn (k:=i) (by omega),Sh.next]
    congr 4
    refine vY hn _ _ fun y hy=> ?_
    rw[BA hi]
    simp only[hy,decide_true,Bool.true_and]
    cases decide (y≠t) <;> simp
  ·simp only[mH,dec_lt,Nat.lt_irrefl,decide_false,iC,if_false,qV,bn (k:=t) (by omega),Sh.next]
   rw[←JD hn]
   congr 4
   exact vY hn _ _ fun y hy=>by rw[List.take_of_length_le (Nat.le_refl _)];rfl
 ·simp only[mG,dec_lt,Nat.lt_irrefl,decide_false,iC,if_false,qU]
  rw[M0 hn]

theorem SC{h:af}{c:aa}(h1:one h c=true):∃a b:Nat,c.A=(a:Int)∧c.B=(b:Int)∧a<h.aC.length∧b<h.aC.length∧a≠b∧gL (tx h a) c.Key=true∧gL (tx h b) c.Key=true:=by
 simp only[one,Bool.and_eq_true,decide_eq_true_eq] at h1
 obtain⟨⟨⟨⟨d,e⟩,f⟩,g⟩,k⟩:=h1
 have e':=fI.1 e
 have f':=fI.1 f
 have ea:c.A=((c.A.toNat:Nat):Int):=by omega
 have eb:c.B=((c.B.toNat:Nat):Int):=by omega
 refine⟨c.A.toNat,c.B.toNat,ea,eb,by omega,by omega,by omega, ?_, ?_⟩
 ·rw[←ea];exact g
 ·rw[←eb];exact k
theorem aeZ{h:af}(hn:h.aC.length≤64){l:List aa}(hl:l.length<9223372036854775807)(hone:∀c∈l,one h c=true):qI h l=some (rg h.aC.length (wwF l)):=by
 unfold qI
 rw[show(Sh.len h.aC)=((h.aC.length:Nat):Int) from rfl,B6 _ hn]
 simp only[b9]
 refine c6 (fun i=>rows h.aC.length (wwF (l.take i))) l.length _ (bC (by omega)) (fun i hi=> ?_) ?_ ?_
 ·obtain⟨a,b,ea,eb,ha,hb,_⟩:=SC (hone _ (List.getElem_mem hi))
  simp only[pL,dec_lt,hi,decide_true,if_true,bM hi,b9,ea,eb,yg ha,yc,PO hn _ ha hb,bn (k:=i) (by omega),Sh.next]
  congr 3
  rw[iO hn]
  intro x y _ _
  unfold YP wwF
  rw[BA hi,ea,eb]
  congr 1
  rw[Bool.eq_iff_iff]
  simp only[decide_eq_true_eq,Bool.and_eq_true]
  omega
 ·simp only[pL,dec_lt,Nat.lt_irrefl,decide_false,iC,if_false,sY,List.take_length]
 ·rw[Ex]
  congr 1
def rY(h:af)(key frm:Int):List Nat:=(List.range h.aC.length).filter fun t:Nat=>decide (wZ h t key=some frm)
theorem Pz{h:af}(hf:Fits h)(hn:h.aC.length≤64)(key frm:Int):jg h key frm=some ((rY h key frm).map fun t:Nat=>(t:Int)):=by
 unfold jg rY
 refine c6 (fun k=>(((List.range k).filter fun t:Nat=>decide (wZ h t key=some frm)).map fun t:Nat=>(t:Int))) h.aC.length _ (bC (by omega)) (fun k hk=> ?_) ?_ (by simp)
 ·have hj:∀b:Bool,gE (((List.range k).filter fun t:Nat=>decide (wZ h t key=some frm)).map fun t:Nat=>(t:Int)) k b=some (.inl ((((List.range k).filter fun t:Nat=>decide (wZ h t key=some frm)).map fun t:Nat=>(t:Int))++(if b then [(k:Int)] else []),((k+1:Nat):Int))):=fun b=>by
   unfold gE
   have hle:((List.range k).filter fun t:Nat=>decide (wZ h t key=some frm)).length≤k:=by
    have:=List.length_filter_le (fun t:Nat=>decide (wZ h t key=some frm)) (List.range k);simpa using this
   cases b
   ·simp[gD,bn (k:=k) (by omega),Sh.next]
   ·simp only[if_true]
    rw[dX (by simp;omega)]
    simp[gD,bn (k:=k) (by omega),Sh.next]
  simp only[jh,dec_lt,hk,decide_true,if_true,amD hf,b9,hj]
  have e:∀v:Option Int,(if(match v with|some v=>(v,true)|none=>((0:Int),false)).2=true then some (Sum.inl (α:=List Int×Int) (β:=List Int) ((((List.range k).filter fun t:Nat=>decide (wZ h t key=some frm)).map fun t:Nat=>(t:Int))++(if decide ((match v with|some v=>(v,true)|none=>((0:Int),false)).1=frm)=true then [(k:Int)] else []),((k+1:Nat):Int))) else some (Sum.inl ((((List.range k).filter fun t:Nat=>decide (wZ h t key=some frm)).map fun t:Nat=>(t:Int))++(if false=true then [(k:Int)] else []),((k+1:Nat):Int))))=some (.inl ((((List.range k).filter fun t:Nat=>decide (wZ h t key=some frm)).map fun t:Nat=>(t:Int))++(if decide (v=some frm) then [(k:Int)] else []),((k+1:Nat):Int))):=fun v=>by
   cases v with
   |none=>simp
   |some v=>by_cases hv:v=frm <;> simp[hv]
  refine(e (wZ h k key)).trans ?_
  rw[List.range_succ,List.filter_append,List.map_append]
  by_cases uR:wZ h k key=some frm <;> simp[uR]
 ·simp[jh,nH,Sh.len]
theorem Km{h:af}{key frm:Int}{t:Nat}(ht:t∈rY h key frm):t<h.aC.length∧wZ h t key=some frm:=by
 unfold rY at ht
 simpa using ht
theorem PI{h:af}{key frm:Int}:(rY h key frm).length≤h.aC.length:=by
 have:=List.length_filter_le (fun t:Nat=>decide (wZ h t key=some frm)) (List.range h.aC.length);simpa [rY] using this
theorem aeY{h:af}(hf:Fits h)(hn:h.aC.length≤64){l:List aa}(hl:l.length<9223372036854775807)(hone:∀c∈l,one h c=true):qH h l=some (rg h.aC.length (YI h l)):=by
 unfold qH
 rw[Xs hf hn]
 simp only[b9]
 refine c6 (fun i=>rows h.aC.length (YI h (l.take i))) l.length _ (bC (by omega)) (fun i hi=> ?_) ?_ ?_
 ·obtain⟨a,b,ea,eb,ha,hb,_⟩:=SC (hone _ (List.getElem_mem hi))
  simp only[pI,dec_lt,hi,decide_true,if_true,bM hi,b9,Pz hf hn]
  have hlen:=PI (h:=h) (key:=(l[i]).Key) (frm:=(l[i]).A)
  refine c6 (fun k=>rows h.aC.length (fun x y=>YI h (l.take i) x y||(decide (y=b)&&decide (x≠b)&&((rY h (l[i]).Key (l[i]).A).take k).any (fun t=>decide (x=t))))) (rY h (l[i]).Key (l[i]).A).length _ (bC (by omega)) (fun k hk=> ?_) ?_ ?_
  ·have uR:k<((rY h (l[i]).Key (l[i]).A).map fun t:Nat=>(t:Int)).length:=by simpa using hk
   have et:((rY h (l[i]).Key (l[i]).A).map fun t:Nat=>(t:Int))[k]=(((rY h (l[i]).Key (l[i]).A)[k]:Nat):Int):=by simp
   obtain⟨htn,_⟩:=Km (List.getElem_mem hk)
   generalize hF:(fun x y=>YI h (l.take i) x y||(decide (y=b)&&decide (x≠b)&&((rY h (l[i]).Key (l[i]).A).take k).any (fun t=>decide (x=t))))=F
   generalize ht:(rY h (l[i]).Key (l[i]).A)[k]=t at htn et
   simp only[pJ,dec_lt,uR,decide_true,if_true,bM uR,bM hi,b9,et,eb,yg htn,yc,PO hn _ htn hb,pK,bn (k:=k) (by omega),Sh.next]
   by_cases e:t=b
   ·have e':¬((t:Int)≠(b:Int)):=by omega
    simp only[e',decide_false,iC,if_false]
    congr 3
    rw[iO hn]
    intro x y _ _
    rw[←hF,BA hk,ht]
    by_cases hx:x=t
    ·subst hx;simp[e]
    ·simp[hx]
   ·have e':¬((t:Int)=(b:Int)):=by omega
    simp only[ne_eq,e',not_false_eq_true,decide_true,if_true]
    congr 3
    rw[iO hn]
    intro x y _ _
    unfold YP
    rw[←hF,BA hk,ht]
    by_cases hx:x=t
    ·subst hx;by_cases hy:y=b <;> simp[e,hy]
    ·simp[hx]
  ·have hm:((rY h (l[i]).Key (l[i]).A).map fun t:Nat=>(t:Int)).length=(rY h (l[i]).Key (l[i]).A).length:=by simp
   simp only[pJ,bW,hm,dec_lt,Nat.lt_irrefl,decide_false,iC,if_false,sX,bn (k:=i) (by omega),Sh.next]
   congr 4
   rw[iO hn]
   intro x y hx hy
   rw[List.take_length]
   unfold YI
   rw[BA hi,Bool.or_assoc]
   congr 2
   unfold rwC
   rw[eb,Bool.eq_iff_iff]
   simp only[Bool.and_eq_true,decide_eq_true_eq,List.any_eq_true]
   constructor
   ·rintro⟨⟨h1,h2⟩,t,ht,rfl⟩
    exact⟨⟨by omega,by omega⟩,(Km ht).2⟩
   ·rintro⟨⟨h1,h2⟩,h3⟩
    refine⟨⟨by omega,by omega⟩,x, ?_,rfl⟩
    unfold rY
    simp[hx,h3]
  ·congr 2
   funext x y
   simp
 ·simp only[pI,dec_lt,Nat.lt_irrefl,decide_false,iC,if_false,sW,List.take_length]
 ·congr 2
  funext x y
  simp[YI]

def dF(h:af)(l:List aa):Nat→Nat→Bool:=NZ (NZ (NH h) (YK h)) (wwF l)
def Oz(h:af)(lev:Int)(l:List aa):Nat→Nat→Bool:=
 NZ (dF h l) (if lev=1 then H7 h.aC.length (dF h l) (YI h l) else YI h l)
theorem Xv{h:af}(hf:Fits h)(hr:right h=true)(lev:Int){l:List aa}(hl:l.length<9223372036854775807)(hone:∀c∈l,one h c=true):nL h lev l=some (rg h.aC.length (Oz h lev l)):=by
 have hn:h.aC.length≤64:=by
  simp only[right,Bool.and_eq_true,decide_eq_true_eq] at hr;omega
 unfold nL Oz
 rw[Xt hf hr hn,aeZ hn hl hone]
 simp only[b9,Ep hn,aeY hf hn hl hone]
 by_cases h1:lev=1
 ·simp only[h1,decide_true,if_true,jq,PB hn,b9]
  rw[show NZ (NZ (NH h) (YK h)) (wwF l)=dF h l from rfl,Ep hn]
  rfl
 ·simp only[h1,decide_false,iC,if_false,jq,b9]
  rw[show NZ (NZ (NH h) (YK h)) (wwF l)=dF h l from rfl,Ep hn]
  rfl
noncomputable def Y9(h:af)(lev:Int)(l:List aa):Bool:= !Y0 h.aC.length (Oz h lev l)
theorem Xw{h:af}(hf:Fits h)(hr:right h=true)(lev:Int){l:List aa}(hl:l.length<9223372036854775807)(hone:∀c∈l,one h c=true):qY h lev l=some (Y9 h lev l):=by
 have hn:h.aC.length≤64:=by
  simp only[right,Bool.and_eq_true,decide_eq_true_eq] at hr;omega
 unfold qY Y9
 rw[Xv hf hr lev hl hone]
 simp only[b9,Rr hn]
end Pl
end

section
/- What follows must be so: whoever chooses all pairs, and lets nothing lead back, chooses it too. -/
namespace Pl
open Go Go.Av G

end Pl
end
