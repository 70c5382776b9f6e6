/- What the plain functions answer. -/
import Derived.Test.YtleihjegenjacaaGreatBase1
import Derived.Test.YtleihjegenjacaaGreatSh
import Derived.KernelRfl
import Derived.Test.YtleihjegenjacaaGreatBase2
set_option linter.unusedSimpArgs false
set_option linter.unusedVariables false
section
/- What is used to reason about the plain functions. -/
namespace Pl
open Go Go.Av

theorem CZ{n:Int}(h1: -9223372036854775808≤n)(h2:n<9223372036854775808):kg n=n:=JX h1 h2
theorem gT{α:Type}{l:List α}{k:Nat}(h:k<l.length):Sh.idx l (k:Int)=some l[k]:=by
 simp[Sh.idx,h]
theorem JY{α:Type}{l:List α}{i:Int}(h0:0≤i)(h:i<l.length):Sh.idx l i=some (l[i.toNat]'(by omega)):=by
 unfold Sh.idx
 rw[if_pos h0]
 exact List.getElem?_eq_getElem (by omega)
theorem wg{α:Type}{b:Nat}{l m:List α}(h:(l.length+m.length)*b≤140737488355328):Sh.app b l m=some (l++m):=by
 simp[Sh.app,h]
theorem M8{α:Type}{b m:Nat}{z:α}(h:b*m≤140737488355328)(h2:m≤4611686018427387904):Sh.mk b (m:Int) (m:Int) z=some (List.replicate m z):=by
 have:((b:Int)*(m:Int))≤140737488355328:=by
  rw[←Int.natCast_mul];omega
 unfold Sh.mk
 rw[if_pos ⟨by omega,by omega,this,by omega⟩]
 simp
theorem OK{α:Type}(l:List α)(k:Nat)(x:α):Sh.set l (k:Int) x=l.set k x:=by simp[Sh.set]
theorem eN{n:Nat}(h:n<9223372036854775808):n<Sh.p_:=h
theorem dI{k:Nat}(h:k<9223372036854775807):kg ((k:Int)+1)=((k+1:Nat):Int):=by
 rw[CZ (by omega) (by omega)];omega
theorem gU{α:Type}(l:List α):Sh.len l=(l.length:Int):=rfl
theorem dec_lt{k n:Nat}:decide ((k:Int)<(n:Int))=decide (k<n):=by
 congr 1;exact propext (by omega)
end Pl
namespace Pl
open Go Go.Av
theorem scan{α:Type}{b:Int→Option (Int⊕α)}(s m:Nat)(p:Nat→Bool)(A B:α)(hsm:s≤m)(hm:m<Sh.p_)(h:∀k,s≤k→k<m→b (k:Int)=if p k then some (.inl ((k+1:Nat):Int)) else some (.inr B))(hr:b (m:Int)=some (.inr A)):
  Sh.loop b (s:Int)=some (if ∀k,k<m→s≤k→p k=true then A else B):=by
 by_cases hall:∀k,k<m→s≤k→p k=true
 ·rw[if_pos hall]
  refine Sh.Er (fun k=>((s+k:Nat):Int)) (m - s) A (by omega) (fun k hk=> ?_) ?_
  ·rw[h (s+k) (by omega) (by omega),if_pos (hall _ (by omega) (by omega))];rfl
  ·rw[show s+(m - s)=m by omega];exact hr
 ·rw[if_neg hall]
  have hex:∃k,s≤k∧k<m∧p k=false:=by
   apply Classical.byContradiction
   intro hn
   exact hall (fun k h2 h1=>by
    cases hp:p k with
    |true=>rfl
    |false=>exact absurd ⟨k,h1,h2,hp⟩ hn)
  obtain⟨k,hk,hmin⟩:=exists_least _ hex
  refine Sh.Er (fun q=>((s+q:Nat):Int)) (k - s) B (by omega) (fun q hq=> ?_) ?_
  ·have:p (s+q)=true:=by
    cases hp:p (s+q) with
    |true=>rfl
    |false=>have:=hmin (s+q) ⟨by omega,by omega,hp⟩;omega
   rw[h (s+q) (by omega) (by omega),if_pos this];rfl
  ·rw[show s+(k - s)=k by omega,h k hk.1 hk.2.1,if_neg (by rw[hk.2.2];simp)]
theorem SL{α:Type}{b:Int→Option (Int⊕α)}(m:Nat)(p:Nat→Bool)(A B:α)(hm:m<Sh.p_)(h:∀k,k<m→b (k:Int)=if p k then some (.inl ((k+1:Nat):Int)) else some (.inr B))(hr:b (m:Int)=some (.inr A)):
  Sh.loop b 0=some (if ∀k,k<m→p k=true then A else B):=by
 have:=scan 0 m p A B (by omega) hm (fun k _ hk=>h k hk) hr
 simpa using this
theorem BS{b:Int→Option (Int⊕Bool)}(m:Nat)(p:Nat→Bool)(hm:m<Sh.p_)(h:∀k,k<m→b (k:Int)=if p k then some (.inl ((k+1:Nat):Int)) else some (.inr false))(hr:b (m:Int)=some (.inr true)):
  Sh.loop b 0=some (decide (∀k,k<m→p k=true)):=by
 rw[SL m p true false hm h hr]
 by_cases hq:∀k,k<m→p k=true
 ·rw[if_pos hq,decide_eq_true hq]
 ·rw[if_neg hq,decide_eq_false hq]
end Pl
namespace Pl
open Go Go.Av
theorem pM{σ α:Type}{b:σ→Option (σ⊕α)}(S:Nat→σ)(m:Nat)(X:Option α)(hm:m<Sh.p_)(h:∀k,k<m→b (S k)=some (.inl (S (k+1))))(hr:b (S m)=Sh.exit X){s:σ}(hs:s=S 0):Sh.loop b s=X:=by
 subst hs
 unfold Sh.loop
 rw[show Sh.p_=m+((Sh.p_ - m - 1)+1) by omega,Sh.Ge S m h]
 simp only[Sh.iter,hr]
 cases X <;> rfl
theorem nh{σ α:Type}{b:σ×Int→Option ((σ×Int)⊕α)}(S:Nat→σ)(m:Nat)(X:Option α)(hm:m<Sh.p_)(h:∀k,k<m→b (S k,(k:Int))=some (.inl (S (k+1),((k+1:Nat):Int))))(hr:b (S m,(m:Int))=Sh.exit X){s:σ}(hs:s=S 0):
  Sh.loop b (s,0)=X:=pM (fun k=>(S k,(k:Int))) m X hm h hr (by rw[hs];rfl)
end Pl
end

section
/- Loops over lists. -/
namespace Pl
open Go Go.Av

def p8{σ α β:Type}(step:Nat→σ→α→σ⊕β)(X:σ→Option β):Nat→List α→σ→Option β
 |_,[],s=>X s
 |k,x::l,s=>match step k s x with
  |.inl s'=>p8 step X (k+1) l s'
  |.inr r=>some r

theorem sH{σ β:Type}{b:σ→Option (σ⊕β)}{n:Nat}{s s':σ}(h:b s=some (.inl s')):Sh.iter b (n+1) s=Sh.iter b n s':=by simp[Sh.iter,h]
theorem ym{σ β:Type}{b:σ→Option (σ⊕β)}{n:Nat}{s:σ}{r:β}(h:b s=some (.inr r)):Sh.iter b (n+1) s=some r:=by simp[Sh.iter,h]
theorem oI{σ β:Type}{b:σ→Option (σ⊕β)}{n:Nat}{s:σ}{X:Option β}(h:b s=Sh.exit X):Sh.iter b (n+1) s=X:=by cases X <;> simp[Sh.iter,h,Sh.exit]

theorem GN{σ τ α β:Type}{b:τ→Option (τ⊕β)}(S:σ→Nat→τ)(step:Nat→σ→α→σ⊕β)(X:σ→Option β)(l0:List α)
  (h:∀(k:Nat) (s:σ) (hk:k<l0.length),b (S s k)=match step k s l0[k] with|.inl s'=>some (.inl (S s' (k+1)))|.inr r=>some (.inr r))
  (he:∀s,b (S s l0.length)=Sh.exit (X s)):∀(l:List α) (k n:Nat) (s:σ),l0.drop k=l→k≤l0.length→l.length<n→Sh.iter b n (S s k)=p8 step X k l s:=by
 intro l
 induction l with
 |nil=>
  intro k n s hl hk hn
  have wz:k=l0.length:=by
   have:(l0.drop k).length=0:=by rw[hl];rfl
   simp at this;omega
  subst wz
  obtain⟨n,rfl⟩:∃m,n=m+1:=⟨n - 1,by simp at hn;omega⟩
  exact oI (he s)
 |cons x l ih=>
  intro k n s hl hk hn
  have hlen:(l0.drop k).length=l.length+1:=by rw[hl];rfl
  have wz:k<l0.length:=by simp at hlen;omega
  obtain⟨n,rfl⟩:∃m,n=m+1:=⟨n - 1,by simp at hn;omega⟩
  have hx:l0[k]=x∧l0.drop (k+1)=l:=by
   rw[List.drop_eq_getElem_cons wz] at hl
   simp only[List.cons.injEq] at hl
   exact hl
  have hb:=h k s wz
  rw[hx.1] at hb
  simp only[p8]
  cases hs:step k s x with
  |inl s'=>
   rw[hs] at hb
   rw[sH hb]
   exact ih (k+1) n s' hx.2 wz (by simp at hn;omega)
  |inr r=>
   rw[hs] at hb
   exact ym hb

theorem vz{σ τ α β:Type}{b:τ→Option (τ⊕β)}(S:σ→Nat→τ)(step:Nat→σ→α→σ⊕β)(X:σ→Option β)(l:List α)(hm:l.length<Sh.p_)
  (h:∀(k:Nat) (s:σ) (hk:k<l.length),b (S s k)=match step k s l[k] with|.inl s'=>some (.inl (S s' (k+1)))|.inr r=>some (.inr r))
  (he:∀s,b (S s l.length)=Sh.exit (X s))(s:σ){t:τ}(ht:t=S s 0):Sh.loop b t=p8 step X 0 l s:=by
 subst ht
 exact GN S step X l h he l 0 Sh.p_ s rfl (Nat.zero_le _) hm

theorem sE{α β:Type}{b:Int→Option (Int⊕β)}(l:List α)(p:α→Bool)(A:Nat→β)(X:Option β)(hm:l.length<Sh.p_)
  (h:∀(k:Nat) (hk:k<l.length),b (k:Int)=if p l[k] then some (.inr (A k)) else some (.inl ((k+1:Nat):Int)))
  (he:b (l.length:Int)=Sh.exit X):Sh.loop b 0=(l.findIdx? p).elim X (fun k=>some (A k)):=by
 rw[vz (σ:=Unit) (α:=α) (fun _ k=>(k:Int)) (fun k _ x=>if p x then .inr (A k) else .inl ()) (fun _=>X) l hm (fun k s hk=> ?_) (fun _=>he) () (t:=(0:Int)) rfl]
 ·have key:∀(l:List α) (k:Nat),p8 (fun k (_:Unit) x=>if p x then Sum.inr (A k) else Sum.inl ()) (fun _=>X) k l ()=(l.findIdx? p).elim X (fun i=>some (A (k+i))):=by
   intro l
   induction l with
   |nil=>intro k;simp[p8]
   |cons x l ih=>
    intro k
    simp only[p8,List.findIdx?_cons]
    cases hp:p x with
    |true=>simp
    |false=>
     simp only[Bool.false_eq_true,if_false]
     rw[ih (k+1)]
     cases l.findIdx? p with
     |none=>rfl
     |some i=>simp only[Option.map_some,Option.elim_some];congr 2;omega
  rw[key l 0]
  simp
 ·rw[h k hk]
  cases p l[k] <;> rfl

theorem HY{α β:Type}{b:Int→Option (Int⊕β)}(l:List α)(p:α→Bool)(A:β)(X:Option β)(hm:l.length<Sh.p_)
  (h:∀(k:Nat) (hk:k<l.length),b (k:Int)=if p l[k] then some (.inr A) else some (.inl ((k+1:Nat):Int)))
  (he:b (l.length:Int)=Sh.exit X):Sh.loop b 0=if l.any p then some A else X:=by
 rw[sE l p (fun _=>A) X hm h he]
 cases hf:l.findIdx? p with
 |none=>
  have:l.any p=false:=by
   rw[List.findIdx?_eq_none_iff] at hf
   rw[List.any_eq_false]
   intro x hx
   simpa using hf x hx
  rw[this];rfl
 |some i=>
  have:l.any p=true:=by
   rw[List.any_eq_true]
   rw[List.findIdx?_eq_some_iff_getElem] at hf
   obtain⟨hi,hp,_⟩:=hf
   exact⟨l[i],List.getElem_mem hi,hp⟩
  rw[this];rfl

def pos{α:Type}(l:List α)(p:α→Bool):Int:=(l.findIdx? p).elim (-1) (fun k=>(k:Int))
theorem xC{α:Type}(l:List α)(p:α→Bool):(l.findIdx? p).elim (some (-1:Int)) (fun k=>some (k:Int))=some (pos l p):=by unfold pos;cases l.findIdx? p <;> rfl
theorem mc{α:Type}(l:List α)(p:α→Bool):decide ((0:Int)≤pos l p)=l.any p:=by
 unfold pos
 cases hf:l.findIdx? p with
 |none=>
  have:l.any p=false:=by
   rw[List.findIdx?_eq_none_iff] at hf
   rw[List.any_eq_false]
   intro x hx
   simpa using hf x hx
  rw[this];rfl
 |some i=>
  have:l.any p=true:=by
   rw[List.any_eq_true]
   rw[List.findIdx?_eq_some_iff_getElem] at hf
   obtain⟨hi,hp,_⟩:=hf
   exact⟨l[i],List.getElem_mem hi,hp⟩
  rw[this];simp
end Pl
end

section
/- Whether a history may be. -/
namespace Pl
open Go Go.Av

theorem V0{l:List Int}(hl:l.length<9223372036854775808)(v:Int):G.gf l v=some (pos l (fun x=>decide (v=x))):=by
 unfold G.gf
 rw[sE l (fun x=>decide (v=x)) (fun k=>(k:Int)) (some (-1)) (eN hl) (fun k hk=> ?_) ?_,xC]
 ·simp[G.eU,G.gi]
 ·simp only[G.eU,dec_lt,hk,decide_true,if_true,gT hk,Option.bind_some,dI (show k<9223372036854775807 by omega)]
  rfl
theorem Sz{l:List Int}(hl:l.length<9223372036854775808)(v:Int):G.cS l v=some (l.any (fun x=>decide (v=x))):=by
 unfold G.cS
 rw[V0 hl,Option.bind_some,mc]

def rising:Int→List Int→Bool
 |_,[]=>true
 |last,x::l=>decide (last<x)&&decide (x<16)&&rising x l
def oG(t:G.ah)(k:Int):Bool:=t.bD.any (fun x=>decide (k=x))
def there(h:G.af)(n:Int)(x:G.aj):Bool:=
 decide (x.dn= -1)||(decide (0≤x.dn)&&decide (x.dn<(h.aG.length:Int))&&decide (x.dn≠n)&&match h.aG[x.dn.toNat]? with|some t=>oG t x.Key|none=>false)
def rW(h:G.af)(n:Int):Int→List G.aj→Bool
 |_,[]=>true
 |last,x::l=>decide (last<x.Key)&&decide (x.Key<16)&&there h n x&&rW h n x.Key l
def FE(h:G.af)(n:Int)(t:G.ah):Bool:=rising (-1) t.bD&&rW h n (-1) t.Reads&&decide (0≤t.bt)&&decide (t.bt<8)
def uc(h:G.af):Nat→List G.ah→Bool
 |_,[]=>true
 |n,t::l=>FE h n t&&uc h (n+1) l
def right(h:G.af):Bool:=decide (h.aG.length≤32)&&uc h 0 h.aG

structure Fits (h:G.af):Prop where
 Wa:h.aG.length<9223372036854775807
 writes:∀t∈h.aG,t.bD.length<9223372036854775807
 reads:∀t∈h.aG,t.Reads.length<9223372036854775807

theorem y1(c y:Bool):G.fC c y=some (if y then(c,true) else(false,false)):=by cases y <;> rfl

theorem OE{h:G.af}(hf:Fits h)(n:Int)(x:G.aj){α:Type}(K:Bool→Option α):
  (if decide (x.dn=(-1)) then K true else if decide ((0:Int)≤x.dn) then if decide (x.dn<(Sh.len h.aG)) then if decide (x.dn≠n) then(Sh.idx h.aG x.dn).bind fun KZ=>(G.cS KZ.bD x.Key).bind fun G8=>K G8 else K false else K false else K false)=K (there h n x):=by
 unfold there
 by_cases h1:x.dn= -1
 ·simp[h1]
 ·by_cases h2:0≤x.dn
  ·by_cases h3:x.dn<(h.aG.length:Int)
   ·by_cases h4:x.dn=n
    ·subst h4;simp[h1,h2,h3]
    ·have h5:h.aG[x.dn.toNat]? =some (h.aG[x.dn.toNat]'(by omega)):=List.getElem?_eq_getElem (by omega)
     rw[JY h2 h3,h5]
     have:=hf.writes _ (List.getElem_mem (show x.dn.toNat<h.aG.length by omega))
     have h6:=Sz (l:=(h.aG[x.dn.toNat]'(by omega)).bD) (by omega) x.Key
     simp[h1,h2,h3,h4,h6,oG]
   ·simp[h1,h2,h3]
  ·simp[h1,h2]

theorem OB{h:G.af}(hf:Fits h)(n:Int)(t:G.ah)(ht:t∈h.aG)(c:Bool):G.cm h n t c=if rW h n (-1) t.Reads then G.cn n t c else some (.inr (false,false)):=by
 unfold G.cm
 have hl:=hf.reads t ht
 rw[vz (σ:=Bool×Int) (fun s k=>(s.1,s.2,(k:Int))) (fun _ s x=>if decide (s.2<x.Key)&&decide (x.Key<16)&&there h n x then .inl (s.1,x.Key) else .inr (.inr (false,false))) (fun s=>G.cn n t s.1) t.Reads (eN (by omega)) (fun k s hk=> ?_) (fun s=> ?_) (c, -1) (t:=(c,(-1:Int),(0:Int))) rfl]
 ·have key:∀(l:List G.aj) (k:Nat) (last:Int),p8 (fun _ (s:Bool×Int) (x:G.aj)=>if decide (s.2<x.Key)&&decide (x.Key<16)&&there h n x then Sum.inl (s.1,x.Key) else Sum.inr (.inr (false,false))) (fun s=>G.cn n t s.1) k l (c,last)=if rW h n last l then G.cn n t c else some (.inr (false,false)):=by
   intro l
   induction l with
   |nil=>intro k last;simp[p8,rW]
   |cons x l ih=>
    intro k last
    simp only[p8]
    rw[show rW h n last (x::l)=(decide (last<x.Key)&&decide (x.Key<16)&&there h n x&&rW h n x.Key l) from rfl]
    by_cases hq:(decide (last<x.Key)&&decide (x.Key<16)&&there h n x)=true
    ·rw[if_pos hq,hq,Bool.true_and];exact ih (k+1) x.Key
    ·rw[if_neg hq,Bool.eq_false_iff.2 hq];simp
  exact key t.Reads 0 (-1)
 ·obtain⟨c,last⟩:=s
  simp only[G.dB,dec_lt,hk,decide_true,if_true,gT hk,Option.bind_some]
  rw[OE hf n t.Reads[k] (fun b=>G.bR c last k t.Reads[k] b)]
  simp only[G.bR,y1,G.dc,dI (show k<9223372036854775807 by omega),Option.bind_some]
  by_cases h1:last<t.Reads[k].Key
  ·by_cases h2:t.Reads[k].Key<16
   ·cases h3:there h n t.Reads[k] <;> simp[h1,h2,Sh.exit,Sh.next]
   ·simp[h1,h2,Sh.exit]
  ·simp[h1,Sh.exit]
 ·simp[G.dB]

theorem LY{h:G.af}(hf:Fits h)(n:Nat)(hn:n<9223372036854775807)(t:G.ah)(ht:t∈h.aG)(c:Bool):
  Sh.loop (fun(p:Bool×Int×Int)=>G.c_ h n t p.1 p.2.1 p.2.2) (c,(-1),0)=if FE h n t then some (.inl (c,((n+1:Nat):Int))) else some (.inr (false,false)):=by
 have hl:=hf.writes t ht
 rw[vz (σ:=Bool×Int) (fun s k=>(s.1,s.2,(k:Int))) (fun _ s x=>if decide (s.2<x)&&decide (x<16) then .inl (s.1,x) else .inr (.inr (false,false))) (fun s=>G.cm h n t s.1) t.bD (eN (by omega)) (fun k s hk=> ?_) (fun s=> ?_) (c, -1) (t:=(c,(-1:Int),(0:Int))) rfl]
 ·have key:∀(l:List Int) (k:Nat) (last:Int),p8 (fun _ (s:Bool×Int) (x:Int)=>if decide (s.2<x)&&decide (x<16) then Sum.inl (s.1,x) else Sum.inr (.inr (false,false))) (fun s=>G.cm h n t s.1) k l (c,last)=if rising last l then G.cm h n t c else some (.inr (false,false)):=by
   intro l
   induction l with
   |nil=>intro k last;simp[p8,rising]
   |cons x l ih=>
    intro k last
    simp only[p8]
    rw[show rising last (x::l)=(decide (last<x)&&decide (x<16)&&rising x l) from rfl]
    by_cases hq:(decide (last<x)&&decide (x<16))=true
    ·rw[if_pos hq,hq,Bool.true_and];exact ih (k+1) x
    ·rw[if_neg hq,Bool.eq_false_iff.2 hq];simp
  rw[key t.bD 0 (-1),OB hf n t ht]
  unfold FE
  cases h1:rising (-1) t.bD
  ·simp
  ·cases h2:rW h n (-1) t.Reads
   ·simp
   ·simp only[G.cn,y1,G.dD,dI hn,Option.bind_some]
    by_cases h3:0≤t.bt
    ·by_cases h4:t.bt<8 <;> simp[h3,h4,Sh.exit,Sh.next]
    ·simp[h3,Sh.exit]
 ·obtain⟨c,last⟩:=s
  simp only[G.c_,dec_lt,hk,decide_true,if_true,gT hk,Option.bind_some,y1,G.dF,dI (show k<9223372036854775807 by omega)]
  by_cases h1:last<t.bD[k]
  ·by_cases h2:t.bD[k]<16 <;> simp[h1,h2,Sh.exit,Sh.next]
  ·simp[h1,Sh.exit]
 ·simp[G.c_]

theorem FK{h:G.af}(hf:Fits h):G.js h=some (right h):=by
 have hl:=hf.Wa
 have hloop:∀c,Sh.loop (fun(p:Bool×Int)=>G.c9 h p.1 p.2) (c,0)=if uc h 0 h.aG then some (c,true) else some (false,false):=by
  intro c
  rw[vz (σ:=Bool) (fun s k=>(s,(k:Int))) (fun k s x=>if FE h k x then .inl s else .inr (false,false)) (fun s=>some (s,true)) h.aG (eN (by omega)) (fun k s hk=> ?_) (fun s=> ?_) c (t:=(c,(0:Int))) rfl]
  ·have key:∀(l:List G.ah) (k:Nat),p8 (fun k (s:Bool) (x:G.ah)=>if FE h (k:Nat) x then Sum.inl s else Sum.inr (false,false)) (fun s=>some (s,true)) k l c=if uc h k l then some (c,true) else some (false,false):=by
    intro l
    induction l with
    |nil=>intro k;simp[p8,uc]
    |cons x l ih=>
     intro k
     simp only[p8]
     rw[show uc h k (x::l)=(FE h (k:Nat) x&&uc h (k+1) l) from rfl]
     by_cases hq:FE h (k:Nat) x=true
     ·rw[if_pos hq,hq,Bool.true_and];exact ih (k+1)
     ·rw[if_neg hq,Bool.eq_false_iff.2 hq];simp
   exact key h.aG 0
  ·simp only[G.c9,dec_lt,hk,decide_true,if_true,gT hk,Option.bind_some]
   rw[LY hf k (by omega) _ (List.getElem_mem hk)]
   cases FE h k h.aG[k] <;> rfl
  ·simp[G.c9]
 unfold G.js G.rL G.fH right
 simp only[Option.bind_some,y1,gU]
 by_cases h1:h.aG.length≤32
 ·have h2:((h.aG.length:Int)≤32):=by omega
  simp only[h1,h2,decide_true,if_true,hloop,Bool.true_and]
  cases uc h 0 h.aG <;> simp
 ·have h2:¬((h.aG.length:Int)≤32):=by omega
  simp[h1,h2]

end Pl
end

section
/- The reference's word on histories: whether one may be, and whether it is small. -/
namespace Pl
open Go Go.Av

def xY{α:Type}(key:α→Int)(ok:α→Bool):Int→List α→Bool
 |_,[]=>true
 |last,x::l=>decide (last<key x)&&decide (key x<16)&&ok x&&xY key ok (key x) l
theorem BR:∀(l:List Int) (last:Int),rising last l=xY id (fun _=>true) last l
 |[],_=>rfl
 |x::l,last=>by
  rw[show rising last (x::l)=(decide (last<x)&&decide (x<16)&&rising x l) from rfl,BR l x]
  simp[xY]
theorem ET(h:G.af)(n:Int):∀(l:List G.aj) (last:Int),rW h n last l=xY (·.Key) (there h n) last l
 |[],_=>rfl
 |x::l,last=>by
  rw[show rW h n last (x::l)=(decide (last<x.Key)&&decide (x.Key<16)&&there h n x&&rW h n x.Key l) from rfl,ET h n l x.Key]
  rfl
def step{α:Type}(key:α→Int)(ok:α→Bool)(l:List α)(k:Nat):Bool:=
 match l[k]? with
 |none=>true
 |some x=>decide (0≤key x)&&decide (key x<16)&&ok x&&(decide (k=0)||match l[k - 1]? with|none=>true|some y=>decide (key y<key x))
theorem BJ(h:G.af):∀(l:List G.ah) (n:Nat),uc h n l=decide (∀k (hk:k<l.length),FE h ((n+k:Nat):Int) l[k]=true)
 |[],n=>by simp[uc]
 |t::l,n=>by
  rw[show uc h n (t::l)=(FE h (n:Nat) t&&uc h (n+1) l) from rfl,BJ h l (n+1),Bool.eq_iff_iff,Bool.and_eq_true,decide_eq_true_eq,decide_eq_true_eq]
  constructor
  ·rintro⟨h1,h2⟩ k hk
   cases k with
   |zero=>simpa using h1
   |succ k=>
    have:=h2 k (by simpa using hk)
    rw[show n+1+k=n+(k+1) by omega] at this
    simpa using this
  ·intro h1
   refine⟨h1 0 (by simp),fun k hk=> ?_⟩
   have:=h1 (k+1) (by simpa using hk)
   rw[show n+1+k=n+(k+1) by omega]
   simpa using this
theorem Fg{α:Type}(l:List α):decide ((20:Int)<Sh.len l)= !decide (l.length≤20):=by
 by_cases h:l.length≤20 <;> simp[h,Sh.len] <;> omega
def Lr(h:G.af)(m:Int):Bool:=decide ((h.aG.length:Int)≤m)&&h.aG.all (fun t=>decide (t.bD.length≤20)&&decide (t.Reads.length≤20))
theorem V7{h:G.af}{m:Int}(hm:m<9223372036854775807):G.jm h m=some (Lr h m):=by
 unfold G.jm Lr
 by_cases h1:(h.aG.length:Int)≤m
 ·have h2:¬m<(h.aG.length:Int):=by omega
  simp only[Sh.len,h2,decide_false,Bool.false_eq_true,if_false,h1,decide_true,Bool.true_and]
  rw[HY h.aG (fun t=> !(decide (t.bD.length≤20)&&decide (t.Reads.length≤20))) false (some true) (eN (by omega)) (fun k hk=> ?_) ?_]
  ·rw[List.any_eq_not_all_not]
   simp only[Bool.not_not]
   cases h.aG.all (fun t=>decide (t.bD.length≤20)&&decide (t.Reads.length≤20)) <;> rfl
  ·simp[G.gu,G.iV]
  ·simp only[G.gu,dec_lt,hk,decide_true,if_true,gT hk,Option.bind_some,Fg,G.gv,dI (show k<9223372036854775807 by omega),Sh.exit,Sh.next,Option.map_some]
   by_cases a:(h.aG[k]).bD.length≤20 <;> by_cases b:(h.aG[k]).Reads.length≤20 <;> simp[a,b]
 ·have h2:m<(h.aG.length:Int):=by omega
  simp[Sh.len,h2,h1]
theorem Ir{h:G.af}{m:Int}(hm:m<9223372036854775807)(hf:Lr h m=true):Fits h:=by
 simp only[Lr,Bool.and_eq_true,decide_eq_true_eq,List.all_eq_true] at hf
 exact⟨by omega,fun t ht=>by have:=(hf.2 t ht).1;omega,fun t ht=>by have:=(hf.2 t ht).2;omega⟩
end Pl
end

section
/- Edges, one by one: what the program and the reference answer. -/


namespace Pl
open Go Go.Av

def tx(h:G.af)(x:Int):G.ah:=(h.aG[x.toNat]?).getD default
def inr(h:G.af)(x:Int):Bool:=decide (0≤x)&&decide (x<(h.aG.length:Int))
theorem nZ{h:G.af}{x:Int}:inr h x=true↔0≤x∧x<(h.aG.length:Int):=by simp[inr]
theorem yh{h:G.af}{x:Int}(hx:inr h x=true):Sh.idx h.aG x=some (tx h x):=by
 rw[nZ] at hx
 rw[JY hx.1 hx.2]
 simp[tx,List.getElem?_eq_getElem (show x.toNat<h.aG.length by omega)]
theorem CX{h:G.af}{x:Int}(hx:inr h x=true):tx h x∈h.aG:=by
 rw[nZ] at hx
 simp only[tx,List.getElem?_eq_getElem (show x.toNat<h.aG.length by omega),Option.getD_some]
 exact List.getElem_mem _

def Xs(h:G.af)(x y:Int)(c:G.aa):Bool:=decide (c.A=x)&&decide (c.B=y)&&decide (x≠y)&&oG (tx h x) c.Key&&oG (tx h y) c.Key
def TM(h:G.af)(l:List G.aa)(x y:Int):Bool:=
 (decide (x<y)&&decide ((tx h x).bt=(tx h y).bt))||(tx h y).Reads.any (fun r=>decide (r.dn=x))||l.any (Xs h x y)
def Xr(h:G.af)(l:List G.aa)(y:Int)(r:G.aj):Bool:=
 oG (tx h y) r.Key&&(decide (r.dn<0)||(decide (r.dn≠y)&&l.any (fun c=>decide (G.aa.mk r.Key r.dn y=c))))
def TC(h:G.af)(l:List G.aa)(x y:Int):Bool:=decide (x≠y)&&(tx h x).Reads.any (Xr h l y)
def two(h:G.af)(x y:Int):Bool:=right h&&inr h x&&inr h y
def direct(h:G.af)(l:List G.aa)(x y:Int):Bool:=two h x y&&TM h l x y
def PA(h:G.af)(l:List G.aa)(x y:Int):Bool:=two h x y&&TC h l x y
def WU(h:G.af)(lev:Int)(l:List G.aa)(x y:Int):Bool:=
 if lev=0 then direct h l x y||PA h l x y
 else if lev=1 then(List.range h.aG.length).any (fun m=>direct h l x m&&(decide ((m:Int)=y)||PA h l m y))
 else false
theorem yX{h:G.af}{n:Int}:∀{l:List G.aj} {last:Int},rW h n last l=true→∀r∈l,there h n r=true
 |[],_,_,r,hr=>by cases hr
 |x::l,last,ht,r,hr=>by
  rw[show rW h n last (x::l)=(decide (last<x.Key)&&decide (x.Key<16)&&there h n x&&rW h n x.Key l) from rfl] at ht
  simp only[Bool.and_eq_true] at ht
  rcases List.mem_cons.1 hr with rfl|hr
  ·exact ht.1.2
  ·exact yX ht.2 r hr
end Pl
end

section
/- Transactions one by one: what the program and the reference play. -/


namespace Pl
open Go Go.Av

structure yH (n:Nat) (o:List Int):Prop where
 len:o.length=n
 node:∀a∈o,0≤a∧a<(n:Int)
 nodup:o.Nodup
theorem CF:∀{n:Nat} {o:List Int},(∀a∈o,0≤a∧a<(n:Int))→o.Nodup→o.length≤n
 |0,o,h,_=>by
  cases o with
  |nil=>simp
  |cons a o=>have:=h a (List.mem_cons_self ..);omega
 |n+1,o,h,hd=>by
  by_cases hn:(n:Int)∈o
  ·have h1:=CF (n:=n) (o:=o.erase (n:Int)) (fun a ha=>by
    obtain⟨h1,h2⟩:=(List.Nodup.mem_erase_iff hd).1 ha
    have:=h a h2;omega) (hd.erase _)
   rw[List.length_erase_of_mem hn] at h1
   omega
  ·have h1:=CF (n:=n) (o:=o) (fun a ha=>by
    have:=h a ha
    have:a≠(n:Int):=fun e=>hn (e▸ha)
    omega) hd
   omega
theorem yH.all{n:Nat}{o:List Int}(p:yH n o){k:Nat}(hk:k<n):(k:Int)∈o:=by
 apply Classical.byContradiction
 intro hn
 have h1:=CF (n:=n) (o:=(k:Int)::o) (fun a ha=>by
  rcases List.mem_cons.1 ha with e|e
  ·omega
  ·exact p.node a e) (List.nodup_cons.2 ⟨hn,p.nodup⟩)
 simp only[List.length_cons,p.len] at h1
 omega
def E0(n:Nat)(o:List Int):Bool:=decide (o.length=n∧(∀a∈o,0≤a∧a<(n:Int))∧o.Nodup)
theorem qi{n:Nat}{o:List Int}:E0 n o=true↔yH n o:=by
 unfold E0
 rw[decide_eq_true_eq]
 exact⟨fun⟨a,b,c⟩=>⟨a,b,c⟩,fun p=>⟨p.len,p.node,p.nodup⟩⟩
def rZ(o:List Int)(t:Int):Nat:=o.findIdx fun x=>decide (x=t)
theorem s8{o:List Int}{t:Int}(h:t∈o):rZ o t<o.length:=List.findIdx_lt_length_of_exists ⟨t,h,by simp⟩
theorem qb{o:List Int}{t:Int}(h:t∈o):o[rZ o t]'(s8 h)=t:=by
 have:=List.findIdx_getElem (xs:=o) (p:=fun x=>decide (x=t)) (w:=s8 h)
 exact of_decide_eq_true this
theorem FB{o:List Int}(hd:o.Nodup){i j:Nat}(hi:i<o.length)(hj:j<o.length)(he:o[i]=o[j]):i=j:=by
 have hp:=List.pairwise_iff_getElem.1 hd
 rcases Nat.lt_trichotomy i j with h|h|h
 ·exact absurd he (hp i j hi hj h)
 ·exact h
 ·exact absurd he.symm (hp j i hj hi h)
theorem Ca{o:List Int}(hd:o.Nodup){k:Nat}(hk:k<o.length):rZ o o[k]=k:=by
 have h1:=qb (List.getElem_mem hk)
 exact FB hd _ _ h1
theorem yP{o:List Int}(hd:o.Nodup){k:Nat}(hk:k<o.length):o[k]∉o.take k:=fun hm=>by
 obtain⟨j,hj,he⟩:=List.mem_iff_getElem.1 hm
 rw[List.getElem_take] at he
 have hj':j<k:=by simp at hj;omega
 have:=FB hd _ hk he
 omega
theorem ji{o:List Int}{k:Nat}(hk:k<o.length){a:Int}:a∈o.take (k+1)↔a∈o.take k∨a=o[k]:=by
 rw[List.take_succ_eq_append_getElem hk,List.mem_append,List.mem_singleton]

def nO{α:Type}(N:Nat)(F:Nat→α):List α:=(List.range N).map F
section
variable {α:Type} {N:Nat}
@[simp] theorem zl(F:Nat→α):(nO N F).length=N:=by simp[nO]
theorem l8{F G:Nat→α}(h:∀x,x<N→F x=G x):nO N F=nO N G:=List.map_congr_left fun x hx=>h x (List.mem_range.1 hx)
theorem s6(F:Nat→α){y:Nat}(h:y<N):(nO N F)[y]? =some (F y):=by simp[nO,h]
theorem wW(F:Nat→α){y:Nat}(h:y<N):Sh.idx (nO N F) (y:Int)=some (F y):=by
 unfold Sh.idx
 rw[if_pos (by omega),Int.toNat_natCast,s6 F h]
theorem wV(F:Nat→α){y:Nat}(h:y<N):Sh.A8 N (nO N F) (y:Int)=some (F y):=by
 unfold Sh.A8
 rw[if_pos (zl F),wW F h]
theorem s7(F:Nat→α){y:Nat}(c:α):Sh.set (nO N F) (y:Int) c=nO N fun x=>if x=y then c else F x:=by
 rw[OK]
 apply List.ext_getElem? fun i=> ?_
 rw[List.getElem?_set]
 by_cases hi:i<N
 ·rw[s6 _ hi]
  by_cases e:y=i
  ·subst e;rw[if_pos rfl,zl,if_pos hi,s6 _ hi,if_pos rfl]
  ·rw[if_neg e,s6 _ hi,if_neg (Ne.symm e)]
 ·have h1:(nO N F)[i]? =none:=List.getElem?_eq_none (by simp;omega)
  have h2:(nO N fun x=>if x=y then c else F x)[i]? =none:=List.getElem?_eq_none (by simp;omega)
  rw[h1,h2]
  split <;> simp;omega
theorem sy(c:α):List.replicate N c=nO N (fun _=>c):=by
 apply List.ext_getElem (by simp) fun i h1 h2=>by simp[nO]
end

theorem KD{σ α:Type}{b:σ→Option (σ⊕α)}(S:Nat→σ)(m:Nat)(p:Nat→Bool)(A B:Option α)(hm:m<Sh.p_)(h:∀k,k<m→(∀j,j<k→p j=true)→b (S k)=if p k then some (.inl (S (k+1))) else Sh.exit B)(hr:(∀j,j<m→p j=true)→b (S m)=Sh.exit A){s:σ}(hs:s=S 0):
  Sh.loop b s=if ∀k,k<m→p k=true then A else B:=by
 subst hs
 by_cases hall:∀k,k<m→p k=true
 ·rw[if_pos hall]
  exact pM S m A hm (fun k hk=>by rw[h k hk (fun j hj=>hall j (by omega)),if_pos (hall k hk)]) (hr hall) rfl
 ·rw[if_neg hall]
  have hex:∃k,k<m∧p k=false:=by
   apply Classical.byContradiction
   intro hn
   exact hall fun k hk=>by
    cases hp:p k with
    |true=>rfl
    |false=>exact absurd ⟨k,hk,hp⟩ hn
  obtain⟨k,⟨hk,hp⟩,hmin⟩:=exists_least _ hex
  have hb:∀j,j<k→p j=true:=fun j hj=>by
   cases hp:p j with
   |true=>rfl
   |false=>have:=hmin j ⟨by omega,hp⟩;omega
  exact pM S k B (by omega) (fun j hj=>by rw[h j (by omega) (fun i hi=>hb i (by omega)),if_pos (hb j hj)]) (by rw[h k hk hb,hp];rfl) rfl

theorem nF{h:G.af}(hr:right h=true):h.aG.length≤32:=by
 simp only[right,Bool.and_eq_true,decide_eq_true_eq] at hr;exact hr.1
theorem xJ{h:G.af}(hr:right h=true){t:Nat}(ht:t<h.aG.length):FE h (t:Int) (tx h t)=true:=by
 simp only[right,Bool.and_eq_true] at hr
 have h2:=hr.2
 rw[BJ,decide_eq_true_eq] at h2
 have:=h2 t ht
 have e:tx h (t:Int)=h.aG[t]:=by simp[tx,ht]
 rw[e]
 simpa using this
theorem xZ{α:Type}{key:α→Int}{ok:α→Bool}:∀{l:List α} {last:Int},xY key ok last l=true→∀x∈l,last<key x∧key x<16
 |[],_,_,x,hx=>by simp at hx
 |y::l,last,h,x,hx=>by
  simp only[xY,Bool.and_eq_true,decide_eq_true_eq] at h
  rcases List.mem_cons.1 hx with e|e
  ·subst e;exact⟨h.1.1.1,h.1.1.2⟩
  ·have:=xZ h.2 x e
   have:=h.1.1.1
   omega
theorem yE{h:G.af}(hr:right h=true){t:Nat}(ht:t<h.aG.length):∀w∈(tx h t).bD,0≤w∧w<16:=fun w hw=>by
 have h1:=xJ hr ht
 simp only[FE,Bool.and_eq_true] at h1
 have h2:=h1.1.1.1
 rw[BR] at h2
 have:=xZ h2 w hw
 simp only[id] at this
 omega
theorem AB{h:G.af}(hr:right h=true){t:Nat}(ht:t<h.aG.length):∀r∈(tx h t).Reads,0≤r.Key∧r.Key<16:=fun r hw=>by
 have h1:=xJ hr ht
 simp only[FE,Bool.and_eq_true] at h1
 have h2:=h1.1.1.2
 rw[ET] at h2
 have:=xZ h2 r hw
 omega
theorem KI{h:G.af}(hr:right h=true){t:Nat}(ht:t<h.aG.length):0≤(tx h t).bt∧(tx h t).bt<8:=by
 have h1:=xJ hr ht
 simp only[FE,Bool.and_eq_true,decide_eq_true_eq] at h1
 exact⟨h1.1.2,h1.2⟩
theorem xu{h:G.af}{t:Nat}(ht:t<h.aG.length):Sh.idx h.aG (t:Int)=some (tx h t):=yh (nZ.2 ⟨by omega,by omega⟩)
theorem AU{h:G.af}{t:Nat}(ht:t<h.aG.length):tx h t∈h.aG:=CX (nZ.2 ⟨by omega,by omega⟩)
theorem DN{t:G.ah}{k:Int}:oG t k=true↔k∈t.bD:=by simp[oG]

def qR(h:G.af)(o:List Int)(key:Int):Int:=(o.reverse.find? fun t=>oG (tx h t) key).getD (-1)
theorem Ah{h:G.af}{o:List Int}{t key:Int}:qR h (o++[t]) key=if oG (tx h t) key then t else qR h o key:=by
 unfold qR
 rw[List.reverse_append,List.reverse_singleton,List.singleton_append,List.find?_cons]
 cases oG (tx h t) key <;> rfl
theorem Ek{h:G.af}{key:Int}:∀{o:List Int},(qR h o key= -1∧∀t∈o,oG (tx h t) key=false)∨(qR h o key∈o∧oG (tx h (qR h o key)) key=true):=by
 intro o
 unfold qR
 cases hf:o.reverse.find? fun t=>oG (tx h t) key with
 |none=>
  left
  rw[List.find?_eq_none] at hf
  exact⟨rfl,fun t ht=>by simpa using hf t (List.mem_reverse.2 ht)⟩
 |some t=>
  right
  exact⟨List.mem_reverse.1 (List.mem_of_find?_eq_some hf),by simpa using List.find?_some hf⟩
theorem Ej{h:G.af}{o:List Int}{n:Nat}(hp:∀a∈o,0≤a∧a<(n:Int))(key:Int): -1≤qR h o key∧qR h o key<(n:Int):=by
 rcases Ek (h:=h) (key:=key) (o:=o) with⟨h1,_⟩|⟨h1,_⟩
 ·rw[h1];omega
 ·have:=hp _ h1;omega
def oA(h:G.af)(o:List Int)(t:Int):List G.aj:=(tx h t).Reads.map fun r=>⟨r.Key,qR h (o.take (rZ o t)) r.Key⟩
def vg(h:G.af)(o:List Int):List (List G.aj):=nO h.aG.length fun t:Nat=>oA h o t

theorem Gr{h:G.af}(hf:Fits h)(o:List Int):G.oO h o=some (right h&&E0 h.aG.length o):=by
 unfold G.oO
 rw[FK hf]
 simp only[Option.bind_some]
 cases hr:right h with
 |false=>rfl
 |true=>
  have hn:=nF hr
  simp only[Bool.not_true,Bool.false_eq_true,if_false,Bool.true_and]
  by_cases hl:o.length=h.aG.length
  ·have h1:¬(Sh.len o)≠(Sh.len h.aG):=by simp only[Sh.len];omega
   rw[decide_eq_false h1]
   simp only[G.mu,Bool.false_eq_true,if_false]
   rw[KD (fun k=>(nO 32 (fun x:Nat=>decide ((x:Int)∈o.take k)),(k:Int))) o.length (fun k=>match o[k]? with|some a=>decide (0≤a∧a<(o.length:Int)∧a∉o.take k)|none=>true) (some true) (some false) (eN (by omega)) (fun k hk hall=> ?_) (fun _=> ?_) (by rw[sy];simp)]
   ·have e:(if ∀k,k<o.length→(match o[k]? with|some a=>decide (0≤a∧a<(o.length:Int)∧a∉o.take k)|none=>true)=true then some true else some false)=some (decide (∀k,k<o.length→(match o[k]? with|some a=>decide (0≤a∧a<(o.length:Int)∧a∉o.take k)|none=>true)=true)):=by
     split
     ·rename_i hq;rw[decide_eq_true hq]
     ·rename_i hq;rw[decide_eq_false hq]
    rw[e]
    congr 1
    rw[Bool.eq_iff_iff,decide_eq_true_eq,qi]
    constructor
    ·intro hq
     have hq':∀k (hk:k<o.length),0≤o[k]∧o[k]<(o.length:Int)∧o[k]∉o.take k:=fun k hk=>by
      have:=hq k hk
      simpa only[List.getElem?_eq_getElem hk,decide_eq_true_eq] using this
     refine⟨hl,fun a ha=> ?_, ?_⟩
     ·obtain⟨k,hk,rfl⟩:=List.mem_iff_getElem.1 ha
      have:=hq' k hk;omega
     ·rw[List.Nodup,List.pairwise_iff_getElem]
      intro i j hi hj hij he
      refine(hq' j hj).2.2 (List.mem_iff_getElem.2 ⟨i,by simp;omega, ?_⟩)
      rw[List.getElem_take];exact he
    ·intro p k hk
     simp only[List.getElem?_eq_getElem hk,decide_eq_true_eq]
     have:=p.node _ (List.getElem_mem hk)
     exact⟨this.1,by rw[p.len];exact this.2,yP p.nodup hk⟩
   ·have QF:k<32:=by omega
    simp only[G.mq,dec_lt,hk,decide_true,if_true,gT hk,Option.bind_some,List.getElem?_eq_getElem hk]
    by_cases h0:o[k]<0
    ·have:¬(0≤o[k]∧o[k]<(o.length:Int)∧o[k]∉o.take k):=fun hq=>by omega
     rw[decide_eq_true h0,decide_eq_false this];rfl
    ·by_cases h2:(Sh.len o)≤o[k]
     ·have:¬(0≤o[k]∧o[k]<(o.length:Int)∧o[k]∉o.take k):=fun hq=>by simp only[Sh.len] at h2;omega
      rw[decide_eq_false h0,decide_eq_true h2,decide_eq_false this];rfl
     ·simp only[Sh.len] at h2
      obtain⟨y,hy⟩:∃y:Nat,o[k]=(y:Int):=⟨o[k].toNat,by omega⟩
      have VD:y<32:=by omega
      have h3:¬(o.length:Int)≤(y:Int):=by omega
      have h4:¬(y:Int)<0:=by omega
      simp only[hy,h4,h3,decide_false,Bool.false_eq_true,if_false,wV _ VD,Option.bind_some,G.kN,Sh.len]
      by_cases hm:(y:Int)∈o.take k
      ·have:¬(0≤(y:Int)∧(y:Int)<(o.length:Int)∧(y:Int)∉o.take k):=fun hq=>hq.2.2 hm
       rw[decide_eq_true hm,decide_eq_false this];rfl
      ·have:(0≤(y:Int)∧(y:Int)<(o.length:Int)∧(y:Int)∉o.take k):=⟨by omega,by omega,hm⟩
       rw[decide_eq_false hm,decide_eq_true this]
       simp only[Bool.false_eq_true,if_false,if_true,Sh.next,dI (show k<9223372036854775807 by omega),s7]
       congr 3
       refine l8 fun x _=> ?_
       by_cases hx:x=y
       ·subst hx
        rw[if_pos rfl,decide_eq_true ((ji hk).2 (.inr hy.symm))]
       ·rw[if_neg hx]
        congr 1
        refine propext ⟨fun hq=>(ji hk).2 (.inl hq),fun hq=> ?_⟩
        rcases(ji hk).1 hq with hq|hq
        ·exact hq
        ·omega
   ·simp[G.mq,G.od,Sh.exit]
  ·have h1:(Sh.len o)≠(Sh.len h.aG):=by simp only[Sh.len];omega
   have h2:E0 h.aG.length o=false:=by
    cases hq:E0 h.aG.length o with
    |false=>rfl
    |true=>exact absurd (qi.1 hq).len hl
   rw[decide_eq_true h1,h2];rfl
end Pl
end

section
/- What the program and the reference play, and whether an order shows a history to be serializable. -/
namespace Pl
open Go Go.Av

def Ag(h:G.af)(o:List Int)(k:Nat)(y:Nat):Int:=qR h (o.take k) y+1
def J3(h:G.af)(o:List Int)(t:Nat)(k i:Nat)(y:Nat):Int:=if(y:Int)∈(tx h t).bD.take i then(t:Int)+1 else Ag h o k y
def FI(h:G.af)(o:List Int)(t:Nat)(k i:Nat):List (List G.aj):=nO h.aG.length fun x:Nat=>if x=t then(oA h o t).take i else if(x:Int)∈o.take k then oA h o x else []
def Kg(h:G.af)(o:List Int)(k:Nat):List (List G.aj):=nO h.aG.length fun x:Nat=>if(x:Int)∈o.take k then oA h o x else []
theorem yu{h:G.af}{o:List Int}{t:Int}:(oA h o t).length=(tx h t).Reads.length:=by simp[oA]
theorem SB{h:G.af}(hf:Fits h)(hb:∀t∈h.aG,t.Reads.length≤1000000)(o:List Int):G.sO h o=some (if right h&&E0 h.aG.length o then vg h o else []):=by
 unfold G.sO
 rw[Gr hf o]
 simp only[Option.bind_some]
 cases hq:(right h&&E0 h.aG.length o) with
 |false=>rfl
 |true=>
  simp only[Bool.and_eq_true] at hq
  obtain⟨hr,hok⟩:=hq
  have p:=qi.1 hok
  have hn:=nF hr
  simp only[Bool.not_true,Bool.false_eq_true,if_false,if_true]
  rw[show Sh.len o=((h.aG.length:Nat):Int) by simp only[Sh.len,p.len],M8 (by omega) (by omega)]
  simp only[Option.bind_some]
  refine pM (fun k=>(nO 16 (Ag h o k),Kg h o k,(k:Int))) h.aG.length _ (eN (by omega)) (fun k hk=> ?_) ?_ ?_
  ·have hko:k<o.length:=by rw[p.len];exact hk
   obtain⟨t,ht⟩:∃t:Nat,o[k]=(t:Int):=⟨o[k].toNat,by have:=p.node _ (List.getElem_mem hko);omega⟩
   have htn:t<h.aG.length:=by have:=p.node _ (List.getElem_mem hko);omega
   have hat:rZ o t=k:=by rw[←ht];exact Ca p.nodup hko
   have hnin:(t:Int)∉o.take k:=by rw[←ht];exact yP p.nodup hko
   have hbd:=hb _ (AU htn)
   have hfr:=hf.reads _ (AU htn)
   have hfw:=hf.writes _ (AU htn)
   simp only[G.nH,show Sh.len o=((o.length:Nat):Int) from rfl,dec_lt,hko,decide_true,if_true,gT hko,ht,Option.bind_some,xu htn]
   refine pM (fun i=>(FI h o t k i,(i:Int))) (tx h t).Reads.length _ (eN (by omega)) (fun i hi=> ?_) ?_ ?_
   ·have hkey:=AB hr htn _ (List.getElem_mem hi)
    obtain⟨y,hy⟩:∃y:Nat,(tx h t).Reads[i].Key=(y:Int):=⟨(tx h t).Reads[i].Key.toNat,by omega⟩
    have On:y<16:=by omega
    have K_:=Ej (h:=h) (o:=o.take k) (fun a ha=>p.node a (List.mem_of_mem_take ha)) (y:Int)
    have hrow:Sh.idx (FI h o t k i) (t:Int)=some ((oA h o t).take i):=by
     unfold FI;rw[wW _ htn,if_pos rfl]
    have hpl:(oA h o t).take i++[⟨(tx h t).Reads[i].Key,kg (Ag h o k y - 1)⟩]=(oA h o t).take (i+1):=by
     have hi':i<(oA h o t).length:=by rw[yu];exact hi
     rw[List.take_succ_eq_append_getElem hi']
     congr 2
     simp only[oA,List.getElem_map,hat,hy,Ag]
     congr 1
     rw[CZ (by omega) (by omega)];omega
    simp only[G.nJ,dec_lt,hi,decide_true,if_true,gT hi,Option.bind_some,hrow,hy,wV _ On]
    rw[←hy,wg (by simp only[List.length_take,List.length_cons,List.length_nil];omega)]
    simp only[Option.bind_some,Sh.next,dI (show i<9223372036854775807 by omega),hpl]
    congr 3
    unfold FI
    rw[s7]
    refine l8 fun x _=> ?_
    by_cases hx:x=t
    ·rw[if_pos hx,if_pos hx]
    ·rw[if_neg hx,if_neg hx,if_neg hx]
   ·simp only[G.nJ,dec_lt,Nat.lt_irrefl,decide_false,Bool.false_eq_true,if_false]
    have W5:G.nK h (nO 16 (Ag h o k)) (k:Int) (t:Int) (FI h o t k (tx h t).Reads.length)=some (.inl (nO 16 (Ag h o (k+1)),Kg h o (k+1),((k+1:Nat):Int))):=by
     unfold G.nK
     simp only[xu htn,Option.bind_some]
     refine pM (fun i=>(nO 16 (J3 h o t k i),(i:Int))) (tx h t).bD.length _ (eN (by omega)) (fun i hi=> ?_) ?_ ?_
     ·have hkey:=yE hr htn _ (List.getElem_mem hi)
      obtain⟨y,hy⟩:∃y:Nat,(tx h t).bD[i]=(y:Int):=⟨(tx h t).bD[i].toNat,by omega⟩
      have On:y<16:=by omega
      simp only[G.nI,dec_lt,hi,decide_true,if_true,gT hi,hy,Option.bind_some,wV _ On,Sh.next,dI (show i<9223372036854775807 by omega),s7]
      congr 3
      refine l8 fun x _=> ?_
      unfold J3
      by_cases hx:x=y
      ·subst hx
       rw[if_pos rfl,if_pos ((ji hi).2 (.inr hy.symm)),CZ (by omega) (by omega)]
      ·rw[if_neg hx]
       have:((x:Int)∈(tx h t).bD.take i)↔((x:Int)∈(tx h t).bD.take (i+1)):=by
        rw[ji hi,hy]
        exact⟨.inl,fun hq=>hq.resolve_right (fun e=>hx (by omega))⟩
       simp only[this]
     ·simp only[G.nI,dec_lt,Nat.lt_irrefl,decide_false,Bool.false_eq_true,if_false,G.pO,Sh.next,dI (show k<9223372036854775807 by omega)]
      congr 4
      ·refine l8 fun x _=> ?_
       unfold J3 Ag
       rw[List.take_length,List.take_succ_eq_append_getElem hko,Ah,ht]
       by_cases hw:(x:Int)∈(tx h t).bD
       ·rw[if_pos hw,DN.2 hw,if_pos rfl]
       ·have:oG (tx h t) x=false:=by
         cases hq:oG (tx h t) x with
         |false=>rfl
         |true=>exact absurd (DN.1 hq) hw
        rw[if_neg hw,this];rfl
      ·unfold FI Kg
       congr 1
       refine l8 fun x _=> ?_
       rw[←yu (o:=o),List.take_length]
       by_cases hx:x=t
       ·subst hx;rw[if_pos rfl,if_pos ((ji hko).2 (.inr ht.symm))]
       ·rw[if_neg hx]
        have:((x:Int)∈o.take k)↔((x:Int)∈o.take (k+1)):=by
         rw[ji hko,ht]
         exact⟨.inl,fun hq=>hq.resolve_right (fun e=>hx (by omega))⟩
        simp only[this]
     ·rfl
    rw[W5]
   ·congr 1
    unfold Kg FI
    refine l8 fun x _=> ?_
    by_cases hx:x=t
    ·subst hx;rw[if_pos rfl,if_neg hnin];simp
    ·rw[if_neg hx]
  ·simp only[G.nH,show Sh.len o=((o.length:Nat):Int) from rfl,p.len,dec_lt,Nat.lt_irrefl,decide_false,Bool.false_eq_true,if_false,G.pN]
   congr 2
   unfold vg Kg
   refine l8 fun x hx=> ?_
   rw[←p.len,List.take_length,if_pos (p.all hx)]
  ·rw[sy,sy];rfl

theorem VZ{a b:List G.aj}(ha:a.length<9223372036854775807):G.dJ a b=some (decide (a=b)):=by
 unfold G.dJ
 by_cases hl:a.length=b.length
 ·have h1:¬(Sh.len a)≠(Sh.len b):=by simp only[Sh.len];omega
  rw[decide_eq_false h1]
  simp only[Bool.false_eq_true,if_false]
  rw[BS (b:=fun(p:Int)=>G.cT a b p) a.length (fun i=>decide (a[i]? =b[i]?)) (eN (by omega)) (fun k hk=> ?_) ?_]
  ·congr 1
   refine decide_eq_decide.2 ⟨fun h=>List.ext_getElem? fun i=> ?_,fun h i _=>by rw[h];exact decide_eq_true rfl⟩
   by_cases hi:i<a.length
   ·simpa using h i hi
   ·rw[List.getElem?_eq_none (by omega),List.getElem?_eq_none (by omega)]
  ·simp[G.cT,G.dO,Sh.exit]
  ·have wz:k<b.length:=by omega
   simp only[G.cT,dec_lt,hk,decide_true,if_true,gT hk,gT wz,Option.bind_some,dI (show k<9223372036854775807 by omega),List.getElem?_eq_getElem hk,List.getElem?_eq_getElem wz,Option.some.injEq]
   by_cases he:a[k]=b[k] <;> simp[he,Sh.exit,Sh.next]
 ·have h1:(Sh.len a)≠(Sh.len b):=by simp only[Sh.len];omega
  have h2:¬a=b:=fun e=>hl (by rw[e])
  rw[decide_eq_true h1,decide_eq_false h2];rfl
end Pl
end

section
/- The statements of layer 20, in plain words: each answers true. -/

namespace Pl
open Go Go.Av

def Pq(h:G.af)(a b:Int):Prop:=¬(b<a∧(tx h a).bt=(tx h b).bt)
instance (h:G.af) (a b:Int):Decidable (Pq h a b):=by unfold Pq;infer_instance
def AK(h:G.af)(o:List Int):Bool:=decide (o.Pairwise (Pq h))
theorem KH{h:G.af}{o:List Int}:AK h o=true↔∀(k i:Nat) (hk:k<i) (hi:i<o.length),Pq h (o[k]'(by omega)) o[i]:=by
 unfold AK
 rw[decide_eq_true_eq,List.pairwise_iff_getElem]
 exact⟨fun q k i hk hi=>q k i (by omega) hi hk,fun q k i hk hi hki=>q k i hki hi⟩
def t_(h:G.af)(o:List Int)(s:Int):Int:=match o.reverse.find? fun t=>decide ((tx h t).bt=s) with|some t=>t+1|none=>0
theorem tF{h:G.af}{o:List Int}{t s:Int}:t_ h (o++[t]) s=if(tx h t).bt=s then t+1 else t_ h o s:=by
 unfold t_
 rw[List.reverse_append,List.reverse_singleton,List.singleton_append,List.find?_cons]
 by_cases hs:(tx h t).bt=s
 ·simp[hs]
 ·simp[hs]
theorem Hh{h:G.af}:∀{o:List Int},o.Nodup→(∀a∈o,0≤a)→((∀k (hk:k<o.length),t_ h (o.take k) (tx h o[k]).bt≤o[k])↔o.Pairwise (Pq h)):=by
 intro o hd hpos
 constructor
 ·intro q
  have key:∀i (hi:i<o.length),∀k (hk:k<i),(tx h (o[k]'(by omega))).bt=(tx h o[i]).bt→o[k]'(by omega)<o[i]:=by
   intro i
   induction i using Nat.strongRecOn with
   |ind i ih=>
    intro hi k hk hs
    have h1:=q i hi
    -- the last one of that session
    have VX:∀(m:Nat) (hm:m≤i),(∃k,∃hk:k<m,(tx h (o[k]'(by omega))).bt=(tx h o[i]).bt)→∃j,∃hj:j<m,(tx h (o[j]'(by omega))).bt=(tx h o[i]).bt∧t_ h (o.take m) (tx h o[i]).bt=o[j]'(by omega)+1∧∀x (hx:x<m),j<x→(tx h (o[x]'(by omega))).bt≠(tx h o[i]).bt:=by
     intro m
     induction m with
     |zero=>intro _ ⟨k,hk,_⟩;omega
     |succ m ihm=>
      intro hm ⟨k,hk,hks⟩
      have hmo:m<o.length:=by omega
      rw[List.take_succ_eq_append_getElem hmo,tF]
      by_cases he:(tx h o[m]).bt=(tx h o[i]).bt
      ·exact⟨m,by omega,he,if_pos he,fun x hx hjx=>by omega⟩
      ·have hkm:k<m:=by
        rcases Nat.lt_or_ge k m with hlt|hge
        ·exact hlt
        ·have:k=m:=by omega
         subst this;exact absurd hks he
       obtain⟨j,hj,a1,a2,a3⟩:=ihm (by omega) ⟨k,hkm,hks⟩
       refine⟨j,by omega,a1,by rw[if_neg he];exact a2,fun x hx hjx=> ?_⟩
       by_cases hxm:x=m
       ·subst hxm;exact he
       ·exact a3 x (by omega) hjx
    obtain⟨j,hj,a1,a2,a3⟩:=VX i (Nat.le_refl _) ⟨k,hk,hs⟩
    have hji:o[j]'(by omega)<o[i]:=by rw[a2] at h1;omega
    rcases Nat.lt_trichotomy k j with c|c|c
    ·have:=ih j hj (by omega) k c (hs.trans a1.symm)
     omega
    ·subst c;exact hji
    ·exact absurd hs (a3 k hk c)
  rw[List.pairwise_iff_getElem]
  intro k i hk hi hki
  intro⟨h1,h2⟩
  have:=key i hi k hki h2
  omega
 ·intro q k hk
  have hb:∀(m:Nat) (hm:m≤k),t_ h (o.take m) (tx h o[k]).bt≤o[k]∨(∀x (hx:x<m),(tx h (o[x]'(by omega))).bt≠(tx h o[k]).bt):=by
   intro m
   induction m with
   |zero=>intro _;right;intro x hx;omega
   |succ m ihm=>
    intro hm
    have hmo:m<o.length:=by omega
    rw[List.take_succ_eq_append_getElem hmo,tF]
    by_cases he:(tx h o[m]).bt=(tx h o[k]).bt
    ·left
     rw[if_pos he]
     have h1:=List.pairwise_iff_getElem.1 q m k hmo hk (by omega)
     have h2:o[m]≠o[k]:=fun e=>by have:=FB hd hmo hk e;omega
     have h3:¬o[k]<o[m]:=fun hlt=>h1 ⟨hlt,he⟩
     omega
    ·rw[if_neg he]
     rcases ihm (by omega) with c|c
     ·exact .inl c
     ·exact .inr fun x hx=>by
       by_cases hxm:x=m
       ·subst hxm;exact he
       ·exact c x (by omega)
  by_cases h0:∃x,∃hx:x<k,(tx h (o[x]'(by omega))).bt=(tx h o[k]).bt
  ·obtain⟨x,hx,hs⟩:=h0
   rcases hb k (Nat.le_refl _) with c|c
   ·exact c
   ·exact absurd hs (c x hx)
  ·have hne:∀m,m≤k→t_ h (o.take m) (tx h o[k]).bt=0:=by
    intro m
    induction m with
    |zero=>intro _;rfl
    |succ m ihm=>
     intro hm
     have hmo:m<o.length:=by omega
     rw[List.take_succ_eq_append_getElem hmo,tF,if_neg (fun e=>h0 ⟨m,by omega,e⟩)]
     exact ihm (by omega)
   rw[hne k (Nat.le_refl _)]
   exact hpos _ (List.getElem_mem hk)

def CO(h:G.af):List (List G.aj):=nO h.aG.length fun t:Nat=>(tx h t).Reads
def qC(h:G.af)(o:List Int):Bool:=right h&&E0 h.aG.length o&&decide (vg h o=CO h)&&AK h o
theorem H8{α:Type}{N:Nat}{F G:Nat→α}:nO N F=nO N G↔∀x,x<N→F x=G x:=by
 constructor
 ·intro h x hx
  have:=congrArg (fun l=>l[x]?) h
  simpa [s6 F hx,s6 G hx] using this
 ·exact l8
theorem Kj{h:G.af}(hf:Fits h)(hb:∀t∈h.aG,t.Reads.length≤1000000)(o:List Int):G.oN h o=some (qC h o):=by
 unfold G.oN qC
 rw[Gr hf o]
 simp only[Option.bind_some]
 cases hq:(right h&&E0 h.aG.length o) with
 |false=>rfl
 |true=>
  rw[SB hf hb o,hq]
  simp only[Bool.and_eq_true] at hq
  obtain⟨hr,hok⟩:=hq
  have p:=qi.1 hok
  have hn:=nF hr
  have hpl:=p.len
  simp only[Bool.not_true,Bool.false_eq_true,if_false,if_true,Option.bind_some,Bool.true_and]
  have Th:G.mo h o=some (AK h o):=by
   unfold G.mo
   rw[KD (fun k=>(nO 8 (fun x:Nat=>t_ h (o.take k) x),(k:Int))) o.length (fun k=>match o[k]? with|some a=>decide (t_ h (o.take k) (tx h a).bt≤a)|none=>true) (some true) (some false) (eN (by omega)) (fun k hk _=> ?_) (fun _=> ?_) (by rw[sy];rfl)]
   ·have e:=Hh (h:=h) p.nodup (fun a ha=>(p.node a ha).1)
    unfold AK
    by_cases hs:o.Pairwise (Pq h)
    ·rw[decide_eq_true hs,if_pos (fun k hk=>by
      simp only[List.getElem?_eq_getElem hk,decide_eq_true_eq];exact e.2 hs k hk)]
    ·rw[decide_eq_false hs,if_neg (fun q=>hs (e.1 fun k hk=>by
      have:=q k hk
      simpa only[List.getElem?_eq_getElem hk,decide_eq_true_eq] using this))]
   ·obtain⟨t,ht⟩:∃t:Nat,o[k]=(t:Int):=⟨o[k].toNat,by have:=p.node _ (List.getElem_mem hk);omega⟩
    have htn:t<h.aG.length:=by have:=p.node _ (List.getElem_mem hk);omega
    have hs:=KI hr htn
    obtain⟨s,hse⟩:∃s:Nat,(tx h t).bt=(s:Int):=⟨(tx h t).bt.toNat,by omega⟩
    have Xg:s<8:=by omega
    simp only[G.mj,show Sh.len o=((o.length:Nat):Int) from rfl,dec_lt,hk,decide_true,if_true,gT hk,ht,Option.bind_some,xu htn,hse,wV _ Xg,List.getElem?_eq_getElem hk]
    by_cases hlt:(t:Int)<t_ h (o.take k) s
    ·have:¬t_ h (o.take k) s≤(t:Int):=by omega
     simp only[hlt,this,decide_true,decide_false,if_true,Bool.false_eq_true,if_false]
    ·have:t_ h (o.take k) s≤(t:Int):=by omega
     simp only[hlt,this,decide_true,decide_false,if_true,Bool.false_eq_true,if_false,Sh.next,dI (show k<9223372036854775807 by omega),s7]
     congr 3
     refine l8 fun x _=> ?_
     rw[List.take_succ_eq_append_getElem hk,tF,ht,hse,CZ (by omega) (by omega)]
     by_cases hx:x=s
     ·subst hx;rw[if_pos rfl,if_pos rfl]
     ·rw[if_neg hx,if_neg (fun e=>hx (by omega))]
   ·simp[G.mj,G.oc,Sh.exit]
  rw[KD (s:=(0:Int)) (fun k=>(k:Int)) h.aG.length (fun k=>decide (oA h o (k:Nat)=(tx h (k:Nat)).Reads)) (some (AK h o)) (some false) (eN (by omega)) (fun k hk _=> ?_) (fun _=> ?_) rfl]
  ·by_cases he:vg h o=CO h
   ·have:=H8.1 he
    rw[decide_eq_true he,if_pos (fun k hk=>decide_eq_true (this k hk))];rfl
   ·rw[decide_eq_false he,if_neg (fun q=>he (l8 fun x hx=>of_decide_eq_true (q x hx)))];rfl
  ·have hkl:k<(vg h o).length:=by simp[vg,hk]
   have hrow:Sh.idx (vg h o) (k:Int)=some (oA h o k):=wW _ hk
   have hbd:=hb _ (AU hk)
   simp only[G.mm,dec_lt,hkl,decide_true,if_true,hrow,Option.bind_some,xu hk,VZ (a:=oA h o k) (b:=(tx h k).Reads) (by rw[yu];omega),dI (show k<9223372036854775807 by omega)]
   cases decide (oA h o k=(tx h k).Reads) <;> rfl
  ·have hkl:¬h.aG.length<(vg h o).length:=by simp[vg]
   simp only[G.mm,dec_lt,hkl,decide_false,Bool.false_eq_true,if_false,Th]
theorem GD{h:G.af}{m:Int}(hf:Lr h m=true):∀t∈h.aG,t.Reads.length≤1000000:=fun t ht=>by
 simp only[Lr,Bool.and_eq_true,decide_eq_true_eq,List.all_eq_true] at hf
 have:=(hf.2 t ht).2;omega
theorem Ls{h:G.af}{m:Int}(hf:Lr h m=true):(h.aG.length:Int)≤m:=by
 simp only[Lr,Bool.and_eq_true,decide_eq_true_eq] at hf;exact hf.1

def V2(h:G.af)(o:List Int):G.af:=⟨nO h.aG.length fun t:Nat=>⟨(tx h t).bt,(tx h t).bD,oA h o t⟩⟩
end Pl
end

section
/- The rows of writers. -/
namespace Pl
open Go Go.Av

def KV(h:G.af)(key:Int)(n:Nat):List Int:=((List.range n).filter fun(t:Nat)=>oG (tx h t) key).map fun(t:Nat)=>(t:Int)
def s4(h:G.af)(key:Int):List Int:=KV h key h.aG.length
theorem KW(h:G.af)(key:Int)(n:Nat):KV h key (n+1)=if oG (tx h n) key then KV h key n++[(n:Int)] else KV h key n:=by
 unfold KV
 rw[List.range_succ,List.filter_append,List.map_append]
 cases hw:oG (tx h n) key <;> simp[List.filter,hw]
theorem C7(h:G.af)(key:Int)(n:Nat):(KV h key n).length≤n:=by
 unfold KV
 rw[List.length_map]
 exact Nat.le_trans (List.length_filter_le _ _) (by simp)
theorem CG{h:G.af}{key t:Int}:t∈s4 h key↔(0≤t∧t<h.aG.length)∧oG (tx h t) key=true:=by
 unfold s4 KV
 simp only[List.mem_map,List.mem_filter,List.mem_range]
 constructor
 ·rintro⟨n,⟨h1,h2⟩,rfl⟩;exact⟨⟨by omega,by omega⟩,h2⟩
 ·rintro⟨⟨h1,h2⟩,h3⟩
  refine⟨t.toNat,⟨by omega, ?_⟩,by omega⟩
  rw[show((t.toNat:Nat):Int)=t by omega];exact h3
theorem AX(h:G.af)(key:Int):(s4 h key).Pairwise (· < ·):=by
 unfold s4 KV
 refine List.Pairwise.map _ (fun a b h=> ?_) (List.Pairwise.filter _ List.pairwise_lt_range)
 exact Int.ofNat_lt.2 h
theorem B0(h:G.af)(key:Int):(s4 h key).Nodup:=(AX h key).imp fun h=>by omega
theorem sJ{h:G.af}(hf:Fits h)(hn:h.aG.length≤1000000)(key:Int):G.nt h key=some (s4 h key):=by
 unfold G.nt
 refine nh (fun k=>KV h key k) h.aG.length _ (eN (by omega)) (fun k hk=> ?_) ?_ (by simp[KV])
 ·have hx:Sh.idx h.aG (k:Int)=some (tx h k):=xu hk
  have hw:=hf.writes _ (AU hk)
  have hl:=C7 h key k
  simp only[G.lg,gU,dec_lt,hk,decide_true,if_true,hx,Option.bind_some,Sz (show(tx h k).bD.length<9223372036854775808 by omega)]
  rw[show(tx h k).bD.any (fun x=>decide (key=x))=oG (tx h k) key from rfl,KW,wg (by simp;omega)]
  unfold G.lp
  cases oG (tx h k) key <;> simp[Sh.next,dI (show k<9223372036854775807 by omega)]
 ·simp[G.lg,G.mT,gU,s4]

theorem OC{c:List Int}(hc:c.length≤1000000):G.bQ c=some (Sh.kU c):=by
 unfold G.bQ G.dA G.c7
 have:G.b8 [] c=some c:=by
  unfold G.b8
  refine nh (fun k=>c.take k) c.length _ (eN (by omega)) (fun k hk=> ?_) ?_ (by simp)
  ·simp only[G.bH,G.gj,gU,dec_lt,hk,decide_true,if_true,gT hk,Option.bind_some]
   rw[wg (by simp;omega)]
   simp only[Option.bind_some,dI (show k<9223372036854775807 by omega),Sh.next]
   rw[List.take_add_one,List.getElem?_eq_getElem hk,Option.toList_some]
  ·simp[G.bH,gU]
 rw[this]
 have h2:Sh.sort c=some (Sh.kU c):=by unfold Sh.sort;rw[if_pos (by omega)]
 simp only[Option.bind_some,h2]
theorem sorted_perm{o:List Int}:(∀k,k<o.length→(Sh.kU o).getD k 0=(k:Int))↔E0 o.length o=true:=by
 rw[qi]
 have hp:=Sh.ni o
 have hl:=hp.length_eq
 constructor
 ·intro h
  have hr:Sh.kU o=(List.range o.length).map fun(k:Nat)=>(k:Int):=by
   apply List.ext_getElem
   ·simp[hl]
   ·intro i h1 h2
    have:=h i (by omega)
    simpa [List.getD,List.getElem?_eq_getElem h1] using this
  rw[hr] at hp
  refine⟨rfl,fun a ha=> ?_, ?_⟩
  ·have:=hp.mem_iff.2 ha
   simp at this
   obtain⟨k,hk,rfl⟩:=this
   omega
  ·exact hp.nodup_iff.1 (List.Pairwise.map _ (fun a b h=>by omega) List.nodup_range)
 ·intro p k hk
  have hr:Sh.kU o=(List.range o.length).map fun(k:Nat)=>(k:Int):=by
   refine Sh.tQ ?_ (Sh.qg o) (List.Pairwise.map _ (fun a b h=>by omega) List.pairwise_le_range)
   refine hp.trans ?_
   rw[List.perm_ext_iff_of_nodup p.nodup (List.Pairwise.map _ (fun a b h=>by omega) List.nodup_range)]
   intro a
   constructor
   ·intro ha
    have:=p.node a ha
    exact List.mem_map.2 ⟨a.toNat,List.mem_range.2 (by omega),by omega⟩
   ·intro ha
    obtain⟨k,hk,rfl⟩:=List.mem_map.1 ha
    exact p.all (List.mem_range.1 hk)
  rw[hr]
  simp[List.getD,hk]

theorem Ae:∀(o:List Int) (x:Int) (i:Nat),x∈o→Lib.idxFrom o x i=((i+rZ o x:Nat):Int)
 |[],x,i,h=>by cases h
 |y::o,x,i,h=>by
  unfold Lib.idxFrom rZ
  rw[List.findIdx_cons]
  by_cases hy:y=x
  ·simp[hy]
  ·have hm:x∈o:=by
    rcases List.mem_cons.1 h with e|e
    ·exact absurd e.symm hy
    ·exact e
   simp only[hy,if_false,decide_false,cond_false]
   rw[Ae o x (i+1) hm]
   unfold rZ
   omega
theorem Gf{o:List Int}{x:Int}(h:x∈o):Sh.ix o x=(rZ o x:Int):=by
 unfold Sh.ix Lib.idxOf
 rw[Ae o x 0 h];simp
def rowAt(h:G.af)(o:List Int)(k:Nat):Option G.an:=if s4 h k=[] then none else some ⟨k,Sh.pT o (s4 h k)⟩
def mC(h:G.af)(o:List Int):List G.an:=(List.range 16).filterMap (rowAt h o)
theorem tT{h:G.af}{o:List Int}(p:yH h.aG.length o){key t:Int}(ht:t∈s4 h key):t∈o:=by
 have:=(CG.1 ht).1
 have:=p.all (k:=t.toNat) (by omega)
 rwa [show((t.toNat:Nat):Int)=t by omega] at this
theorem zm{o:List Int}{a b:Int}(ha:a∈o)(hb:b∈o)(e:rZ o a=rZ o b):a=b:=by
 have h1:=qb ha
 have h2:=qb hb
 rw[←h1,←h2]
 congr 1
theorem J1{h:G.af}{o:List Int}(p:yH h.aG.length o)(key:Int):((s4 h key).map (Sh.ix o)).Nodup:=by
 rw[List.Nodup,List.pairwise_map]
 refine List.Pairwise.imp_of_mem (fun{a b} ha hb hab e=>hab ?_) (B0 h key)
 rw[Gf (tT p ha),Gf (tT p hb)] at e
 exact zm (tT p ha) (tT p hb) (by omega)
theorem M_{h:G.af}(hf:Fits h)(hn:h.aG.length≤1000000){o:List Int}(ho:o.length≤1000000):G.tO h o=some (if right h&&E0 h.aG.length o then mC h o else []):=by
 unfold G.tO
 have e0:G.ec o=some ()∨True:=.inr trivial
 rw[OC ho,FK hf]
 unfold G.ec
 simp only[Option.bind_some]
 have j1t:∀r,G.nq h o r true=some []:=fun _=>rfl
 cases hr:right h with
 |false=>simp[j1t]
 |true=>
  simp only[Bool.not_true,Bool.false_eq_true,if_false,Bool.true_and,gU]
  by_cases hl:o.length=h.aG.length
  ·have hd:decide ((o.length:Int)≠(h.aG.length:Int))=false:=by simp[hl]
   rw[hd]
   unfold G.nq
   simp only[Bool.false_eq_true,if_false]
   have hsl:(Sh.kU o).length=o.length:=(Sh.ni o).length_eq
   have hsc:Sh.loop (fun(p:Int)=>G.kO h o (Sh.kU o) p) 0=if ∀k,k<o.length→(Sh.kU o).getD k 0=(k:Int) then G.oQ h o else some []:=by
    by_cases hall:∀k,k<o.length→(Sh.kU o).getD k 0=(k:Int)
    ·rw[if_pos hall]
     refine pM (fun k=>((k:Nat):Int)) o.length _ (eN (by omega)) (fun k hk=> ?_) ?_ rfl
     ·have h1:=hall k hk
      have wz:k<(Sh.kU o).length:=by omega
      have h2:(Sh.kU o)[k]=(k:Int):=by simpa [List.getD,List.getElem?_eq_getElem wz] using h1
      simp only[G.kO,gU,hsl,dec_lt,hk,decide_true,if_true,gT wz,Option.bind_some,h2,ne_eq,not_true,decide_false,Bool.false_eq_true,if_false,dI (show k<9223372036854775807 by omega),Sh.next]
     ·simp[G.kO,gU,hsl]
    ·rw[if_neg hall]
     have hex:∃k,k<o.length∧(Sh.kU o).getD k 0≠(k:Int):=by
      apply Classical.byContradiction
      intro hne
      exact hall fun k hk=>Classical.byContradiction fun hc=>hne ⟨k,hk,hc⟩
     obtain⟨k,⟨hk,hne⟩,hmin⟩:=exists_least _ hex
     refine pM (fun k=>((k:Nat):Int)) k _ (eN (by omega)) (fun q hq=> ?_) ?_ rfl
     ·have Tj:q<(Sh.kU o).length:=by omega
      have h2:(Sh.kU o)[q]=(q:Int):=by
       apply Classical.byContradiction
       intro hc
       have:=hmin q ⟨by omega,by simpa [List.getD,List.getElem?_eq_getElem Tj] using hc⟩
       omega
      have Xd:q<o.length:=by omega
      simp only[G.kO,gU,hsl,dec_lt,Xd,decide_true,if_true,gT Tj,Option.bind_some,h2,ne_eq,not_true,decide_false,Bool.false_eq_true,if_false,dI (show q<9223372036854775807 by omega),Sh.next]
     ·have wz:k<(Sh.kU o).length:=by omega
      have h2:¬(k:Int)=(Sh.kU o)[k]:=fun hc=>hne (by simp[List.getD,List.getElem?_eq_getElem wz,←hc])
      simp only[G.kO,gU,hsl,dec_lt,hk,decide_true,if_true,gT wz,Option.bind_some,h2,ne_eq,not_false_eq_true]
   rw[hsc]
   by_cases hok:E0 h.aG.length o=true
   ·rw[if_pos (by rw[←hl] at hok;exact sorted_perm.2 hok),hok,if_pos rfl]
    have p:=qi.1 hok
    unfold G.oQ
    refine nh (fun k=>(List.range k).filterMap (rowAt h o)) 16 _ (eN (by omega)) (fun k hk=> ?_) ?_ (by simp)
    ·have hlt:decide ((k:Int)<16)=true:=decide_eq_true (by omega)
     have hwl:=C7 h k h.aG.length
     have hfl:((List.range k).filterMap (rowAt h o)).length≤k:=Nat.le_trans (List.length_filterMap_le _ _) (by simp)
     simp only[G.oP,hlt,if_true,sJ hf hn,Option.bind_some,gU]
     rw[List.range_succ,List.filterMap_append]
     by_cases hw:s4 h k=[]
     ·have:rowAt h o k=none:=by unfold rowAt;rw[if_pos hw]
      simp[hw,this,G.nr,Sh.next,dI (show k<9223372036854775807 by omega)]
     ·have hra:rowAt h o k=some ⟨k,Sh.pT o (s4 h k)⟩:=by unfold rowAt;rw[if_neg hw]
      have hz:decide (((s4 h k).length:Int)=0)=false:=by
       have:=List.length_pos_iff.2 hw
       simp;omega
      have hone:o≠[]:=by
       obtain⟨t,ht⟩:=List.exists_mem_of_ne_nil _ hw
       exact List.ne_nil_of_mem (tT p ht)
      have hs:Sh.tP o (s4 h k)=some (Sh.pT o (s4 h k)):=by
       unfold Sh.tP
       rw[if_pos ⟨by unfold s4;omega,hone,by omega,J1 p k⟩]
      simp only[hz,Bool.false_eq_true,if_false,hs,Option.bind_some]
      rw[wg (by simp;omega)]
      simp[hra,G.nr,Sh.next,dI (show k<9223372036854775807 by omega)]
    ·simp[G.oP,G.qZ,mC]
   ·have hok':E0 h.aG.length o=false:=by simpa using hok
    rw[if_neg (by rw[←hl] at hok;exact fun hc=>hok (sorted_perm.1 hc)),hok']
    rfl
  ·have hd:decide ((o.length:Int)≠(h.aG.length:Int))=true:=by simp;omega
   have hok:E0 h.aG.length o=false:=by
    cases hc:E0 h.aG.length o with
    |false=>rfl
    |true=>exact absurd (qi.1 hc).len hl
   rw[hd,j1t,hok]
   rfl
end Pl
end

section
/- The way through a graph, node by node: it says whether something leads back. -/
namespace Pl
open Go Go.Av

inductive Path (N:Nat) (nx:Nat→List Int):Nat→Nat→Prop
 |one {x y:Nat}:x<N→y<N→(y:Int)∈nx x→Path N nx x y
 |more {x y z:Nat}:Path N nx x y→z<N→(z:Int)∈nx y→Path N nx x z
theorem Path.lt{N:Nat}{nx:Nat→List Int}{x y:Nat}(h:Path N nx x y):x<N∧y<N:=by
 induction h with
 |one a b _=>exact⟨a,b⟩
 |more _ b _ ih=>exact⟨ih.1,b⟩
def ug(N:Nat)(c:Nat→Int):Nat:=(List.range N).countP fun y=>decide (c y=0)
theorem KU(N:Nat)(c:Nat→Int):ug N c≤N:=by
 unfold ug
 have:=List.countP_le_length (p:=fun y=>decide (c y=0)) (l:=List.range N)
 simpa using this
theorem HE{N:Nat}{c:Nat→Int}{x:Nat}{v:Int}(hx:x<N)(h0:c x=0)(hv:v≠0):ug N (fun y=>if y=x then v else c y)+1=ug N c:=by
 unfold ug
 induction N with
 |zero=>omega
 |succ N ih=>
  rw[List.range_succ,List.countP_append,List.countP_append]
  simp only[List.countP_singleton]
  by_cases e:N=x
  ·subst e
   have:(List.range N).countP (fun y=>decide ((if y=N then v else c y)=0))=(List.range N).countP (fun y=>decide (c y=0)):=by
    refine List.countP_congr fun y hy=> ?_
    have:y≠N:=by have:=List.mem_range.1 hy;omega
    simp[this]
   rw[this]
   simp[h0,hv]
  ·have hh:=ih (by omega)
   simp only[e,if_false]
   simp only[] at hh
   have e2:∀(a b d:Nat),a+1=b→a+d+1=b+d:=by omega
   exact e2 _ _ _ hh
theorem FY{N:Nat}{c d:Nat→Int}(h:∀y,y<N→c y≠0→d y≠0):ug N d≤ug N c:=by
 unfold ug
 refine List.countP_mono_left fun y hy hd=> ?_
 simp only[decide_eq_true_eq] at hd ⊢
 exact Classical.byContradiction fun hc=>h y (List.mem_range.1 hy) hc hd

structure O4 (N:Nat) (nx:Nat→List Int) (c:Nat→Int):Prop where
 on:∀y,y<N→c y=0∨c y=1∨c y=2
 shut:∀y,y<N→c y=2→∀z:Nat,z<N→(z:Int)∈nx y→c z=2
 back:∀y,y<N→c y=2→¬Path N nx y y
theorem gB{T:List G.ah}{P:List Int}{N:Nat}{nx:Nat→List Int}(hnx:∀x,x<N→G.iP (x:Int) T P=some (nx x))(hin:∀x,x<N→∀y∈nx x,0≤y∧y<(N:Int))(hlen:∀x,x<N→(nx x).length≤1000000):
  ∀(f x:Nat) (c:Nat→Int),x<N→ug N c<f→O4 N nx c→(∀g,g<N→c g=1→Path N nx g x)→
   ∃c' b,G.iO f (x:Int) T P (nO N c)=some (nO N c',b)∧(∀y,y<N→c y≠0→c' y≠0)∧
    (b=true→O4 N nx c'∧(∀y,y<N→(c' y=1↔c y=1))∧(∀y,y<N→c y=2→c' y=2)∧c' x=2)∧(b=false→∃z,Path N nx z z):=by
 intro f
 induction f with
 |zero=>intro x c _ h;omega
 |succ f ih=>
  intro x c hx hw hc hg
  show ∃c' b,G.jA (G.iO f) (x:Int) T P (nO N c)=_∧_
  unfold G.jA
  simp only[wW c hx,Option.bind_some]
  rcases hc.on x hx with h0|h1|h2
  · -- it is new
   have hd:decide ((0:Int)<c x)=false:=by rw[h0];rfl
   simp only[hd,Bool.false_eq_true,if_false,hnx x hx,Option.bind_some,s7]
   have Pd:∃c1:Nat→Int,c1=fun y=>if y=x then 1 else c y:=⟨_,rfl⟩
   obtain⟨c1,Ga⟩:=Pd
   rw[←Ga]
   have w1:ug N c1+1=ug N c:=by rw[Ga];exact HE hx h0 (by decide)
   have c1x:c1 x=1:=by rw[Ga];simp
   have c1o:∀y,y≠x→c1 y=c y:=fun y hy=>by rw[Ga];simp[hy]
   have TL:O4 N nx c1:=by
    refine⟨fun y hy=> ?_,fun y hy h z hz e=> ?_,fun y hy h=> ?_⟩
    ·by_cases e:y=x
     ·subst e;exact .inr (.inl c1x)
     ·rw[c1o y e];exact hc.on y hy
    ·have hyx:y≠x:=fun e=>by subst e;rw[c1x] at h;cases h
     rw[c1o y hyx] at h
     have h2:=hc.shut y hy h z hz e
     have hzx:z≠x:=fun e=>by subst e;rw[h0] at h2;cases h2
     rw[c1o z hzx];exact h2
    ·have hyx:y≠x:=fun e=>by subst e;rw[c1x] at h;cases h
     rw[c1o y hyx] at h
     exact hc.back y hy h
   -- the rounds
   have rounds:∀(m k fu:Nat) (ck:Nat→Int),k+m=(nx x).length→m<fu→O4 N nx ck→(∀y,y<N→(ck y=1↔c1 y=1))→(∀y,y<N→c1 y≠0→ck y≠0)→(∀y,y<N→c y=2→ck y=2)→(∀j (hj:j<(nx x).length),j<k→ck (nx x)[j].toNat=2)→
     ∃c' b,Sh.iter (fun(p:(List Int)×Int)=>G.fW (G.iO f) (x:Int) T P (nx x) p.1 p.2) fu (nO N ck,(k:Int))=some (nO N c',b)∧(∀y,y<N→c y≠0→c' y≠0)∧
      (b=true→O4 N nx c'∧(∀y,y<N→(c' y=1↔c y=1))∧(∀y,y<N→c y=2→c' y=2)∧c' x=2)∧(b=false→∃z,Path N nx z z):=by
    intro m
    induction m with
    |zero=>
     intro k fu ck hk hfu col NX hwh hbl hdone
     obtain⟨fu,rfl⟩:∃q,fu=q+1:=⟨fu - 1,by omega⟩
     refine⟨fun y=>if y=x then 2 else ck y,true, ?_,fun y hy hne=> ?_,fun _=>⟨⟨fun y hy=> ?_,fun y hy h z hz e=> ?_,fun y hy h p=> ?_⟩,fun y hy=> ?_,fun y hy h=> ?_,by simp⟩,fun h=>by cases h⟩
     ·refine(oI (X:=G.jo (x:Int) (nO N ck)) ?_).trans ?_
      ·simp only[G.fW]
       rw[if_neg (by simp[Sh.len];omega)]
      ·unfold G.jo
       rw[wW ck hx,Option.bind_some,s7]
     ·by_cases e:y=x
      ·simp[e]
      ·simp only[e,if_false]
       exact hwh y hy (by rw[c1o y e];exact hne)
     ·by_cases e:y=x
      ·simp[e]
      ·simp only[e,if_false];exact col.on y hy
     ·by_cases ez:z=x
      ·simp[ez]
      ·simp only[ez,if_false]
       by_cases ey:y=x
       ·subst ey
        obtain⟨j,hj,he⟩:=List.getElem_of_mem e
        have:=hdone j hj (by omega)
        rw[he,Int.toNat_natCast] at this
        exact this
       ·simp only[ey,if_false] at h
        exact col.shut y hy h z hz e
     ·by_cases ey:y=x
      ·subst ey
       -- from the first step on all is black
       have first:∀{a b:Nat},Path N nx a b→a=y→ck b=2:=by
        intro a b q
        induction q with
        |one _ hb e=>
         intro ea;subst ea
         obtain⟨j,hj,he⟩:=List.getElem_of_mem e
         have:=hdone j hj (by omega)
         rw[he,Int.toNat_natCast] at this
         exact this
        |more q hb e Xq=>intro ea;exact col.shut _ q.lt.2 (Xq ea) _ hb e
       have h2:=first p rfl
       have h3:=(NX y hx).2 c1x
       rw[h3] at h2;cases h2
      ·simp only[ey,if_false] at h
       exact col.back y hy h p
     ·by_cases e:y=x
      ·subst e;simp[h0]
      ·simp only[e,if_false]
       rw[NX y hy,c1o y e]
     ·by_cases e:y=x
      ·subst e;rw[h0] at h;cases h
      ·simp only[e,if_false];exact hbl y hy h
    |succ m ihm=>
     intro k fu ck hk hfu col NX hwh hbl hdone
     obtain⟨fu,rfl⟩:∃q,fu=q+1:=⟨fu - 1,by omega⟩
     have wz:k<(nx x).length:=by omega
     have hy:=hin x hx _ (List.getElem_mem wz)
     have hl:=hlen x hx
     obtain⟨y,hyy⟩:∃y:Nat,(nx x)[k]=(y:Int):=⟨(nx x)[k].toNat,by omega⟩
     have hyN:y<N:=by omega
     have hmem:(y:Int)∈nx x:=by rw[←hyy];exact List.getElem_mem wz
     have wk:ug N ck<f:=by
      have:=FY (N:=N) (c:=c1) (d:=ck) hwh
      omega
     obtain⟨c2,b,e1,e2,e3,e4⟩:=ih y ck hyN wk col (fun g hgN hgg=>by
      have Pc:=(NX g hgN).1 hgg
      by_cases e:g=x
      ·subst e;exact .one hgN hyN hmem
      ·rw[c1o g e] at Pc
       exact .more (hg g hgN Pc) hyN hmem)
     have body:G.fW (G.iO f) (x:Int) T P (nx x) (nO N ck) (k:Int)=if b then some (.inl (nO N c2,((k+1:Nat):Int))) else some (.inr (nO N c2,false)):=by
      simp only[G.fW,gU,dec_lt,wz,decide_true,if_true,gT wz,Option.bind_some,hyy,e1]
      cases b
      ·simp[Sh.exit]
      ·simp[Sh.next,dI (show k<9223372036854775807 by omega)]
     cases b with
     |false=>
      refine⟨c2,false,ym (by simpa using body),fun z hz hne=>e2 z hz ?_,(fun h=>by cases h),e4⟩
      by_cases e:z=x
      ·exact hwh z hz (by subst e;rw[c1x];decide)
      ·exact hwh z hz (by rw[c1o z e];exact hne)
     |true=>
      obtain⟨f1,f2,f3,f4⟩:=e3 rfl
      obtain⟨c3,b3,g1,g2⟩:=ihm (k+1) fu c2 (by omega) (by omega) f1 (fun z hz=>(f2 z hz).trans (NX z hz)) (fun z hz hne=>e2 z hz (hwh z hz hne)) (fun z hz h=>f3 z hz (hbl z hz h)) (fun j hj hjk=>by
       by_cases e:j=k
       ·subst e
        rw[hyy,Int.toNat_natCast];exact f4
       ·have Yi:=hin x hx _ (List.getElem_mem hj)
        exact f3 _ (by omega) (hdone j hj (by omega)))
      exact⟨c3,b3,(sH (by simpa using body)).trans g1,g2⟩
   have hl:=hlen x hx
   obtain⟨c',b,r1,r2⟩:=rounds (nx x).length 0 Sh.p_ c1 (by omega) (eN (by omega)) TL (fun y _=>Iff.rfl) (fun y _ h=>h) (fun y hy h=>by
    have:y≠x:=fun e=>by subst e;rw[h0] at h;cases h
    rw[c1o y this];exact h) (fun j _ hj=>by omega)
   exact⟨c',b,r1,r2⟩
  · -- it is being gone through
   have hd:decide ((0:Int)<c x)=true:=by rw[h1];rfl
   have EY:decide (c x=2)=false:=by rw[h1];rfl
   simp only[hd,if_true,EY]
   exact⟨c,false,rfl,fun _ _ h=>h,(fun h=>by cases h),fun _=>⟨x,hg x hx h1⟩⟩
  · -- it is done
   have hd:decide ((0:Int)<c x)=true:=by rw[h2];rfl
   have EY:decide (c x=2)=true:=by rw[h2];rfl
   simp only[hd,if_true,EY]
   exact⟨c,true,rfl,fun _ _ h=>h,fun _=>⟨hc,fun _ _=>Iff.rfl,fun _ _ h=>h,h2⟩,fun h=>by cases h⟩
theorem Ln{h:G.af}{P:List Int}{nx:Nat→List Int}(hN:h.aG.length≤1000000)(hnx:∀x,x<h.aG.length→G.iP (x:Int) h.aG P=some (nx x))(hin:∀x,x<h.aG.length→∀y∈nx x,0≤y∧y<(h.aG.length:Int))(hlen:∀x,x<h.aG.length→(nx x).length≤1000000):
  ∃b,G.lX h P=some b∧(b=true↔∀z,¬Path h.aG.length nx z z):=by
 unfold G.lX
 rw[gU,M8 (by omega) (by omega),Option.bind_some,sy]
 have rounds:∀(m k fu:Nat) (ck:Nat→Int),k+m=h.aG.length→m<fu→O4 h.aG.length nx ck→(∀y,y<h.aG.length→ck y≠1)→(∀j,j<k→ck j=2)→
   ∃b,Sh.iter (fun(p:(List Int)×Int)=>G.kH h P (nO h.aG.length fun _=>0) p.1 p.2) fu (nO h.aG.length ck,(k:Int))=some b∧(b=true↔∀z,¬Path h.aG.length nx z z):=by
  intro m
  induction m with
  |zero=>
   intro k fu ck hk hfu col hg hd
   obtain⟨fu,rfl⟩:∃q,fu=q+1:=⟨fu - 1,by omega⟩
   refine⟨true,(oI (X:=G.pP) ?_).trans rfl,fun _ z p=> ?_,fun _=>rfl⟩
   ·simp only[G.kH,gU,zl]
    rw[if_neg (by simp;omega)]
   ·exact col.back z p.lt.1 (hd z (by have:=p.lt.1;omega)) p
  |succ m ih=>
   intro k fu ck hk hfu col hg hd
   obtain⟨fu,rfl⟩:∃q,fu=q+1:=⟨fu - 1,by omega⟩
   have wz:k<h.aG.length:=by omega
   have hwl:=KU h.aG.length ck
   obtain⟨c2,b,e1,e2,e3,e4⟩:=gB hnx hin hlen Sh.p_ k ck wz (eN (by omega)) col (fun g hgN hgg=>absurd hgg (hg g hgN))
   have body:G.kH h P (nO h.aG.length fun _=>0) (nO h.aG.length ck) (k:Int)=if b then some (.inl (nO h.aG.length c2,((k+1:Nat):Int))) else some (.inr false):=by
    have:G.sk (k:Int) h.aG P (nO h.aG.length ck)=some (nO h.aG.length c2,b):=e1
    simp only[G.kH,gU,zl,dec_lt,wz,decide_true,if_true,this,Option.bind_some]
    cases b
    ·simp[Sh.exit]
    ·simp[Sh.next,dI (show k<9223372036854775807 by omega)]
   cases b with
   |false=>
    obtain⟨z,hz⟩:=e4 rfl
    exact⟨false,ym (by simpa using body),by simp;exact⟨z,hz⟩⟩
   |true=>
    obtain⟨f1,f2,f3,f4⟩:=e3 rfl
    obtain⟨b3,g1,g2⟩:=ih (k+1) fu c2 (by omega) (by omega) f1 (fun y hy hc=>hg y hy ((f2 y hy).1 hc)) (fun j hj=>by
     by_cases e:j=k
     ·subst e;exact f4
     ·exact f3 j (by omega) (hd j (by omega)))
    exact⟨b3,(sH (by simpa using body)).trans g1,g2⟩
 exact rounds h.aG.length 0 Sh.p_ (fun _=>0) (by omega) (eN (by omega)) ⟨fun _ _=>.inl rfl,fun _ _ h=>by simp at h,fun _ _ h=>by simp at h⟩ (fun _ _ h=>by simp at h) (fun j hj=>by omega)
end Pl
end

section
/- Whether rows may be, and what leads where by them. -/
namespace Pl
open Go Go.Av

theorem Sy{a b:List Int}(ha:a.length<9223372036854775807):G.f_ a b=some (decide (a=b)):=by
 unfold G.f_
 by_cases hl:a.length=b.length
 ·have h1:¬(Sh.len a)≠(Sh.len b):=by simp only[Sh.len];omega
  rw[decide_eq_false h1]
  simp only[Bool.false_eq_true,if_false]
  rw[BS (b:=fun(p:Int)=>G.ej a b p) a.length (fun i=>decide (a[i]? =b[i]?)) (eN (by omega)) (fun k hk=> ?_) ?_]
  ·congr 1
   refine decide_eq_decide.2 ⟨fun h=>List.ext_getElem? fun i=> ?_,fun h i _=>by rw[h];exact decide_eq_true rfl⟩
   by_cases hi:i<a.length
   ·simpa using h i hi
   ·rw[List.getElem?_eq_none (by omega),List.getElem?_eq_none (by omega)]
  ·simp[G.ej,G.gd,Sh.exit]
  ·have wz:k<b.length:=by omega
   simp only[G.ej,dec_lt,hk,decide_true,if_true,gT hk,gT wz,Option.bind_some,dI (show k<9223372036854775807 by omega),List.getElem?_eq_getElem hk,List.getElem?_eq_getElem wz,Option.some.injEq]
   by_cases he:a[k]=b[k] <;> simp[he,Sh.exit,Sh.next]
 ·have h1:(Sh.len a)≠(Sh.len b):=by simp only[Sh.len];omega
  have h2:¬a=b:=fun e=>hl (by rw[e])
  rw[decide_eq_true h1,decide_eq_false h2];rfl

def n4(h:G.af):List Nat→List G.an→Bool
 |[],l=>l.isEmpty
 |k::ks,l=>if s4 h k=[] then n4 h ks l else match l with
  |[]=>false
  |r::l'=>decide (r.Key=(k:Int))&&(decide (s4 h k=Sh.kU r.L)&&n4 h ks l')
theorem Gu(h:G.af)(key:Int):(s4 h key).length≤h.aG.length:=C7 h key _
theorem LX{h:G.af}(hf:Fits h)(hn:h.aG.length≤1000000){l:List G.an}(hl:l.length≤1000000)(hL:∀r∈l,r.L.length≤1000000):G.sQ h l=some (right h&&n4 h (List.range 16) l):=by
 unfold G.sQ
 rw[FK hf]
 simp only[Option.bind_some]
 cases hr:right h with
 |false=>rfl
 |true=>
  simp only[Bool.not_true,Bool.false_eq_true,if_false,Bool.true_and]
  have rounds:∀(m v n fu:Nat),v+m=16→m<fu→n≤l.length→n≤v→Sh.iter (fun(p:Int×Int)=>G.iz h l p.1 p.2) fu ((n:Int),(v:Int))=some (n4 h (List.range' v m) (l.drop n)):=by
   intro m
   induction m with
   |zero=>
    intro v n fu hv hfu WD W_
    obtain⟨fu,rfl⟩:∃q,fu=q+1:=⟨fu - 1,by omega⟩
    refine(oI (X:=G.nM l (n:Int)) ?_).trans ?_
    ·simp only[G.iz]
     rw[if_neg (by simp;omega)]
    ·unfold G.nM
     simp only[List.range',n4]
     congr 1
     rw[Bool.eq_iff_iff,List.isEmpty_iff,List.drop_eq_nil_iff]
     simp only[Sh.len,decide_eq_true_eq]
     omega
   |succ m ih=>
    intro v n fu hv hfu WD W_
    obtain⟨fu,rfl⟩:∃q,fu=q+1:=⟨fu - 1,by omega⟩
    have hlt:decide ((v:Int)<16)=true:=decide_eq_true (by omega)
    have nx:∀c:Int,G.lY (v:Int) c=some (.inl (c,((v+1:Nat):Int))):=fun c=>by
     unfold G.lY Sh.next
     rw[dI (show v<9223372036854775807 by omega)]
    have hwl:=Gu h v
    simp only[List.range'_succ,n4]
    by_cases hw:s4 h v=[]
    ·rw[if_pos hw]
     refine(sH ?_).trans (ih (v+1) n fu (by omega) (by omega) WD (by omega))
     simp[G.iz,hlt,sJ hf hn,hw,nx]
    ·rw[if_neg hw]
     have hz:decide (((s4 h v).length:Int)=0)=false:=by
      have:=List.length_pos_iff.2 hw
      simp;omega
     by_cases hend:n=l.length
     ·rw[List.drop_eq_nil_of_le (by omega)]
      refine oI ?_
      simp only[G.iz,hlt,if_true,sJ hf hn,Option.bind_some,gU,hz,Bool.false_eq_true,if_false,hend,decide_true,G.jj]
     ·have Re:n<l.length:=by omega
      have hne:decide ((n:Int)=(l.length:Int))=false:=decide_eq_false (by omega)
      rw[List.drop_eq_getElem_cons Re]
      have hLn:=hL _ (List.getElem_mem Re)
      by_cases hk:l[n].Key=(v:Int)
      ·by_cases hs:s4 h v=Sh.kU l[n].L
       ·have hsd:decide (s4 h v=Sh.kU l[n].L)=true:=decide_eq_true hs
        simp only[hk,hsd,decide_true,Bool.true_and]
        refine(sH ?_).trans (ih (v+1) (n+1) fu (by omega) (by omega) (by omega) (by omega))
        simp only[G.iz,hlt,if_true,sJ hf hn,Option.bind_some,gU,hz,Bool.false_eq_true,if_false,hne,gT Re,hk,ne_eq,not_true,decide_false,OC hLn,Sy (show(s4 h v).length<9223372036854775807 by omega),hsd,Bool.not_true,G.jj,G.ec]
        rw[dI (show n<9223372036854775807 by omega),nx]
       ·simp only[hk,hs,decide_true,decide_false,Bool.true_and,Bool.false_and]
        refine oI ?_
        simp only[G.iz,hlt,if_true,sJ hf hn,Option.bind_some,gU,hz,Bool.false_eq_true,if_false,hne,gT Re,hk,ne_eq,not_true,decide_false,OC hLn,Sy (show(s4 h v).length<9223372036854775807 by omega),hs,Bool.not_false,G.jj,G.ec]
      ·simp only[hk,decide_false,Bool.false_and]
       refine oI ?_
       simp only[G.iz,hlt,if_true,sJ hf hn,Option.bind_some,gU,hz,Bool.false_eq_true,if_false,hne,gT Re,hk,ne_eq,not_false_eq_true,decide_true,G.jj]
  have:=rounds 16 0 0 Sh.p_ rfl (eN (by omega)) (by omega) (by omega)
  rw[List.range_eq_range']
  exact this
theorem Es{h:G.af}:∀{m v:Nat} {l:List G.an},n4 h (List.range' v m) l=true→(∀r∈l,((v:Int)≤r.Key∧r.Key<((v+m:Nat):Int))∧Sh.kU r.L=s4 h r.Key)∧l.Pairwise (fun a b=>a.Key<b.Key)∧(∀k,v≤k→k<v+m→s4 h k≠[]→∃r∈l,r.Key=(k:Int)):=by
 intro m
 induction m with
 |zero=>
  intro v l hm
  simp only[List.range',n4,List.isEmpty_iff] at hm
  subst hm
  refine⟨by simp,by simp,fun k h1 h2=>by omega⟩
 |succ m ih=>
  intro v l hm
  simp only[List.range'_succ,n4] at hm
  by_cases hw:s4 h v=[]
  ·rw[if_pos hw] at hm
   obtain⟨a,b,c⟩:=ih hm
   refine⟨fun r hr=> ?_,b,fun k h1 h2 h3=> ?_⟩
   ·have:=a r hr;exact⟨⟨by omega,by omega⟩,this.2⟩
   ·have:k≠v:=fun e=>h3 (by rw[e];exact hw)
    exact c k (by omega) (by omega) h3
  ·rw[if_neg hw] at hm
   cases l with
   |nil=>cases hm
   |cons r l=>
    simp only[Bool.and_eq_true,decide_eq_true_eq] at hm
    obtain⟨hk,hs,hm⟩:=hm
    obtain⟨a,b,c⟩:=ih hm
    refine⟨fun q hq=> ?_, ?_,fun k h1 h2 h3=> ?_⟩
    ·rcases List.mem_cons.1 hq with e|e
     ·subst e;exact⟨⟨by omega,by omega⟩,by rw[hk,hs]⟩
     ·have:=a q e;exact⟨⟨by omega,by omega⟩,this.2⟩
    ·refine List.pairwise_cons.2 ⟨fun q hq=> ?_,b⟩
     have:=a q hq;omega
    ·by_cases e:k=v
     ·subst e;exact⟨r,by simp,hk⟩
     ·obtain⟨q,hq,e2⟩:=c k (by omega) (by omega) h3
      exact⟨q,by simp[hq],e2⟩

def vK(l:List G.an)(k:Int):List Int:=((l.find? fun r=>decide (r.Key=k)).map (·.L)).getD []
def place(l:List G.an)(k t:Int):Int:=if t∈vK l k then(rZ (vK l k) t:Int)+1 else 0
def oJ(l:List G.an):List Int:=nO 512 fun q:Nat=>place l ((q / 32:Nat):Int) ((q % 32:Nat):Int)
theorem GO{l:List G.an}{r:G.an}(hd:∀a∈l,a.Key≠r.Key)(k:Int):vK (l++[r]) k=if r.Key=k then r.L else vK l k:=by
 unfold vK
 rw[List.find?_append]
 by_cases e:r.Key=k
 ·subst e
  have:l.find? (fun a=>decide (a.Key=r.Key))=none:=by
   rw[List.find?_eq_none]
   intro a ha;simpa using hd a ha
  simp[this]
 ·simp[e]
theorem Eh{l:List G.an}{k:Int}(h:vK l k≠[]):∃r∈l,r.Key=k∧vK l k=r.L:=by
 unfold vK at h ⊢
 cases hf:l.find? (fun r=>decide (r.Key=k)) with
 |none=>rw[hf] at h;exact absurd rfl h
 |some r=>exact⟨r,List.mem_of_find?_eq_some hf,by simpa using List.find?_some hf,rfl⟩
structure dU (l:List G.an):Prop where
 key:∀r∈l,0≤r.Key∧r.Key<16
 node:∀r∈l,∀t∈r.L,0≤t∧t<32
 nodup:∀r∈l,r.L.Nodup
 V8:l.Pairwise fun a b=>a.Key<b.Key
theorem Ai{n:Nat}{k:Nat}(h:k<n):Sh.lim n (k:Int)=some k:=by
 unfold Sh.lim
 rw[if_pos ⟨by omega,by omega⟩];simp
theorem KR{N:Nat}{F:Nat→Int}{i:Nat}{x:Int}(h:i<N):Sh.Hx (nO N F) i x=some (nO N fun q=>if q=i then x else F q):=by
 have:=s7 (N:=N) F (y:=i) x
 unfold Sh.Hx
 rw[if_pos (by simpa [nO] using h),←this]
 simp[Sh.set]
theorem OD{h:G.af}{l:List G.an}(tb:dU l)(hl:l.length≤1000000):Sh.loop (fun(p:(List Int)×Int)=>G.lV h l p.1 p.2) (List.replicate 512 0,0)=G.lX h (oJ l):=by
 refine nh (fun k=>oJ (l.take k)) l.length _ (eN (by omega)) (fun k hk=> ?_) ?_ ?_
 ·simp only[G.lV,gU,dec_lt,hk,decide_true,if_true,gT hk,Option.bind_some]
  obtain⟨r,hr⟩:∃r,r=l[k]:=⟨_,rfl⟩
  have hm:r∈l:=by rw[hr];exact List.getElem_mem hk
  rw[←hr]
  obtain⟨kk,hkk⟩:∃kk:Nat,r.Key=(kk:Int):=⟨r.Key.toNat,by have:=tb.key r hm;omega⟩
  have Uh:kk<16:=by have:=tb.key r hm;omega
  have hlen:r.L.length≤32:=CF (n:=32) (tb.node r hm) (tb.nodup r hm)
  have hfin:(fun q:Nat=>if((q / 32:Nat):Int)=r.Key∧((q % 32:Nat):Int)∈r.L.take r.L.length then(rZ r.L ((q % 32:Nat):Int):Int)+1 else place (l.take k) ((q / 32:Nat):Int) ((q % 32:Nat):Int))=fun q:Nat=>place (l.take (k+1)) ((q / 32:Nat):Int) ((q % 32:Nat):Int):=by
   funext q
   have hd:∀a∈l.take k,a.Key≠r.Key:=fun a ha=>by
    obtain⟨i,hi,e⟩:=List.getElem_of_mem ha
    rw[List.getElem_take] at e
    rw[List.length_take] at hi
    have:=List.pairwise_iff_getElem.1 tb.V8 i k (by omega) hk (by omega)
    rw[e,←hr] at this
    omega
   have hsn:l.take (k+1)=l.take k++[r]:=by rw[List.take_add_one,List.getElem?_eq_getElem hk,hr];rfl
   unfold place
   rw[hsn,GO hd,List.take_length]
   by_cases e:r.Key=((q / 32:Nat):Int)
   ·rw[if_pos e]
    have hdn:vK (l.take k) ((q / 32:Nat):Int)=[]:=by
     apply Classical.byContradiction
     intro hc
     obtain⟨a,ha,e2,_⟩:=Eh hc
     exact hd a ha (by rw[e2,e])
    rw[hdn]
    by_cases e3:((q % 32:Nat):Int)∈r.L
    ·rw[if_pos ⟨e.symm,e3⟩,if_pos e3]
    ·rw[if_neg (fun c=>e3 c.2),if_neg e3,if_neg (by simp)]
   ·rw[if_neg e,if_neg (fun c=>e c.1.symm)]
  have body:Sh.loop (fun(p:(List Int)×Int)=>G.lW (k:Int) r p.1 p.2) (oJ (l.take k),0)=G.nL (k:Int) (oJ (l.take (k+1))):=by
   refine nh (fun j=>nO 512 fun q:Nat=>if((q / 32:Nat):Int)=r.Key∧((q % 32:Nat):Int)∈r.L.take j then(rZ r.L ((q % 32:Nat):Int):Int)+1 else place (l.take k) ((q / 32:Nat):Int) ((q % 32:Nat):Int)) r.L.length _ (eN (by omega)) (fun j hj=> ?_) ?_ ?_
   ·have hin:=tb.node r hm _ (List.getElem_mem hj)
    obtain⟨t,ht⟩:∃t:Nat,r.L[j]=(t:Int):=⟨r.L[j].toNat,by omega⟩
    have Vc:t<32:=by omega
    simp only[G.lW,gU,dec_lt,hj,decide_true,if_true,gT hj,Option.bind_some,ht,hkk,Ai Uh,Ai Vc,dI (show j<9223372036854775807 by omega)]
    rw[KR (by omega)]
    simp only[Option.bind_some,Sh.next]
    refine congrArg (fun X:List Int=>(some (.inl (X,((j+1:Nat):Int))):Option (((List Int)×Int)⊕_))) (l8 fun q _=> ?_)
    simp only[ji hj,ht]
    by_cases e:q=kk*32+t
    ·have e1:q / 32=kk:=by omega
     have e2:q % 32=t:=by omega
     have hat:rZ r.L (t:Int)=j:=by rw[←ht];exact Ca (tb.nodup r hm) hj
     rw[if_pos e,e1,e2,if_pos ⟨rfl,.inr rfl⟩,hat];simp
    ·rw[if_neg e]
     have:((((q / 32:Nat):Int)=(kk:Int))∧(((q % 32:Nat):Int)∈r.L.take j∨((q % 32:Nat):Int)=(t:Int)))↔((((q / 32:Nat):Int)=(kk:Int))∧((q % 32:Nat):Int)∈r.L.take j):=by
      constructor
      ·rintro⟨a,b|b⟩
       ·exact⟨a,b⟩
       ·exact absurd (show q=kk*32+t by omega) e
      ·rintro⟨a,b⟩;exact⟨a,.inl b⟩
     simp only[this]
   ·simp only[G.lW,gU]
    rw[if_neg (by simp),hfin];rfl
   ·refine l8 fun q _=> ?_
    rw[List.take_zero,if_neg (by simp)]
  rw[body]
  unfold G.nL Sh.next
  rw[dI (show k<9223372036854775807 by omega)]
 ·simp only[G.lV,gU]
  rw[if_neg (by simp),List.take_length]
 ·show List.replicate 512 0=nO 512 _
  rw[sy]
  refine l8 fun q _=> ?_
  simp[place,vK]
end Pl
end

section
/- What leads where by rows; and the check. -/
namespace Pl
open Go Go.Av

theorem Ei{h:G.af}{o:List Int}{key:Int}:∀m,m≤o.length→(qR h (o.take m) key= -1∧∀i (hi:i<o.length),i<m→oG (tx h o[i]) key=false)∨
  ∃(j:Nat) (hj:j<o.length),j<m∧qR h (o.take m) key=o[j]∧oG (tx h o[j]) key=true∧∀i (hi:i<o.length),j<i→i<m→oG (tx h o[i]) key=false:=by
 intro m
 induction m with
 |zero=>intro _;exact .inl ⟨rfl,fun i _ hi=>by omega⟩
 |succ m ih=>
  intro hm
  have e:o.take (m+1)=o.take m++[o[m]]:=by
   rw[List.take_add_one,List.getElem?_eq_getElem (by omega),Option.toList_some]
  rw[e,Ah]
  cases hw:oG (tx h o[m]) key with
  |true=>
   rw[if_pos rfl]
   exact .inr ⟨m,by omega,by omega,rfl,hw,fun i _ h1 h2=>by omega⟩
  |false=>
   rw[if_neg (by simp)]
   rcases ih (by omega) with⟨h1,h2⟩|⟨j,hj,h1,h2,h3,h4⟩
   ·refine .inl ⟨h1,fun i hi him=> ?_⟩
    by_cases hc:i=m
    ·subst hc;exact hw
    ·exact h2 i hi (by omega)
   ·refine .inr ⟨j,hj,by omega,h2,h3,fun i hi hji him=> ?_⟩
    by_cases hc:i=m
    ·subst hc;exact hw
    ·exact h4 i hi hji (by omega)

theorem G9{h:G.af}(hr:right h=true){t:Nat}(ht:t<h.aG.length){r:G.aj}(hm:r∈(tx h t).Reads):r.dn= -1∨((0≤r.dn∧r.dn<h.aG.length)∧r.dn≠(t:Int)∧oG (tx h r.dn) r.Key=true):=by
 have h1:=xJ hr ht
 simp only[FE,Bool.and_eq_true] at h1
 have h2:=yX h1.1.1.2 r hm
 simp only[there,Bool.or_eq_true,Bool.and_eq_true,decide_eq_true_eq] at h2
 rcases h2 with h2|h2
 ·exact .inl h2
 ·refine .inr ⟨h2.1.1,h2.1.2, ?_⟩
  have h3:=h2.2
  unfold tx
  have hl:r.dn.toNat<h.aG.length:=by omega
  rw[List.getElem?_eq_getElem hl] at h3 ⊢
  exact h3
theorem Kn{h:G.af}{o:List Int}:vg h o=CO h↔∀t:Nat,t<h.aG.length→∀r∈(tx h t).Reads,qR h (o.take (rZ o t)) r.Key=r.dn:=by
 unfold vg CO
 rw[H8]
 constructor
 ·intro hh t ht r hr
  have e:=hh t ht
  unfold oA at e
  obtain⟨i,hi,rfl⟩:=List.getElem_of_mem hr
  have:=congrArg (fun l:List G.aj=>l[i]?) e
  simp only[List.getElem?_map,List.getElem?_eq_getElem hi,Option.map_some,Option.some.injEq] at this
  have:=congrArg G.aj.dn this
  exact this
 ·intro hh t ht
  unfold oA
  refine(List.map_congr_left fun r hr=> ?_).trans (List.map_id _)
  rw[hh t ht r hr];rfl

def rX(l:List G.an)(key a b:Int):Bool:=decide (0<place l key b)&&(decide (a<0)||(decide (0<place l key a)&&decide (place l key a<place l key b)))
def oT(h:G.af)(l:List G.an)(x y:Int):Bool:=(decide (x<y)&&decide ((tx h x).bt=(tx h y).bt))||((tx h y).Reads.any (fun r=>decide (r.dn=x))||(tx h x).bD.any (fun key=>rX l key x y))
def xy(h:G.af)(l:List G.an)(x y:Int):Bool:=decide (x≠y)&&(tx h x).Reads.any (fun r=>rX l r.Key r.dn y)
def Kc(h:G.af)(l:List G.an)(y:Int)(w:Nat):List Int:=((List.range w).filter fun z:Nat=>xy h l y z).map fun z:Nat=>(z:Int)
def HO(h:G.af)(l:List G.an)(x:Int)(v:Nat):List Int:=(List.range v).flatMap fun y:Nat=>if oT h l x y then(y:Int)::Kc h l y h.aG.length else []
def M9(h:G.af)(l:List G.an)(x:Nat):List Int:=HO h l x h.aG.length
theorem Kd(h:G.af)(l:List G.an)(y:Int)(w:Nat):Kc h l y (w+1)=if xy h l y w then Kc h l y w++[(w:Int)] else Kc h l y w:=by
 unfold Kc
 rw[List.range_succ,List.filter_append,List.map_append]
 cases hw:xy h l y w <;> simp[List.filter,hw]
theorem Gl(h:G.af)(l:List G.an)(y:Int)(w:Nat):(Kc h l y w).length≤w:=by
 unfold Kc
 rw[List.length_map]
 exact Nat.le_trans (List.length_filter_le _ _) (by simp)
theorem Eu(h:G.af)(l:List G.an)(x:Int)(v:Nat):HO h l x (v+1)=if oT h l x v then HO h l x v++[(v:Int)]++Kc h l v h.aG.length else HO h l x v:=by
 unfold HO
 rw[List.range_succ,List.flatMap_append]
 cases hw:oT h l x v <;> simp[hw]
theorem Gm(h:G.af)(l:List G.an)(x:Int)(v:Nat)(hN:h.aG.length≤32):(HO h l x v).length≤v*33:=by
 induction v with
 |zero=>simp[HO]
 |succ v ih=>
  rw[Eu]
  have:=Gl h l v h.aG.length
  split
  ·simp only[List.length_append,List.length_cons,List.length_nil];omega
  ·omega
theorem Gj{h:G.af}{l:List G.an}{x:Nat}{z:Int}:z∈M9 h l x↔(0≤z∧z<h.aG.length)∧(oT h l x z=true∨∃y:Nat,y<h.aG.length∧oT h l x y=true∧xy h l y z=true):=by
 unfold M9 HO Kc
 simp only[List.mem_flatMap,List.mem_range]
 constructor
 ·rintro⟨y,hy,hz⟩
  split at hz
  ·rename_i hd
   rcases List.mem_cons.1 hz with e|e
   ·subst e;exact⟨⟨by omega,by omega⟩,.inl hd⟩
   ·simp only[List.mem_map,List.mem_filter,List.mem_range] at e
    obtain⟨w,⟨hw,ho⟩,rfl⟩:=e
    exact⟨⟨by omega,by omega⟩,.inr ⟨y,hy,hd,ho⟩⟩
  ·cases hz
 ·rintro⟨⟨h0,h1⟩,hd|⟨y,hy,hd,ho⟩⟩
  ·refine⟨z.toNat,by omega, ?_⟩
   have:((z.toNat:Nat):Int)=z:=by omega
   rw[this,hd];simp
  ·refine⟨y,hy, ?_⟩
   rw[hd,if_pos rfl]
   refine List.mem_cons_of_mem _ (List.mem_map.2 ⟨z.toNat,List.mem_filter.2 ⟨List.mem_range.2 (by omega), ?_⟩,by omega⟩)
   rw[show((z.toNat:Nat):Int)=z by omega];exact ho

theorem EU(l:List G.an){k t:Nat}(hk:k<16)(ht:t<32):Sh.AT (oJ l) (k*32+t)=some (place l (k:Int) (t:Int)):=by
 unfold Sh.AT oJ
 rw[s6 _ (by omega),show(k*32+t) / 32=k by omega,show(k*32+t) % 32=t by omega]
theorem Ki{l:List G.an}{T:List G.ah}{key a b:Int}(hk:0≤key∧key<16)(ha:a<32)(hb:0≤b∧b<32):G.jq key a b T (oJ l)=some (rX l key a b):=by
 obtain⟨k,rfl⟩:∃k:Nat,key=(k:Int):=⟨key.toNat,by omega⟩
 obtain⟨t,rfl⟩:∃t:Nat,b=(t:Int):=⟨b.toNat,by omega⟩
 have wz:k<16:=by omega
 have WG:t<32:=by omega
 unfold G.jq rX
 simp only[Ai wz,Ai WG,Option.bind_some,EU l wz WG]
 by_cases h1:0<place l (k:Int) (t:Int)
 ·simp only[h1,decide_true,if_true,Bool.true_and]
  by_cases h2:a<0
  ·simp[h2]
  ·obtain⟨s,rfl⟩:∃s:Nat,a=(s:Int):=⟨a.toNat,by omega⟩
   have Pe:s<32:=by omega
   simp only[h2,decide_false,Bool.false_eq_true,if_false,Ai Pe,Option.bind_some,EU l wz Pe,Bool.false_or]
   by_cases h3:0<place l (k:Int) (s:Int) <;> simp[h3]
 ·simp[h1]
section
variable {h:G.af} {l:List G.an}
theorem Kl(hf:Fits h){x y:Int}(hy:inr h y=true):G.bF (tx h y).Reads x=some ((tx h y).Reads.any fun r=>decide (r.dn=x)):=by
 have hl:=hf.reads _ (CX hy)
 unfold G.bF G.b5
 rw[sE (tx h y).Reads (fun r=>decide (r.dn=x)) (fun k=>(k:Int)) (some (-1)) (eN (by omega)) (fun k hk=> ?_) ?_,xC,Option.bind_some,mc]
 ·simp[G.bG,G.bS]
 ·simp only[G.bG,dec_lt,hk,decide_true,if_true,gT hk,Option.bind_some,G.iW,dI (show k<9223372036854775807 by omega)]
  rfl
theorem Km(hf:Fits h)(hr:right h=true){x y:Int}(hx:inr h x=true)(hy:inr h y=true):G.cH (tx h x).bD x y h.aG (oJ l)=some ((tx h x).bD.any fun key=>rX l key x y):=by
 have hl:=hf.writes _ (CX hx)
 have hN:=nF hr
 have vT:=nZ.1 hx
 have Xp:=nZ.1 hy
 unfold G.cH G.dG
 rw[sE (tx h x).bD (fun key=>rX l key x y) (fun k=>(k:Int)) (some (-1)) (eN (by omega)) (fun k hk=> ?_) ?_,xC,Option.bind_some,mc]
 ·simp[G.bW,G.cI]
 ·have hkk:0≤(tx h x).bD[k]∧(tx h x).bD[k]<16:=by
   obtain⟨n,rfl⟩:∃n:Nat,x=(n:Int):=⟨x.toNat,by omega⟩
   exact yE hr (t:=n) (by omega) _ (List.getElem_mem hk)
  simp only[G.bW,dec_lt,hk,decide_true,if_true,gT hk,Option.bind_some,G.kf,Ki (l:=l) (T:=h.aG) (a:=x) (b:=y) hkk (by omega) (by omega),dI (show k<9223372036854775807 by omega)]
  rfl
theorem Kk(hf:Fits h)(hr:right h=true){x y:Int}(hx:inr h x=true)(hy:inr h y=true):G.j0 x y h.aG (oJ l)=some (oT h l x y):=by
 have hj:∀b,G.eY x y h.aG (oJ l) b=some (b||((tx h y).Reads.any (fun r=>decide (r.dn=x))||(tx h x).bD.any (fun key=>rX l key x y))):=fun b=>by
  unfold G.eY
  rw[yh hy,yh hx]
  simp only[Option.bind_some,Kl hf hy,Km hf hr hx hy]
  cases b
  ·cases(tx h y).Reads.any (fun r=>decide (r.dn=x)) <;> simp
  ·simp
 unfold G.j0 oT
 rw[hj,yh hx,yh hy]
 simp only[Option.bind_some,hj]
 by_cases e:x<y <;> simp[e]
theorem OA(hf:Fits h)(hr:right h=true){x y:Int}(hx:inr h x=true)(hy:inr h y=true):G.kX x y h.aG (oJ l)=some (xy h l x y):=by
 have hl:=hf.reads _ (CX hx)
 have hN:=nF hr
 have vT:=nZ.1 hx
 have Xp:=nZ.1 hy
 unfold G.kX xy
 by_cases hxy:x=y
 ·simp[hxy]
 ·rw[yh hx]
  simp only[ne_eq,hxy,not_false_eq_true,decide_true,if_true,Option.bind_some,Bool.true_and]
  unfold G.cM G.c5
  rw[sE (tx h x).Reads (fun r=>rX l r.Key r.dn y) (fun k=>(k:Int)) (some (-1)) (eN (by omega)) (fun k hk=> ?_) ?_,xC,Option.bind_some,mc]
  ·rfl
  ·simp[G.bI,G.bV]
  ·have hm:=List.getElem_mem hk
   have hkk:(0≤(tx h x).Reads[k].Key∧(tx h x).Reads[k].Key<16)∧(tx h x).Reads[k].dn<32:=by
    obtain⟨n,rfl⟩:∃n:Nat,x=(n:Int):=⟨x.toNat,by omega⟩
    refine⟨AB hr (t:=n) (by omega) _ hm, ?_⟩
    rcases G9 hr (t:=n) (by omega) hm with e|e
    ·omega
    ·omega
   simp only[G.bI,dec_lt,hk,decide_true,if_true,gT hk,Option.bind_some,G.lM,Ki (l:=l) (T:=h.aG) (b:=y) hkk.1 hkk.2 (by omega),dI (show k<9223372036854775807 by omega)]
   rfl
theorem SA(hf:Fits h)(hr:right h=true){x:Nat}(hx:x<h.aG.length):G.iP (x:Int) h.aG (oJ l)=some (M9 h l x):=by
 have hN:=nF hr
 have hxi:inr h (x:Int)=true:=nZ.2 ⟨by omega,by omega⟩
 unfold G.iP
 refine nh (fun v=>HO h l x v) h.aG.length _ (eN (by omega)) (fun v hv=> ?_) ?_ (by simp[HO])
 ·have hvi:inr h (v:Int)=true:=nZ.2 ⟨by omega,by omega⟩
  have hl:=Gm h l x v hN
  simp only[G.gV,gU,dec_lt,hv,decide_true,if_true,Kk hf hr hxi hvi,Option.bind_some]
  rw[Eu]
  cases hd:oT h l x v with
  |false=>
   simp only[Bool.not_false,if_true,Bool.false_eq_true,if_false,G.fQ,Sh.next]
   rw[dI (show v<9223372036854775807 by omega)]
  |true=>
   simp only[Bool.not_true,Bool.false_eq_true,if_false,if_true]
   rw[wg (by simp;omega),Option.bind_some]
   refine nh (fun w=>HO h l x v++[(v:Int)]++Kc h l v w) h.aG.length _ (eN (by omega)) (fun w hw=> ?_) ?_ (by simp[Kc])
   ·have hwi:inr h (w:Int)=true:=nZ.2 ⟨by omega,by omega⟩
    have MM:=Gl h l v w
    simp only[G.gW,gU,dec_lt,hw,decide_true,if_true,OA hf hr hvi hwi,Option.bind_some]
    rw[Kd]
    cases ho:xy h l v w with
    |false=>
     simp only[Bool.false_eq_true,if_false,G.fR,Sh.next]
     rw[dI (show w<9223372036854775807 by omega)]
    |true=>
     simp only[if_true]
     rw[wg (by simp;omega),Option.bind_some]
     simp only[G.fR,Sh.next]
     rw[dI (show w<9223372036854775807 by omega),List.append_assoc (HO h l x v++[(v:Int)])]
   ·simp only[G.gW,gU]
    rw[if_neg (by simp)]
    unfold G.fQ Sh.next Sh.exit
    rw[dI (show v<9223372036854775807 by omega)]
 ·simp only[G.gV,gU]
  rw[if_neg (by simp)];rfl
theorem GU(hr:right h=true)(hm:n4 h (List.range 16) l=true):dU l:=by
 rw[List.range_eq_range'] at hm
 obtain⟨a,b,_⟩:=Es hm
 have hN:=nF hr
 refine⟨fun r hr=>by have:=(a r hr).1;omega,fun r hr t ht=> ?_,fun r hr=> ?_,b⟩
 ·have:=(Sh.ni r.L).mem_iff.2 ht
  rw[(a r hr).2] at this
  have:=(CG.1 this).1
  omega
 ·have h1:=(Sh.ni r.L).nodup_iff
  rw[←h1,(a r hr).2]
  exact B0 h r.Key
def HW(h:G.af)(l:List G.an):Prop:=∃z,Path h.aG.length (M9 h l) z z
theorem LW(hf:Fits h)(hn:h.aG.length≤1000000)(hl:l.length≤1000000)(hL:∀r∈l,r.L.length≤1000000):∃b,G.qY h l=some b∧(b=true↔right h=true∧n4 h (List.range 16) l=true∧¬HW h l):=by
 unfold G.qY
 rw[LX hf hn hl hL,Option.bind_some]
 cases hr:right h with
 |false=>exact⟨false,rfl,by simp⟩
 |true=>
  cases hm:n4 h (List.range 16) l with
  |false=>exact⟨false,rfl,by simp⟩
  |true=>
   have tb:=GU hr hm
   have hN:=nF hr
   simp only[Bool.true_and,Bool.not_true,Bool.false_eq_true,if_false]
   rw[OD tb hl]
   obtain⟨b,e1,e2⟩:=Ln (h:=h) (P:=oJ l) (nx:=M9 h l) hn (fun x hx=>SA hf hr hx) (fun x hx y hy=>(Gj.1 hy).1) (fun x hx=>by
    have:=Gm h l x h.aG.length hN
    unfold M9;omega)
   refine⟨b,e1,e2.trans ?_⟩
   simp[HW]
end
end Pl
end

section
/- Law 27, CertOrders: an order's certificate proves just what the order shows. -/
namespace Pl
open Go Go.Av

theorem wD{h:G.af}{o:List Int}:∀ks:List Nat,n4 h ks (ks.filterMap (rowAt h o))=true
 |[]=>rfl
 |k::ks=>by
  unfold n4
  by_cases hw:s4 h k=[]
  ·rw[if_pos hw]
   have:rowAt h o k=none:=by unfold rowAt;rw[if_pos hw]
   rw[List.filterMap_cons_none this]
   exact wD ks
  ·rw[if_neg hw]
   have:rowAt h o k=some ⟨k,Sh.pT o (s4 h k)⟩:=by unfold rowAt;rw[if_neg hw]
   rw[List.filterMap_cons_some this]
   simp only[decide_true,Bool.true_and,wD ks,Bool.and_true,decide_eq_true_eq]
   exact Sh.tQ ((Sh.ny o _).symm.trans (Sh.ni _).symm) ((AX h k).imp fun hab=>by omega) (Sh.qg _)
theorem KC{h:G.af}{o:List Int}:(mC h o).length≤16:=Nat.le_trans (List.length_filterMap_le _ _) (by simp)
theorem EF{h:G.af}{o:List Int}{r:G.an}(hr:r∈mC h o):∃k:Nat,k<16∧s4 h k≠[]∧r=⟨k,Sh.pT o (s4 h k)⟩:=by
 unfold mC at hr
 obtain⟨k,hk,e⟩:=List.mem_filterMap.1 hr
 unfold rowAt at e
 by_cases hw:s4 h k=[]
 ·rw[if_pos hw] at e;cases e
 ·rw[if_neg hw] at e
  exact⟨k,List.mem_range.1 hk,hw,(Option.some.inj e).symm⟩
theorem BH{h:G.af}(hr:right h=true){o:List Int}{k:Nat}(hne:vK (mC h o) k≠[]):vK (mC h o) k=Sh.pT o (s4 h k):=by
 obtain⟨r,hm,hk,e⟩:=Eh hne
 obtain⟨q,_,_,e2⟩:=EF hm
 subst e2
 have:(q:Int)=k:=hk
 rw[e]
 show Sh.pT o (s4 h (q:Int))=_
 rw[this]
theorem yt{l:List G.an}{k t:Int}(hp:0<place l k t):t∈vK l k:=by
 unfold place at hp
 by_cases ht:t∈vK l k
 ·exact ht
 ·rw[if_neg ht] at hp;omega
theorem AG{h:G.af}(hr:right h=true){o:List Int}{k:Nat}{t:Int}(hp:0<place (mC h o) k t):t∈s4 h k:=by
 have h1:=yt hp
 rw[BH hr (List.ne_nil_of_mem h1)] at h1
 exact(Sh.ny o _).mem_iff.1 h1
theorem L6{h:G.af}(hr:right h=true){o:List Int}(p:yH h.aG.length o){k:Nat}{a b:Int}(ha:0<place (mC h o) k a)(hb:0<place (mC h o) k b)(hlt:place (mC h o) k a<place (mC h o) k b):rZ o a<rZ o b:=by
 have ma:=yt ha
 have mb:=yt hb
 have wa:=AG hr ha
 have wb:=AG hr hb
 have e:=BH hr (List.ne_nil_of_mem ma)
 unfold place at hlt
 rw[if_pos ma,if_pos mb] at hlt
 have hl:rZ (vK (mC h o) k) a<rZ (vK (mC h o) k) b:=by omega
 have hs:=Sh.tU o (s4 h k)
 rw[←e] at hs
 have:=List.pairwise_iff_getElem.1 hs _ _ (s8 ma) (s8 mb) hl
 rw[qb ma,qb mb,Gf (tT p wa),Gf (tT p wb)] at this
 have hne:a≠b:=fun e2=>by subst e2;omega
 have:rZ o a≠rZ o b:=fun e2=>hne (zm (tT p wa) (tT p wb) e2)
 omega
theorem Dt{h:G.af}(hr:right h=true){o:List Int}(p:yH h.aG.length o){k a b:Int}(hk:0≤k)(hh:rX (mC h o) k a b=true):oG (tx h b) k=true∧(a<0∨rZ o a<rZ o b):=by
 obtain⟨q,rfl⟩:∃q:Nat,k=(q:Int):=⟨k.toNat,by omega⟩
 unfold rX at hh
 simp only[Bool.and_eq_true,Bool.or_eq_true,decide_eq_true_eq] at hh
 refine⟨(CG.1 (AG hr hh.1)).2, ?_⟩
 rcases hh.2 with e|⟨e1,e2⟩
 ·exact .inl e
 ·exact .inr (L6 hr p e1 hh.1 e2)

section
variable {h:G.af} {o:List Int}
theorem yC(hc:qC h o=true):right h=true∧yH h.aG.length o∧(∀t:Nat,t<h.aG.length→∀r∈(tx h t).Reads,qR h (o.take (rZ o t)) r.Key=r.dn)∧AK h o=true:=by
 unfold qC at hc
 simp only[Bool.and_eq_true,decide_eq_true_eq] at hc
 exact⟨hc.1.1.1,qi.1 hc.1.1.2,Kn.1 hc.1.2,hc.2⟩
theorem AJ(hc:qC h o=true){x y:Nat}(hx:x<h.aG.length)(hy:y<h.aG.length)(hd:oT h (mC h o) x y=true):rZ o x<rZ o y:=by
 obtain⟨hr,p,hp,hs⟩:=yC hc
 have mx:=p.all hx
 have my:=p.all hy
 unfold oT at hd
 simp only[Bool.or_eq_true,Bool.and_eq_true,decide_eq_true_eq,List.any_eq_true] at hd
 rcases hd with⟨h1,h2⟩|⟨r,hm,e⟩|⟨k,hm,e⟩
 ·apply Classical.byContradiction
  intro hn
  have hne:rZ o (y:Int)≠rZ o (x:Int):=fun e=>by
   have:=zm my mx e;omega
  have:=KH.1 hs (rZ o y) (rZ o x) (by omega) (s8 mx)
  rw[qb mx,qb my] at this
  exact this ⟨h1,h2.symm⟩
 ·have h1:=hp y hy r hm
  have hly:=s8 my
  rcases Ei (h:=h) (o:=o) (key:=r.Key) (rZ o y) (by omega) with⟨a,_⟩|⟨j,hj,hjl,a,_⟩
  ·rw[a,e] at h1;omega
  ·rw[a,e] at h1
   rw[←h1,Ca p.nodup hj];exact hjl
 ·have hk:=yE hr hx k hm
  rcases(Dt hr p hk.1 e).2 with e2|e2
  ·omega
  ·exact e2
theorem KF(hc:qC h o=true){x y:Nat}(hx:x<h.aG.length)(hy:y<h.aG.length)(hd:xy h (mC h o) x y=true):rZ o x<rZ o y:=by
 obtain⟨hr,p,hp,hs⟩:=yC hc
 have mx:=p.all hx
 have my:=p.all hy
 unfold xy at hd
 simp only[Bool.and_eq_true,decide_eq_true_eq,List.any_eq_true] at hd
 obtain⟨hne,r,hm,e⟩:=hd
 have hk:=AB hr hx r hm
 obtain⟨hw,hlt⟩:=Dt hr p hk.1 e
 apply Classical.byContradiction
 intro hn
 have Xa:rZ o (y:Int)≠rZ o (x:Int):=fun e=>hne (zm my mx e).symm
 have hlx:=s8 mx
 have h1:=hp x hx r hm
 rcases Ei (h:=h) (o:=o) (key:=r.Key) (rZ o x) (by omega) with⟨a,b⟩|⟨j,hj,hjl,a,_,b⟩
 ·have:=b (rZ o y) (s8 my) (by omega)
  rw[qb my,hw] at this;cases this
 ·rw[a] at h1
  have hnn:0≤r.dn:=by rw[←h1];exact(p.node _ (List.getElem_mem hj)).1
  rcases hlt with e2|e2
  ·omega
  ·rw[←h1,Ca p.nodup hj] at e2
   have:=b (rZ o y) (s8 my) e2 (by omega)
   rw[qb my,hw] at this;cases this
theorem KG(hc:qC h o=true){x z:Nat}(q:Path h.aG.length (M9 h (mC h o)) x z):rZ o x<rZ o z:=by
 have one:∀{a b:Nat},a<h.aG.length→b<h.aG.length→(b:Int)∈M9 h (mC h o) a→rZ o a<rZ o b:=fun{a b} ha hb hm=>by
  rcases(Gj.1 hm).2 with e|⟨y,hy,e1,e2⟩
  ·exact AJ hc ha hb e
  ·exact Nat.lt_trans (AJ hc ha hy e1) (KF hc hy hb e2)
 induction q with
 |one a b e=>exact one a b e
 |more q b e ih=>exact Nat.lt_trans ih (one q.lt.2 b e)
theorem Hg(hc:qC h o=true):¬HW h (mC h o):=by
 rintro⟨z,p⟩
 have:=KG hc p
 omega
end
theorem Lk:G.jv=some true:=by kernel_rfl
theorem E5(h:G.af)(o:List Int):G.fV h o=some true:=by
 unfold G.fV
 rw[Lk,V7 (by omega)]
 simp only[Option.bind_some,Bool.not_true,Bool.false_eq_true,if_false]
 have j1t:G.dK h o true=some true:=rfl
 cases hF:Lr h 20 with
 |false=>exact j1t
 |true=>
  simp only[Bool.not_true,Bool.false_eq_true,if_false]
  by_cases ho:o.length≤40
  ·rw[show decide ((40:Int)<Sh.len o)=false from decide_eq_false (by simp only[Sh.len];omega)]
   have hf:=Ir (by omega) hF
   have hn:=Ls hF
   have hb:=GD hF
   obtain⟨R,hR⟩:∃R,R=if right h&&E0 h.aG.length o then mC h o else []:=⟨_,rfl⟩
   have hRl:R.length≤16:=by
    rw[hR];split
    ·exact KC
    ·simp
   have hRL:∀r∈R,r.L.length≤1000000:=fun r hr=>by
    rw[hR] at hr
    split at hr
    ·obtain⟨k,_,_,e⟩:=EF hr
     subst e
     have:=(Sh.ny o (s4 h k)).length_eq
     have h2:=Gu h k
     show(Sh.pT o (s4 h k)).length≤_
     omega
    ·cases hr
   obtain⟨b,eb,hbb⟩:=LW (l:=R) hf (by omega) (by omega) hRL
   have e0:G.mN h 0 o=some ⟨0,true,o,[],[]⟩:=by
    unfold G.mN G.iA
    rw[wg (by simp;omega)]
    rfl
   have e1:G.mN h 1 o=some ⟨1,true,[],R,[]⟩:=by
    unfold G.mN
    rw[M_ hf (by omega) (by omega),←hR]
    rfl
   have c0:G.dX h ⟨0,true,o,[],[]⟩=some (qC h o):=by
    unfold G.dX
    simp[Kj hf hb,Sh.len]
   have c1:G.dX h ⟨1,true,[],R,[]⟩=some b:=by
    unfold G.dX
    simp[eb,Sh.len]
   have hab:qC h o=true→b=true:=fun hc=>by
    obtain⟨hr,p,_,_⟩:=yC hc
    have W2:R=mC h o:=by rw[hR,hr,qi.2 p];rfl
    rw[hbb,W2]
    exact⟨hr,wD _,Hg hc⟩
   have c2:0<o.length→G.dX h ⟨0,false,o,[],[]⟩=some false:=fun hp=>by
    unfold G.dX
    have:decide (Sh.len o=0)=false:=decide_eq_false (by simp only[Sh.len];omega)
    have hne:o≠[]:=List.ne_nil_of_length_pos hp
    simp[this,hne]
   have c3:0<o.length→G.dX h ⟨1,true,o,[],[]⟩=some false:=fun hp=>by
    unfold G.dX
    have:decide (Sh.len o=0)=false:=decide_eq_false (by simp only[Sh.len];omega)
    have hne:o≠[]:=List.ne_nil_of_length_pos hp
    simp[this,hne]
   have c4:R≠[]→G.dX h ⟨0,true,o,R,[]⟩=some false:=fun hp=>by
    unfold G.dX
    have:decide (Sh.len R=0)=false:=decide_eq_false (by have:=List.length_pos_iff.2 hp;simp only[Sh.len];omega)
    simp[this,hp]
   have j3:G.dm h ⟨0,true,o,[],[]⟩ ⟨1,true,[],R,[]⟩ false=some true:=by
    unfold G.dm
    by_cases hp:R=[]
    ·simp[hp,Sh.len]
    ·have:decide (Sh.len R=0)=false:=decide_eq_false (by have:=List.length_pos_iff.2 hp;simp only[Sh.len];omega)
     simp[this,c4 hp,hp]
   have j2:G.cV h o ⟨0,true,o,[],[]⟩ ⟨1,true,[],R,[]⟩ false=some true:=by
    unfold G.cV
    by_cases hp:0<o.length
    ·have:decide ((0:Int)<Sh.len o)=true:=decide_eq_true (by simp only[Sh.len];omega)
     simp[this,c2 hp,c3 hp,j3]
    ·have:decide ((0:Int)<Sh.len o)=false:=decide_eq_false (by simp only[Sh.len];omega)
     simp only[this,Bool.false_eq_true,if_false,j3]
   unfold G.dK
   simp only[Bool.false_eq_true,if_false,e0,e1,Option.bind_some,c0,c1,Kj hf hb,M_ hf (show h.aG.length≤1000000 by omega) (show o.length≤1000000 by omega),←hR,eb,beq_self_eq_true,Bool.not_true]
   cases hc:qC h o with
   |false=>simp[j2]
   |true=>simp[hab hc,j2]
  ·rw[show decide ((40:Int)<Sh.len o)=true from decide_eq_true (by simp only[Sh.len];omega)]
   exact j1t
end Pl
end
