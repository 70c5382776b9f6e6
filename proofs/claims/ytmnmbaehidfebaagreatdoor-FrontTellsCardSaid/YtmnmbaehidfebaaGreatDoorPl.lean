/- What the plain functions answer. -/
import Derived.Test.YtmnmbaehidfebaaGreatDoorBase1
import Derived.Test.YtmnmbaehidfebaaGreatDoorSh
import Derived.KernelRfl
set_option linter.unusedSimpArgs false
set_option linter.unusedVariables false
section
/- What is used to reason about the plain functions. -/
namespace Pl
open Go Go.Av

theorem sC{n:Int}(h1: -9223372036854775808≤n)(h2:n<9223372036854775808):fL n=n:=SP h1 h2
theorem cI{α:Type}{l:List α}{k:Nat}(h:k<l.length):Sh.idx l (k:Int)=some l[k]:=by
 simp[Sh.idx,h]
theorem Gq{α:Type}{l:List α}{i:Int}(h0:0≤i)(h:i<l.length):Sh.idx l i=some (l[i.toNat]'(by omega)):=by
 unfold Sh.idx
 rw[if_pos h0]
 exact List.getElem?_eq_getElem (by omega)
theorem m7{α:Type}{b:Nat}{l m:List α}(h:(l.length+m.length)*b≤140737488355328):Sh.app b l m=some (l++m):=by
 simp[Sh.app,h]
theorem ahl{α:Type}{b m:Nat}{z:α}(h:b*m≤140737488355328)(h2:m≤4611686018427387904):Sh.mk b (m:Int) (m:Int) z=some (List.replicate m z):=by
 have:((b:Int)*(m:Int))≤140737488355328:=by
  rw[←Int.natCast_mul];omega
 unfold Sh.mk
 rw[if_pos ⟨by omega,by omega,this,by omega⟩]
 simp
theorem D2{α:Type}{l:List α}{m k:Nat}(h1:m≤k)(h2:k≤l.length):Sh.sub l (m:Int) (k:Int)=some ((l.drop m).take (k - m)):=by
 unfold Sh.sub
 rw[if_pos ⟨by omega,by omega,by omega⟩]
 simp
theorem vS{α:Type}(l:List α)(k:Nat)(x:α):Sh.set l (k:Int) x=l.set k x:=by simp[Sh.set]
theorem XI{α:Type}{l m:List α}(h:m.length=l.length):Sh.XH l m=some m:=by simp[Sh.XH,h]

theorem count{σ α:Type}{b:σ×Int→Option ((σ×Int)⊕α)}(S:Nat→σ)(m:Nat)(r:α)(hm:m<Sh.x6)(h:∀k,k<m→b (S k,(k:Int))=some (.inl (S (k+1),((k+1:Nat):Int))))(hr:b (S m,(m:Int))=some (.inr r)){s:σ}(hs:s=S 0):
  Sh.loop b (s,0)=some r:=by
 subst hs
 exact Sh.Gz (fun k=>(S k,(k:Int))) m r hm h hr
theorem xO{σ α:Type}(s:σ):Sh.next (α:=α) s=some (.inl s):=rfl
theorem nu{σ α:Type}(x:α):Sh.exit (σ:=σ) (some x)=some (.inr x):=rfl
theorem bD{n:Nat}(h:n<9223372036854775808):n<Sh.x6:=h
theorem bf{k:Nat}(h:k<9223372036854775807):fL ((k:Int)+1)=((k+1:Nat):Int):=by
 rw[sC (by omega) (by omega)];omega
theorem m_{α:Type}(l:List α):Sh.len l=(l.length:Int):=rfl
theorem dec_lt{k n:Nat}:decide ((k:Int)<(n:Int))=decide (k<n):=by
 congr 1;exact propext (by omega)
end Pl
namespace Pl
open Go Go.Av
theorem scan{α:Type}{b:Int→Option (Int⊕α)}(s m:Nat)(p:Nat→Bool)(A B:α)(hsm:s≤m)(hm:m<Sh.x6)(h:∀k,s≤k→k<m→b (k:Int)=if p k then some (.inl ((k+1:Nat):Int)) else some (.inr B))(hr:b (m:Int)=some (.inr A)):
  Sh.loop b (s:Int)=some (if ∀k,k<m→s≤k→p k=true then A else B):=by
 by_cases hall:∀k,k<m→s≤k→p k=true
 ·rw[if_pos hall]
  refine Sh.Gz (fun k=>((s+k:Nat):Int)) (m - s) A (by omega) (fun k hk=> ?_) ?_
  ·rw[h (s+k) (by omega) (by omega),if_pos (hall _ (by omega) (by omega))];rfl
  ·rw[show s+(m - s)=m by omega];exact hr
 ·rw[if_neg hall]
  have hex:∃k,s≤k∧k<m∧p k=false:=by
   apply Classical.byContradiction
   intro hn
   exact hall (fun k h2 h1=>by
    cases hp:p k with
    |true=>rfl
    |false=>exact absurd ⟨k,h1,h2,hp⟩ hn)
  obtain⟨k,hk,hmin⟩:=exists_least _ hex
  refine Sh.Gz (fun q=>((s+q:Nat):Int)) (k - s) B (by omega) (fun q hq=> ?_) ?_
  ·have:p (s+q)=true:=by
    cases hp:p (s+q) with
    |true=>rfl
    |false=>have:=hmin (s+q) ⟨by omega,by omega,hp⟩;omega
   rw[h (s+q) (by omega) (by omega),if_pos this];rfl
  ·rw[show s+(k - s)=k by omega,h k hk.1 hk.2.1,if_neg (by rw[hk.2.2];simp)]
theorem L7{α:Type}{b:Int→Option (Int⊕α)}(m:Nat)(p:Nat→Bool)(A B:α)(hm:m<Sh.x6)(h:∀k,k<m→b (k:Int)=if p k then some (.inl ((k+1:Nat):Int)) else some (.inr B))(hr:b (m:Int)=some (.inr A)):
  Sh.loop b 0=some (if ∀k,k<m→p k=true then A else B):=by
 have:=scan 0 m p A B (by omega) hm (fun k _ hk=>h k hk) hr
 simpa using this
theorem Bh{b:Int→Option (Int⊕Bool)}(m:Nat)(p:Nat→Bool)(hm:m<Sh.x6)(h:∀k,k<m→b (k:Int)=if p k then some (.inl ((k+1:Nat):Int)) else some (.inr false))(hr:b (m:Int)=some (.inr true)):
  Sh.loop b 0=some (decide (∀k,k<m→p k=true)):=by
 rw[L7 m p true false hm h hr]
 by_cases hq:∀k,k<m→p k=true
 ·rw[if_pos hq,decide_eq_true hq]
 ·rw[if_neg hq,decide_eq_false hq]
end Pl
namespace Pl
open Go Go.Av
theorem gB{σ α:Type}{b:σ→Option (σ⊕α)}(S:Nat→σ)(m:Nat)(X:Option α)(hm:m<Sh.x6)(h:∀k,k<m→b (S k)=some (.inl (S (k+1))))(hr:b (S m)=Sh.exit X){s:σ}(hs:s=S 0):Sh.loop b s=X:=by
 subst hs
 unfold Sh.loop
 rw[show Sh.x6=m+((Sh.x6 - m - 1)+1) by omega,Sh.N3 S m h]
 simp only[Sh.iter,hr]
 cases X <;> rfl
theorem cT{σ α:Type}{b:σ×Int→Option ((σ×Int)⊕α)}(S:Nat→σ)(m:Nat)(X:Option α)(hm:m<Sh.x6)(h:∀k,k<m→b (S k,(k:Int))=some (.inl (S (k+1),((k+1:Nat):Int))))(hr:b (S m,(m:Int))=Sh.exit X){s:σ}(hs:s=S 0):
  Sh.loop b (s,0)=X:=gB (fun k=>(S k,(k:Int))) m X hm h hr (by rw[hs];rfl)
end Pl
end

section
/- Loops over lists. -/
namespace Pl
open Go Go.Av

def uV{σ α β:Type}(step:Nat→σ→α→σ⊕β)(X:σ→Option β):Nat→List α→σ→Option β
 |_,[],s=>X s
 |k,x::l,s=>match step k s x with
  |.inl s'=>uV step X (k+1) l s'
  |.inr r=>some r

theorem O6{σ β:Type}{b:σ→Option (σ⊕β)}{n:Nat}{s s':σ}(h:b s=some (.inl s')):Sh.iter b (n+1) s=Sh.iter b n s':=by simp[Sh.iter,h]
theorem O7{σ β:Type}{b:σ→Option (σ⊕β)}{n:Nat}{s:σ}{r:β}(h:b s=some (.inr r)):Sh.iter b (n+1) s=some r:=by simp[Sh.iter,h]
theorem O5{σ β:Type}{b:σ→Option (σ⊕β)}{n:Nat}{s:σ}{X:Option β}(h:b s=Sh.exit X):Sh.iter b (n+1) s=X:=by cases X <;> simp[Sh.iter,h,Sh.exit]

theorem OU{σ τ α β:Type}{b:τ→Option (τ⊕β)}(S:σ→Nat→τ)(step:Nat→σ→α→σ⊕β)(X:σ→Option β)(l0:List α)
  (h:∀(k:Nat) (s:σ) (hk:k<l0.length),b (S s k)=match step k s l0[k] with|.inl s'=>some (.inl (S s' (k+1)))|.inr r=>some (.inr r))
  (he:∀s,b (S s l0.length)=Sh.exit (X s)):∀(l:List α) (k n:Nat) (s:σ),l0.drop k=l→k≤l0.length→l.length<n→Sh.iter b n (S s k)=uV step X k l s:=by
 intro l
 induction l with
 |nil=>
  intro k n s hl hk hn
  have G9:k=l0.length:=by
   have:(l0.drop k).length=0:=by rw[hl];rfl
   simp at this;omega
  subst G9
  obtain⟨n,rfl⟩:∃m,n=m+1:=⟨n - 1,by simp at hn;omega⟩
  exact O5 (he s)
 |cons x l ih=>
  intro k n s hl hk hn
  have hlen:(l0.drop k).length=l.length+1:=by rw[hl];rfl
  have G9:k<l0.length:=by simp at hlen;omega
  obtain⟨n,rfl⟩:∃m,n=m+1:=⟨n - 1,by simp at hn;omega⟩
  have hx:l0[k]=x∧l0.drop (k+1)=l:=by
   rw[List.drop_eq_getElem_cons G9] at hl
   simp only[List.cons.injEq] at hl
   exact hl
  have hb:=h k s G9
  rw[hx.1] at hb
  simp only[uV]
  cases hs:step k s x with
  |inl s'=>
   rw[hs] at hb
   rw[O6 hb]
   exact ih (k+1) n s' hx.2 G9 (by simp at hn;omega)
  |inr r=>
   rw[hs] at hb
   exact O7 hb

theorem Ba{σ τ α β:Type}{b:τ→Option (τ⊕β)}(S:σ→Nat→τ)(step:Nat→σ→α→σ⊕β)(X:σ→Option β)(l:List α)(hm:l.length<Sh.x6)
  (h:∀(k:Nat) (s:σ) (hk:k<l.length),b (S s k)=match step k s l[k] with|.inl s'=>some (.inl (S s' (k+1)))|.inr r=>some (.inr r))
  (he:∀s,b (S s l.length)=Sh.exit (X s))(s:σ){t:τ}(ht:t=S s 0):Sh.loop b t=uV step X 0 l s:=by
 subst ht
 exact OU S step X l h he l 0 Sh.x6 s rfl (Nat.zero_le _) hm

theorem qY{α β:Type}{b:Int→Option (Int⊕β)}(l:List α)(p:α→Bool)(A:Nat→β)(X:Option β)(hm:l.length<Sh.x6)
  (h:∀(k:Nat) (hk:k<l.length),b (k:Int)=if p l[k] then some (.inr (A k)) else some (.inl ((k+1:Nat):Int)))
  (he:b (l.length:Int)=Sh.exit X):Sh.loop b 0=(l.findIdx? p).elim X (fun k=>some (A k)):=by
 rw[Ba (σ:=Unit) (α:=α) (fun _ k=>(k:Int)) (fun k _ x=>if p x then .inr (A k) else .inl ()) (fun _=>X) l hm (fun k s hk=> ?_) (fun _=>he) () (t:=(0:Int)) rfl]
 ·have key:∀(l:List α) (k:Nat),uV (fun k (_:Unit) x=>if p x then Sum.inr (A k) else Sum.inl ()) (fun _=>X) k l ()=(l.findIdx? p).elim X (fun i=>some (A (k+i))):=by
   intro l
   induction l with
   |nil=>intro k;simp[uV]
   |cons x l ih=>
    intro k
    simp only[uV,List.findIdx?_cons]
    cases hp:p x with
    |true=>simp
    |false=>
     simp only[Bool.false_eq_true,if_false]
     rw[ih (k+1)]
     cases l.findIdx? p with
     |none=>rfl
     |some i=>simp only[Option.map_some,Option.elim_some];congr 2;omega
  rw[key l 0]
  simp
 ·rw[h k hk]
  cases p l[k] <;> rfl

theorem qv{α β:Type}{b:Int→Option (Int⊕β)}(l:List α)(p:α→Bool)(A:β)(X:Option β)(hm:l.length<Sh.x6)
  (h:∀(k:Nat) (hk:k<l.length),b (k:Int)=if p l[k] then some (.inr A) else some (.inl ((k+1:Nat):Int)))
  (he:b (l.length:Int)=Sh.exit X):Sh.loop b 0=if l.any p then some A else X:=by
 rw[qY l p (fun _=>A) X hm h he]
 cases hf:l.findIdx? p with
 |none=>
  have:l.any p=false:=by
   rw[List.findIdx?_eq_none_iff] at hf
   rw[List.any_eq_false]
   intro x hx
   simpa using hf x hx
  rw[this];rfl
 |some i=>
  have:l.any p=true:=by
   rw[List.any_eq_true]
   rw[List.findIdx?_eq_some_iff_getElem] at hf
   obtain⟨hi,hp,_⟩:=hf
   exact⟨l[i],List.getElem_mem hi,hp⟩
  rw[this];rfl

def pos{α:Type}(l:List α)(p:α→Bool):Int:=(l.findIdx? p).elim (-1) (fun k=>(k:Int))
theorem vO{α:Type}(l:List α)(p:α→Bool):(l.findIdx? p).elim (some (-1:Int)) (fun k=>some (k:Int))=some (pos l p):=by unfold pos;cases l.findIdx? p <;> rfl
theorem kQ{α:Type}(l:List α)(p:α→Bool):decide ((0:Int)≤pos l p)=l.any p:=by
 unfold pos
 cases hf:l.findIdx? p with
 |none=>
  have:l.any p=false:=by
   rw[List.findIdx?_eq_none_iff] at hf
   rw[List.any_eq_false]
   intro x hx
   simpa using hf x hx
  rw[this];rfl
 |some i=>
  have:l.any p=true:=by
   rw[List.any_eq_true]
   rw[List.findIdx?_eq_some_iff_getElem] at hf
   obtain⟨hi,hp,_⟩:=hf
   exact⟨l[i],List.getElem_mem hi,hp⟩
  rw[this];simp
end Pl
end

section
/- Whether a history may be. -/
namespace Pl
open Go Go.Av

theorem ali{l:List Int}(hl:l.length<9223372036854775808)(v:Int):G.jk l v=some (pos l (fun x=>decide (v=x))):=by
 unfold G.jk
 rw[qY l (fun x=>decide (v=x)) (fun k=>(k:Int)) (some (-1)) (bD hl) (fun k hk=> ?_) ?_,vO]
 ·simp[G.f_,G.jl]
 ·simp only[G.f_,dec_lt,hk,decide_true,if_true,cI hk,Option.bind_some,bf (show k<9223372036854775807 by omega)]
  rfl
theorem Pd{l:List Int}(hl:l.length<9223372036854775808)(v:Int):G.cM l v=some (l.any (fun x=>decide (v=x))):=by
 unfold G.cM
 rw[ali hl,Option.bind_some,kQ]

def rising:Int→List Int→Bool
 |_,[]=>true
 |last,x::l=>decide (last<x)&&decide (x<16)&&rising x l
def n4(t:G.ai)(k:Int):Bool:=t.br.any (fun x=>decide (k=x))
def there(h:G.ah)(n:Int)(x:G.aC):Bool:=
 decide (x.bH= -1)||(decide (0≤x.bH)&&decide (x.bH<(h.au.length:Int))&&decide (x.bH≠n)&&match h.au[x.bH.toNat]? with|some t=>n4 t x.Key|none=>false)
def nX(h:G.ah)(n:Int):Int→List G.aC→Bool
 |_,[]=>true
 |last,x::l=>decide (last<x.Key)&&decide (x.Key<16)&&there h n x&&nX h n x.Key l
def Ee(h:G.ah)(n:Int)(t:G.ai):Bool:=rising (-1) t.br&&nX h n (-1) t.Reads&&decide (0≤t.bt)&&decide (t.bt<8)
def rS(h:G.ah):Nat→List G.ai→Bool
 |_,[]=>true
 |n,t::l=>Ee h n t&&rS h (n+1) l
def right(h:G.ah):Bool:=decide (h.au.length≤32)&&rS h 0 h.au

structure Fits (h:G.ah):Prop where
 VL:h.au.length<9223372036854775807
 writes:∀t∈h.au,t.br.length<9223372036854775807
 reads:∀t∈h.au,t.Reads.length<9223372036854775807

theorem y1(c y:Bool):G.ir c y=some (if y then(c,true) else(false,false)):=by cases y <;> rfl

theorem Zh{h:G.ah}(hf:Fits h)(n:Int)(x:G.aC){α:Type}(K:Bool→Option α):
  (if decide (x.bH=(-1)) then K true else if decide ((0:Int)≤x.bH) then if decide (x.bH<(Sh.len h.au)) then if decide (x.bH≠n) then(Sh.idx h.au x.bH).bind fun T6=>(G.cM T6.br x.Key).bind fun Pu=>K Pu else K false else K false else K false)=K (there h n x):=by
 unfold there
 by_cases h1:x.bH= -1
 ·simp[h1]
 ·by_cases h2:0≤x.bH
  ·by_cases h3:x.bH<(h.au.length:Int)
   ·by_cases h4:x.bH=n
    ·subst h4;simp[h1,h2,h3]
    ·have h5:h.au[x.bH.toNat]? =some (h.au[x.bH.toNat]'(by omega)):=List.getElem?_eq_getElem (by omega)
     rw[Gq h2 h3,h5]
     have:=hf.writes _ (List.getElem_mem (show x.bH.toNat<h.au.length by omega))
     have h6:=Pd (l:=(h.au[x.bH.toNat]'(by omega)).br) (by omega) x.Key
     simp[h1,h2,h3,h4,h6,n4]
   ·simp[h1,h2,h3]
  ·simp[h1,h2]

theorem Zg{h:G.ah}(hf:Fits h)(n:Int)(t:G.ai)(ht:t∈h.au)(c:Bool):G.cE h n t c=if nX h n (-1) t.Reads then G.cF n t c else some (.inr (false,false)):=by
 unfold G.cE
 have hl:=hf.reads t ht
 rw[Ba (σ:=Bool×Int) (fun s k=>(s.1,s.2,(k:Int))) (fun _ s x=>if decide (s.2<x.Key)&&decide (x.Key<16)&&there h n x then .inl (s.1,x.Key) else .inr (.inr (false,false))) (fun s=>G.cF n t s.1) t.Reads (bD (by omega)) (fun k s hk=> ?_) (fun s=> ?_) (c, -1) (t:=(c,(-1:Int),(0:Int))) rfl]
 ·have key:∀(l:List G.aC) (k:Nat) (last:Int),uV (fun _ (s:Bool×Int) (x:G.aC)=>if decide (s.2<x.Key)&&decide (x.Key<16)&&there h n x then Sum.inl (s.1,x.Key) else Sum.inr (.inr (false,false))) (fun s=>G.cF n t s.1) k l (c,last)=if nX h n last l then G.cF n t c else some (.inr (false,false)):=by
   intro l
   induction l with
   |nil=>intro k last;simp[uV,nX]
   |cons x l ih=>
    intro k last
    simp only[uV]
    rw[show nX h n last (x::l)=(decide (last<x.Key)&&decide (x.Key<16)&&there h n x&&nX h n x.Key l) from rfl]
    by_cases hq:(decide (last<x.Key)&&decide (x.Key<16)&&there h n x)=true
    ·rw[if_pos hq,hq,Bool.true_and];exact ih (k+1) x.Key
    ·rw[if_neg hq,Bool.eq_false_iff.2 hq];simp
  exact key t.Reads 0 (-1)
 ·obtain⟨c,last⟩:=s
  simp only[G.dJ,dec_lt,hk,decide_true,if_true,cI hk,Option.bind_some]
  rw[Zh hf n t.Reads[k] (fun b=>G.cj c last k t.Reads[k] b)]
  simp only[G.cj,y1,G.de,bf (show k<9223372036854775807 by omega),Option.bind_some]
  by_cases h1:last<t.Reads[k].Key
  ·by_cases h2:t.Reads[k].Key<16
   ·cases h3:there h n t.Reads[k] <;> simp[h1,h2,Sh.exit,Sh.next]
   ·simp[h1,h2,Sh.exit]
  ·simp[h1,Sh.exit]
 ·simp[G.dJ]

theorem U_{h:G.ah}(hf:Fits h)(n:Nat)(hn:n<9223372036854775807)(t:G.ai)(ht:t∈h.au)(c:Bool):
  Sh.loop (fun(p:Bool×Int×Int)=>G.dc h n t p.1 p.2.1 p.2.2) (c,(-1),0)=if Ee h n t then some (.inl (c,((n+1:Nat):Int))) else some (.inr (false,false)):=by
 have hl:=hf.writes t ht
 rw[Ba (σ:=Bool×Int) (fun s k=>(s.1,s.2,(k:Int))) (fun _ s x=>if decide (s.2<x)&&decide (x<16) then .inl (s.1,x) else .inr (.inr (false,false))) (fun s=>G.cE h n t s.1) t.br (bD (by omega)) (fun k s hk=> ?_) (fun s=> ?_) (c, -1) (t:=(c,(-1:Int),(0:Int))) rfl]
 ·have key:∀(l:List Int) (k:Nat) (last:Int),uV (fun _ (s:Bool×Int) (x:Int)=>if decide (s.2<x)&&decide (x<16) then Sum.inl (s.1,x) else Sum.inr (.inr (false,false))) (fun s=>G.cE h n t s.1) k l (c,last)=if rising last l then G.cE h n t c else some (.inr (false,false)):=by
   intro l
   induction l with
   |nil=>intro k last;simp[uV,rising]
   |cons x l ih=>
    intro k last
    simp only[uV]
    rw[show rising last (x::l)=(decide (last<x)&&decide (x<16)&&rising x l) from rfl]
    by_cases hq:(decide (last<x)&&decide (x<16))=true
    ·rw[if_pos hq,hq,Bool.true_and];exact ih (k+1) x
    ·rw[if_neg hq,Bool.eq_false_iff.2 hq];simp
  rw[key t.br 0 (-1),Zg hf n t ht]
  unfold Ee
  cases h1:rising (-1) t.br
  ·simp
  ·cases h2:nX h n (-1) t.Reads
   ·simp
   ·simp only[G.cF,y1,G.dK,bf hn,Option.bind_some]
    by_cases h3:0≤t.bt
    ·by_cases h4:t.bt<8 <;> simp[h3,h4,Sh.exit,Sh.next]
    ·simp[h3,Sh.exit]
 ·obtain⟨c,last⟩:=s
  simp only[G.dc,dec_lt,hk,decide_true,if_true,cI hk,Option.bind_some,y1,G.dM,bf (show k<9223372036854775807 by omega)]
  by_cases h1:last<t.br[k]
  ·by_cases h2:t.br[k]<16 <;> simp[h1,h2,Sh.exit,Sh.next]
  ·simp[h1,Sh.exit]
 ·simp[G.dc]

theorem xd{h:G.ah}(hf:Fits h):G.iD h=some (right h):=by
 have hl:=hf.VL
 have hloop:∀c,Sh.loop (fun(p:Bool×Int)=>G.c_ h p.1 p.2) (c,0)=if rS h 0 h.au then some (c,true) else some (false,false):=by
  intro c
  rw[Ba (σ:=Bool) (fun s k=>(s,(k:Int))) (fun k s x=>if Ee h k x then .inl s else .inr (false,false)) (fun s=>some (s,true)) h.au (bD (by omega)) (fun k s hk=> ?_) (fun s=> ?_) c (t:=(c,(0:Int))) rfl]
  ·have key:∀(l:List G.ai) (k:Nat),uV (fun k (s:Bool) (x:G.ai)=>if Ee h (k:Nat) x then Sum.inl s else Sum.inr (false,false)) (fun s=>some (s,true)) k l c=if rS h k l then some (c,true) else some (false,false):=by
    intro l
    induction l with
    |nil=>intro k;simp[uV,rS]
    |cons x l ih=>
     intro k
     simp only[uV]
     rw[show rS h k (x::l)=(Ee h (k:Nat) x&&rS h (k+1) l) from rfl]
     by_cases hq:Ee h (k:Nat) x=true
     ·rw[if_pos hq,hq,Bool.true_and];exact ih (k+1)
     ·rw[if_neg hq,Bool.eq_false_iff.2 hq];simp
   exact key h.au 0
  ·simp only[G.c_,dec_lt,hk,decide_true,if_true,cI hk,Option.bind_some]
   rw[U_ hf k (by omega) _ (List.getElem_mem hk)]
   cases Ee h k h.au[k] <;> rfl
  ·simp[G.c_]
 unfold G.iD G.wC G.iy right
 simp only[Option.bind_some,y1,m_]
 by_cases h1:h.au.length≤32
 ·have h2:((h.au.length:Int)≤32):=by omega
  simp only[h1,h2,decide_true,if_true,hloop,Bool.true_and]
  cases rS h 0 h.au <;> simp
 ·have h2:¬((h.au.length:Int)≤32):=by omega
  simp[h1,h2]

theorem C4{t:G.ai}(hl:t.br.length<9223372036854775807)(k:Int):G.eg t k=some (n4 t k):=by
 unfold G.eg n4
 rw[qv t.br (fun x=>decide (k=x)) true (some false) (bD (by omega)) (fun i hi=> ?_) ?_]
 ·cases t.br.any (fun x=>decide (k=x)) <;> rfl
 ·simp[G.gG,G.jI]
 ·simp only[G.gG,dec_lt,hi,decide_true,if_true,cI hi,Option.bind_some,bf (show i<9223372036854775807 by omega),Sh.exit,Sh.next,Option.map_some]
  by_cases h1:t.br[i]=k
  ·simp[h1]
  ·have:¬k=t.br[i]:=fun h=>h1 h.symm
   simp[h1,this]
end Pl
end

section
/- Edges, one by one: what the program and the reference answer. -/
namespace Pl
open Go Go.Av

def tx(h:G.ah)(x:Int):G.ai:=(h.au[x.toNat]?).getD default
def inr(h:G.ah)(x:Int):Bool:=decide (0≤x)&&decide (x<(h.au.length:Int))
theorem kD{h:G.ah}{x:Int}:inr h x=true↔0≤x∧x<(h.au.length:Int):=by simp[inr]
theorem pN{h:G.ah}{x:Int}(hx:inr h x=true):Sh.idx h.au x=some (tx h x):=by
 rw[kD] at hx
 rw[Gq hx.1 hx.2]
 simp[tx,List.getElem?_eq_getElem (show x.toNat<h.au.length by omega)]
theorem sB{h:G.ah}{x:Int}(hx:inr h x=true):tx h x∈h.au:=by
 rw[kD] at hx
 simp only[tx,List.getElem?_eq_getElem (show x.toNat<h.au.length by omega),Option.getD_some]
 exact List.getElem_mem _

def Ub(h:G.ah)(x y:Int)(c:G.aa):Bool:=decide (c.A=x)&&decide (c.B=y)&&decide (x≠y)&&n4 (tx h x) c.Key&&n4 (tx h y) c.Key
def XL(h:G.ah)(l:List G.aa)(x y:Int):Bool:=
 (decide (x<y)&&decide ((tx h x).bt=(tx h y).bt))||(tx h y).Reads.any (fun r=>decide (r.bH=x))||l.any (Ub h x y)
def Y3(h:G.ah)(l:List G.aa)(y:Int)(r:G.aC):Bool:=
 n4 (tx h y) r.Key&&(decide (r.bH<0)||(decide (r.bH≠y)&&l.any (fun c=>decide (G.aa.mk r.Key r.bH y=c))))
def Qi(h:G.ah)(l:List G.aa)(x y:Int):Bool:=decide (x≠y)&&(tx h x).Reads.any (Y3 h l y)
def two(h:G.ah)(x y:Int):Bool:=right h&&inr h x&&inr h y
def direct(h:G.ah)(l:List G.aa)(x y:Int):Bool:=two h x y&&XL h l x y
def Bk(h:G.ah)(l:List G.aa)(x y:Int):Bool:=two h x y&&Qi h l x y
def Bl(h:G.ah)(lev:Int)(l:List G.aa)(x y:Int):Bool:=
 if lev=0 then direct h l x y||Bk h l x y
 else if lev=1 then(List.range h.au.length).any (fun m=>direct h l x m&&(decide ((m:Int)=y)||Bk h l m y))
 else false
def ring(h:G.ah)(lev:Int)(l:List G.aa)(row:List Int):Bool:=
 decide (0<row.length)&&(List.range row.length).all (fun i=> !((row.take i).any (fun x=>decide (row.getD i 0=x)))&&Bl h lev l (row.getD i 0) (row.getD ((i+1) % row.length) 0))

theorem AN{h:G.ah}(hr:right h=true){t:G.ai}(ht:t∈h.au):∃n:Int,nX h n (-1) t.Reads=true:=by
 simp only[right,Bool.and_eq_true] at hr
 have key:∀(l:List G.ai) (n:Nat),rS h n l=true→∀t∈l,∃n:Int,Ee h n t=true:=by
  intro l
  induction l with
  |nil=>intro n _ t ht;cases ht
  |cons x l ih=>
   intro n hn t ht
   rw[show rS h n (x::l)=(Ee h (n:Nat) x&&rS h (n+1) l) from rfl,Bool.and_eq_true] at hn
   rcases List.mem_cons.1 ht with rfl|ht
   ·exact⟨_,hn.1⟩
   ·exact ih _ hn.2 t ht
 obtain⟨n,hn⟩:=key _ 0 hr.2 t ht
 simp only[Ee,Bool.and_eq_true] at hn
 exact⟨n,hn.1.1.2⟩
theorem wM{h:G.ah}{n:Int}:∀{l:List G.aC} {last:Int},nX h n last l=true→∀r∈l,there h n r=true
 |[],_,_,r,hr=>by cases hr
 |x::l,last,ht,r,hr=>by
  rw[show nX h n last (x::l)=(decide (last<x.Key)&&decide (x.Key<16)&&there h n x&&nX h n x.Key l) from rfl] at ht
  simp only[Bool.and_eq_true] at ht
  rcases List.mem_cons.1 hr with rfl|hr
  ·exact ht.1.2
  ·exact wM ht.2 r hr
theorem QX{h:G.ah}(hr:right h=true){t:G.ai}(ht:t∈h.au){r:G.aC}(hm:r∈t.Reads):r.bH<0↔r.bH= -1:=by
 obtain⟨n,hn⟩:=AN hr ht
 have:=wM hn r hm
 simp only[there,Bool.or_eq_true,Bool.and_eq_true,decide_eq_true_eq] at this
 rcases this with h1|h1
 ·omega
 ·have:=h1.1.1.1;omega

theorem DY{h:G.ah}(hf:Fits h){x:Int}(hx:inr h x=true)(k:Int):G.pn h x k=some (n4 (tx h x) k):=by
 unfold G.pn
 have:=hf.writes _ (sB hx)
 rw[pN hx]
 simp only[Option.bind_some]
 rw[Pd (by omega)]
 rfl
theorem ahD{h:G.ah}(hf:Fits h){x y:Int}(hy:inr h y=true)(u:G.bK):G.qW u h x y=some ((tx h y).Reads.any (fun r=>decide (r.bH=x))):=by
 have hl:=hf.reads _ (sB hy)
 unfold G.qW
 rw[pN hy]
 simp only[Option.bind_some]
 unfold G.cu G.cH
 rw[qY (tx h y).Reads (fun r=>decide (r.bH=x)) (fun k=>(k:Int)) (some (-1)) (bD (by omega)) (fun k hk=> ?_) ?_,vO,Option.bind_some,kQ]
 ·rfl
 ·simp[G.bW,G.cw]
 ·simp only[G.bW,dec_lt,hk,decide_true,if_true,cI hk,Option.bind_some,G.oC,bf (show k<9223372036854775807 by omega)]
  rfl
theorem Tg{h:G.ah}(hf:Fits h){x y:Int}(hx:inr h x=true)(hy:inr h y=true){l:List G.aa}(hl:l.length<9223372036854775807):G.oc l h x y=some (l.any (Ub h x y)):=by
 have h1:∀c,G.iJ c x y h=some (Ub h x y c):=fun c=>by
  unfold G.iJ Ub
  by_cases a:c.A=x <;> by_cases b:c.B=y <;> by_cases d:x=y <;> simp[a,b,d,DY hf hx,DY hf hy]
  cases n4 (tx h x) c.Key <;> simp
 unfold G.oc G.bT G.bZ
 rw[qY l (Ub h x y) (fun k=>(k:Int)) (some (-1)) (bD (by omega)) (fun k hk=> ?_) ?_,vO,Option.bind_some,kQ]
 ·rfl
 ·simp[G.bM,G.bU]
 ·simp only[G.bM,dec_lt,hk,decide_true,if_true,cI hk,Option.bind_some,h1,bf (show k<9223372036854775807 by omega)]
  rfl
theorem ahv{l:List G.aa}(hl:l.length<9223372036854775807)(v:G.aa):G.c6 l v=some (l.any (fun c=>decide (v=c))):=by
 unfold G.c6 G.eo
 rw[qY l (fun c=>decide (v=c)) (fun k=>(k:Int)) (some (-1)) (bD (by omega)) (fun k hk=> ?_) ?_,vO,Option.bind_some,kQ]
 ·simp[G.c7,G.dI]
 ·simp only[G.c7,dec_lt,hk,decide_true,if_true,cI hk,Option.bind_some,bf (show k<9223372036854775807 by omega)]
  rfl
theorem ahB{h:G.ah}(hf:Fits h){x y:Int}(hx:inr h x=true)(hy:inr h y=true){l:List G.aa}(hl:l.length<9223372036854775807):G.qV l h x y=some (Qi h l x y):=by
 have hr:=hf.reads _ (sB hx)
 have h1:∀r,G.mB r h y l=some (Y3 h l y r):=fun r=>by
  unfold G.mB Y3
  rw[DY hf hy]
  simp only[Option.bind_some,ahv hl]
  cases n4 (tx h y) r.Key
  ·rfl
  ·by_cases a:r.bH<0
   ·simp[a]
   ·by_cases b:r.bH=y
    ·have a':¬y<0:=b▸a
     simp[b,a']
    ·simp[a,b]
 unfold G.qV Qi
 by_cases hxy:x=y
 ·simp[hxy]
 ·rw[pN hx]
  simp only[ne_eq,hxy,not_false_eq_true,decide_true,if_true,Option.bind_some,Bool.true_and]
  unfold G.ct G.cG
  rw[qY (tx h x).Reads (Y3 h l y) (fun k=>(k:Int)) (some (-1)) (bD (by omega)) (fun k hk=> ?_) ?_,vO,Option.bind_some,kQ]
  ·rfl
  ·simp[G.bV,G.cv]
  ·simp only[G.bV,dec_lt,hk,decide_true,if_true,cI hk,Option.bind_some,h1,bf (show k<9223372036854775807 by omega)]
   rfl
theorem Td{h:G.ah}{x y:Int}(hx:inr h x=true)(hy:inr h y=true)(u:G.bn):G.oa u h x y=some (decide (x<y)&&decide ((tx h x).bt=(tx h y).bt)):=by
 unfold G.oa
 rw[pN hx,pN hy]
 by_cases h1:x<y <;> simp[h1]

theorem JH{h:G.ah}{x y:Int}:(decide (Sh.min x y<0)=false∧decide (Sh.len h.au≤Sh.max x y)=false)↔(inr h x=true∧inr h y=true):=by
 rw[decide_eq_false_iff_not,decide_eq_false_iff_not,kD,kD]
 unfold Sh.min Sh.max Sh.len
 split <;> split <;> omega

theorem E4{h:G.ah}(hf:Fits h){l:List G.aa}(hl:l.length<9223372036854775807)(x y:Int):G.oB h l x y=some (direct h l x y):=by
 unfold G.oB G.pV direct two
 rw[xd hf]
 simp only[Option.bind_some,G.iC]
 cases hr:right h
 ·simp
 ·by_cases hin:inr h x=true∧inr h y=true
  ·obtain⟨m1,m2⟩:=(JH (h:=h)).2 hin
   obtain⟨hx,hy⟩:=hin
   simp only[m1,m2,hx,hy,Bool.not_true,Bool.false_eq_true,if_false,Bool.and_self,Bool.true_and]
   unfold G.b8 G.cn G.gO G.jG G.gP
   rw[Td hx hy,ahD hf hy,Tg hf hx hy hl]
   simp only[Option.bind_some,G.cc,XL]
   cases decide (x<y)&&decide ((tx h x).bt=(tx h y).bt)
   ·cases(tx h y).Reads.any (fun r=>decide (r.bH=x))
    ·cases l.any (Ub h x y) <;> simp
    ·simp
   ·simp
  ·have hm:¬(decide (Sh.min x y<0)=false∧decide (Sh.len h.au≤Sh.max x y)=false):=fun hm=>hin ((JH (h:=h)).1 hm)
   have hz:(inr h x&&inr h y)=false:=by
    cases a:inr h x <;> cases b:inr h y <;> simp_all
   rw[Bool.true_and,hz]
   simp only[Bool.not_true,Bool.false_eq_true,if_false,Bool.false_and]
   cases m1:decide (Sh.min x y<0)
   ·cases m2:decide (Sh.len h.au≤Sh.max x y)
    ·exact absurd ⟨m1,m2⟩ hm
    ·simp
   ·simp
theorem Xg{h:G.ah}(hf:Fits h){l:List G.aa}(hl:l.length<9223372036854775807)(x y:Int):G.tE h l x y=some (Bk h l x y):=by
 unfold G.tE G.pU Bk two
 rw[xd hf]
 simp only[Option.bind_some,G.iB]
 cases hr:right h
 ·simp
 ·by_cases hin:inr h x=true∧inr h y=true
  ·obtain⟨m1,m2⟩:=(JH (h:=h)).2 hin
   obtain⟨hx,hy⟩:=hin
   simp only[m1,m2,hx,hy,Bool.not_true,Bool.false_eq_true,if_false,Bool.and_self,Bool.true_and]
   unfold G.b7 G.cm G.jF
   rw[ahB hf hx hy hl]
   simp only[Option.bind_some,G.b_]
   cases Qi h l x y <;> simp
  ·have hm:¬(decide (Sh.min x y<0)=false∧decide (Sh.len h.au≤Sh.max x y)=false):=fun hm=>hin ((JH (h:=h)).1 hm)
   have hz:(inr h x&&inr h y)=false:=by
    cases a:inr h x <;> cases b:inr h y <;> simp_all
   rw[Bool.true_and,hz]
   simp only[Bool.not_true,Bool.false_eq_true,if_false,Bool.false_and]
   cases m1:decide (Sh.min x y<0)
   ·cases m2:decide (Sh.len h.au≤Sh.max x y)
    ·exact absurd ⟨m1,m2⟩ hm
    ·simp
   ·simp
theorem pIs{h:G.ah}(hf:Fits h){l:List G.aa}(hl:l.length<9223372036854775807)(lev x y:Int):G.A5 h lev l x y=some (Bl h lev l x y):=by
 unfold G.A5 Bl
 rw[E4 hf hl,Xg hf hl]
 simp only[Option.bind_some]
 by_cases h0:lev=0
 ·subst h0
  simp only[decide_true,if_true]
  cases direct h l x y <;> simp
 ·by_cases h1:lev=1
  ·subst h1
   simp only[h0,decide_false,Bool.false_eq_true,if_false,decide_true,if_true]
   have hrl:(List.range h.au.length).length=h.au.length:=by simp
   have ht:=hf.VL
   rw[qv (List.range h.au.length) (fun m=>direct h l x m&&(decide ((m:Int)=y)||Bk h l m y)) true (some false) (bD (by omega)) (fun k hk=> ?_) ?_]
   ·cases(List.range h.au.length).any (fun m=>direct h l x m&&(decide ((m:Int)=y)||Bk h l m y)) <;> rfl
   ·simp[G.tG,G.r_,dec_lt]
   ·rw[hrl] at hk
    simp only[G.tG,dec_lt,hk,decide_true,if_true,E4 hf hl,Xg hf hl,Option.bind_some,G.sg,bf (show k<9223372036854775807 by omega),List.getElem_range]
    cases direct h l x k
    ·rfl
    ·by_cases hy:(k:Int)=y
     ·simp[hy,Sh.exit]
     ·cases Bk h l k y <;> simp[hy,Sh.exit,Sh.next]
  ·simp[h0,h1,G.r_]
end Pl
end

section
/- Rings of edges, and what the reference answers of edges. -/
namespace Pl
open Go Go.Av

def yJ(h:G.ah)(lev:Int)(l:List G.aa)(row:List Int)(i:Nat):Bool:=
 !((row.take i).any (fun x=>decide (row.getD i 0=x)))&&Bl h lev l (row.getD i 0) (row.getD ((i+1) % row.length) 0)
theorem Og(h:G.ah)(lev:Int)(l:List G.aa)(row:List Int):
  ring h lev l row=if ∀k,k<row.length→yJ h lev l row k=true then decide (0<row.length) else false:=by
 unfold ring
 by_cases hq:∀k,k<row.length→yJ h lev l row k=true
 ·rw[if_pos hq]
  have:(List.range row.length).all (yJ h lev l row)=true:=List.all_eq_true.2 fun k hk=>hq k (List.mem_range.1 hk)
  rw[show(List.range row.length).all (fun i=> !((row.take i).any (fun x=>decide (row.getD i 0=x)))&&Bl h lev l (row.getD i 0) (row.getD ((i+1) % row.length) 0))=true from this,Bool.and_true]
 ·rw[if_neg hq]
  have:(List.range row.length).all (yJ h lev l row)=false:=by
   cases hc:(List.range row.length).all (yJ h lev l row) with
   |false=>rfl
   |true=>exact absurd (fun k hk=>List.all_eq_true.1 hc k (List.mem_range.2 hk)) hq
  rw[show(List.range row.length).all (fun i=> !((row.take i).any (fun x=>decide (row.getD i 0=x)))&&Bl h lev l (row.getD i 0) (row.getD ((i+1) % row.length) 0))=false from this,Bool.and_false]
theorem EV{l:List Int}{k:Nat}(h:k<l.length):l.getD k 0=l[k]:=by simp[List.getD,List.getElem?_eq_getElem h]
theorem TA{a b:Nat}(hb:0<b)(ha:a<9223372036854775808)(T_:b<9223372036854775808):Sh.rem (a:Int) (b:Int)=some ((a % b:Nat):Int):=by
 unfold Sh.rem
 have:(b:Int)≠0:=by omega
 simp only[this,ne_eq,not_false_eq_true,if_true]
 rw[Int.tmod_eq_emod_of_nonneg (by omega)]
 rfl
theorem Zc{h:G.ah}(hf:Fits h){l:List G.aa}(hl:l.length<9223372036854775807)(lev:Int){row:List Int}(hw:row.length<9223372036854775808):
  G.tF h lev l row=some (ring h lev l row):=by
 unfold G.tF
 rw[Og]
 refine L7 row.length (yJ h lev l row) (decide (0<row.length)) false (bD (by omega)) (fun k hk=> ?_) ?_
 ·have hm:(k+1) % row.length<row.length:=Nat.mod_lt _ (by omega)
  simp only[G.p_,dec_lt,hk,decide_true,if_true,cI hk,Option.bind_some,m_]
  rw[show Sh.sub row 0 (k:Int)=some (row.take k) by simpa using D2 (l:=row) (m:=0) (k:=k) (by omega) (by omega)]
  rw[Option.bind_some,Pd (by simp;omega),Option.bind_some]
  unfold yJ
  rw[EV hk,EV hm]
  cases hc:(row.take k).any (fun x=>decide (row[k]=x)) with
  |true=>simp[G.oK,Sh.exit]
  |false=>
   rw[if_neg (by simp),bf (by omega),TA (by omega) (by omega) (by omega)]
   simp only[Option.bind_some,cI hm,pIs hf hl,G.oK,bf (show k<9223372036854775807 by omega)]
   cases Bl h lev l row[k] row[(k+1) % row.length] <;> simp[Sh.exit,Sh.next]
 ·simp[G.p_,G.rM,Sh.exit,m_]

theorem rIn{l:List G.aa}(hl:l.length<9223372036854775807)(v:G.aa):G.oq l v=some (l.any (fun c=>decide (v=c))):=by
 unfold G.oq
 rw[qv l (fun c=>decide (v=c)) true (some false) (bD (by omega)) (fun i hi=> ?_) ?_]
 ·cases l.any (fun c=>decide (v=c)) <;> rfl
 ·simp[G.k9,G.nS]
 ·simp only[G.k9,dec_lt,hi,decide_true,if_true,cI hi,Option.bind_some,bf (show i<9223372036854775807 by omega),Sh.exit,Sh.next,Option.map_some]
  by_cases h1:l[i]=v
  ·simp[h1]
  ·have:¬v=l[i]:=fun h=>h1 h.symm
   simp[h1,this]
theorem ahL{h:G.ah}(hf:Fits h)(c:G.aa):G.jb h c=some (decide (c.A≠c.B)&&inr h c.A&&inr h c.B&&n4 (tx h c.A) c.Key&&n4 (tx h c.B) c.Key):=by
 unfold G.jb
 by_cases h0:c.A=c.B
 ·simp[h0,G.cX]
 by_cases hA:inr h c.A=true
 ·obtain⟨a1,a2⟩:=kD.1 hA
  by_cases hB:inr h c.B=true
  ·obtain⟨b1,b2⟩:=kD.1 hB
   rw[if_neg (by simpa using h0),if_neg (by simp;omega),if_neg (by simp[Sh.len];omega),if_neg (by simp;omega)]
   unfold G.cX
   rw[if_neg (by simp[Sh.len];omega),pN hA,pN hB]
   simp only[Option.bind_some,C4 (hf.writes _ (sB hA)),C4 (hf.writes _ (sB hB))]
   rw[hA,hB]
   cases n4 (tx h c.A) c.Key <;> simp[h0]
  ·have:¬(0≤c.B∧c.B<(h.au.length:Int)):=fun h1=>hB (kD.2 h1)
   rw[if_neg (by simpa using h0),if_neg (by simp;omega),if_neg (by simp[Sh.len];omega)]
   simp only[Bool.not_eq_true] at hB
   by_cases b1:c.B<0
   ·rw[if_pos (by simpa using b1)]
    simp[G.cX,hB]
   ·rw[if_neg (by simpa using b1)]
    unfold G.cX
    rw[if_pos (by simp[Sh.len];omega)]
    simp[hB]
 ·have:¬(0≤c.A∧c.A<(h.au.length:Int)):=fun h1=>hA (kD.2 h1)
  simp only[Bool.not_eq_true] at hA
  rw[if_neg (by simpa using h0)]
  by_cases a1:c.A<0
  ·rw[if_pos (by simpa using a1)]
   simp[G.cX,hA]
  ·rw[if_neg (by simpa using a1),if_pos (by simp[Sh.len];omega)]
   simp[G.cX,hA]
theorem ahP{h:G.ah}(hR:G.c5 h=some (right h))(x y:Int):G.lB h x y=some (two h x y):=by
 unfold G.lB two
 rw[hR]
 simp only[Option.bind_some,inr,Sh.len]
 cases right h
 ·simp
 ·by_cases a:0≤x
  ·by_cases b:x<(h.au.length:Int)
   ·by_cases c:0≤y <;> simp[a,b,c]
   ·simp[a,b]
  ·simp[a]
theorem E9{h:G.ah}(hf:Fits h)(hR:G.c5 h=some (right h)){l:List G.aa}(hl:l.length<9223372036854775807)(x y:Int):
  G.fK h l x y=some (direct h l x y):=by
 unfold G.fK direct
 rw[ahP hR]
 simp only[Option.bind_some]
 cases ht:two h x y with
 |false=>simp
 |true=>
  simp only[two,Bool.and_eq_true] at ht
  obtain⟨⟨_,hx⟩,hy⟩:=ht
  simp only[Bool.not_true,Bool.false_eq_true,if_false,Bool.true_and,pN hx,pN hy,Option.bind_some]
  have h2:∀b,G.fB h l x y b=some (b||(tx h y).Reads.any (fun r=>decide (r.bH=x))||l.any (Ub h x y)):=fun b=>by
   unfold G.fB
   cases b
   ·have hr:=hf.reads _ (sB hy)
    simp only[Bool.false_eq_true,if_false,Bool.false_or]
    rw[qv (tx h y).Reads (fun r=>decide (r.bH=x)) true (G.gJ h l x y) (bD (by omega)) (fun k hk=> ?_) ?_]
    ·cases(tx h y).Reads.any (fun r=>decide (r.bH=x)) with
     |true=>rfl
     |false=>
      simp only[Bool.false_eq_true,if_false,Bool.false_or]
      unfold G.gJ
      rw[qv l (Ub h x y) true (some false) (bD (by omega)) (fun k hk=> ?_) ?_]
      ·cases l.any (Ub h x y) <;> rfl
      ·simp[G.gH,G.jO]
      ·simp only[G.gH,dec_lt,hk,decide_true,if_true,cI hk,Option.bind_some,G.gL,ahL hf,G.gK,bf (show k<9223372036854775807 by omega),Sh.exit,Sh.next,Option.map_some]
       unfold Ub
       by_cases a:l[k].A=x
       ·by_cases b:l[k].B=y
        ·subst a;subst b
         rw[hx,hy]
         simp[and_assoc]
        ·simp[a,b]
       ·simp[a]
    ·simp only[G.gI,pN hy,Option.bind_some,dec_lt]
     simp
    ·simp only[G.gI,pN hy,Option.bind_some,dec_lt,hk,decide_true,if_true,cI hk,bf (show k<9223372036854775807 by omega),Sh.exit,Sh.next,Option.map_some]
   ·simp
  simp only[h2,XL]
  by_cases a:x<y <;> simp[a]
theorem Xj{h:G.ah}(hf:Fits h)(hR:G.c5 h=some (right h)){l:List G.aa}(hl:l.length<9223372036854775807)(x y:Int):
  G.jN h l x y=some (Bk h l x y):=by
 unfold G.jN Bk
 rw[ahP hR]
 simp only[Option.bind_some]
 cases ht:two h x y with
 |false=>simp[G.gy]
 |true=>
  simp only[two,Bool.and_eq_true] at ht
  obtain⟨⟨hri,hx⟩,hy⟩:=ht
  simp only[Bool.not_true,Bool.false_eq_true,if_false,Bool.true_and,G.gy,Qi]
  by_cases hxy:x=y
  ·simp[hxy]
  ·have hr:=hf.reads _ (sB hx)
   simp only[hxy,decide_false,Bool.false_eq_true,if_false,ne_eq,not_false_eq_true,decide_true,Bool.true_and]
   rw[qv (tx h x).Reads (Y3 h l y) true (some false) (bD (by omega)) (fun k hk=> ?_) ?_]
   ·cases(tx h x).Reads.any (Y3 h l y) <;> rfl
   ·simp only[G.jc,pN hx,Option.bind_some,dec_lt]
    simp[G.mg]
   ·have hn:=QX hri (sB hx) (List.getElem_mem hk)
    simp only[G.jc,pN hx,pN hy,Option.bind_some,dec_lt,hk,decide_true,if_true,cI hk,C4 (hf.writes _ (sB hy)),rIn hl,G.fk,bf (show k<9223372036854775807 by omega),Sh.exit,Sh.next,Option.map_some]
    unfold Y3
    cases n4 (tx h y) ((tx h x).Reads[k]).Key with
    |false=>simp
    |true=>
     by_cases a:((tx h x).Reads[k]).bH= -1
     ·have:((tx h x).Reads[k]).bH<0:=by omega
      simp[a,this]
     ·have:¬((tx h x).Reads[k]).bH<0:=fun h1=>a (hn.1 h1)
      simp only[a,this,decide_false,Bool.false_eq_true,if_false,if_true,Bool.false_or,Bool.true_and]
      cases l.any (fun c=>decide (G.aa.mk ((tx h x).Reads[k]).Key ((tx h x).Reads[k]).bH y=c)) <;> by_cases b:((tx h x).Reads[k]).bH=y <;> simp[b]
theorem rIs{h:G.ah}(hf:Fits h)(hR:G.c5 h=some (right h)){l:List G.aa}(hl:l.length<9223372036854775807)(lev x y:Int):
  G.ov h lev l x y=some (Bl h lev l x y):=by
 unfold G.ov Bl G.lu
 by_cases h0:lev=0
 ·subst h0
  simp[E9 hf hR hl,Xj hf hR hl]
  cases direct h l x y <;> simp
 ·by_cases h1:lev=1
  ·subst h1
   have hrl:(List.range h.au.length).length=h.au.length:=by simp
   have ht:=hf.VL
   simp only[h0,ne_eq,not_false_eq_true,decide_true,if_true,not_true,decide_false,Bool.false_eq_true,if_false,E9 hf hR hl,Option.bind_some]
   rw[qv (List.range h.au.length) (fun m=>direct h l x m&&Bk h l m y) true (some false) (bD (by omega)) (fun k hk=> ?_) ?_]
   ·cases hd:direct h l x y with
    |true=>
     have hy:inr h y=true:=by
      simp only[direct,two,Bool.and_eq_true] at hd;exact hd.1.2
     obtain⟨y0,y1⟩:=kD.1 hy
     have:(List.range h.au.length).any (fun m=>direct h l x m&&(decide ((m:Int)=y)||Bk h l m y))=true:=by
      rw[List.any_eq_true]
      refine⟨y.toNat,List.mem_range.2 (by omega), ?_⟩
      rw[show((y.toNat:Nat):Int)=y by omega]
      simp[hd]
     rw[this];rfl
    |false=>
     have:∀m∈List.range h.au.length,(direct h l x (m:Nat)&&Bk h l m y)=(direct h l x m&&(decide ((m:Int)=y)||Bk h l m y)):=fun m _=>by
      by_cases hm:(m:Int)=y
      ·rw[hm,hd];simp
      ·simp[hm]
     have h2:(List.range h.au.length).any (fun m=>direct h l x m&&Bk h l m y)=(List.range h.au.length).any (fun m=>direct h l x m&&(decide ((m:Int)=y)||Bk h l m y)):=by
      rw[Bool.eq_iff_iff,List.any_eq_true,List.any_eq_true]
      constructor
      ·rintro⟨m,hm,hp⟩;exact⟨m,hm,by rw[←this m hm];exact hp⟩
      ·rintro⟨m,hm,hp⟩;exact⟨m,hm,by rw[this m hm];exact hp⟩
     rw[h2]
     cases(List.range h.au.length).any (fun m=>direct h l x m&&(decide ((m:Int)=y)||Bk h l m y)) <;> rfl
   ·simp[G.lq,G.nW]
   ·rw[hrl] at hk
    simp only[G.lq,dec_lt,hk,decide_true,if_true,E9 hf hR hl,Xj hf hR hl,Option.bind_some,G.lz,bf (show k<9223372036854775807 by omega),List.getElem_range,Sh.exit,Sh.next,Option.map_some]
    cases direct h l x k <;> simp
  ·simp[h0,h1]
theorem Zu{h:G.ah}(hf:Fits h)(hR:G.c5 h=some (right h)){l:List G.aa}(hl:l.length<9223372036854775807)(lev:Int){row:List Int}(hw:row.length<9223372036854775808):
  G.lp h lev l row=some (ring h lev l row):=by
 unfold G.lp
 rw[Og]
 refine L7 row.length (yJ h lev l row) (decide (0<row.length)) false (bD (by omega)) (fun k hk=> ?_) ?_
 ·have hm:(k+1) % row.length<row.length:=Nat.mod_lt _ (by omega)
  have hlt:(row.take k).length=k:=by simp;omega
  simp only[G.ic,dec_lt,hk,decide_true,if_true]
  rw[qv (row.take k) (fun x=>decide (row[k]=x)) (Sum.inr false) (G.ig h lev l row k) (bD (by omega)) (fun i hi=> ?_) ?_]
  ·unfold yJ
   rw[EV hk,EV hm]
   cases hc:(row.take k).any (fun x=>decide (row[k]=x)) with
   |true=>simp
   |false=>
    simp only[Bool.false_eq_true,if_false,G.ig,cI hk,Option.bind_some,m_]
    rw[bf (by omega),TA (by omega) (by omega) (by omega)]
    simp only[Option.bind_some,cI hm,rIs hf hR hl,G.kN,bf (show k<9223372036854775807 by omega)]
    cases Bl h lev l row[k] row[(k+1) % row.length] <;> simp[Sh.exit,Sh.next]
  ·rw[hlt];simp[G.ie]
  ·rw[hlt] at hi
   have UA:i<row.length:=by omega
   simp only[G.ie,dec_lt,hi,decide_true,if_true,cI hk,cI UA,Option.bind_some,bf (show i<9223372036854775807 by omega),Sh.exit,Sh.next,Option.map_some,List.getElem_take]
   by_cases a:row[i]=row[k]
   ·simp[a]
   ·have:¬row[k]=row[i]:=fun h=>a h.symm
    simp[a,this]
 ·simp[G.ic,G.kM,Sh.exit,m_]
end Pl
end

section
/- The reference's word on histories: whether one may be, and whether it is small. -/
namespace Pl
open Go Go.Av

def zU{α:Type}(key:α→Int)(ok:α→Bool):Int→List α→Bool
 |_,[]=>true
 |last,x::l=>decide (last<key x)&&decide (key x<16)&&ok x&&zU key ok (key x) l
theorem ID:∀(l:List Int) (last:Int),rising last l=zU id (fun _=>true) last l
 |[],_=>rfl
 |x::l,last=>by
  rw[show rising last (x::l)=(decide (last<x)&&decide (x<16)&&rising x l) from rfl,ID l x]
  simp[zU]
theorem Mc(h:G.ah)(n:Int):∀(l:List G.aC) (last:Int),nX h n last l=zU (·.Key) (there h n) last l
 |[],_=>rfl
 |x::l,last=>by
  rw[show nX h n last (x::l)=(decide (last<x.Key)&&decide (x.Key<16)&&there h n x&&nX h n x.Key l) from rfl,Mc h n l x.Key]
  rfl
theorem Ft{α:Type}{key:α→Int}{ok:α→Bool}:∀{l:List α} {last:Int},zU key ok last l=true↔
  ∀k (hk:k<l.length),key l[k]<16∧ok l[k]=true∧(if h0:k=0 then last<key l[k] else key (l[k - 1]'(by omega))<key l[k])
 |[],last=>by simp[zU]
 |x::l,last=>by
  simp only[zU,Bool.and_eq_true,decide_eq_true_eq,Ft (l:=l)]
  constructor
  ·rintro⟨⟨⟨h1,h2⟩,h3⟩,h4⟩ k hk
   cases k with
   |zero=>exact⟨h2,h3,by simpa using h1⟩
   |succ k=>
    have:=h4 k (by simpa using hk)
    refine⟨by simpa using this.1,by simpa using this.2.1, ?_⟩
    have h5:=this.2.2
    rw[dif_neg (by omega)]
    cases k with
    |zero=>simpa using h5
    |succ k=>simpa using h5
  ·intro h
   have h0:=h 0 (by simp)
   refine⟨⟨⟨by simpa using h0.2.2,by simpa using h0.1⟩,by simpa using h0.2.1⟩,fun k hk=> ?_⟩
   have:=h (k+1) (by simpa using hk)
   refine⟨by simpa using this.1,by simpa using this.2.1, ?_⟩
   have h5:=this.2.2
   rw[dif_neg (by omega)] at h5
   cases k with
   |zero=>simpa using h5
   |succ k=>simpa using h5
def step{α:Type}(key:α→Int)(ok:α→Bool)(l:List α)(k:Nat):Bool:=
 match l[k]? with
 |none=>true
 |some x=>decide (0≤key x)&&decide (key x<16)&&ok x&&(decide (k=0)||match l[k - 1]? with|none=>true|some y=>decide (key y<key x))
theorem D8{α:Type}(key:α→Int)(ok:α→Bool)(l:List α):decide (∀k,k<l.length→step key ok l k=true)=zU key ok (-1) l:=by
 rw[Bool.eq_iff_iff,decide_eq_true_eq,Ft]
 constructor
 ·intro h k hk
  have h1:=h k hk
  simp only[step,List.getElem?_eq_getElem hk,Bool.and_eq_true,decide_eq_true_eq,Bool.or_eq_true] at h1
  refine⟨h1.1.1.2,h1.1.2, ?_⟩
  split
  ·have:=h1.1.1.1;omega
  ·have h2:=h1.2.resolve_left (by assumption)
   rw[List.getElem?_eq_getElem (show k - 1<l.length by omega)] at h2
   simpa using h2
 ·intro h
  have pos:∀k (hk:k<l.length),0≤key l[k]:=by
   intro k
   induction k with
   |zero=>
    intro hk
    have:=(h 0 hk).2.2
    rw[dif_pos rfl] at this;omega
   |succ k ih=>
    intro hk
    have h1:=ih (by omega)
    have:=(h (k+1) hk).2.2
    rw[dif_neg (by omega)] at this
    simp only[Nat.add_sub_cancel] at this
    omega
  intro k hk
  obtain⟨h1,h2,h3⟩:=h k hk
  simp only[step,List.getElem?_eq_getElem hk,Bool.and_eq_true,decide_eq_true_eq,Bool.or_eq_true]
  refine⟨⟨⟨pos k hk,h1⟩,h2⟩, ?_⟩
  by_cases h0:k=0
  ·exact .inl h0
  ·rw[dif_neg h0] at h3
   rw[List.getElem?_eq_getElem (show k - 1<l.length by omega)]
   exact .inr (by simpa using h3)
theorem Oj{α:Type}(key:α→Int)(ok:α→Bool)(l:List α)(k:Nat)(hk:k<l.length):
  step key ok l k=(decide (0≤key l[k])&&decide (key l[k]<16)&&ok l[k]&&(if h0:k=0 then true else decide (key (l[k - 1]'(by omega))<key l[k]))):=by
 unfold step
 rw[List.getElem?_eq_getElem hk]
 by_cases h0:k=0
 ·subst h0;simp
 ·rw[List.getElem?_eq_getElem (show k - 1<l.length by omega)]
  simp[h0]

theorem Me{k:Nat}(h0:0<k)(h:k<9223372036854775807):fL ((k:Int) - 1)=((k - 1:Nat):Int):=by
 rw[sC (by omega) (by omega)];omega
theorem Np{h:G.ah}(hf:Fits h)(n:Nat)(x:G.aC):there h n x=(!(decide (x.bH< -1)||decide ((h.au.length:Int)≤x.bH)||decide (x.bH=n))&&(decide (x.bH<0)||match h.au[x.bH.toNat]? with|some t=>n4 t x.Key|none=>false)):=by
 unfold there
 by_cases a:x.bH= -1
 ·have h1:¬((-1:Int)=n):=by omega
  have h2:¬((h.au.length:Int)≤ -1):=by omega
  simp[a,h1,h2]
 ·by_cases b:0≤x.bH
  ·have h1:¬x.bH< -1:=by omega
   have h2:¬x.bH<0:=by omega
   by_cases c:x.bH<(h.au.length:Int)
   ·have h3:¬((h.au.length:Int)≤x.bH):=by omega
    by_cases d:x.bH=n <;> simp[a,b,c,d,h1,h2,h3]
   ·have h3:((h.au.length:Int)≤x.bH):=by omega
    simp[a,b,c,h3]
  ·have h1:x.bH< -1:=by omega
   simp[a,b,h1]
theorem ahN{h:G.ah}(hf:Fits h){n:Nat}(hn:n<h.au.length):G.nC h n=some (Ee h n h.au[n]):=by
 have hw:=hf.writes _ (List.getElem_mem hn)
 have hr:=hf.reads _ (List.getElem_mem hn)
 have hreads:G.j8 h n h.au[n]=some (nX h n (-1) (h.au[n]).Reads):=by
  unfold G.j8
  rw[Mc,←D8]
  refine Bh (h.au[n]).Reads.length (step (·.Key) (there h n) (h.au[n]).Reads) (bD (by omega)) (fun k hk=> ?_) ?_
  ·have h5:∀b:Bool,(b=false→((h.au[n]).Reads[k]).bH<(h.au.length:Int))→G.cq h k ((h.au[n]).Reads[k]) b=if !b&&(decide (((h.au[n]).Reads[k]).bH<0)||match h.au[((h.au[n]).Reads[k]).bH.toNat]? with|some t=>n4 t ((h.au[n]).Reads[k]).Key|none=>false) then some (.inl ((k+1:Nat):Int)) else some (.inr false):=fun b hb=>by
    unfold G.cq
    cases b with
    |true=>simp[Sh.exit]
    |false=>
     have hlt:=hb rfl
     by_cases a:((h.au[n]).Reads[k]).bH<0
     ·simp[a,G.gU,bf (show k<9223372036854775807 by omega),Sh.next]
     ·have hi:((h.au[n]).Reads[k]).bH.toNat<h.au.length:=by omega
      rw[Gq (by omega) hlt,List.getElem?_eq_getElem hi]
      simp only[a,decide_false,Bool.false_eq_true,if_false,Option.bind_some,C4 (hf.writes _ (List.getElem_mem hi)),G.gU,bf (show k<9223372036854775807 by omega),Sh.exit,Sh.next,Option.map_some,Bool.not_false,Bool.true_and,Bool.false_or]
      cases n4 h.au[((h.au[n]).Reads[k]).bH.toNat] ((h.au[n]).Reads[k]).Key <;> simp
   simp only[G.j6,dec_lt,hk,decide_true,if_true,cI hk,Option.bind_some,Oj _ _ _ k hk,Np hf]
   by_cases a0:((h.au[n]).Reads[k]).Key<0
   ·rw[if_pos (by simpa using a0),h5 _ (by simp)]
    have:¬0≤((h.au[n]).Reads[k]).Key:=by omega
    simp[this]
   rw[if_neg (by simpa using a0)]
   by_cases a1:15<((h.au[n]).Reads[k]).Key
   ·rw[if_pos (by simpa using a1),h5 _ (by simp)]
    have:¬((h.au[n]).Reads[k]).Key<16:=by omega
    simp[this]
   rw[if_neg (by simpa using a1)]
   have b0:0≤((h.au[n]).Reads[k]).Key:=by omega
   have b1:((h.au[n]).Reads[k]).Key<16:=by omega
   have tail:(if decide (((h.au[n]).Reads[k]).bH<(-1)) then G.cq h k ((h.au[n]).Reads[k]) true else if decide ((Sh.len h.au)≤((h.au[n]).Reads[k]).bH) then G.cq h k ((h.au[n]).Reads[k]) true else G.cq h k ((h.au[n]).Reads[k]) (decide (((h.au[n]).Reads[k]).bH=n)))
     =if there h n ((h.au[n]).Reads[k]) then some (.inl ((k+1:Nat):Int)) else some (.inr false):=by
    rw[Np hf]
    by_cases c:((h.au[n]).Reads[k]).bH< -1
    ·rw[if_pos (by simpa using c),h5 _ (by simp)]
     simp[c]
    rw[if_neg (by simpa using c)]
    by_cases d:(h.au.length:Int)≤((h.au[n]).Reads[k]).bH
    ·rw[if_pos (by simpa using d),h5 _ (by simp)]
     simp[d]
    rw[if_neg (by simpa using d),h5 _ (fun _=>by omega)]
    simp[c,d]
   rw[tail,Np hf]
   cases k with
   |zero=>simp[b0,b1]
   |succ k=>
    have G9:k<(h.au[n]).Reads.length:=by omega
    rw[if_pos (by simp),Me (by omega) (by omega),cI (show k+1 - 1<_ by omega)]
    simp only[Nat.add_sub_cancel,Option.bind_some]
    by_cases e:((h.au[n]).Reads[k+1]).Key≤((h.au[n]).Reads[k]).Key
    ·rw[if_pos (by simpa using e),h5 _ (by simp)]
     have:¬((h.au[n]).Reads[k]).Key<((h.au[n]).Reads[k+1]).Key:=by omega
     simp[this]
    ·rw[if_neg (by simpa using e)]
     have:((h.au[n]).Reads[k]).Key<((h.au[n]).Reads[k+1]).Key:=by omega
     simp[this,b0,b1]
  ·simp[G.j6,G.mV,Sh.exit]
 have hwrites:Sh.loop (fun(p:Int)=>G.fI h n h.au[n] p) 0=some (rising (-1) (h.au[n]).br&&nX h n (-1) (h.au[n]).Reads):=by
  have h6:∀(k:Nat) (b:Bool),k<9223372036854775807→G.eT k b=if b then some (.inr false) else some (.inl ((k+1:Nat):Int)):=fun k b hk=>by
   unfold G.eT
   rw[bf hk]
   cases b <;> rfl
  have:=L7 (b:=fun(p:Int)=>G.fI h n h.au[n] p) (h.au[n]).br.length (step id (fun _=>true) (h.au[n]).br) (nX h n (-1) (h.au[n]).Reads) false (bD (by omega)) (fun k hk=> ?_) ?_
  ·rw[this,ID,←D8]
   by_cases hq:∀k,k<(h.au[n]).br.length→step id (fun _=>true) (h.au[n]).br k=true
   ·rw[if_pos hq,decide_eq_true hq,Bool.true_and]
   ·rw[if_neg hq,decide_eq_false hq,Bool.false_and]
  ·simp only[G.fI,dec_lt,hk,decide_true,if_true,cI hk,Option.bind_some,Oj _ _ _ k hk,h6 k _ (by omega),id]
   by_cases a0:(h.au[n]).br[k]<0
   ·have:¬0≤(h.au[n]).br[k]:=by omega
    simp[a0,this]
   rw[if_neg (by simpa using a0)]
   by_cases a1:15<(h.au[n]).br[k]
   ·have:¬(h.au[n]).br[k]<16:=by omega
    simp[a1,this]
   rw[if_neg (by simpa using a1)]
   have b0:0≤(h.au[n]).br[k]:=by omega
   have b1:(h.au[n]).br[k]<16:=by omega
   cases k with
   |zero=>simp[b0,b1]
   |succ k=>
    have G9:k<(h.au[n]).br.length:=by omega
    rw[if_pos (by simp),Me (by omega) (by omega),cI (show k+1 - 1<_ by omega)]
    simp only[Nat.add_sub_cancel,Option.bind_some]
    by_cases e:(h.au[n]).br[k+1]≤(h.au[n]).br[k]
    ·have:¬(h.au[n]).br[k]<(h.au[n]).br[k+1]:=by omega
     simp[e,this]
    ·have:(h.au[n]).br[k]<(h.au[n]).br[k+1]:=by omega
     simp[e,this,b0,b1]
  ·simp only[G.fI,dec_lt,Nat.lt_irrefl,decide_false,Bool.false_eq_true,if_false,hreads]
   rfl
 unfold G.nC G.j7
 rw[cI hn]
 simp only[Option.bind_some,hwrites]
 unfold Ee
 by_cases a:(h.au[n]).bt<0
 ·have:¬0≤(h.au[n]).bt:=by omega
  simp[a,this]
 ·have a2:0≤(h.au[n]).bt:=by omega
  by_cases b:7<(h.au[n]).bt
  ·have:¬(h.au[n]).bt<8:=by omega
   simp[a,b,this]
  ·have b2:(h.au[n]).bt<8:=by omega
   simp[a,b,a2,b2]
theorem DO(h:G.ah):∀(l:List G.ai) (n:Nat),rS h n l=decide (∀k (hk:k<l.length),Ee h ((n+k:Nat):Int) l[k]=true)
 |[],n=>by simp[rS]
 |t::l,n=>by
  rw[show rS h n (t::l)=(Ee h (n:Nat) t&&rS h (n+1) l) from rfl,DO h l (n+1),Bool.eq_iff_iff,Bool.and_eq_true,decide_eq_true_eq,decide_eq_true_eq]
  constructor
  ·rintro⟨h1,h2⟩ k hk
   cases k with
   |zero=>simpa using h1
   |succ k=>
    have:=h2 k (by simpa using hk)
    rw[show n+1+k=n+(k+1) by omega] at this
    simpa using this
  ·intro h1
   refine⟨h1 0 (by simp),fun k hk=> ?_⟩
   have:=h1 (k+1) (by simpa using hk)
   rw[show n+1+k=n+(k+1) by omega]
   simpa using this
theorem JT{h:G.ah}(hf:Fits h):G.c5 h=some (right h):=by
 unfold G.c5 right
 by_cases h1:h.au.length≤32
 ·have h2:¬(32:Int)<(h.au.length:Int):=by omega
  simp only[Sh.len,h2,decide_false,Bool.false_eq_true,if_false,h1,decide_true,Bool.true_and]
  rw[DO]
  have:=Bh (b:=fun(p:Int)=>G.fN h p) h.au.length (fun k=>match h.au[k]? with|some t=>Ee h k t|none=>true) (bD (by omega)) (fun k hk=> ?_) ?_
  ·rw[this]
   congr 2
   refine propext ⟨fun h3 k hk=> ?_,fun h3 k hk=> ?_⟩
   ·have:=h3 k hk
    simp only[List.getElem?_eq_getElem hk] at this
    simpa using this
   ·simp only[List.getElem?_eq_getElem hk]
    simpa using h3 k hk
  ·simp only[G.fN,dec_lt,hk,decide_true,if_true,ahN hf hk,Option.bind_some,List.getElem?_eq_getElem hk,bf (show k<9223372036854775807 by omega)]
   cases Ee h k h.au[k] <;> simp[Sh.exit,Sh.next]
  ·simp[G.fN,G.kG,Sh.exit]
 ·have h2:(32:Int)<(h.au.length:Int):=by omega
  simp[Sh.len,h2,h1]

theorem MG{α:Type}(l:List α):decide ((20:Int)<Sh.len l)= !decide (l.length≤20):=by
 by_cases h:l.length≤20 <;> simp[h,Sh.len] <;> omega
def few(h:G.ah)(m:Int):Bool:=decide ((h.au.length:Int)≤m)&&h.au.all (fun t=>decide (t.br.length≤20)&&decide (t.Reads.length≤20))
theorem alo{h:G.ah}{m:Int}(hm:m<9223372036854775807):G.nB h m=some (few h m):=by
 unfold G.nB few
 by_cases h1:(h.au.length:Int)≤m
 ·have h2:¬m<(h.au.length:Int):=by omega
  simp only[Sh.len,h2,decide_false,Bool.false_eq_true,if_false,h1,decide_true,Bool.true_and]
  rw[qv h.au (fun t=> !(decide (t.br.length≤20)&&decide (t.Reads.length≤20))) false (some true) (bD (by omega)) (fun k hk=> ?_) ?_]
  ·rw[List.any_eq_not_all_not]
   simp only[Bool.not_not]
   cases h.au.all (fun t=>decide (t.br.length≤20)&&decide (t.Reads.length≤20)) <;> rfl
  ·simp[G.j4,G.mU]
  ·simp only[G.j4,dec_lt,hk,decide_true,if_true,cI hk,Option.bind_some,MG,G.j5,bf (show k<9223372036854775807 by omega),Sh.exit,Sh.next,Option.map_some]
   by_cases a:(h.au[k]).br.length≤20 <;> by_cases b:(h.au[k]).Reads.length≤20 <;> simp[a,b]
 ·have h2:m<(h.au.length:Int):=by omega
  simp[Sh.len,h2,h1]
theorem QV{h:G.ah}{m:Int}(hm:m<9223372036854775807)(hf:few h m=true):Fits h:=by
 simp only[few,Bool.and_eq_true,decide_eq_true_eq,List.all_eq_true] at hf
 exact⟨by omega,fun t ht=>by have:=(hf.2 t ht).1;omega,fun t ht=>by have:=(hf.2 t ht).2;omega⟩
end Pl
end

section
/- Law 19, first half: edges as the reference sees them; what one more choice adds. -/

namespace Pl
open Go Go.Av

def one(h:G.ah)(c:G.aa):Bool:=decide (c.A≠c.B)&&inr h c.A&&inr h c.B&&n4 (tx h c.A) c.Key&&n4 (tx h c.B) c.Key
theorem Xi{h:G.ah}(hf:Fits h)(x k:Int):G.jE x k h=some (inr h x&&n4 (tx h x) k):=by
 unfold G.jE
 by_cases hx:inr h x=true
 ·obtain⟨a,b⟩:=kD.1 hx
  have:=hf.writes _ (sB hx)
  rw[if_pos (by simpa using a),if_pos (by simpa [Sh.len] using b),pN hx,Option.bind_some,Pd (by omega),Option.bind_some,hx]
  rfl
 ·have h1:inr h x=false:=by simpa using hx
  rw[h1]
  unfold inr at h1
  by_cases a:0≤x <;> by_cases b:x<(h.au.length:Int) <;> simp[a,b,Sh.len] at h1 ⊢
theorem ahz{h:G.ah}(hf:Fits h)(c:G.aa):G.mA c h=some (!one h c):=by
 unfold G.mA one
 rw[Xi hf,Xi hf]
 simp only[Option.bind_some]
 by_cases a:c.A=c.B
 ·simp[a]
 ·simp only[a,decide_false,Bool.false_eq_true,if_false,ne_eq,not_false_eq_true,decide_true,Bool.true_and]
  cases inr h c.A <;> cases n4 (tx h c.A) c.Key <;> cases inr h c.B <;> cases n4 (tx h c.B) c.Key <;> rfl
theorem JO{h:G.ah}(hf:Fits h){l:List G.aa}(hl:l.length≤20000):G.oz h l=some (right h&&l.all (one h)):=by
 unfold G.oz G.n_
 rw[xd hf]
 simp only[Option.bind_some]
 have hd:decide ((20000:Int)<Sh.len l)=false:=by simp[Sh.len];omega
 rw[hd]
 have:G.bP l h=some (!(l.all (one h))):=by
  unfold G.bP G.ck
  rw[qY l (fun c=> !one h c) (fun k=>(k:Int)) (some (-1)) (bD (by omega)) (fun k hk=> ?_) ?_,vO,Option.bind_some,kQ]
  ·rw[List.any_eq_not_all_not];simp
  ·simp[G.bQ,G.b9]
  ·simp only[G.bQ,dec_lt,hk,decide_true,if_true,cI hk,Option.bind_some,ahz hf,bf (show k<9223372036854775807 by omega)]
   rfl
 rw[this]
 cases right h <;> simp

theorem Uw{h:G.ah}(hr:right h=true){t:G.ai}(ht:t∈h.au){r:G.aC}(hm:r∈t.Reads)(h0:¬r.bH<0):inr h r.bH=true∧n4 (tx h r.bH) r.Key=true:=by
 obtain⟨n,hn⟩:=AN hr ht
 have:=wM hn r hm
 simp only[there,Bool.or_eq_true,Bool.and_eq_true,decide_eq_true_eq] at this
 rcases this with h1|h1
 ·omega
 ·obtain⟨⟨⟨a,b⟩,_⟩,d⟩:=h1
  refine⟨kD.2 ⟨a,b⟩, ?_⟩
  unfold tx
  have hi:r.bH.toNat<h.au.length:=by omega
  rw[List.getElem?_eq_getElem hi] at d ⊢
  exact d
end Pl
end

section
/- Facts: what follows from what; the program's answer and the reference's. -/
namespace Pl
open Go Go.Av

def back(c:G.aa):G.aa:=⟨c.Key,c.B,c.A⟩
def Kd(l:List G.az)(i:Int):Bool:=decide (0≤i)&&decide (i<(l.length:Int))
def fa(l:List G.az)(i:Int):G.az:=(l[i.toNat]?).getD default
theorem wF{l:List G.az}{i:Int}:Kd l i=true↔0≤i∧i<(l.length:Int):=by simp[Kd]
theorem SQ{l:List G.az}{i:Int}(hx:Kd l i=true):Sh.idx l i=some (fa l i):=by
 rw[wF] at hx
 rw[Gq hx.1 hx.2]
 simp[fa,List.getElem?_eq_getElem (show i.toNat<l.length by omega)]
def may(h:G.ah)(lev:Int):Bool:=right h&&(decide (lev=0)||decide (lev=1))
def CR(l:List G.az)(f:G.az):Bool:=
 Kd l f.I&&Kd l f.J&&decide ((fa l f.I).C.B=(fa l f.J).C.A)&&decide ((fa l f.I).C.Key=(fa l f.J).C.Key)&&decide (f.C=⟨(fa l f.I).C.Key,(fa l f.I).C.A,(fa l f.J).C.B⟩)
def L8(h:G.ah)(f:G.az):Bool:=
 decide (f.J=0)&&decide (f.I≠f.C.A)&&inr h f.I&&(tx h f.I).Reads.any (fun r=>decide (G.aC.mk f.C.Key f.C.B=r))&&direct h [] f.C.A f.I
def reason(h:G.ah)(lev:Int)(l:List G.az)(f:G.az):Bool:=
 if f.Kind=1 then decide (f.I=0)&&decide (f.J=0)&&direct h [] f.C.A f.C.B
 else if f.Kind=2 then CR l f
 else if f.Kind=3 then L8 h f
 else if f.Kind=4 then decide (f.I=0)&&decide (f.J=0)&&ring h lev (l.map (·.C)++[back f.C]) f.bI
 else false
def holds(h:G.ah)(lev:Int)(l:List G.az)(f:G.az):Bool:=
 may h lev&&one h f.C&&(decide (f.Kind=4)||decide (f.bI.length=0))&&reason h lev l f
def AB(h:G.ah)(lev:Int)(l:List G.az)(k:Nat):Bool:=holds h lev (l.take k) (l.getD k default)
def replay(h:G.ah)(lev:Int)(l:List G.az):Bool:=may h lev&&decide (∀k,k<l.length→AB h lev l k=true)

theorem ahy{h:G.ah}(hf:Fits h)(lev:Int):G.vB h lev=some (may h lev):=by
 unfold G.vB may
 rw[xd hf]
 simp only[Option.bind_some]
 cases right h
 ·rfl
 ·by_cases a:lev=0 <;> simp[a]
theorem pWr{h:G.ah}(hf:Fits h)(x:Int)(c:G.aa):G.kR x h c=some (inr h x&&n4 (tx h x) c.Key):=by
 unfold G.kR
 by_cases hx:inr h x=true
 ·obtain⟨a,b⟩:=kD.1 hx
  have:=hf.writes _ (sB hx)
  rw[if_pos (by simpa using a),if_pos (by simpa [Sh.len] using b),pN hx,Option.bind_some,Pd (by omega),Option.bind_some,hx]
  rfl
 ·have h1:inr h x=false:=by simpa using hx
  rw[h1]
  unfold inr at h1
  by_cases a:0≤x <;> by_cases b:x<(h.au.length:Int) <;> simp[a,b,Sh.len] at h1 ⊢
theorem ahA{h:G.ah}(hf:Fits h)(c:G.aa):G.sJ h c=some (one h c):=by
 unfold G.sJ one
 rw[pWr hf,pWr hf]
 simp only[Option.bind_some]
 by_cases a:c.A=c.B
 ·simp[a]
 ·simp only[a,ne_eq,not_false_eq_true,decide_true,if_true,Bool.true_and]
  cases inr h c.A <;> cases n4 (tx h c.A) c.Key <;> cases inr h c.B <;> cases n4 (tx h c.B) c.Key <;> rfl
theorem Xh{l:List G.aC}(hl:l.length<9223372036854775807)(v:G.aC):G.c4 l v=some (l.any (fun c=>decide (v=c))):=by
 unfold G.c4 G.e7
 rw[qY l (fun c=>decide (v=c)) (fun k=>(k:Int)) (some (-1)) (bD (by omega)) (fun k hk=> ?_) ?_,vO,Option.bind_some,kQ]
 ·simp[G.dr,G.ek]
 ·simp only[G.dr,dec_lt,hk,decide_true,if_true,cI hk,Option.bind_some,bf (show k<9223372036854775807 by omega)]
  rfl
theorem LU{l:List G.az}(hl:l.length≤1000000):G.qX l=some (l.map (·.C)):=by
 unfold G.qX
 refine cT (fun k=>(l.take k).map (·.C)) l.length _ (bD (by omega)) (fun k hk=> ?_) ?_ (by simp)
 ·simp only[G.od,dec_lt,hk,decide_true,if_true,cI hk,Option.bind_some]
  rw[m7 (by simp;omega)]
  simp only[Option.bind_some,bf (show k<9223372036854775807 by omega),Sh.next]
  rw[List.take_add_one,List.getElem?_eq_getElem hk,Option.toList_some,List.map_append]
  rfl
 ·simp[G.od,G.pW]
theorem Zb{h:G.ah}(hf:Fits h)(lev:Int)(l:List G.az)(f:G.az):G.nv ⟨h,lev,l,f⟩=some (decide (f.I=0)&&decide (f.J=0)&&direct h [] f.C.A f.C.B):=by
 unfold G.nv
 rw[E4 hf (by simp)]
 by_cases a:f.I=0 <;> by_cases b:f.J=0 <;> simp[a,b]
theorem mm{l:List G.az}{x y:Int}:(decide (Sh.min x y<0)=false∧decide (Sh.len l≤Sh.max x y)=false)↔(Kd l x=true∧Kd l y=true):=by
 rw[decide_eq_false_iff_not,decide_eq_false_iff_not,wF,wF]
 unfold Sh.min Sh.max Sh.len
 split <;> split <;> omega
theorem U8(h:G.ah)(lev:Int)(l:List G.az)(f:G.az):G.mD ⟨h,lev,l,f⟩=some (CR l f):=by
 unfold G.mD CR
 by_cases hin:Kd l f.I=true∧Kd l f.J=true
 ·obtain⟨m1,m2⟩:=(mm (l:=l)).2 hin
  obtain⟨hx,hy⟩:=hin
  simp only[m1,m2,hx,hy,G.e_,Bool.false_eq_true,if_false,SQ hx,SQ hy,Option.bind_some,Bool.true_and,Sh.Y7]
  by_cases a:(fa l f.I).C.B=(fa l f.J).C.A <;> by_cases b:(fa l f.I).C.Key=(fa l f.J).C.Key <;> simp[a,b]
 ·have hm:¬(decide (Sh.min f.I f.J<0)=false∧decide (Sh.len l≤Sh.max f.I f.J)=false):=fun hm=>hin ((mm (l:=l)).1 hm)
  have hz:(Kd l f.I&&Kd l f.J)=false:=by
   cases a:Kd l f.I <;> cases b:Kd l f.J <;> simp_all
  rw[hz]
  simp only[Bool.false_and]
  cases m1:decide (Sh.min f.I f.J<0)
  ·cases m2:decide (Sh.len l≤Sh.max f.I f.J)
   ·exact absurd ⟨m1,m2⟩ hm
   ·simp[G.e_]
  ·simp[G.e_]
theorem ahE{h:G.ah}(hf:Fits h)(lev:Int)(l:List G.az)(f:G.az):G.og ⟨h,lev,l,f⟩=some (L8 h f):=by
 unfold G.og L8
 by_cases a:f.J=0
 ·by_cases b:f.I=f.C.A
  ·simp[a,b,G.dA]
  ·by_cases hx:inr h f.I=true
   ·obtain⟨c,d⟩:=kD.1 hx
    have h1:¬f.I<0:=by omega
    have h2:¬(h.au.length:Int)≤f.I:=by omega
    have h3:=hf.reads _ (sB hx)
    simp only[a,b,h1,h2,ne_eq,not_true,not_false_eq_true,decide_false,decide_true,Bool.false_eq_true,if_false,G.dA,Sh.len,pN hx,Option.bind_some,Xh h3,E4 hf (show([]:List G.aa).length<9223372036854775807 by simp),hx,Bool.true_and]
    cases(tx h f.I).Reads.any (fun r=>decide (G.aC.mk f.C.Key f.C.B=r)) <;> rfl
   ·have h1:inr h f.I=false:=by simpa using hx
    have h2:¬(0≤f.I∧f.I<(h.au.length:Int)):=fun h2=>hx (kD.2 h2)
    rw[h1]
    by_cases c:f.I<0
    ·simp[a,b,c,G.dA]
    ·have d:(h.au.length:Int)≤f.I:=by omega
     simp[a,b,c,d,G.dA,Sh.len]
 ·simp[a,G.dA]
theorem U7{h:G.ah}(hf:Fits h)(lev:Int){l:List G.az}(hl:l.length≤1000000){f:G.az}(hc:f.bI.length<9223372036854775808):
  G.mC ⟨h,lev,l,f⟩=some (decide (f.I=0)&&decide (f.J=0)&&ring h lev (l.map (·.C)++[back f.C]) f.bI):=by
 unfold G.mC
 rw[LU hl]
 simp only[Option.bind_some]
 rw[m7 (by simp;omega),Option.bind_some,show G.aa.mk f.C.Key f.C.B f.C.A=back f.C from rfl,Zc hf (by simp;omega) lev hc]
 by_cases a:f.I=0 <;> by_cases b:f.J=0 <;> simp[a,b]
theorem Zf{h:G.ah}(hf:Fits h)(lev:Int){l:List G.az}(hl:l.length≤1000000){f:G.az}(hc:f.bI.length<9223372036854775808):
  G.tH h lev l f=some (holds h lev l f):=by
 have hj:∀b,G.lQ h lev l f b=some (!b&&reason h lev l f):=fun b=>by
  unfold G.lQ reason
  have he:G.az.mk (G.aa.mk f.C.Key f.C.A f.C.B) f.Kind f.I f.J f.bI=f:=rfl
  have hh:G.ah.mk h.au=h:=rfl
  rw[he,hh]
  cases b
  ·simp only[Bool.false_eq_true,if_false,G.u6,Option.bind_some,Zb hf,U8,ahE hf,U7 hf lev hl hc,G.rN]
   by_cases k1:f.Kind=1
   ·simp[k1]
   ·have k1':¬(1:Int)=f.Kind:=fun h=>k1 h.symm
    by_cases k2:f.Kind=2
    ·simp[k2]
    ·have k2':¬(2:Int)=f.Kind:=fun h=>k2 h.symm
     by_cases k3:f.Kind=3
     ·simp[k3]
     ·have k3':¬(3:Int)=f.Kind:=fun h=>k3 h.symm
      by_cases k4:f.Kind=4
      ·simp[k4]
      ·have k4':¬(4:Int)=f.Kind:=fun h=>k4 h.symm
       simp[k1,k2,k3,k4,k1',k2',k3',k4']
  ·simp
 unfold G.tH holds
 rw[ahy hf,ahA hf]
 simp only[Option.bind_some,hj]
 cases may h lev
 ·simp
 ·cases one h f.C
  ·simp
  ·by_cases k:f.Kind=4
   ·simp[k]
   ·by_cases z:f.bI.length=0
    ·simp[k,z,Sh.len]
    ·have:(0:Int)<(f.bI.length:Int):=by omega
     simp[k,z,Sh.len,this]
def Ue(l:List G.az):Prop:=l.length≤1000000∧∀f∈l,f.bI.length<9223372036854775808
theorem U9{h:G.ah}(hf:Fits h)(lev:Int){l:List G.az}(hl:Ue l):G.sI h lev l=some (replay h lev l):=by
 unfold G.sI replay
 have hlen:=hl.1
 have:=L7 (b:=fun(p:Int)=>G.nG h lev l p) l.length (AB h lev l) (may h lev) false (bD (by omega)) (fun k hk=> ?_) ?_
 ·rw[this]
  by_cases hq:∀k,k<l.length→AB h lev l k=true
  ·rw[if_pos hq,decide_eq_true hq,Bool.and_true]
  ·rw[if_neg hq,decide_eq_false hq,Bool.and_false]
 ·have h1:l.getD k default=l[k]:=by simp[List.getD,List.getElem?_eq_getElem hk]
  simp only[G.nG,dec_lt,hk,decide_true,if_true,cI hk,Option.bind_some]
  rw[show Sh.sub l 0 (k:Int)=some (l.take k) by simpa using D2 (l:=l) (m:=0) (k:=k) (by omega) (by omega)]
  simp only[Option.bind_some,Zf hf lev (l:=l.take k) (by simp;omega) (hl.2 _ (List.getElem_mem hk)),bf (show k<9223372036854775807 by omega),AB,h1]
  cases holds h lev (l.take k) l[k] <;> simp[Sh.exit,Sh.next]
 ·simp[G.nG,G.qy,ahy hf,Sh.exit]

def pl(f:G.az):G.aA:=⟨f.C,f.Kind,f.I,f.J,f.bI⟩
def qp(h:G.ah)(t key:Int):Option Int:=
 if right h&&inr h t then((tx h t).Reads.findIdx? (fun r=>decide (r.Key=key))).map (fun k=>((tx h t).Reads.getD k default).bH) else none
theorem Xk{h:G.ah}(hf:Fits h)(t key:Int):G.jK h t key=some (match qp h t key with|some v=>(v,true)|none=>(0,false)):=by
 unfold G.jK qp
 rw[JT hf]
 simp only[Option.bind_some]
 cases hr:right h with
 |false=>simp[G.dP]
 |true=>
  by_cases hx:inr h t=true
  ·obtain⟨a,b⟩:=kD.1 hx
   have h1:¬t<0:=by omega
   have h2:¬(h.au.length:Int)≤t:=by omega
   have h3:=hf.reads _ (sB hx)
   simp only[Bool.not_true,Bool.false_eq_true,if_false,h1,decide_false,Sh.len,h2,G.dP,pN hx,Option.bind_some,hx,Bool.and_self,if_true]
   rw[qY (tx h t).Reads (fun r=>decide (r.Key=key)) (fun k=>(((tx h t).Reads.getD k default).bH,true)) (some (0,false)) (bD (by omega)) (fun k hk=> ?_) ?_]
   ·cases(tx h t).Reads.findIdx? (fun r=>decide (r.Key=key)) <;> rfl
   ·simp[G.iO,G.lZ]
   ·have h4:(tx h t).Reads.getD k default=(tx h t).Reads[k]:=by simp[List.getD,List.getElem?_eq_getElem hk]
    simp only[G.iO,dec_lt,hk,decide_true,if_true,cI hk,Option.bind_some,bf (show k<9223372036854775807 by omega),Sh.exit,Sh.next,Option.map_some,h4]
  ·have h1:inr h t=false:=by simpa using hx
   have h2:¬(0≤t∧t<(h.au.length:Int)):=fun h2=>hx (kD.2 h2)
   rw[h1]
   by_cases c:t<0
   ·simp[c,G.dP]
   ·have d:(h.au.length:Int)≤t:=by omega
    simp[c,d,G.dP,Sh.len]
theorem De{h:G.ah}{n:Int}:∀{l:List G.aC} {last:Int},nX h n last l=true→∀r∈l,last<r.Key
 |[],_,_,r,hr=>by cases hr
 |x::l,last,ht,r,hr=>by
  rw[show nX h n last (x::l)=(decide (last<x.Key)&&decide (x.Key<16)&&there h n x&&nX h n x.Key l) from rfl] at ht
  simp only[Bool.and_eq_true,decide_eq_true_eq] at ht
  rcases List.mem_cons.1 hr with rfl|hr
  ·exact ht.1.1.1
  ·have:=De ht.2 r hr;have:=ht.1.1.1;omega
theorem IL{h:G.ah}{n:Int}:∀{l:List G.aC} {last:Int},nX h n last l=true→∀r∈l,∀s∈l,r.Key=s.Key→r=s
 |[],_,_,r,hr,_,_,_=>by cases hr
 |x::l,last,ht,r,hr,s,hs,he=>by
  rw[show nX h n last (x::l)=(decide (last<x.Key)&&decide (x.Key<16)&&there h n x&&nX h n x.Key l) from rfl] at ht
  simp only[Bool.and_eq_true,decide_eq_true_eq] at ht
  rcases List.mem_cons.1 hr with h1|h1
  ·rcases List.mem_cons.1 hs with h2|h2
   ·rw[h1,h2]
   ·have:=De ht.2 s h2;rw[h1] at he;omega
  ·rcases List.mem_cons.1 hs with h2|h2
   ·have:=De ht.2 r h1;rw[h2] at he;omega
   ·exact IL ht.2 r h1 s h2 he
theorem xz{h:G.ah}(hr:right h=true){t key v:Int}(hx:inr h t=true):qp h t key=some v↔(tx h t).Reads.any (fun r=>decide (G.aC.mk key v=r))=true:=by
 obtain⟨n,hn⟩:=AN hr (sB hx)
 unfold qp
 rw[hr,hx]
 simp only[Bool.and_self,if_true,List.any_eq_true,decide_eq_true_eq]
 constructor
 ·intro h1
  cases hfi:(tx h t).Reads.findIdx? (fun r=>decide (r.Key=key)) with
  |none=>rw[hfi] at h1;cases h1
  |some k=>
   rw[hfi] at h1
   rw[List.findIdx?_eq_some_iff_getElem] at hfi
   obtain⟨hk,hp,_⟩:=hfi
   simp only[Option.map_some,Option.some.injEq,List.getD,List.getElem?_eq_getElem hk,Option.getD_some] at h1
   refine⟨_,List.getElem_mem hk, ?_⟩
   simp only[decide_eq_true_eq] at hp
   cases hc:(tx h t).Reads[k] with
   |mk K F=>rw[hc] at hp h1;simp at hp h1;rw[hp,h1]
 ·rintro⟨r,hm,rfl⟩
  cases hfi:(tx h t).Reads.findIdx? (fun r=>decide (r.Key=key)) with
  |none=>
   rw[List.findIdx?_eq_none_iff] at hfi
   have:=hfi _ hm
   simp at this
  |some k=>
   rw[List.findIdx?_eq_some_iff_getElem] at hfi
   obtain⟨hk,hp,_⟩:=hfi
   simp only[decide_eq_true_eq] at hp
   have:=IL hn _ (List.getElem_mem hk) _ hm hp
   simp[List.getD,List.getElem?_eq_getElem hk,this]
theorem Xl{h:G.ah}(hf:Fits h)(x y:Int):G.jQ h x y=some (direct h [] x y):=by
 unfold G.jQ
 rw[E9 hf (JT hf) (by simp)]
 rfl
theorem SR{l:List G.az}{i:Int}(hx:Kd l i=true):Sh.idx (l.map pl) i=some (pl (fa l i)):=by
 have h1:=wF.1 hx
 rw[Gq h1.1 (by simp;exact h1.2)]
 simp[fa,List.getElem?_eq_getElem (show i.toNat<l.length by omega)]
theorem MD(c:G.aa)(k a b:Int):decide (c=⟨k,a,b⟩)=(decide (c.Key=k)&&decide (c.A=a)&&decide (c.B=b)):=by
 cases c
 simp[Bool.decide_and,Bool.and_assoc]
theorem Vx(l:List G.az)(f:G.az):G.kj (l.map pl) (pl f)=some (CR l f):=by
 unfold G.kj CR
 have e0:Sh.len (l.map pl)=(l.length:Int):=by simp[Sh.len]
 simp only[e0,show(pl f).I=f.I from rfl,show(pl f).J=f.J from rfl]
 by_cases hI:Kd l f.I=true
 ·obtain⟨a,b⟩:=wF.1 hI
  rw[if_neg (by simp;omega),if_neg (by simp;omega)]
  by_cases hJ:Kd l f.J=true
  ·obtain⟨c,d⟩:=wF.1 hJ
   rw[if_neg (by simp;omega)]
   unfold G.cS
   rw[if_neg (by simp;omega),show(pl f).I=f.I from rfl,show(pl f).J=f.J from rfl,SR hI,SR hJ,hI,hJ]
   simp only[Option.bind_some,Bool.true_and,pl]
   rw[MD]
   have e:∀b1 b2 b3 b4 b5:Bool,(if b1 then if b2 then if b3 then if b4 then some b5 else some false else some false else some false else some false:Option Bool)=some (b1&&b2&&b3&&b4&&b5):=fun b1 b2 b3 b4 b5=>by cases b1 <;> cases b2 <;> cases b3 <;> cases b4 <;> rfl
   refine(e (decide ((fa l f.I).C.Key=f.C.Key)) (decide ((fa l f.J).C.Key=f.C.Key)) (decide ((fa l f.I).C.A=f.C.A)) (decide ((fa l f.J).C.B=f.C.B)) (decide ((fa l f.I).C.B=(fa l f.J).C.A))).trans ?_
   congr 1
   rw[Bool.eq_iff_iff]
   simp only[Bool.and_eq_true,decide_eq_true_eq]
   omega
  ·have h1:Kd l f.J=false:=by simpa using hJ
   have h2:¬(0≤f.J∧f.J<(l.length:Int)):=fun h2=>hJ (wF.2 h2)
   rw[h1]
   by_cases c:f.J<0
   ·simp[c,G.cS]
   ·have d:(l.length:Int)≤f.J:=by omega
    simp[c,d,G.cS]
 ·have h1:Kd l f.I=false:=by simpa using hI
  have h2:¬(0≤f.I∧f.I<(l.length:Int)):=fun h2=>hI (wF.2 h2)
  rw[h1]
  by_cases c:f.I<0
  ·simp[c,G.cS]
  ·have d:(l.length:Int)≤f.I:=by omega
   simp[c,d,G.cS]
theorem ahO{h:G.ah}(hf:Fits h)(hr:right h=true)(f:G.az):G.mG h (pl f)=some (L8 h f):=by
 unfold G.mG L8
 simp only[show(pl f).I=f.I from rfl,show(pl f).J=f.J from rfl,show(pl f).C=f.C from rfl,Sh.len]
 by_cases hx:inr h f.I=true
 ·obtain⟨c,d⟩:=kD.1 hx
  rw[if_neg (by simp;omega),if_neg (by simp;omega)]
  by_cases b:f.I=f.C.A
  ·simp[b,G.c9]
  ·by_cases a:f.J=0
   ·unfold G.c9
    simp only[a,b,decide_false,Bool.false_eq_true,if_false,ne_eq,not_true,show(pl f).I=f.I from rfl,show(pl f).C=f.C from rfl,Xk hf,Option.bind_some,hx,decide_true,not_false_eq_true,Bool.true_and]
    have hi:=fun v=>xz (key:=f.C.Key) (v:=v) hr hx
    cases hv:qp h f.I f.C.Key with
    |none=>
     have:(tx h f.I).Reads.any (fun r=>decide (G.aC.mk f.C.Key f.C.B=r))=false:=by
      cases hb:(tx h f.I).Reads.any (fun r=>decide (G.aC.mk f.C.Key f.C.B=r)) with
      |false=>rfl
      |true=>have:=(hi f.C.B).2 hb;rw[hv] at this;cases this
     rw[this]
     simp[G.fm]
    |some v=>
     by_cases e:v=f.C.B
     ·subst e
      rw[(hi _).1 hv]
      simp[G.fm,Xl hf,show(pl f).I=f.I from rfl,show(pl f).C=f.C from rfl]
     ·have:(tx h f.I).Reads.any (fun r=>decide (G.aC.mk f.C.Key f.C.B=r))=false:=by
       cases hb:(tx h f.I).Reads.any (fun r=>decide (G.aC.mk f.C.Key f.C.B=r)) with
       |false=>rfl
       |true=>have:=(hi f.C.B).2 hb;rw[hv] at this;cases this;exact absurd rfl e
      rw[this]
      simp[G.fm,e]
   ·simp[a,b,G.c9]
 ·have h1:inr h f.I=false:=by simpa using hx
  have h2:¬(0≤f.I∧f.I<(h.au.length:Int)):=fun h2=>hx (kD.2 h2)
  rw[h1]
  by_cases c:f.I<0
  ·simp[c,G.c9]
  ·have d:(h.au.length:Int)≤f.I:=by omega
   simp[c,d,G.c9]
theorem L0{l:List G.az}(hl:l.length≤1000000):G.jd (l.map pl)=some (l.map (·.C)):=by
 unfold G.jd
 have hlen:(l.map pl).length=l.length:=by simp
 refine cT (fun k=>(l.take k).map (·.C)) l.length _ (bD (by omega)) (fun k hk=> ?_) ?_ (by simp)
 ·have G9:k<(l.map pl).length:=by omega
  simp only[G.fY,dec_lt,G9,decide_true,if_true,cI G9,Option.bind_some]
  rw[m7 (by simp;omega)]
  simp only[Option.bind_some,bf (show k<9223372036854775807 by omega),Sh.next]
  rw[List.take_add_one,List.getElem?_eq_getElem hk,Option.toList_some,List.map_append]
  simp[pl]
 ·simp[G.fY,G.je,Sh.len]
theorem ahM{h:G.ah}(hf:Fits h)(c:G.aa):G.jb h c=some (one h c):=ahL hf c
theorem Zv{h:G.ah}(hf:Fits h)(lev:Int){l:List G.az}(hl:l.length≤1000000){f:G.az}(hc:f.bI.length<9223372036854775808):
  G.lC h lev (l.map pl) (pl f)=some (holds h lev l f):=by
 have hR:=JT hf
 unfold G.lC holds
 rw[hR]
 simp only[Option.bind_some]
 have UD:right h=true→∀b,G.eN h lev (l.map pl) (pl f) b=some (!b&&reason h lev l f):=fun hr b=>by
  unfold G.eN reason
  cases b
  ·have a1:(l.map (·.C)).length≤1000000:=by simpa using hl
   have a2:(l.map (·.C)++[back f.C]).length<9223372036854775807:=by simp;omega
   have e1:Sh.app 24 (l.map (·.C)) [back f.C]=some (l.map (·.C)++[back f.C]):=m7 (by simp;omega)
   simp only[Bool.false_eq_true,if_false,show(pl f).Kind=f.Kind from rfl,show(pl f).I=f.I from rfl,show(pl f).J=f.J from rfl,show(pl f).C=f.C from rfl,show(pl f).bI=f.bI from rfl,Xl hf,Vx,ahO hf hr,L0 hl,G.jM,show G.aa.mk f.C.Key f.C.B f.C.A=back f.C from rfl,Option.bind_some,e1,Zu hf hR a2 lev hc,Bool.not_false,Bool.true_and]
   by_cases k1:f.Kind=1
   ·by_cases a:f.I=0 <;> by_cases b:f.J=0 <;> cases direct h [] f.C.A f.C.B <;> simp[k1,a,b]
   ·by_cases k2:f.Kind=2
    ·simp[k2]
    ·by_cases k3:f.Kind=3
     ·simp[k3]
     ·by_cases k4:f.Kind=4
      ·by_cases a:f.I=0 <;> by_cases b:f.J=0 <;> cases ring h lev (l.map (·.C)++[back f.C]) f.bI <;> simp[k4,a,b]
      ·simp[k1,k2,k3,k4]
  ·simp
 have hj1:right h=true→∀b,G.dX h lev (l.map pl) (pl f) b=some (!b&&(one h f.C&&(decide (f.Kind=4)||decide (f.bI.length=0))&&reason h lev l f)):=fun hr b=>by
  unfold G.dX
  cases b
  ·simp only[Bool.false_eq_true,if_false,show(pl f).C=f.C from rfl,ahM hf,Option.bind_some,UD hr,show(pl f).Kind=f.Kind from rfl,show(pl f).bI=f.bI from rfl]
   cases one h f.C
   ·simp
   ·by_cases k:f.Kind=4
    ·simp[k]
    ·by_cases z:f.bI.length=0
     ·simp[k,z,Sh.len]
     ·have:(0:Int)<(f.bI.length:Int):=by omega
      simp[k,z,Sh.len,this]
  ·simp
 unfold may
 cases hr:right h with
 |false=>simp[G.dX]
 |true=>
  simp only[Bool.not_true,Bool.false_eq_true,if_false,hj1 hr,Bool.true_and]
  by_cases a:lev=0
  ·simp[a]
  ·by_cases b:lev=1 <;> simp[a,b]
theorem Vy{h:G.ah}(hf:Fits h)(lev:Int){l:List G.az}(hl:Ue l):G.kg h lev (l.map pl)=some (replay h lev l):=by
 unfold G.kg replay
 have hR:=JT hf
 have hlen:=hl.1
 have hml:(l.map pl).length=l.length:=by simp
 rw[hR]
 simp only[Option.bind_some]
 have hj:∀b,G.ez h lev (l.map pl) b=some (!b&&decide (∀k,k<l.length→AB h lev l k=true)):=fun b=>by
  unfold G.ez
  cases b
  ·have:=Bh (b:=fun(p:Int)=>G.fC h lev (l.map pl) p) l.length (AB h lev l) (bD (by omega)) (fun k hk=> ?_) ?_
   ·simp[this]
   ·have h1:l.getD k default=l[k]:=by simp[List.getD,List.getElem?_eq_getElem hk]
    have G9:k<(l.map pl).length:=by omega
    have e2:(l.map pl)[k]=pl l[k]:=by simp
    simp only[G.fC,dec_lt,G9,decide_true,if_true,cI G9,Option.bind_some]
    rw[show Sh.sub (l.map pl) 0 (k:Int)=some ((l.map pl).take k) by simpa using D2 (l:=l.map pl) (m:=0) (k:=k) (by omega) (by omega),←List.map_take,e2]
    simp only[Option.bind_some,Zv hf lev (l:=l.take k) (by simp;omega) (hl.2 _ (List.getElem_mem hk)),bf (show k<9223372036854775807 by omega),AB,h1]
    cases holds h lev (l.take k) l[k] <;> simp[Sh.exit,Sh.next]
   ·simp[G.fC,G.jP,Sh.exit,Sh.len]
  ·simp
 simp only[hj]
 unfold may
 cases right h
 ·simp
 ·by_cases a:lev=0
  ·simp[a]
  ·by_cases b:lev=1 <;> simp[a,b]
end Pl
end

section
/- Sets of numbers as bits: the program's functions, and the reference's, say the same. -/
namespace Pl
open Go Go.Av

@[simp] theorem vr(i:Int):G.vr i=some (Bv.bit i):=by
 unfold G.vr G.sE Bv.bit
 by_cases h:i<0
 ·simp[h];omega
 ·by_cases h2:64≤i
  ·simp[h,h2];omega
  ·simp[h,h2,Sh.shl,show 0≤i by omega,show i<64 by omega]
@[simp] theorem p6(s:BitVec 64)(i:Int):G.p6 s i=some (s|||Bv.bit i):=by simp[G.p6]
@[simp] theorem vq(a b:BitVec 64):G.vq a b=some (decide (a&&& ~~~b=0#64)):=rfl

def join(l:List (BitVec 64)):BitVec 64:=l.foldl (· ||| ·) 0#64
theorem OV(l:List (BitVec 64))(k:Nat)(h:k<l.length):join (l.take (k+1))=join (l.take k)|||l[k]:=by
 unfold join
 rw[List.take_succ_eq_append_getElem h,List.foldl_append];rfl
theorem nt(l:List (BitVec 64))(hl:l.length<9223372036854775808):G.nt l=some (join l):=by
 unfold G.nt
 refine count (fun k=>join (l.take k)) l.length _ hl (fun k hk=> ?_) ?_ rfl
 ·simp only[G.qN,m_,dec_lt,hk,decide_true,if_true,cI hk,Option.bind_some,Sh.next,OV l k hk,bf (show k<9223372036854775807 by omega)]
 ·simp[G.qN,m_,G.sQ,Sh.exit]
theorem Gv(a b:BitVec 64):G.nt [a,b]=some (a|||b):=by
 rw[nt _ (by simp)];simp[join]

theorem VD(a:BitVec 64)(n:Nat):Sh.shr a (n:Int)=some (a>>>n):=by simp[Sh.shr]
theorem QA:Bv.ctz 0#64=64:=by decide
theorem ZF(s:BitVec 64)(h2:Bv.ctz s<64):Sh.idx Sh.Nw ((((1#64<<<Bv.ctz s)*Bv.dB)>>>58).toNat:Int)=some ((Bv.ctz s:Nat):Int):=by
 have h4:=Bv.ZH ⟨Bv.ctz s,h2⟩
 simp only[Sh.idx,Sh.Nw,List.getElem?_map]
 rw[if_pos (by omega),Int.toNat_natCast,h4]
 rfl
@[simp] theorem tz(s:BitVec 64):G.iI s=some (Bv.ctz s:Int):=by
 unfold G.iI
 by_cases h:s=0#64
 ·subst h
  rw[if_pos (decide_eq_true rfl),QA];rfl
 ·obtain⟨_,h2,h3⟩:=Bv.Io s h
  rw[if_neg (by simpa using h),h3]
  have h5:Sh.shr ((1#64<<<Bv.ctz s)*285870213051353865#64) ((58:Nat):Int)=some (((1#64<<<Bv.ctz s)*285870213051353865#64)>>>58):=VD _ _
  have e2:(((58#64).toNat:Nat):Int)=((58:Nat):Int):=rfl
  rw[e2,h5]
  have h6:=ZF s h2
  unfold Bv.dB at h6
  rw[Option.bind_some,h6,Option.bind_some]
  rw[sC (by omega) (by omega)]

def lJ(s:BitVec 64):List Int:=(Bv.list s).map fun(k:Nat)=>(k:Int)
theorem Ij(s:BitVec 64):(lJ s).length≤64:=by simp[lJ,Bv.o8]

theorem O3:∀(n:Nat) (s:BitVec 64) (acc:List Int),(Bv.list s).length<n→acc.length+(Bv.list s).length≤64→
  Sh.iter (fun(p:(BitVec 64)×(List Int))=>G.ow p.1 p.2) n (s,acc)=some (acc++lJ s):=by
 intro n
 induction n with
 |zero=>intro s acc h;omega
 |succ n ih=>
  intro s acc h1 h2
  by_cases h:s=0#64
  ·subst h
   simp[Sh.iter,G.ow,G.sR,Sh.exit,lJ,Bv.O4]
  ·obtain⟨e,_,_⟩:=Bv.Io s h
   have hl:(Bv.list s).length=(Bv.list (s&&&(s - 1#64))).length+1:=by rw[e];simp
   have ha:Sh.app 8 acc [((Bv.ctz s:Nat):Int)]=some (acc++[((Bv.ctz s:Nat):Int)]):=m7 (by simp;omega)
   have hb:G.ow s acc=some (.inl (s&&&(s - 1#64),acc++[((Bv.ctz s:Nat):Int)])):=by
    simp only[G.ow,h,ne_eq,not_false_eq_true,decide_true,if_true,tz,Option.bind_some,ha,Sh.next]
   simp only[Sh.iter,hb]
   rw[ih _ _ (by omega) (by simp;omega)]
   simp only[lJ,Option.some.injEq]
   rw[e];simp
@[simp] theorem mz(s:BitVec 64):G.mz s=some (lJ s):=by
 have:=Bv.o8 s
 have h:=O3 Sh.x6 s [] (Nat.lt_of_le_of_lt this (bD (by omega))) (by simpa using this)
 simpa [G.mz,Sh.loop] using h
@[simp] theorem Tj(i:Int):G.mJ i=some (decide (0≤i∧i≤63)):=by
 unfold G.mJ
 by_cases h:0≤i <;> simp[h]
theorem Iz(i:Nat)(h:i≤63):G.iE (i:Int)=some (1#64<<<i):=by
 unfold G.iE
 refine count (fun k=>1#64<<<k) i _ (bD (by omega)) (fun k hk=> ?_) ?_ (by simp)
 ·simp only[G.g_,dec_lt,hk,decide_true,if_true,Sh.next,bf (show k<9223372036854775807 by omega)]
  congr 3
  apply BitVec.eq_of_toNat_eq
  simp only[BitVec.toNat_add,BitVec.toNat_shiftLeft,Nat.shiftLeft_eq,BitVec.toNat_ofNat]
  rw[Nat.pow_succ];omega
 ·simp[G.g_,G.kH,Sh.exit]
theorem Kz(s:BitVec 64)(k:Nat)(hk:k<64):decide (s / (1#64<<<k) % 2#64=1#64)=s.getLsbD k:=by
 have h1:(1#64<<<k).toNat=2 ^ k:=by
  have:2 ^ k<2 ^ 64:=Nat.pow_lt_pow_right (by omega) hk
  simp[Nat.shiftLeft_eq,Nat.mod_eq_of_lt this]
 have h2:(s / (1#64<<<k) % 2#64).toNat=s.toNat / 2 ^ k % 2:=by
  simp only[BitVec.toNat_umod,BitVec.toNat_udiv,h1,BitVec.toNat_ofNat]
 have h3:s.getLsbD k=decide (s.toNat / 2 ^ k % 2=1):=by
  simp only[BitVec.getLsbD,Nat.testBit_eq_decide_div_mod_eq]
 rw[h3]
 congr 1
 apply propext
 rw[←h2]
 constructor
 ·intro h;rw[h];rfl
 ·intro h;apply BitVec.eq_of_toNat_eq;rw[h];rfl
@[simp] theorem JR(s:BitVec 64)(i:Int):G.iR s i=some (Bv.has s i):=by
 unfold G.iR Bv.has
 simp only[Tj,Option.bind_some]
 by_cases h:0≤i∧i≤63
 ·obtain⟨k,rfl⟩:∃k:Nat,i=k:=⟨i.toNat,by omega⟩
  have hk:k<64:=by omega
  have hne:(1#64<<<k)≠0#64:=by
   intro h0
   have:=congrArg (fun x:BitVec 64=>x.getLsbD k) h0
   simp[hk] at this
  have e1:Sh.udiv s (1#64<<<k)=some (s / (1#64<<<k)):=by simp only[Sh.udiv,hne,ne_eq,not_false_eq_true,if_true]
  simp only[h,decide_true,Bool.not_true,Bool.false_eq_true,if_false,Iz k (by omega),Option.bind_some,e1,Sh.umod]
  have e2:(2#64:BitVec 64)≠0#64:=by decide
  simp only[e2,ne_eq,not_false_eq_true,if_true,Option.bind_some,Kz s k hk]
  have:((k:Int)<64):=by omega
  simp[this]
 ·rw[decide_eq_false h]
  by_cases h0:0≤i
  ·have:¬i<64:=by omega
   simp[h0,this]
  ·simp[h0]
theorem Jl(s:BitVec 64){k:Nat}(hk:k<64):Bv.has s (k:Int)=s.getLsbD k:=by
 unfold Bv.has
 have h1:(0:Int)≤(k:Int):=by omega
 have h2:(k:Int)<64:=by omega
 simp[h2]
theorem Uf(s:BitVec 64)(k:Nat)(hk:k<64)(hb:s.getLsbD k=false):s+1#64<<<k=s|||1#64<<<k:=by
 rw[BitVec.add_eq_or_of_and_eq_zero]
 apply Bv.ext
 intro j hj
 simp only[BitVec.getLsbD_and,BitVec.getLsbD_shiftLeft,hj,decide_true,Bool.true_and,BitVec.getLsbD_zero]
 by_cases hjk:j=k
 ·subst hjk;simp[hb]
 ·by_cases hlt:j<k
  ·simp[hlt]
  ·simp[hlt,BitVec.getLsbD_one];omega
theorem Za(s:BitVec 64)(k:Nat)(hk:k<64)(hb:s.getLsbD k=true):s|||1#64<<<k=s:=by
 apply Bv.ext
 intro j hj
 simp only[BitVec.getLsbD_or,BitVec.getLsbD_shiftLeft,hj,decide_true,Bool.true_and]
 by_cases hjk:j=k
 ·subst hjk;simp[hb]
 ·by_cases hlt:j<k
  ·simp[hlt]
  ·simp[hlt,BitVec.getLsbD_one];omega
@[simp] theorem vP(s:BitVec 64)(i:Int):G.dS s i=some (s|||Bv.bit i):=by
 unfold G.dS G.iS
 simp only[JR,Tj,Option.bind_some]
 by_cases h:0≤i∧i≤63
 ·obtain⟨k,rfl⟩:∃k:Nat,i=k:=⟨i.toNat,by omega⟩
  have hk:k<64:=by omega
  have hbit:Bv.bit (k:Int)=1#64<<<k:=by unfold Bv.bit;rw[if_pos ⟨by omega,by omega⟩];simp
  have hh:Bv.has s (k:Int)=s.getLsbD k:=Jl s hk
  rw[hh,hbit]
  cases hb:s.getLsbD k with
  |true=>simp[Za s k hk hb]
  |false=>simp[h,Iz k (by omega),Uf s k hk hb]
 ·have hbit:Bv.bit i=0#64:=by unfold Bv.bit;rw[if_neg (by omega)]
  have hh:Bv.has s i=false:=by
   unfold Bv.has
   by_cases h0:0≤i
   ·have:¬i<64:=by omega
    simp[this]
   ·simp[h0]
  simp[hh,hbit,h]
theorem VF(a b:BitVec 64):a&&& ~~~b=0#64↔∀i,a.getLsbD i=true→b.getLsbD i=true:=by
 constructor
 ·intro h i hi
  have UC:i<64:=by
   rcases Nat.lt_or_ge i 64 with h|h
   ·exact h
   ·simp[BitVec.getLsbD_of_ge a i h] at hi
  have:=congrArg (fun x:BitVec 64=>x.getLsbD i) h
  simp only[BitVec.getLsbD_and,BitVec.getLsbD_not,UC,decide_true,Bool.true_and,BitVec.getLsbD_zero,hi] at this
  simpa using this
 ·intro h
  apply Bv.ext
  intro i hi
  simp only[BitVec.getLsbD_and,BitVec.getLsbD_not,hi,decide_true,Bool.true_and,BitVec.getLsbD_zero]
  cases ha:a.getLsbD i with
  |true=>simp[h i ha]
  |false=>rfl
end Pl
namespace Pl
open Go Go.Av
end Pl
end

section
/- Graphs as rows of bits: the program's functions and the reference's, over the edges. -/
namespace Pl
open Go Go.Av

def row:Nat→(Nat→Bool)→BitVec 64
 |0,_=>0#64
 |n+1,p=>if p n then row n p|||(1#64<<<n) else row n p
theorem PA(k i:Nat)(hk:k<64):(1#64<<<k).getLsbD i=decide (i=k):=by
 by_cases hi:i<64
 ·simp only[BitVec.getLsbD_shiftLeft,hi,decide_true,Bool.true_and]
  by_cases hik:i=k
  ·subst hik;simp
  ·by_cases hlt:i<k
   ·simp[hlt,hik]
   ·simp[hlt,hik,BitVec.getLsbD_one];omega
 ·have:¬i=k:=by omega
  simp[BitVec.getLsbD_of_ge _ i (show 64≤i by omega),this]
theorem qs{n:Nat}(hn:n≤64)(p:Nat→Bool)(i:Nat):(row n p).getLsbD i=(decide (i<n)&&p i):=by
 induction n with
 |zero=>simp[row]
 |succ n ih=>
  have ih:=ih (by omega)
  unfold row
  by_cases hp:p n=true
  ·rw[if_pos hp,BitVec.getLsbD_or,ih,PA n i (by omega)]
   by_cases h:i=n
   ·subst h;simp[hp]
   ·by_cases h2:i<n
    ·simp[h,h2,show i<n+1 by omega]
    ·simp[h,h2,show ¬i<n+1 by omega]
  ·rw[if_neg hp,ih]
   by_cases h:i=n
   ·subst h;simp[hp]
   ·by_cases h2:i<n
    ·simp[h2,show i<n+1 by omega]
    ·simp[h2,show ¬i<n+1 by omega]
def rows(n:Nat)(f:Nat→Nat→Bool):List (BitVec 64):=(List.range n).map fun x=>row n (f x)
@[simp] theorem L5(n:Nat)(f:Nat→Nat→Bool):(rows n f).length=n:=by simp[rows]
theorem C_{n:Nat}{f:Nat→Nat→Bool}{x:Nat}(h:x<(rows n f).length):(rows n f)[x]=row n (f x):=by simp[rows]
theorem mo{n:Nat}{f:Nat→Nat→Bool}{x:Nat}(h:x<n):Sh.idx (rows n f) (x:Int)=some (row n (f x)):=by
 rw[cI (by simpa using h),C_]
abbrev gr(n:Nat)(f:Nat→Nat→Bool):G.af:=⟨(n:Int),rows n f⟩
abbrev rg(n:Nat)(f:Nat→Nat→Bool):G.ak:=⟨(n:Int),rows n f⟩

theorem yR{n:Nat}(hn:n≤64){p q:Nat→Bool}:row n p=row n q↔∀i,i<n→p i=q i:=by
 constructor
 ·intro h i hi
  have:=congrArg (fun x:BitVec 64=>x.getLsbD i) h
  simpa [qs hn,hi] using this
 ·intro h
  apply Bv.ext
  intro i _
  rw[qs hn,qs hn]
  by_cases hi:i<n
  ·simp[hi,h i hi]
  ·simp[hi]
theorem eM{n:Nat}(hn:n≤64){f h:Nat→Nat→Bool}:rows n f=rows n h↔∀x y,x<n→y<n→f x y=h x y:=by
 constructor
 ·intro e x y hx hy
  have h1:(rows n f)[x]? =(rows n h)[x]? :=by rw[e]
  rw[List.getElem?_eq_getElem (by simpa using hx),List.getElem?_eq_getElem (by simpa using hx),C_,C_] at h1
  exact(yR hn).1 (Option.some.inj h1) y hy
 ·intro e
  unfold rows
  apply List.map_congr_left
  intro x hx
  exact(yR hn).2 (fun y hy=>e x y (by simpa using hx) hy)
def GM(N:Int)(R:List (BitVec 64)):Bool:=decide (0≤N∧N≤64∧(R.length:Int)=N∧∀r∈R,∀i:Nat,i<64→N≤(i:Int)→r.getLsbD i=false)
theorem GN{n:Nat}(hn:n≤64)(f:Nat→Nat→Bool):GM (n:Int) (rows n f)=true:=by
 refine decide_eq_true ⟨by omega,by omega,by simp,fun r hr i _ hi=> ?_⟩
 simp only[rows,List.mem_map] at hr
 obtain⟨x,_,rfl⟩:=hr
 rw[qs hn]
 have:¬i<n:=by omega
 simp[this]
theorem Ir(n:Nat)(hn:n≤64)(i:Nat)(hi:i<64):((1#64<<<n) - 1#64).getLsbD i=decide (i<n):=by
 rcases Nat.lt_or_ge n 64 with h|h
 ·have e:((1#64<<<n) - 1#64).toNat=2 ^ n - 1:=by
   have h1:2 ^ n<2 ^ 64:=Nat.pow_lt_pow_right (by omega) h
   have h2:0<2 ^ n:=Nat.pow_pos (by omega)
   rw[BitVec.toNat_sub]
   simp only[BitVec.toNat_shiftLeft,BitVec.toNat_ofNat,Nat.shiftLeft_eq]
   omega
  simp only[BitVec.getLsbD,e,Nat.testBit_two_pow_sub_one]
 ·have:n=64:=by omega
  subst this
  have e:(1#64<<<64) - 1#64=BitVec.allOnes 64:=by decide
  rw[e,BitVec.getLsbD_allOnes]
theorem LF(l:List (BitVec 64))(i:Nat):(join l).getLsbD i=l.any (·.getLsbD i):=by
 have key:∀(l:List (BitVec 64)) (a:BitVec 64),(l.foldl (· ||| ·) a).getLsbD i=(a.getLsbD i||l.any (·.getLsbD i)):=by
  intro l
  induction l with
  |nil=>intro a;simp
  |cons x l ih=>intro a;simp[ih,Bool.or_assoc]
 simp[join,key]
theorem iL(g:G.af)(hl:g.Rows.length<9223372036854775808):G.iL g=some (GM g.N g.Rows):=by
 unfold G.iL G.uk GM
 by_cases h1:0≤g.N
 ·by_cases h2:g.N≤64
  ·by_cases h3:(g.Rows.length:Int)=g.N
   ·have hs:Sh.shl 1#64 g.N=some (1#64<<<g.N.toNat):=by simp[Sh.shl,h1]
    simp only[h1,h2,h3,decide_true,if_true,nt _ hl,hs,Option.bind_some,vq,true_and,Option.some.injEq]
    congr 1
    apply propext
    rw[VF]
    constructor
    ·intro h r hr i hi hN
     cases hb:r.getLsbD i with
     |false=>rfl
     |true=>
      have:=h i (by rw[LF,List.any_eq_true];exact⟨r,hr,hb⟩)
      rw[Ir _ (by omega) i hi] at this
      have:=of_decide_eq_true this
      omega
    ·intro h i hi
     have UC:i<64:=by
      rcases Nat.lt_or_ge i 64 with h'|h'
      ·exact h'
      ·rw[BitVec.getLsbD_of_ge _ i h'] at hi;cases hi
     rw[Ir _ (by omega) i UC]
     apply decide_eq_true
     rw[LF,List.any_eq_true] at hi
     obtain⟨r,hr,hb⟩:=hi
     rcases Nat.lt_or_ge i g.N.toNat with h'|h'
     ·exact h'
     ·rw[h r hr i UC (by omega)] at hb;cases hb
   ·simp[h1,h2,h3]
  ·simp[h1,h2]
 ·simp[h1]
@[simp] theorem zR{n:Nat}(hn:n≤64)(f:Nat→Nat→Bool):G.iL (gr n f)=some true:=by
 rw[iL _ (by simp;omega)]
 exact congrArg some (GN hn f)
theorem fu(n:Nat)(hn:n≤64):G.fu (n:Int)=some (⟨(n:Int),List.replicate n 0#64⟩,0):=by
 unfold G.fu G.qZ
 have h1:¬(n:Int)<0:=by omega
 have h2:¬(64:Int)<(n:Int):=by omega
 simp only[h1,h2,decide_false,Bool.false_eq_true,if_false,ahl (show 8*n≤140737488355328 by omega) (show n≤4611686018427387904 by omega),Option.bind_some]
theorem rj(n:Nat):List.replicate n 0#64=rows n (fun _ _=>false):=by
 unfold rows
 apply List.ext_getElem (by simp)
 intro x h1 h2
 simp only[List.getElem_replicate,List.getElem_map]
 have:∀m,row m (fun _=>false)=0#64:=fun m=>by
  induction m with
  |zero=>rfl
  |succ m ih=>simp[row,ih]
 rw[this]
theorem VA{n:Nat}(hn:n≤64)(p:Nat→Bool){k:Nat}(hk:k<n):Bv.has (row n p) (k:Int)=p k:=by
 rw[Jl _ (by omega),qs hn];simp[hk]
theorem xR{n:Nat}(hn:n≤64)(p:Nat→Bool){k:Nat}(hk:k<n):row n p|||Bv.bit (k:Int)=row n (fun i=>p i||decide (i=k)):=by
 apply Bv.ext
 intro i hi
 rw[qs hn,BitVec.getLsbD_or,qs hn]
 have hb:Bv.bit (k:Int)=1#64<<<k:=by unfold Bv.bit;rw[if_pos ⟨by omega,by omega⟩];simp
 rw[hb]
 simp only[BitVec.getLsbD_shiftLeft,hi,decide_true,Bool.true_and]
 by_cases hik:i=k
 ·subst hik;simp[hk]
 ·by_cases hlt:i<k
  ·simp[hlt,hik]
  ·simp[hlt,hik,BitVec.getLsbD_one];omega
theorem uA{n:Nat}(f:Nat→Nat→Bool){x:Nat}(_hx:x<n)(p:Nat→Bool):(rows n f).set x (row n p)=rows n (fun a=>if a=x then p else f a):=by
 apply List.ext_getElem (by simp)
 intro a h1 h2
 rw[List.getElem_set,C_,C_]
 by_cases ha:x=a
 ·subst ha;simp
 ·simp[ha,Ne.symm ha]
def Es(f:Nat→Nat→Bool)(a b:Nat):Nat→Nat→Bool:=fun x y=>f x y||decide (x=a∧y=b)
theorem oh{n:Nat}(hn:n≤64)(f:Nat→Nat→Bool){a b:Nat}(ha:a<n)(hb:b<n):G.oh (gr n f) (a:Int) (b:Int)=some (gr n (Es f a b),0):=by
 unfold G.oh G.m8
 have h1:¬(a:Int)<0:=by omega
 have h2:¬(n:Int)≤(a:Int):=by omega
 have h3:¬(b:Int)<0:=by omega
 have h4:¬(n:Int)≤(b:Int):=by omega
 simp only[zR hn,Option.bind_some,Bool.not_true,Bool.false_eq_true,if_false,h1,h2,h3,h4,decide_false,fu n hn,XI (show(rows n f).length=(List.replicate n 0#64).length by simp),mo ha,p6,xR hn _ hb,vS,uA f ha]
 have e:rows n (fun x=>if x=a then(fun i=>f a i||decide (i=b)) else f x)=rows n (Es f a b):=by
  rw[eM hn]
  intro x y _ _
  unfold Es
  by_cases hx:x=a
  ·subst hx;simp
  ·simp[hx]
 rw[e]
def GA(f h:Nat→Nat→Bool)(k:Nat):Nat→Nat→Bool:=fun x y=>if x<k then h x y else f x y
theorem LM{n:Nat}(f h:Nat→Nat→Bool):rows n (GA f h 0)=rows n f:=by
 unfold rows GA;simp
theorem N6{n:Nat}(hn:n≤64)(f h:Nat→Nat→Bool):rows n (GA f h n)=rows n h:=by
 rw[eM hn];intro x y hx _;simp[GA,hx]
theorem N7{n:Nat}(hn:n≤64)(f h:Nat→Nat→Bool){k:Nat}(hk:k<n):(rows n (GA f h k)).set k (row n (h k))=rows n (GA f h (k+1)):=by
 rw[uA _ hk,eM hn]
 intro x y _ _
 unfold GA
 by_cases hx:x=k
 ·subst hx;simp
 ·by_cases hlt:x<k
  ·simp[hx,hlt,show x<k+1 by omega]
  ·simp[hx,hlt,show ¬x<k+1 by omega]
theorem Ns{n:Nat}(hn:n≤64)(p q:Nat→Bool):row n p|||row n q=row n (fun i=>p i||q i):=by
 apply Bv.ext
 intro i _
 rw[BitVec.getLsbD_or,qs hn,qs hn,qs hn]
 by_cases hi:i<n <;> simp[hi]

def BW(f h:Nat→Nat→Bool):Nat→Nat→Bool:=fun x y=>f x y||h x y
theorem N5{n m:Nat}(hn:n≤64)(hm:m≤64)(f h:Nat→Nat→Bool):G.sn (gr n f) (gr m h)=some (decide (n=m)):=by
 unfold G.sn
 simp[zR hn,zR hm,Int.ofNat_inj]
theorem ku{n:Nat}(hn:n≤64)(f h:Nat→Nat→Bool):G.ku (gr n f) (gr n h)=some (gr n (BW f h),0):=by
 unfold G.ku
 simp only[N5 hn hn,decide_true,Option.bind_some,Bool.not_true,Bool.false_eq_true,if_false,fu n hn]
 refine count (fun k=>rows n (GA (fun _ _=>false) (BW f h) k)) n _ (bD (by omega)) (fun k hk=> ?_) ?_ (by rw[LM,rj])
 ·simp only[G.o5,m_,List.length_replicate,dec_lt,hk,decide_true,if_true,mo hk,Option.bind_some,Gv,Ns hn,vS,Sh.next,bf (show k<9223372036854775807 by omega)]
  have:=N7 hn (fun _ _=>false) (BW f h) hk
  rw[←this];rfl
 ·simp only[G.o5,m_,List.length_replicate,Int.lt_irrefl,decide_false,Bool.false_eq_true,if_false,G.qH,nu,N6 hn]
theorem CN{s:BitVec 64}{k:Nat}(h:k<(Bv.list s).length):Sh.idx (lJ s) (k:Int)=some (((Bv.list s)[k]:Nat):Int):=by
 have h':k<(lJ s).length:=by simpa [lJ] using h
 rw[cI h'];simp[lJ]
theorem vI{n:Nat}(hn:n≤64)(p:Nat→Bool){i:Nat}:i∈Bv.list (row n p)↔i<n∧p i=true:=by
 rw[Bv.CS,qs hn];simp
theorem Ed{n:Nat}(hn:n≤64)(p:Nat→Bool){k:Nat}(h:k<(Bv.list (row n p)).length):(Bv.list (row n p))[k]<n:=((vI hn p).1 (List.getElem_mem h)).1
theorem Qj{l:List Nat}{k:Nat}(h:k<l.length)(q:Nat→Bool):(l.take (k+1)).any q=((l.take k).any q||q l[k]):=by
 rw[List.take_succ_eq_append_getElem h,List.any_append];simp
def xw(n:Nat)(f h:Nat→Nat→Bool):Nat→Nat→Bool:=fun x y=>(List.range n).any fun z=>f x z&&h z y
theorem Qy{n:Nat}(hn:n≤64)(f h:Nat→Nat→Bool)(x:Nat):row n (fun y=>(Bv.list (row n (f x))).any fun z=>h z y)=row n (xw n f h x):=by
 rw[yR hn]
 intro y _
 unfold xw
 rw[Bool.eq_iff_iff,List.any_eq_true,List.any_eq_true]
 constructor
 ·rintro⟨z,h1,h2⟩
  obtain⟨h3,h4⟩:=(vI hn _).1 h1
  exact⟨z,by simpa using h3,by simp[h4,h2]⟩
 ·rintro⟨z,h1,h2⟩
  simp only[Bool.and_eq_true] at h2
  exact⟨z,(vI hn _).2 ⟨by simpa using h1,h2.1⟩,h2.2⟩
theorem ME{n:Nat}(hn:n≤64)(h:Nat→Nat→Bool)(F:Nat→Nat→Bool){x:Nat}(hx:x<n)(p:Nat→Bool)(hF:∀y,y<n→F x y=false):
  Sh.loop (fun(q:(List (BitVec 64))×Int)=>G.kT (gr n h) (x:Int) (lJ (row n p)) q.1 q.2) (rows n F,0)=
   some (.inl ((rows n F).set x (row n (fun y=>(Bv.list (row n p)).any fun z=>h z y)),((x+1:Nat):Int))):=by
 refine count (fun k=>(rows n F).set x (row n (fun y=>((Bv.list (row n p)).take k).any fun z=>h z y))) (Bv.list (row n p)).length _ (bD (by have:=Bv.o8 (row n p);omega)) (fun k hk=> ?_) ?_ ?_
 ·have hz:=Ed hn p hk
  have hl:Sh.len (lJ (row n p))=((Bv.list (row n p)).length:Int):=by simp[lJ,Sh.len]
  have hs:∀r:BitVec 64,Sh.idx ((rows n F).set x r) (x:Int)=some r:=fun r=>by
   rw[cI (by simpa using hx)];simp
  simp only[G.kT,hl,dec_lt,hk,decide_true,if_true,CN hk,Option.bind_some,hs,mo hz,Gv,Ns hn,vS,List.set_set,Sh.next,bf (show k<9223372036854775807 by have:=Bv.o8 (row n p);omega)]
  congr 5
  funext y
  rw[Qj hk]
 ·have hl:Sh.len (lJ (row n p))=((Bv.list (row n p)).length:Int):=by simp[lJ,Sh.len]
  simp only[G.kT,hl,Int.lt_irrefl,decide_false,Bool.false_eq_true,if_false,G.oY,xO,nu,List.take_length,bf (show x<9223372036854775807 by omega)]
 ·rw[uA _ hx,eM hn]
  intro a y _ hy
  by_cases ha:a=x
  ·subst ha;simp[hF y hy]
  ·simp[ha]
theorem nj{n:Nat}(hn:n≤64)(f h:Nat→Nat→Bool):G.nj (gr n f) (gr n h)=some (gr n (xw n f h),0):=by
 unfold G.nj
 simp only[N5 hn hn,decide_true,Option.bind_some,Bool.not_true,Bool.false_eq_true,if_false,fu n hn]
 refine count (fun k=>rows n (GA (fun _ _=>false) (xw n f h) k)) n _ (bD (by omega)) (fun k hk=> ?_) ?_ (by rw[LM,rj])
 ·simp only[G.nx,m_,List.length_replicate,dec_lt,hk,decide_true,if_true,mo hk,Option.bind_some,mz]
  rw[ME hn h (GA (fun _ _=>false) (xw n f h) k) hk (f k) (fun y _=>by simp[GA]),Qy hn,N7 hn _ _ hk]
 ·simp only[G.nx,m_,List.length_replicate,Int.lt_irrefl,decide_false,Bool.false_eq_true,if_false,G.oX,nu,N6 hn]
def wA(n:Nat)(f:Nat→Nat→Bool):List G.aY:=(List.range n).flatMap fun x=>(lJ (row n (f x))).map fun y=>⟨(x:Int),y⟩
theorem MI(n:Nat)(f:Nat→Nat→Bool)(k:Nat)(_h:k<n):((List.range (k+1)).flatMap fun x=>(lJ (row n (f x))).map fun y=>(⟨(x:Int),y⟩:G.aY))=((List.range k).flatMap fun x=>(lJ (row n (f x))).map fun y=>(⟨(x:Int),y⟩:G.aY))++(lJ (row n (f k))).map fun y=>⟨(k:Int),y⟩:=by
 rw[List.range_succ,List.flatMap_append];simp
theorem Ib(n:Nat)(f:Nat→Nat→Bool)(k:Nat):((List.range k).flatMap fun x=>(lJ (row n (f x))).map fun y=>(⟨(x:Int),y⟩:G.aY)).length≤64*k:=by
 induction k with
 |zero=>simp
 |succ k ih=>
  rw[List.range_succ,List.flatMap_append,List.length_append]
  have:=Ij (row n (f k))
  simp only[List.flatMap_cons,List.flatMap_nil,List.append_nil,List.length_map]
  omega
theorem KB(x:Nat)(hx:x<64)(s:BitVec 64)(acc:List G.aY)(hacc:acc.length≤4096):
  Sh.loop (fun(p:(List G.aY)×Int)=>G.nK (x:Int) (lJ s) p.1 p.2) (acc,0)=some (.inl (acc++(lJ s).map (fun y=>⟨(x:Int),y⟩),((x+1:Nat):Int))):=by
 have hl:=Ij s
 refine count (fun k=>acc++((lJ s).take k).map (fun y=>⟨(x:Int),y⟩)) (lJ s).length _ (bD (by omega)) (fun k hk=> ?_) ?_ (by simp)
 ·simp only[G.nK,m_,dec_lt,hk,decide_true,if_true,cI hk,Option.bind_some]
  rw[m7 (by simp;omega)]
  simp only[Option.bind_some,Sh.next,bf (show k<9223372036854775807 by omega)]
  rw[List.take_succ_eq_append_getElem hk,List.map_append,List.append_assoc]
  rfl
 ·simp only[G.nK,m_,Int.lt_irrefl,decide_false,Bool.false_eq_true,if_false,G.qE,xO,nu,List.take_length,bf (show x<9223372036854775807 by omega)]
theorem pz{n:Nat}(hn:n≤64)(f:Nat→Nat→Bool):G.pz (gr n f)=some (wA n f):=by
 unfold G.pz
 simp only[zR hn,Option.bind_some,Bool.not_true,Bool.false_eq_true,if_false]
 refine count (fun k=>(List.range k).flatMap fun x=>(lJ (row n (f x))).map fun y=>⟨(x:Int),y⟩) n _ (bD (by omega)) (fun k hk=> ?_) ?_ (by simp)
 ·have hl:=Ib n f k
  simp only[G.oZ,m_,L5,dec_lt,hk,decide_true,if_true,mo hk,Option.bind_some,mz]
  rw[KB k (by omega) _ _ (by omega),MI n f k hk]
 ·simp only[G.oZ,m_,L5,Int.lt_irrefl,decide_false,Bool.false_eq_true,if_false,G.qD,nu]
  rfl
theorem DN{n:Nat}(hn:n≤64)(f:Nat→Nat→Bool){e:G.aY}:e∈wA n f↔∃x y:Nat,x<n∧y<n∧f x y=true∧e=⟨(x:Int),(y:Int)⟩:=by
 simp only[wA,List.mem_flatMap,List.mem_range,List.mem_map,lJ,vI hn]
 constructor
 ·rintro⟨x,hx,_,⟨y,⟨hy,hf⟩,rfl⟩,rfl⟩
  exact⟨x,y,hx,hy,hf,rfl⟩
 ·rintro⟨x,y,hx,hy,hf,rfl⟩
  exact⟨x,hx,_,⟨y,⟨hy,hf⟩,rfl⟩,rfl⟩
theorem QH{n:Nat}(hn:n≤64)(f:Nat→Nat→Bool):(wA n f).length≤4096:=by
 have:=Ib n f n
 unfold wA;omega

def GX(f:Nat→Nat→Bool):Nat→Nat→Bool:=fun x y=>f y x
def FL(l:List G.aY):Nat→Nat→Bool:=fun x y=>l.any fun e=>decide (e.B=(x:Int))&&decide (e.A=(y:Int))
theorem QY{n:Nat}(hn:n≤64)(l:List G.aY){x y:Nat}(hx:x<n)(hy:y<n):
  (rows n (FL l)).set x (row n (FL l x)|||Bv.bit (y:Int))=rows n (FL (l++[⟨(y:Int),(x:Int)⟩])):=by
 rw[xR hn _ hy,uA _ hx,eM hn]
 intro a b _ _
 unfold FL
 rw[List.any_append]
 by_cases ha:a=x
 ·subst ha
  by_cases hb:b=y
  ·subst hb;simp
  ·have:¬y=b:=fun h=>hb h.symm
   simp[hb,Int.ofNat_inj,this]
 ·have:¬x=a:=fun h=>ha h.symm
  simp[ha,Int.ofNat_inj,this]
theorem qG{n:Nat}(hn:n≤64)(f:Nat→Nat→Bool):G.qG (gr n f)=some (gr n (GX f),0):=by
 unfold G.qG
 simp only[zR hn,Option.bind_some,Bool.not_true,Bool.false_eq_true,if_false,fu n hn,pz hn]
 have hl:=QH hn f
 refine count (fun k=>rows n (FL ((wA n f).take k))) (wA n f).length _ (bD (by omega)) (fun k hk=> ?_) ?_ ?_
 ·obtain⟨x,y,hx,hy,_,he⟩:=(DN hn f).1 (List.getElem_mem hk)
  simp only[G.qb,m_,dec_lt,hk,decide_true,if_true,cI hk,Option.bind_some,he,mo hy,p6,vS,QY hn _ hy hx,Sh.next,bf (show k<9223372036854775807 by omega)]
  rw[List.take_succ_eq_append_getElem hk,he]
 ·simp only[G.qb,m_,Int.lt_irrefl,decide_false,Bool.false_eq_true,if_false,G.rO,nu,List.take_length]
  have:rows n (FL (wA n f))=rows n (GX f):=by
   rw[eM hn]
   intro x y hx hy
   unfold FL GX
   rw[Bool.eq_iff_iff,List.any_eq_true]
   constructor
   ·rintro⟨e,h1,h2⟩
    obtain⟨a,b,_,_,h5,rfl⟩:=(DN hn f).1 h1
    simp only[Bool.and_eq_true,decide_eq_true_eq,Int.ofNat_inj] at h2
    obtain⟨rfl,rfl⟩:=h2
    exact h5
   ·intro h
    exact⟨⟨(y:Int),(x:Int)⟩,(DN hn f).2 ⟨y,x,hy,hx,h,rfl⟩,by simp⟩
  rw[this]
 ·rw[rj];rfl
end Pl
end

section
/- The reference's graphs. -/
namespace Pl
open Go Go.Av

theorem wJ{n:Nat}(hn:n≤64)(f:Nat→Nat→Bool){a:Nat}(ha:a<n){b:Nat}(hb:b<n):G.ew (rg n f) (a:Int) (b:Int)=some (f a b):=by
 unfold G.ew
 simp only[mo ha,Option.bind_some,JR,VA hn _ hb]
theorem Bf(n:Nat)(hn:n≤64):G.fH (n:Int)=some ⟨(n:Int),List.replicate n 0#64⟩:=by
 unfold G.fH
 refine count (fun k=>List.replicate k 0#64) n _ (bD (by omega)) (fun k hk=> ?_) ?_ rfl
 ·simp only[G.j9,dec_lt,hk,decide_true,if_true]
  rw[m7 (by simp;omega)]
  simp only[Option.bind_some,Sh.next,bf (show k<9223372036854775807 by omega)]
  rw[List.replicate_succ']
 ·simp only[G.j9,Int.lt_irrefl,decide_false,Bool.false_eq_true,if_false,G.mW,nu]
theorem Pn(g:G.ak)(hl:g.Rows.length<9223372036854775808):G.iF g=some (GM g.N g.Rows):=by
 unfold G.iF G.fQ GM
 obtain⟨N,R⟩:=g
 by_cases h1:0≤N
 ·by_cases h2:N≤64
  ·by_cases h3:(R.length:Int)=N
   ·subst h3
    have g1:¬((R.length:Int)<0):=by omega
    have g2:¬((64:Int)<R.length):=by omega
    have hR:R.length≤64:=by omega
    simp only[g1,g2,h1,h2,decide_false,Bool.false_eq_true,if_false,m_,ne_eq,not_true_eq_false,true_and]
    have key:=Bh (b:=fun(p:Int)=>G.fO ⟨(R.length:Int),R⟩ p) R.length (fun k=>decide (∀j:Nat,j<64→R.length≤j→(R.getD k 0#64).getLsbD j=false)) hl (fun k hk=> ?_) ?_
    ·rw[key]
     congr 2
     apply propext
     simp only[decide_eq_true_eq]
     constructor
     ·intro h r hr i hi hN
      obtain⟨k,hk,rfl⟩:=List.getElem_of_mem hr
      have:=h k hk i hi (by omega)
      simpa [List.getD,hk] using this
     ·intro h k hk j hj hjk
      have:=h R[k] (List.getElem_mem hk) j hj (by omega)
      simpa [List.getD,hk] using this
    ·have hg:R.getD k 0#64=R[k]:=by simp[List.getD,hk]
     simp only[G.fO,dec_lt,hk,decide_true,if_true,hg]
     have:=scan (b:=fun(p:Int)=>G.fP ⟨(R.length:Int),R⟩ (k:Int) p) R.length 64 (fun j=> !R[k].getLsbD j) (some (.inl ((k+1:Nat):Int))|>.getD (.inr true)) (.inr false) hR (bD (by omega)) (fun j hj UD=> ?_) ?_
     ·rw[this]
      by_cases hq:∀j,j<64→R.length≤j→R[k].getLsbD j=false
      ·have hq':∀j,j<64→R.length≤j→(!R[k].getLsbD j)=true:=fun j a b=>by simp[hq j a b]
       rw[if_pos hq',decide_eq_true hq];rfl
      ·have hq':¬∀j,j<64→R.length≤j→(!R[k].getLsbD j)=true:=fun h=>hq (fun j a b=>by simpa using h j a b)
       rw[if_neg hq',decide_eq_false hq];rfl
     ·have hj':(j:Int)<64:=by omega
      simp only[G.fP,hj',decide_true,if_true,cI hk,Option.bind_some,JR,Jl _ UD,Sh.next,nu,bf (show j<9223372036854775807 by omega)]
      cases R[k].getLsbD j <;> rfl
     ·simp[G.fP,G.kJ,Sh.exit,Sh.next,bf (show k<9223372036854775807 by omega)]
    ·simp[G.fO,G.kI,Sh.exit]
   ·have g1:¬N<0:=by omega
    have g2:¬(64:Int)<N:=by omega
    simp[g1,g2,h3]
  ·have g1:¬N<0:=by omega
   have g2:(64:Int)<N:=by omega
   simp[g1,g2,h2]
 ·have g1:N<0:=by omega
  simp[g1,h1]

def yG(h:Nat→Nat→Bool)(x y:Nat):Nat→Nat→Bool:=fun a b=>if a<x then h a b else if a=x then decide (b<y)&&h a b else false
theorem SY{n:Nat}(hn:n≤64)(h:Nat→Nat→Bool):rows n (yG h 0 0)=List.replicate n 0#64:=by
 rw[rj,eM hn]
 intro a b _ _
 unfold yG
 by_cases ha:a=0 <;> simp[ha]
theorem SX{n:Nat}(hn:n≤64)(h:Nat→Nat→Bool)(x:Nat):rows n (yG h x n)=rows n (yG h (x+1) 0):=by
 rw[eM hn]
 intro a b _ hb
 unfold yG
 by_cases h1:a<x
 ·simp[h1,show a<x+1 by omega]
 ·by_cases h2:a=x
  ·subst h2;simp[hb]
  ·simp[h1,h2,show ¬a<x+1 by omega]
theorem UZ{n:Nat}(hn:n≤64)(h:Nat→Nat→Bool):rows n (yG h n 0)=rows n h:=by
 rw[eM hn]
 intro a b ha _
 simp[yG,ha]
theorem Y6{n:Nat}(hn:n≤64)(h:Nat→Nat→Bool){x y:Nat}(he:h x y=false):rows n (yG h x y)=rows n (yG h x (y+1)):=by
 rw[eM hn]
 intro a b _ _
 unfold yG
 by_cases h1:a<x
 ·simp[h1]
 ·by_cases h2:a=x
  ·subst h2
   by_cases h3:b<y
   ·simp[h3,show b<y+1 by omega]
   ·by_cases h4:b=y
    ·subst h4;simp[he]
    ·simp[h3,show ¬b<y+1 by omega]
  ·simp[h1,h2]
theorem U0{n:Nat}(h:Nat→Nat→Bool){x y:Nat}(hx:x<n):Sh.idx (rows n (yG h x y)) (x:Int)=some (row n (yG h x y x)):=mo hx
theorem N4{n:Nat}(hn:n≤64)(h:Nat→Nat→Bool){x y:Nat}(hx:x<n)(hy:y<n)(he:h x y=true):
  Sh.set (rows n (yG h x y)) (x:Int) (row n (yG h x y x)|||Bv.bit (y:Int))=rows n (yG h x (y+1)):=by
 rw[vS,xR hn _ hy,uA _ hx,eM hn]
 intro a b _ _
 by_cases ha:a=x
 ·subst ha
  unfold yG
  by_cases h3:b<y
  ·have:¬b=y:=by omega
   simp[h3,show b<y+1 by omega,this]
  ·by_cases h4:b=y
   ·subst h4;simp[he]
   ·simp[h3,h4,show ¬b<y+1 by omega]
 ·simp only[ha,if_false]
  unfold yG
  by_cases h1:a<x <;> simp[h1,ha]
theorem Bg{n:Nat}(hn:n≤64)(f h:Nat→Nat→Bool):G.gu (rg n f) (rg n h)=some (rg n (BW f h)):=by
 unfold G.gu
 simp only[Bf n hn,Option.bind_some]
 refine count (fun x=>rows n (yG (BW f h) x 0)) n _ (bD (by omega)) (fun x hx=> ?_) ?_ (by rw[SY hn])
 ·simp only[G.hU,dec_lt,hx,decide_true,if_true]
  refine count (fun y=>rows n (yG (BW f h) x y)) n _ (bD (by omega)) (fun y hy=> ?_) ?_ rfl
  ·have e:BW f h x y=(f x y||h x y):=rfl
   simp only[G.hY,dec_lt,hy,decide_true,if_true,wJ hn f hx hy,wJ hn h hx hy,Option.bind_some,G.h_,G.ia,U0 _ hx,vP,Sh.next,bf (show y<9223372036854775807 by omega)]
   cases h1:f x y with
   |true=>simp only[if_true,N4 hn (BW f h) hx hy (by rw[e,h1];rfl)]
   |false=>
    cases h2:h x y with
    |true=>simp only[Bool.false_eq_true,if_false,if_true,N4 hn (BW f h) hx hy (by rw[e,h1,h2];rfl)]
    |false=>simp only[Bool.false_eq_true,if_false,Y6 hn (BW f h) (show BW f h x y=false by rw[e,h1,h2];rfl)]
  ·simp only[G.hY,Int.lt_irrefl,decide_false,Bool.false_eq_true,if_false,G.kL,xO,nu,SX hn,bf (show x<9223372036854775807 by omega)]
 ·simp only[G.hU,Int.lt_irrefl,decide_false,Bool.false_eq_true,if_false,G.kK,nu,UZ hn]
end Pl
namespace Pl
open Go Go.Av
def sk(c:Nat→Nat→Bool)(x:Nat)(p:Nat→Bool):Nat→Nat→Bool:=fun a b=>if a<x then c a b else if a=x then p b else false
theorem FW{n:Nat}(hn:n≤64)(c:Nat→Nat→Bool):rows n (sk c 0 fun _=>false)=List.replicate n 0#64:=by
 rw[rj,eM hn]
 intro a b _ _
 simp[sk]
theorem FU{n:Nat}(hn:n≤64)(c:Nat→Nat→Bool)(x:Nat):rows n (sk c x (c x))=rows n (sk c (x+1) fun _=>false):=by
 rw[eM hn]
 intro a b _ _
 unfold sk
 by_cases h1:a<x
 ·simp[h1,show a<x+1 by omega]
 ·by_cases h2:a=x
  ·subst h2;simp
  ·simp[h1,h2,show ¬a<x+1 by omega]
theorem Ji{n:Nat}(hn:n≤64)(c:Nat→Nat→Bool):rows n (sk c n fun _=>false)=rows n c:=by
 rw[eM hn]
 intro a b ha _
 simp[sk,ha]
theorem s7{n:Nat}(hn:n≤64)(c:Nat→Nat→Bool)(x:Nat){p q:Nat→Bool}(h:∀b,b<n→p b=q b):rows n (sk c x p)=rows n (sk c x q):=by
 rw[eM hn]
 intro a b _ hb
 simp[sk,h b hb]
theorem FV{n:Nat}(hn:n≤64)(c:Nat→Nat→Bool){x y:Nat}(hx:x<n)(hy:y<n)(p:Nat→Bool):
  Sh.set (rows n (sk c x p)) (x:Int) (row n (sk c x p x)|||Bv.bit (y:Int))=rows n (sk c x fun b=>p b||decide (b=y)):=by
 rw[vS,xR hn _ hy,uA _ hx,eM hn]
 intro a b _ _
 by_cases ha:a=x
 ·subst ha;simp[sk]
 ·simp[ha,sk]
theorem LY{n:Nat}(hn:n≤64)(f h:Nat→Nat→Bool):G.iT (rg n f) (rg n h)=some (rg n (xw n f h)):=by
 unfold G.iT
 simp only[Bf n hn,Option.bind_some]
 refine count (fun x=>rows n (sk (xw n f h) x fun _=>false)) n _ (bD (by omega)) (fun x hx=> ?_) ?_ (by rw[FW hn])
 ·simp only[G.fU,dec_lt,hx,decide_true,if_true]
  refine count (fun y=>rows n (sk (xw n f h) x fun b=>(List.range y).any fun z=>f x z&&h z b)) n _ (bD (by omega)) (fun y hy=> ?_) ?_ (by simp)
  ·simp only[G.fV,dec_lt,hy,decide_true,if_true,wJ hn f hx hy,Option.bind_some]
   have step:rows n (sk (xw n f h) x fun b=>((List.range y).any fun z=>f x z&&h z b)||(f x y&&h y b))=rows n (sk (xw n f h) x fun b=>(List.range (y+1)).any fun z=>f x z&&h z b):=by
    apply s7 hn
    intro b _
    rw[List.range_succ,List.any_append];simp
   cases hf:f x y with
   |false=>
    rw[hf] at step
    simp only[Bool.false_and,Bool.or_false] at step
    simp only[Bool.not_false,if_true,G.eY,Sh.next,bf (show y<9223372036854775807 by omega),step]
   |true=>
    rw[hf] at step
    simp only[Bool.true_and] at step
    simp only[Bool.not_true,Bool.false_eq_true,if_false]
    refine count (fun z=>rows n (sk (xw n f h) x fun b=>((List.range y).any fun z=>f x z&&h z b)||(decide (b<z)&&h y b))) n _ (bD (by omega)) (fun z hz=> ?_) ?_ (s7 hn _ x (fun b _=>by simp))
    ·have hz':(z:Int)<(n:Int):=by omega
     simp only[G.fW,dec_lt,hz,decide_true,if_true,wJ hn h hy hz,Option.bind_some,G.fX,mo hx,vP,Sh.next,bf (show z<9223372036854775807 by omega),FV hn _ hx hz]
     cases hh:h y z with
     |true=>
      simp only[if_true]
      congr 3
      apply s7 hn
      intro b _
      by_cases h1:b<z
      ·have:¬b=z:=by omega
       simp[h1,show b<z+1 by omega,this]
      ·by_cases h2:b=z
       ·subst h2;simp[hh]
       ·simp[h1,h2,show ¬b<z+1 by omega]
     |false=>
      simp only[Bool.false_eq_true,if_false]
      congr 3
      apply s7 hn
      intro b _
      by_cases h1:b<z
      ·simp[h1,show b<z+1 by omega]
      ·by_cases h2:b=z
       ·subst h2;simp[hh]
       ·simp[h1,show ¬b<z+1 by omega]
    ·simp only[G.fW,Int.lt_irrefl,decide_false,Bool.false_eq_true,if_false,G.eY,xO,nu,bf (show y<9223372036854775807 by omega)]
     congr 4
     rw[←step]
     apply s7 hn
     intro b hb
     simp[hb]
  ·simp only[G.fV,Int.lt_irrefl,decide_false,Bool.false_eq_true,if_false,G.iV,xO,nu,bf (show x<9223372036854775807 by omega)]
   rw[←FU hn];rfl
 ·simp only[G.fU,Int.lt_irrefl,decide_false,Bool.false_eq_true,if_false,G.iU,nu,Ji hn]
end Pl
end

section
/- Where ways lead. -/


namespace Pl
open Go Go.Av

inductive Way (n:Nat) (f:Nat→Nat→Bool):Nat→Nat→Prop
 |Bl {x y:Nat}:x<n→y<n→f x y=true→Way n f x y
 |cons {x y z:Nat}:x<n→y<n→f x y=true→Way n f y z→Way n f x z

theorem Way.trans{n:Nat}{f:Nat→Nat→Bool}{x y z:Nat}(h:Way n f x y)(k:Way n f y z):Way n f x z:=by
 induction h with
 |Bl hx hy hf=>exact .cons hx hy hf k
 |cons hx hy hf _ ih=>exact .cons hx hy hf (ih k)
theorem Way.left{n:Nat}{f:Nat→Nat→Bool}{x y:Nat}(h:Way n f x y):x<n:=by cases h <;> assumption
theorem Way.right{n:Nat}{f:Nat→Nat→Bool}{x y:Nat}(h:Way n f x y):y<n:=by
 induction h with
 |Bl _ hy _=>exact hy
 |cons _ _ _ _ ih=>exact ih
theorem Way.mono{n:Nat}{f h:Nat→Nat→Bool}(hm:∀x y,x<n→y<n→f x y=true→Way n h x y){x y:Nat}(w:Way n f x y):Way n h x y:=by
 induction w with
 |Bl hx hy hf=>exact hm _ _ hx hy hf
 |cons hx hy hf _ ih=>exact(hm _ _ hx hy hf).trans ih
theorem Way.last{n:Nat}{f:Nat→Nat→Bool}{x z:Nat}(h:Way n f x z):∃y,y<n∧f y z=true∧(y=x∨Way n f x y):=by
 induction h with
 |Bl hx hy hf=>exact⟨_,hx,hf,.inl rfl⟩
 |cons hx hy hf _ ih=>
  obtain⟨y,h1,h2,h3⟩:=ih
  refine⟨y,h1,h2,.inr ?_⟩
  rcases h3 with rfl|h3
  ·exact .Bl hx hy hf
  ·exact .cons hx hy hf h3

end Pl
end

section
/- The statements on graphs. -/

namespace Pl
open Go Go.Av

end Pl
end

section
/- The statements on where ways lead. -/

namespace Pl
open Go Go.Av

end Pl
end

section
/- The reference's graphs of a history: what must come ahead of what. -/
namespace Pl
open Go Go.Av

theorem A9{h:G.ah}{x:Nat}:inr h (x:Int)=true↔x<h.au.length:=by rw[kD];omega
theorem ta{h:G.ah}{x:Nat}(hx:x<h.au.length):Sh.idx h.au (x:Int)=some (tx h x):=pN (A9.2 hx)
theorem B3{h:G.ah}{x:Nat}(hx:x<h.au.length):tx h x∈h.au:=sB (A9.2 hx)
theorem L9{n:Nat}(hn:n≤64)(f:Nat→Nat→Bool){a b:Nat}(ha:a<n)(hb:b<n):Sh.set (rows n f) (a:Int) (row n (f a)|||Bv.bit (b:Int))=rows n (Es f a b):=by
 rw[xR hn _ hb,vS,uA f ha,eM hn]
 intro x y _ _
 unfold Es
 by_cases hx:x=a
 ·subst hx;simp
 ·simp[hx]

def GR(h:G.ah)(x y:Nat):Bool:=decide (x<y)&&decide ((tx h x).bt=(tx h y).bt)
def Oo(h:G.ah)(x y:Nat):Bool:=(tx h y).Reads.any (fun r=>decide (r.bH=(x:Int)))
def Ce(h:G.ah)(r:G.aC)(y:Nat):Bool:=decide (r.bH= -1)&&n4 (tx h y) r.Key
def DK(h:G.ah)(x y:Nat):Bool:=decide (y≠x)&&(tx h x).Reads.any (fun r=>Ce h r y)
def Mr(l:List G.aa)(x y:Nat):Bool:=l.any (fun c=>decide (c.A=(x:Int))&&decide (c.B=(y:Int)))
def Qa(h:G.ah)(c:G.aa)(x y:Nat):Bool:=decide (c.B=(y:Int))&&decide (x≠y)&&decide (qp h x c.Key=some c.A)
def IE(h:G.ah)(l:List G.aa)(x y:Nat):Bool:=DK h x y||l.any (fun c=>Qa h c x y)


theorem uC{α:Type}{l:List α}{k:Nat}(h:k<l.length)(q:α→Bool):(l.take (k+1)).any q=((l.take k).any q||q l[k]):=by
 rw[List.take_add_one,List.getElem?_eq_getElem h,Option.toList_some,List.any_append,List.any_cons,List.any_nil,Bool.or_false]
theorem Zp{h:G.ah}(hn:h.au.length≤64):G.om h=some (rg h.au.length (GR h)):=by
 unfold G.om
 rw[show(Sh.len h.au)=((h.au.length:Nat):Int) from rfl,Bf _ hn]
 simp only[Option.bind_some]
 refine cT (fun k=>rows h.au.length (sk (GR h) k fun _=>false)) h.au.length _ (bD (by omega)) (fun a ha=> ?_) ?_ (by rw[FW hn])
 ·simp only[G.kX,dec_lt,ha,decide_true,if_true]
  rw[bf (by omega)]
  refine gB (fun j=>(rows h.au.length (sk (GR h) a fun y=>decide (y<a+1+j)&&GR h a y),((a+1+j:Nat):Int))) (h.au.length - (a+1)) _ (bD (by omega)) (fun j hj=> ?_) ?_ ?_
  ·have hb:a+1+j<h.au.length:=by omega
   have ne:rows h.au.length (sk (GR h) a fun y=>(decide (y<a+1+j)&&GR h a y)||(decide (y=a+1+j)&&GR h a (a+1+j)))=rows h.au.length (sk (GR h) a fun y=>decide (y<a+1+(j+1))&&GR h a y):=by
    apply s7 hn
    intro y hy
    by_cases e2:y=a+1+j
    ·subst e2;simp
    ·have:(y<a+1+(j+1))↔(y<a+1+j):=by omega
     simp[e2,this]
   simp only[G.kY,dec_lt,hb,decide_true,if_true,ta ha,ta hb,Option.bind_some,mo ha,vP,FV hn _ ha hb,G.kZ,bf (show a+1+j<9223372036854775807 by omega),Sh.next]
   have hlt:decide (a<a+1+j)=true:=by simp;omega
   by_cases hs:(tx h a).bt=(tx h (a+1+j:Nat)).bt
   ·have hso:GR h a (a+1+j)=true:=by unfold GR;rw[hlt,hs];simp
    rw[←ne,hso]
    simp only[hs,decide_true,if_true,Bool.and_true]
    rfl
   ·have hso:GR h a (a+1+j)=false:=by unfold GR;rw[decide_eq_false hs];simp
    rw[←ne,hso]
    simp only[hs,decide_false,Bool.false_eq_true,if_false,Bool.and_false,Bool.or_false]
    rfl
  ·rw[show a+1+(h.au.length - (a+1))=h.au.length by omega]
   simp only[G.kY,dec_lt,Nat.lt_irrefl,decide_false,Bool.false_eq_true,if_false,G.nP,bf (show a<9223372036854775807 by omega),Sh.next]
   rw[←FU hn]
   congr 4
   exact s7 hn _ _ fun y hy=>by simp[hy]
  ·congr 1
   refine s7 hn _ _ fun y hy=> ?_
   by_cases e2:y<a+1
   ·have:¬a<y:=by omega
    simp[GR,this]
   ·simp[e2]
 ·simp only[G.kX,dec_lt,Nat.lt_irrefl,decide_false,Bool.false_eq_true,if_false,G.nO]
  rw[Ji hn]

def wV(c:Nat→Nat→Bool)(t:Nat)(p:Nat→Bool):Nat→Nat→Bool:=fun a b=>if b<t then c a b else if b=t then p a else false
theorem OR{n:Nat}(hn:n≤64)(c:Nat→Nat→Bool):rows n (wV c 0 fun _=>false)=List.replicate n 0#64:=by
 rw[rj,eM hn]
 intro a b _ _
 simp[wV]
theorem OP{n:Nat}(hn:n≤64)(c:Nat→Nat→Bool)(x:Nat):rows n (wV c x fun a=>c a x)=rows n (wV c (x+1) fun _=>false):=by
 rw[eM hn]
 intro a b _ _
 unfold wV
 by_cases h1:b<x
 ·simp[h1,show b<x+1 by omega]
 ·by_cases h2:b=x
  ·subst h2;simp
  ·simp[h1,h2,show ¬b<x+1 by omega]
theorem Q2{n:Nat}(hn:n≤64)(c:Nat→Nat→Bool):rows n (wV c n fun _=>false)=rows n c:=by
 rw[eM hn]
 intro a b _ hb
 simp[wV,hb]
theorem CI{n:Nat}(hn:n≤64)(c:Nat→Nat→Bool)(x:Nat){p q:Nat→Bool}(h:∀a,a<n→p a=q a):rows n (wV c x p)=rows n (wV c x q):=by
 rw[eM hn]
 intro a b ha _
 simp[wV,h a ha]
theorem OQ{n:Nat}(hn:n≤64)(c:Nat→Nat→Bool){x y:Nat}(hx:x<n)(hy:y<n)(p:Nat→Bool):
  Sh.set (rows n (wV c y p)) (x:Int) (row n (wV c y p x)|||Bv.bit (y:Int))=rows n (wV c y fun a=>p a||decide (a=x)):=by
 rw[vS,xR hn _ hy,uA _ hx,eM hn]
 intro a b _ _
 by_cases ha:a=x
 ·subst ha
  by_cases hb:b=y
  ·subst hb;simp[wV]
  ·simp[wV,hb]
 ·by_cases hb:b=y
  ·subst hb;simp[ha,wV]
  ·simp[ha,wV,hb]

theorem NX{h:G.ah}(hr:right h=true){t:Nat}(ht:t<h.au.length){r:G.aC}(hm:r∈(tx h t).Reads)(h0:¬r.bH<0):∃x:Nat,r.bH=(x:Int)∧x<h.au.length:=by
 have:=(Uw hr (B3 ht) hm h0).1
 obtain⟨a,b⟩:=kD.1 this
 exact⟨r.bH.toNat,by omega,by omega⟩
theorem Zq{h:G.ah}(hf:Fits h)(hr:right h=true)(hn:h.au.length≤64):G.oo h=some (rg h.au.length (Oo h)):=by
 unfold G.oo
 rw[show(Sh.len h.au)=((h.au.length:Nat):Int) from rfl,Bf _ hn]
 simp only[Option.bind_some]
 refine cT (fun k=>rows h.au.length (wV (Oo h) k fun _=>false)) h.au.length _ (bD (by omega)) (fun t ht=> ?_) ?_ (by rw[OR hn])
 ·have hl:=hf.reads _ (B3 ht)
  simp only[G.k5,dec_lt,ht,decide_true,if_true,ta ht,Option.bind_some]
  refine cT (fun i=>rows h.au.length (wV (Oo h) t fun x=>((tx h t).Reads.take i).any (fun r=>decide (r.bH=(x:Int))))) (tx h t).Reads.length _ (bD (by omega)) (fun i hi=> ?_) ?_ (by simp)
  ·have hm:=List.getElem_mem hi
   have ne:rows h.au.length (wV (Oo h) t fun x=>((tx h t).Reads.take i).any (fun r=>decide (r.bH=(x:Int)))||decide (((tx h t).Reads[i]).bH=(x:Int)))=rows h.au.length (wV (Oo h) t fun x=>((tx h t).Reads.take (i+1)).any (fun r=>decide (r.bH=(x:Int)))):=
    CI hn _ _ fun x _=>by rw[uC hi]
   simp only[G.k6,dec_lt,hi,decide_true,if_true,cI hi,Option.bind_some,vP,G.k7,bf (show i<9223372036854775807 by omega),Sh.next]
   by_cases h0:((tx h t).Reads[i]).bH<0
   ·have h1:¬0≤((tx h t).Reads[i]).bH:=by omega
    simp only[h1,decide_false,Bool.false_eq_true,if_false]
    rw[←ne]
    congr 3
    refine CI hn _ _ fun x _=> ?_
    have:¬((tx h t).Reads[i]).bH=(x:Int):=by omega
    simp[this]
   ·have h1:0≤((tx h t).Reads[i]).bH:=by omega
    obtain⟨x,hx,hxn⟩:=NX hr ht hm h0
    simp only[hx,show(0:Int)≤(x:Int) by omega,decide_true,if_true,mo hxn,Option.bind_some,OQ hn _ hxn ht]
    rw[←ne]
    congr 3
    refine CI hn _ _ fun y _=> ?_
    rw[hx]
    congr 1
    rw[Bool.eq_iff_iff]
    simp only[decide_eq_true_eq]
    omega
  ·simp only[G.k6,dec_lt,Nat.lt_irrefl,decide_false,Bool.false_eq_true,if_false,G.nR,bf (show t<9223372036854775807 by omega),Sh.next]
   rw[←OP hn]
   congr 4
   exact CI hn _ _ fun y hy=>by rw[List.take_of_length_le (Nat.le_refl _)];rfl
 ·simp only[G.k5,dec_lt,Nat.lt_irrefl,decide_false,Bool.false_eq_true,if_false,G.nQ]
  rw[Q2 hn]

theorem To{h:G.ah}(hf:Fits h)(hr:right h=true)(hn:h.au.length≤64):G.mE h=some (rg h.au.length (BW (GR h) (Oo h))):=by
 unfold G.mE
 rw[Zp hn,Zq hf hr hn]
 simp only[Option.bind_some,Bg hn]

theorem Tn{h:G.ah}(hf:Fits h)(hn:h.au.length≤64):G.oF h=some (rg h.au.length (DK h)):=by
 unfold G.oF
 rw[show(Sh.len h.au)=((h.au.length:Nat):Int) from rfl,Bf _ hn]
 simp only[Option.bind_some]
 refine cT (fun k=>rows h.au.length (sk (DK h) k fun _=>false)) h.au.length _ (bD (by omega)) (fun t ht=> ?_) ?_ (by rw[FW hn])
 ·have hl:=hf.reads _ (B3 ht)
  simp only[G.iY,dec_lt,ht,decide_true,if_true,ta ht,Option.bind_some]
  refine cT (fun i=>rows h.au.length (sk (DK h) t fun y=>decide (y≠t)&&((tx h t).Reads.take i).any (fun r=>Ce h r y))) (tx h t).Reads.length _ (bD (by omega)) (fun i hi=> ?_) ?_ (by simp)
  ·simp only[G.iZ,dec_lt,hi,decide_true,if_true]
   refine cT (fun w=>rows h.au.length (sk (DK h) t fun y=>(decide (y≠t)&&((tx h t).Reads.take i).any (fun r=>Ce h r y))||(decide (y<w)&&(decide (y≠t)&&Ce h ((tx h t).Reads[i]) y)))) h.au.length _ (bD (by omega)) (fun w hw=> ?_) ?_ (by simp)
   ·have ne:rows h.au.length (sk (DK h) t fun y=>((decide (y≠t)&&((tx h t).Reads.take i).any (fun r=>Ce h r y))||(decide (y<w)&&(decide (y≠t)&&Ce h ((tx h t).Reads[i]) y)))||(decide (y=w)&&(decide (w≠t)&&Ce h ((tx h t).Reads[i]) w)))=rows h.au.length (sk (DK h) t fun y=>(decide (y≠t)&&((tx h t).Reads.take i).any (fun r=>Ce h r y))||(decide (y<w+1)&&(decide (y≠t)&&Ce h ((tx h t).Reads[i]) y))):=
     s7 hn _ _ fun y _=>by
      by_cases e2:y=w
      ·subst e2;simp
      ·have:(y<w+1)↔(y<w):=by omega
       simp[e2,this]
    have hj:∀b:Bool,G.fh t (rows h.au.length (sk (DK h) t fun y=>(decide (y≠t)&&((tx h t).Reads.take i).any (fun r=>Ce h r y))||(decide (y<w)&&(decide (y≠t)&&Ce h ((tx h t).Reads[i]) y)))) w b=some (.inl (rows h.au.length (sk (DK h) t fun y=>((decide (y≠t)&&((tx h t).Reads.take i).any (fun r=>Ce h r y))||(decide (y<w)&&(decide (y≠t)&&Ce h ((tx h t).Reads[i]) y)))||(decide (y=w)&&b)),((w+1:Nat):Int))):=fun b=>by
     unfold G.fh
     simp only[mo ht,Option.bind_some,vP,FV hn _ ht hw,G.ja,bf (show w<9223372036854775807 by omega),Sh.next]
     cases b
     ·simp
     ·simp
    simp only[G.i_,dec_lt,hw,decide_true,if_true,ta hw,cI hi,Option.bind_some,C4 (hf.writes _ (B3 hw)),hj]
    rw[←ne]
    unfold Ce
    have e3:decide ((w:Int)≠(t:Int))=decide (w≠t):=by congr 1;exact propext (by omega)
    rw[e3]
    cases n4 (tx h w) ((tx h t).Reads[i]).Key
    ·simp
    ·by_cases e4:((tx h t).Reads[i]).bH= -1
     ·simp[e4]
     ·simp[e4]
   ·simp only[G.i_,dec_lt,Nat.lt_irrefl,decide_false,Bool.false_eq_true,if_false,G.me,bf (show i<9223372036854775807 by omega),Sh.next]
    congr 4
    refine s7 hn _ _ fun y hy=> ?_
    rw[uC hi]
    simp only[hy,decide_true,Bool.true_and]
    cases decide (y≠t) <;> simp
  ·simp only[G.iZ,dec_lt,Nat.lt_irrefl,decide_false,Bool.false_eq_true,if_false,G.mc,bf (show t<9223372036854775807 by omega),Sh.next]
   rw[←FU hn]
   congr 4
   exact s7 hn _ _ fun y hy=>by rw[List.take_of_length_le (Nat.le_refl _)];rfl
 ·simp only[G.iY,dec_lt,Nat.lt_irrefl,decide_false,Bool.false_eq_true,if_false,G.mb]
  rw[Ji hn]

theorem E0{h:G.ah}{c:G.aa}(h1:one h c=true):∃a b:Nat,c.A=(a:Int)∧c.B=(b:Int)∧a<h.au.length∧b<h.au.length∧a≠b∧n4 (tx h a) c.Key=true∧n4 (tx h b) c.Key=true:=by
 simp only[one,Bool.and_eq_true,decide_eq_true_eq] at h1
 obtain⟨⟨⟨⟨d,e⟩,f⟩,g⟩,k⟩:=h1
 have e':=kD.1 e
 have f':=kD.1 f
 have ea:c.A=((c.A.toNat:Nat):Int):=by omega
 have eb:c.B=((c.B.toNat:Nat):Int):=by omega
 refine⟨c.A.toNat,c.B.toNat,ea,eb,by omega,by omega,by omega, ?_, ?_⟩
 ·rw[←ea];exact g
 ·rw[←eb];exact k
theorem Zs{h:G.ah}(hn:h.au.length≤64){l:List G.aa}(hl:l.length<9223372036854775807)(hone:∀c∈l,one h c=true):G.ou h l=some (rg h.au.length (Mr l)):=by
 unfold G.ou
 rw[show(Sh.len h.au)=((h.au.length:Nat):Int) from rfl,Bf _ hn]
 simp only[Option.bind_some]
 refine cT (fun i=>rows h.au.length (Mr (l.take i))) l.length _ (bD (by omega)) (fun i hi=> ?_) ?_ ?_
 ·obtain⟨a,b,ea,eb,ha,hb,_⟩:=E0 (hone _ (List.getElem_mem hi))
  simp only[G.lg,dec_lt,hi,decide_true,if_true,cI hi,Option.bind_some,ea,eb,mo ha,vP,L9 hn _ ha hb,bf (show i<9223372036854775807 by omega),Sh.next]
  congr 3
  rw[eM hn]
  intro x y _ _
  unfold Es Mr
  rw[uC hi,ea,eb]
  congr 1
  rw[Bool.eq_iff_iff]
  simp only[decide_eq_true_eq,Bool.and_eq_true]
  omega
 ·simp only[G.lg,dec_lt,Nat.lt_irrefl,decide_false,Bool.false_eq_true,if_false,G.nV,List.take_length]
 ·rw[rj]
  congr 1
def jq(h:G.ah)(key frm:Int):List Nat:=(List.range h.au.length).filter fun t:Nat=>decide (qp h t key=some frm)
theorem LX{h:G.ah}(hf:Fits h)(hn:h.au.length≤64)(key frm:Int):G.iP h key frm=some ((jq h key frm).map fun t:Nat=>(t:Int)):=by
 unfold G.iP jq
 refine cT (fun k=>(((List.range k).filter fun t:Nat=>decide (qp h t key=some frm)).map fun t:Nat=>(t:Int))) h.au.length _ (bD (by omega)) (fun k hk=> ?_) ?_ (by simp)
 ·have hj:∀b:Bool,G.eX (((List.range k).filter fun t:Nat=>decide (qp h t key=some frm)).map fun t:Nat=>(t:Int)) k b=some (.inl ((((List.range k).filter fun t:Nat=>decide (qp h t key=some frm)).map fun t:Nat=>(t:Int))++(if b then [(k:Int)] else []),((k+1:Nat):Int))):=fun b=>by
   unfold G.eX
   have hle:((List.range k).filter fun t:Nat=>decide (qp h t key=some frm)).length≤k:=by
    have:=List.length_filter_le (fun t:Nat=>decide (qp h t key=some frm)) (List.range k);simpa using this
   cases b
   ·simp[G.eW,bf (show k<9223372036854775807 by omega),Sh.next]
   ·simp only[if_true]
    rw[m7 (by simp;omega)]
    simp[G.eW,bf (show k<9223372036854775807 by omega),Sh.next]
  simp only[G.fT,dec_lt,hk,decide_true,if_true,Xk hf,Option.bind_some,hj]
  have e:∀v:Option Int,(if(match v with|some v=>(v,true)|none=>((0:Int),false)).2=true then some (Sum.inl (α:=List Int×Int) (β:=List Int) ((((List.range k).filter fun t:Nat=>decide (qp h t key=some frm)).map fun t:Nat=>(t:Int))++(if decide ((match v with|some v=>(v,true)|none=>((0:Int),false)).1=frm)=true then [(k:Int)] else []),((k+1:Nat):Int))) else some (Sum.inl ((((List.range k).filter fun t:Nat=>decide (qp h t key=some frm)).map fun t:Nat=>(t:Int))++(if false=true then [(k:Int)] else []),((k+1:Nat):Int))))=some (.inl ((((List.range k).filter fun t:Nat=>decide (qp h t key=some frm)).map fun t:Nat=>(t:Int))++(if decide (v=some frm) then [(k:Int)] else []),((k+1:Nat):Int))):=fun v=>by
   cases v with
   |none=>simp
   |some v=>by_cases hv:v=frm <;> simp[hv]
  refine(e (qp h k key)).trans ?_
  rw[List.range_succ,List.filter_append,List.map_append]
  by_cases G9:qp h k key=some frm <;> simp[G9]
 ·simp[G.fT,G.iQ,Sh.len]
theorem yO{h:G.ah}{key frm:Int}{t:Nat}(ht:t∈jq h key frm):t<h.au.length∧qp h t key=some frm:=by
 unfold jq at ht
 simpa using ht
theorem Ej{h:G.ah}{key frm:Int}:(jq h key frm).length≤h.au.length:=by
 have:=List.length_filter_le (fun t:Nat=>decide (qp h t key=some frm)) (List.range h.au.length);simpa [jq] using this
theorem Zr{h:G.ah}(hf:Fits h)(hn:h.au.length≤64){l:List G.aa}(hl:l.length<9223372036854775807)(hone:∀c∈l,one h c=true):G.ot h l=some (rg h.au.length (IE h l)):=by
 unfold G.ot
 rw[Tn hf hn]
 simp only[Option.bind_some]
 refine cT (fun i=>rows h.au.length (IE h (l.take i))) l.length _ (bD (by omega)) (fun i hi=> ?_) ?_ ?_
 ·obtain⟨a,b,ea,eb,ha,hb,_⟩:=E0 (hone _ (List.getElem_mem hi))
  simp only[G.k_,dec_lt,hi,decide_true,if_true,cI hi,Option.bind_some,LX hf hn]
  have hlen:=Ej (h:=h) (key:=(l[i]).Key) (frm:=(l[i]).A)
  refine cT (fun k=>rows h.au.length (fun x y=>IE h (l.take i) x y||(decide (y=b)&&decide (x≠b)&&((jq h (l[i]).Key (l[i]).A).take k).any (fun t=>decide (x=t))))) (jq h (l[i]).Key (l[i]).A).length _ (bD (by omega)) (fun k hk=> ?_) ?_ ?_
  ·have G9:k<((jq h (l[i]).Key (l[i]).A).map fun t:Nat=>(t:Int)).length:=by simpa using hk
   have et:((jq h (l[i]).Key (l[i]).A).map fun t:Nat=>(t:Int))[k]=(((jq h (l[i]).Key (l[i]).A)[k]:Nat):Int):=by simp
   obtain⟨htn,_⟩:=yO (List.getElem_mem hk)
   generalize hF:(fun x y=>IE h (l.take i) x y||(decide (y=b)&&decide (x≠b)&&((jq h (l[i]).Key (l[i]).A).take k).any (fun t=>decide (x=t))))=F
   generalize ht:(jq h (l[i]).Key (l[i]).A)[k]=t at htn et
   simp only[G.ld,dec_lt,G9,decide_true,if_true,cI G9,cI hi,Option.bind_some,et,eb,mo htn,vP,L9 hn _ htn hb,G.lf,bf (show k<9223372036854775807 by omega),Sh.next]
   by_cases e:t=b
   ·have e':¬((t:Int)≠(b:Int)):=by omega
    simp only[e',decide_false,Bool.false_eq_true,if_false]
    congr 3
    rw[eM hn]
    intro x y _ _
    rw[←hF,uC hk,ht]
    by_cases hx:x=t
    ·subst hx;simp[e]
    ·simp[hx]
   ·have e':¬((t:Int)=(b:Int)):=by omega
    simp only[ne_eq,e',not_false_eq_true,decide_true,if_true]
    congr 3
    rw[eM hn]
    intro x y _ _
    unfold Es
    rw[←hF,uC hk,ht]
    by_cases hx:x=t
    ·subst hx;by_cases hy:y=b <;> simp[e,hy]
    ·simp[hx]
  ·have hm:((jq h (l[i]).Key (l[i]).A).map fun t:Nat=>(t:Int)).length=(jq h (l[i]).Key (l[i]).A).length:=by simp
   simp only[G.ld,m_,hm,dec_lt,Nat.lt_irrefl,decide_false,Bool.false_eq_true,if_false,G.nU,bf (show i<9223372036854775807 by omega),Sh.next]
   congr 4
   rw[eM hn]
   intro x y hx hy
   rw[List.take_length]
   unfold IE
   rw[uC hi,Bool.or_assoc]
   congr 2
   unfold Qa
   rw[eb,Bool.eq_iff_iff]
   simp only[Bool.and_eq_true,decide_eq_true_eq,List.any_eq_true]
   constructor
   ·rintro⟨⟨h1,h2⟩,t,ht,rfl⟩
    exact⟨⟨by omega,by omega⟩,(yO ht).2⟩
   ·rintro⟨⟨h1,h2⟩,h3⟩
    refine⟨⟨by omega,by omega⟩,x, ?_,rfl⟩
    unfold jq
    simp[hx,h3]
  ·congr 2
   funext x y
   simp
 ·simp only[G.k_,dec_lt,Nat.lt_irrefl,decide_false,Bool.false_eq_true,if_false,G.nT,List.take_length]
 ·congr 2
  funext x y
  simp[IE]

def dF(h:G.ah)(l:List G.aa):Nat→Nat→Bool:=BW (BW (GR h) (Oo h)) (Mr l)
def CH(h:G.ah)(lev:Int)(l:List G.aa):Nat→Nat→Bool:=
 BW (dF h l) (if lev=1 then xw h.au.length (dF h l) (IE h l) else IE h l)
theorem Tp{h:G.ah}(hf:Fits h)(hr:right h=true)(lev:Int){l:List G.aa}(hl:l.length<9223372036854775807)(hone:∀c∈l,one h c=true):G.mF h lev l=some (rg h.au.length (CH h lev l)):=by
 have hn:h.au.length≤64:=by
  simp only[right,Bool.and_eq_true,decide_eq_true_eq] at hr;omega
 unfold G.mF CH
 rw[To hf hr hn,Zs hn hl hone]
 simp only[Option.bind_some,Bg hn,Zr hf hn hl hone]
 by_cases h1:lev=1
 ·simp only[h1,decide_true,if_true,G.gx,LY hn,Option.bind_some]
  rw[show BW (BW (GR h) (Oo h)) (Mr l)=dF h l from rfl,Bg hn]
  rfl
 ·simp only[h1,decide_false,Bool.false_eq_true,if_false,G.gx,Option.bind_some]
  rw[show BW (BW (GR h) (Oo h)) (Mr l)=dF h l from rfl,Bg hn]
  rfl
end Pl
end

section
/- What follows must be so: whoever chooses all pairs, and lets nothing lead back, chooses it too. -/
namespace Pl
open Go Go.Av

end Pl
end

section
/- All pairs, and all ways to choose them. -/
namespace Pl
open Go Go.Av

def Bj(h:G.ah)(key:Int):List Int:=if right h then((List.range h.au.length).filter fun t:Nat=>n4 (tx h t) key).map fun t:Nat=>(t:Int) else []
def Zj(key:Int)(ws:List Int)(i:Nat):List G.aa:=(ws.drop (i+1)).map fun w=>⟨key,ws.getD i 0,w⟩
def Zk(key:Int)(ws:List Int):List G.aa:=(List.range ws.length).flatMap (Zj key ws)
def amb(h:G.ah):List G.aa:=(List.range 16).flatMap fun k:Nat=>Zk k (Bj h k)
theorem Ig{α:Type}(f:Nat→List α)(k:Nat):(List.range (k+1)).flatMap f=(List.range k).flatMap f++f k:=by
 rw[List.range_succ,List.flatMap_append];simp
theorem Uy{h:G.ah}(hr:right h=true){t:G.ai}(ht:t∈h.au){k:Int}(hw:n4 t k=true):0≤k∧k<16:=by
 have key:∀(l:List G.ai) (n:Nat),rS h n l=true→∀t∈l,rising (-1) t.br=true:=by
  intro l
  induction l with
  |nil=>intro n _ t ht;cases ht
  |cons x l ih=>
   intro n hn t ht
   rw[show rS h n (x::l)=(Ee h (n:Nat) x&&rS h (n+1) l) from rfl,Bool.and_eq_true] at hn
   rcases List.mem_cons.1 ht with rfl|ht
   ·have:=hn.1
    simp only[Ee,Bool.and_eq_true] at this
    exact this.1.1.1
   ·exact ih _ hn.2 t ht
 have hri:rising (-1) t.br=true:=by
  simp only[right,Bool.and_eq_true] at hr
  exact key _ 0 hr.2 t ht
 have bd:∀(l:List Int) (last:Int),rising last l=true→∀x∈l,last<x∧x<16:=by
  intro l
  induction l with
  |nil=>intro _ _ x hx;cases hx
  |cons y l ih=>
   intro last hl x hx
   rw[show rising last (y::l)=(decide (last<y)&&decide (y<16)&&rising y l) from rfl] at hl
   simp only[Bool.and_eq_true,decide_eq_true_eq] at hl
   rcases List.mem_cons.1 hx with rfl|hx
   ·exact⟨hl.1.1,hl.1.2⟩
   ·have:=ih _ hl.2 x hx;omega
 unfold n4 at hw
 simp only[List.any_eq_true,decide_eq_true_eq] at hw
 obtain⟨x,hx,rfl⟩:=hw
 have:=bd _ _ hri _ hx
 omega
inductive Qf:List G.aa→List G.aa→Prop
 |nil:Qf [] []
 |so {x:G.aa} {r s:List G.aa}:Qf r s→Qf (x::r) (x::s)
 |not {x:G.aa} {r s:List G.aa}:Qf r s→Qf (x::r) (back x::s)
theorem Qf.len{r s:List G.aa}(h:Qf r s):s.length=r.length:=by induction h <;> simp_all
theorem Qf.mem{r s:List G.aa}(h:Qf r s):∀c∈r,c∈s∨back c∈s:=by
 induction h with
 |nil=>intro c hc;cases hc
 |so _ ih=>
  intro c hc
  rcases List.mem_cons.1 hc with rfl|hc
  ·exact .inl (List.mem_cons_self ..)
  ·exact(ih c hc).imp (List.mem_cons_of_mem _) (List.mem_cons_of_mem _)
 |not _ ih=>
  intro c hc
  rcases List.mem_cons.1 hc with rfl|hc
  ·exact .inr (List.mem_cons_self ..)
  ·exact(ih c hc).imp (List.mem_cons_of_mem _) (List.mem_cons_of_mem _)
theorem Qf.all{r s:List G.aa}(h:Qf r s){p:G.aa→Prop}(h1:∀c∈r,p c)(h2:∀c,p c→p (back c)):∀c∈s,p c:=by
 induction h with
 |nil=>intro c hc;cases hc
 |so _ ih=>
  intro c hc
  rcases List.mem_cons.1 hc with rfl|hc
  ·exact h1 _ (List.mem_cons_self ..)
  ·exact ih (fun c hc=>h1 c (List.mem_cons_of_mem _ hc)) c hc
 |not _ ih=>
  intro c hc
  rcases List.mem_cons.1 hc with rfl|hc
  ·exact h2 _ (h1 _ (List.mem_cons_self ..))
  ·exact ih (fun c hc=>h1 c (List.mem_cons_of_mem _ hc)) c hc
theorem S7{h:G.ah}{c:G.aa}(h1:one h c=true):one h (back c)=true:=by
 simp only[one,back,Bool.and_eq_true,decide_eq_true_eq] at*
 obtain⟨⟨⟨⟨d,e⟩,f⟩,g⟩,k⟩:=h1
 refine⟨⟨⟨⟨?_,f⟩,e⟩,k⟩,g⟩
 exact decide_eq_true (fun h=>d h.symm)
end Pl
end

section
/- What is left of sorted numbers when what comes twice is left out. -/
namespace Pl
open Go Go.Av

theorem NN:∀{a b:List Int},a.Pairwise (· < ·)→b.Pairwise (· < ·)→(∀x,x∈a↔x∈b)→a=b
 |[],[],_,_,_=>rfl
 |[],y::b,_,_,h=>absurd ((h y).2 (List.mem_cons_self ..)) (by simp)
 |x::a,[],_,_,h=>absurd ((h x).1 (List.mem_cons_self ..)) (by simp)
 |x::a,y::b,ha,hb,h=>by
  rw[List.pairwise_cons] at ha hb
  have hxy:x=y:=by
   rcases List.mem_cons.1 ((h x).1 (List.mem_cons_self ..)) with e|e
   ·exact e
   ·rcases List.mem_cons.1 ((h y).2 (List.mem_cons_self ..)) with e2|e2
    ·exact e2.symm
    ·have h1:=hb.1 x e
     have h2:=ha.1 y e2
     omega
  subst hxy
  have:a=b:=NN ha.2 hb.2 fun z=>⟨fun hz=>by
   rcases List.mem_cons.1 ((h z).1 (List.mem_cons_of_mem _ hz)) with e|e
   ·subst e;have:=ha.1 z hz;omega
   ·exact e,fun hz=>by
   rcases List.mem_cons.1 ((h z).2 (List.mem_cons_of_mem _ hz)) with e|e
   ·subst e;have:=hb.1 z hz;omega
   ·exact e⟩
  rw[this]

theorem Ku(l:List Int)(x:Int):x∈Lib.compact l↔x∈l:=by
 unfold Lib.compact Lib.compactUpTo
 simp only[List.mem_map,List.mem_filter,List.mem_range]
 constructor
 ·rintro⟨j,⟨hj,_⟩,rfl⟩
  simp[hj]
 ·intro hx
  obtain⟨i,hi,hix⟩:=List.getElem_of_mem hx
  have hex:∃i,i<l.length∧l.toArray[i]! =x:=⟨i,hi,by simp[hi,hix]⟩
  obtain⟨k,⟨hk,hkx⟩,hmin⟩:=exists_least _ hex
  refine⟨k,⟨hk, ?_⟩,hkx⟩
  unfold Lib.keeps
  rw[decide_eq_true_eq]
  by_cases h0:k=0
  ·exact .inl h0
  ·refine .inr fun he=> ?_
   have:=hmin (k - 1) ⟨by omega,by rw[←he];exact hkx⟩
   omega
theorem Fv(l:List Int)(hs:l.Pairwise (· ≤ ·)):(Lib.compact l).Pairwise (· < ·):=by
 unfold Lib.compact Lib.compactUpTo
 rw[List.pairwise_map]
 refine List.Pairwise.imp_of_mem (R:=fun a b:Nat=>a<b) (fun{a b} ha hb hab=> ?_) (List.Pairwise.filter _ List.pairwise_lt_range)
 simp only[List.mem_filter,List.mem_range] at ha hb
 have hk:=hb.2
 unfold Lib.keeps at hk
 rw[decide_eq_true_eq] at hk
 have G9:=hk.resolve_left (by omega)
 have e1:l.toArray[a]! =l[a]:=by simp[ha.1]
 have e2:l.toArray[b]! =l[b]:=by simp[hb.1]
 have e3:l.toArray[b - 1]! =l[b - 1]'(by omega):=by simp[show b - 1<l.length by omega]
 rw[e2,e3] at G9
 rw[e1,e2]
 have le:∀i j (hi:i<l.length) (hj:j<l.length),i≤j→l[i]≤l[j]:=fun i j hi hj hij=>by
  rcases Nat.lt_or_ge i j with h|h
  ·exact List.pairwise_iff_getElem.1 hs i j hi hj h
  ·have:i=j:=by omega
   subst this;exact Int.le_refl _
 have h1:=le a (b - 1) (by omega) (by omega) (by omega)
 have h2:=le (b - 1) b (by omega) hb.1 (by omega)
 omega
theorem JX(l r:List Int)(hr:r.Pairwise (· < ·))(hm:∀x,x∈r↔x∈l):Lib.compact (l.mergeSort fun x y=>decide (x≤y))=r:=by
 refine NN (Fv _ ?_) hr fun x=> ?_
 ·have h:=List.pairwise_mergeSort (le:=fun x y:Int=>decide (x≤y)) (fun a b c h1 h2=>by simp at h1 h2 ⊢;omega) (fun a b=>by simp;omega) l
  exact h.imp fun{a b} hab=>by simpa using hab
 ·rw[Ku,List.mem_mergeSort,hm]
theorem VE{l:List Int}(h:l.length<4611686018427387904):Sh.sort l=some (l.mergeSort fun x y=>decide (x≤y)):=by rw[←Sh.LD];exact if_pos h
theorem MF{l:List Int}(h:l.length<4611686018427387904):Sh.compact l=some (Lib.compact l):=if_pos h
end Pl
end

section
/- Who writes, and who reads, each key: what the program answers. -/
namespace Pl
open Go Go.Av

theorem jV{h:G.ah}(hr:right h=true):h.au.length≤32:=by
 simp only[right,Bool.and_eq_true,decide_eq_true_eq] at hr;exact hr.1
theorem IC{h:G.ah}(hr:right h=true){t:G.ai}(ht:t∈h.au):∃n:Int,Ee h n t=true:=by
 simp only[right,Bool.and_eq_true] at hr
 have key:∀(l:List G.ai) (n:Nat),rS h n l=true→∀t∈l,∃n:Int,Ee h n t=true:=by
  intro l
  induction l with
  |nil=>intro n _ t ht;cases ht
  |cons x l ih=>
   intro n hn t ht
   rw[show rS h n (x::l)=(Ee h (n:Nat) x&&rS h (n+1) l) from rfl,Bool.and_eq_true] at hn
   rcases List.mem_cons.1 ht with rfl|ht
   ·exact⟨_,hn.1⟩
   ·exact ih _ hn.2 t ht
 exact key _ 0 hr.2 t ht
theorem GO:∀{l:List Int} {last:Int},rising last l=true→last≤15→(l.length:Int)≤15 - last
 |[],last,_,h=>by simp;omega
 |x::l,last,hr,h=>by
  rw[show rising last (x::l)=(decide (last<x)&&decide (x<16)&&rising x l) from rfl] at hr
  simp only[Bool.and_eq_true,decide_eq_true_eq] at hr
  have:=GO hr.2 (by omega)
  simp only[List.length_cons];omega
theorem GP:∀{l:List Int} {last:Int},rising last l=true→∀x∈l,last<x∧x<16
 |[],_,_,x,hx=>by cases hx
 |y::l,last,hr,x,hx=>by
  rw[show rising last (y::l)=(decide (last<y)&&decide (y<16)&&rising y l) from rfl] at hr
  simp only[Bool.and_eq_true,decide_eq_true_eq] at hr
  rcases List.mem_cons.1 hx with rfl|hx
  ·exact hr.1
  ·have:=GP hr.2 x hx;omega
theorem IK{h:G.ah}{n:Int}:∀{l:List G.aC} {last:Int},nX h n last l=true→last≤15→(l.length:Int)≤15 - last
 |[],last,_,h=>by simp;omega
 |x::l,last,hr,h2=>by
  rw[show nX h n last (x::l)=(decide (last<x.Key)&&decide (x.Key<16)&&there h n x&&nX h n x.Key l) from rfl] at hr
  simp only[Bool.and_eq_true,decide_eq_true_eq] at hr
  have:=IK hr.2 (by omega)
  simp only[List.length_cons];omega
theorem C9{h:G.ah}(hr:right h=true){t:G.ai}(ht:t∈h.au):rising (-1) t.br=true∧t.br.length≤16:=by
 obtain⟨n,hn⟩:=IC hr ht
 simp only[Ee,Bool.and_eq_true] at hn
 have:=GO hn.1.1.1 (by omega)
 exact⟨hn.1.1.1,by omega⟩
theorem AO{h:G.ah}(hr:right h=true){t:G.ai}(ht:t∈h.au):∃n:Int,nX h n (-1) t.Reads=true∧t.Reads.length≤16:=by
 obtain⟨n,hn⟩:=IC hr ht
 simp only[Ee,Bool.and_eq_true] at hn
 have:=IK hn.1.1.2 (by omega)
 exact⟨n,hn.1.1.2,by omega⟩

theorem Tf{h:G.ah}(hf:Fits h)(key:Int):G.qe h key=some (Bj h key):=by
 unfold G.qe Bj
 rw[xd hf]
 simp only[Option.bind_some]
 cases hr:right h with
 |false=>rfl
 |true=>
  have hn:=jV hr
  simp only[Bool.not_true,Bool.false_eq_true,if_false,if_true]
  refine cT (fun k=>((List.range k).filter fun t:Nat=>n4 (tx h t) key).map fun t:Nat=>(t:Int)) h.au.length _ (bD (by omega)) (fun k hk=> ?_) ?_ rfl
  ·have hle:((List.range k).filter fun t:Nat=>n4 (tx h t) key).length≤k:=by
    have:=List.length_filter_le (fun t:Nat=>n4 (tx h t) key) (List.range k);simpa using this
   have hw:=hf.writes _ (B3 hk)
   simp only[G.ny,dec_lt,hk,decide_true,if_true,ta hk,Option.bind_some]
   rw[Pd (by omega),List.range_succ,List.filter_append,List.map_append]
   simp only[Option.bind_some]
   have e:(tx h (k:Int)).br.any (fun x=>decide (key=x))=n4 (tx h (k:Int)) key:=rfl
   rw[e]
   cases hw:n4 (tx h k) key with
   |false=>simp[G.kV,bf (show k<9223372036854775807 by omega),Sh.next,hw]
   |true=>
    simp only[if_true]
    rw[m7 (by simp;omega)]
    simp[G.kV,bf (show k<9223372036854775807 by omega),Sh.next,hw]
  ·simp[G.ny,G.o7,Sh.len]

def C5(h:G.ah)(key frm:Int):List Int:=if right h then(jq h key frm).map fun t:Nat=>(t:Int) else []
theorem Dd{h:G.ah}{n:Int}(key frm:Int):∀{l:List G.aC} {last:Int},nX h n last l=true→
  l.filter (fun r=>decide (r.Key=key)&&decide (r.bH=frm))=if l.any (fun r=>decide (G.aC.mk key frm=r)) then [⟨key,frm⟩] else []
 |[],_,_=>by simp
 |x::l,last,hr=>by
  rw[show nX h n last (x::l)=(decide (last<x.Key)&&decide (x.Key<16)&&there h n x&&nX h n x.Key l) from rfl] at hr
  simp only[Bool.and_eq_true,decide_eq_true_eq] at hr
  have ih:=Dd key frm hr.2
  rw[List.filter_cons,List.any_cons]
  by_cases hx:G.aC.mk key frm=x
  ·subst hx
   have hnone:l.filter (fun r=>decide (r.Key=key)&&decide (r.bH=frm))=[]:=by
    rw[List.filter_eq_nil_iff]
    intro r hrm
    have:=De hr.2 r hrm
    simp only[Bool.and_eq_true,decide_eq_true_eq,not_and]
    intro h1
    exact absurd h1 (by simp at this;omega)
   rw[hnone];simp
  ·have hq:(decide (x.Key=key)&&decide (x.bH=frm))=false:=by
    rw[Bool.and_eq_false_iff,decide_eq_false_iff_not,decide_eq_false_iff_not]
    apply Classical.byContradiction
    intro hno
    simp only[not_or,Classical.not_not] at hno
    apply hx
    rw[←hno.1,←hno.2]
   rw[hq,ih,decide_eq_false hx];simp
theorem GH{h:G.ah}(hf:Fits h)(key frm:Int){t:Nat}(ht:t<h.au.length)(c:List Int)(hc:c.length≤1000)(hl:(tx h t).Reads.length≤16):
  Sh.loop (fun(p:(List Int)×Int)=>G.cV key frm t (tx h t) p.1 p.2) (c,0)=some (.inl (c++((tx h t).Reads.filter (fun r=>decide (r.Key=key)&&decide (r.bH=frm))).map (fun _=>(t:Int)),((t+1:Nat):Int))):=by
 refine cT (fun i=>c++(((tx h t).Reads.take i).filter (fun r=>decide (r.Key=key)&&decide (r.bH=frm))).map (fun _=>(t:Int))) (tx h t).Reads.length _ (bD (by omega)) (fun i hi=> ?_) ?_ (by simp)
 ·have hle:(((tx h t).Reads.take i).filter (fun r=>decide (r.Key=key)&&decide (r.bH=frm))).length≤i:=by
   have:=List.length_filter_le (fun r:G.aC=>decide (r.Key=key)&&decide (r.bH=frm)) ((tx h t).Reads.take i);simp at this;omega
  simp only[G.cV,dec_lt,hi,decide_true,if_true,cI hi,Option.bind_some,G.q8,G.jZ,bf (show i<9223372036854775807 by omega)]
  rw[List.take_add_one,List.getElem?_eq_getElem hi,Option.toList_some,List.filter_append,List.map_append,←List.append_assoc]
  by_cases h1:((tx h t).Reads[i]).Key=key
  ·by_cases h2:((tx h t).Reads[i]).bH=frm
   ·simp only[h1,h2,decide_true,if_true]
    rw[m7 (by simp;omega)]
    simp[h1,h2,Sh.next]
   ·simp[h1,h2,Sh.next]
  ·simp[h1,Sh.next]
 ·simp[G.cV,G.dV,bf (show t<9223372036854775807 by have:=hf.VL;omega),Sh.next]
theorem Tc{h:G.ah}(hf:Fits h)(key frm:Int):G.qd h key frm=some (C5 h key frm):=by
 unfold G.qd G.wE G.gm C5
 simp only[Option.bind_some]
 rw[xd hf]
 simp only[Option.bind_some]
 cases hr:right h with
 |false=>rfl
 |true=>
  have hn:=jV hr
  simp only[Bool.not_true,Bool.false_eq_true,if_false,if_true]
  have e:Sh.loop (fun(p:(List Int)×Int)=>G.cU key frm h p.1 p.2) ([],0)=some ((jq h key frm).map fun t:Nat=>(t:Int)):=by
   refine cT (fun k=>((List.range k).filter fun t:Nat=>decide (qp h t key=some frm)).map fun t:Nat=>(t:Int)) h.au.length _ (bD (by omega)) (fun k hk=> ?_) ?_ rfl
   ·have hle:((List.range k).filter fun t:Nat=>decide (qp h t key=some frm)).length≤k:=by
     have:=List.length_filter_le (fun t:Nat=>decide (qp h t key=some frm)) (List.range k);simpa using this
    obtain⟨n,htk,hlen⟩:=AO hr (B3 hk)
    simp only[G.cU,dec_lt,hk,decide_true,if_true,ta hk,Option.bind_some]
    rw[GH hf key frm hk _ (by simp;omega) hlen,Dd key frm htk,List.range_succ,List.filter_append,List.map_append]
    congr 4
    have hiff:=xz (t:=(k:Int)) (key:=key) (v:=frm) hr (A9.2 hk)
    cases hq:(tx h (k:Int)).Reads.any (fun r=>decide (G.aC.mk key frm=r)) with
    |true=>rw[hq] at hiff;simp[hiff.2 rfl]
    |false=>
     rw[hq] at hiff
     have:¬qp h (k:Int) key=some frm:=fun h1=>by have:=hiff.1 h1;cases this
     simp[this]
   ·simp only[G.cU,dec_lt,Nat.lt_irrefl,decide_false,Bool.false_eq_true,if_false];rfl
  rw[e];rfl

def wG(h:G.ah):List Nat:=(List.range 16).filter fun k:Nat=>h.au.any fun t=>n4 t k
def keys(h:G.ah):List Int:=if right h then(wG h).map fun k:Nat=>(k:Int) else []
theorem tJ{α β:Type}(f:α→List β)(b:Nat):∀(l:List α),(∀x∈l,(f x).length≤b)→(l.flatMap f).length≤l.length*b
 |[],_=>by simp
 |x::l,h=>by
  have h1:=h x (List.mem_cons_self ..)
  have h2:=tJ f b l fun y hy=>h y (List.mem_cons_of_mem _ hy)
  simp only[List.flatMap_cons,List.length_append,List.length_cons,Nat.add_mul,Nat.one_mul]
  omega
theorem ahx{h:G.ah}(hf:Fits h):G.tN h=some (keys h):=by
 unfold G.tN keys
 rw[xd hf]
 simp only[Option.bind_some]
 cases hr:right h with
 |false=>rfl
 |true=>
  have hn:=jV hr
  simp only[Bool.not_true,Bool.false_eq_true,if_false,if_true]
  have hwl:∀t∈h.au,t.br.length≤16:=fun t ht=>(C9 hr ht).2
  refine cT (fun k=>(h.au.take k).flatMap (·.br)) h.au.length _ (bD (by omega)) (fun k hk=> ?_) ?_ rfl
  ·have hle:=tJ (fun t:G.ai=>t.br) 16 (h.au.take k) fun t ht=>hwl t (List.mem_of_mem_take ht)
   have amm:=hwl _ (List.getElem_mem hk)
   have hl3:(h.au.take k).length≤32:=by simp;omega
   have ajV:(h.au.take k).length*16≤32*16:=Nat.mul_le_mul_right _ hl3
   simp only[G.qc,dec_lt,hk,decide_true,if_true,cI hk,Option.bind_some]
   rw[m7 (by omega)]
   simp only[Option.bind_some,bf (show k<9223372036854775807 by omega),Sh.next]
   rw[List.take_add_one,List.getElem?_eq_getElem hk,Option.toList_some,List.flatMap_append]
   simp
  ·simp only[G.qc,dec_lt,Nat.lt_irrefl,decide_false,Bool.false_eq_true,if_false,G.rQ,List.take_length]
   have hle:=tJ (fun t:G.ai=>t.br) 16 h.au hwl
   have ajV:h.au.length*16≤32*16:=Nat.mul_le_mul_right _ hn
   rw[VE (by omega)]
   simp only[Option.bind_some]
   rw[MF (by simp only[List.length_mergeSort];omega)]
   simp only[Option.bind_some]
   rw[JX _ ((wG h).map fun k:Nat=>(k:Int)) ?_ ?_]
   ·rw[List.pairwise_map]
    exact List.Pairwise.imp (R:=fun a b:Nat=>a<b) (fun{a b} hab=>by omega) (List.Pairwise.filter _ List.pairwise_lt_range)
   ·intro x
    simp only[List.mem_map,wG,List.mem_filter,List.mem_range,List.any_eq_true,List.mem_flatMap]
    constructor
    ·rintro⟨k,⟨h1,t,ht,hw⟩,rfl⟩
     refine⟨t,ht, ?_⟩
     simp only[n4,List.any_eq_true,decide_eq_true_eq] at hw
     obtain⟨y,hy,rfl⟩:=hw;exact hy
    ·rintro⟨t,ht,hx⟩
     have:=GP (C9 hr ht).1 x hx
     refine⟨x.toNat,⟨by omega,t,ht, ?_⟩,by omega⟩
     simp only[n4,List.any_eq_true,decide_eq_true_eq]
     exact⟨x,hx,by omega⟩

end Pl
end

section
/- What is known of a history's order, and what follows from choices: the graphs that the program makes. -/
namespace Pl
open Go Go.Av

theorem z8{n:Nat}(hn:n≤64){f g:Nat→Nat→Bool}(h:∀x y,x<n→y<n→f x y=g x y):gr n f=gr n g:=by
 have:=(eM hn (f:=f) (h:=g)).2 h
 unfold gr
 rw[this]
def qM(f:Nat→Nat→Bool)(l:List (Nat×Nat)):Nat→Nat→Bool:=fun x y=>f x y||l.any fun e=>decide (e.1≠e.2)&&decide (e.1=x)&&decide (e.2=y)
theorem Qh(f:Nat→Nat→Bool):qM f []=f:=by funext x y;simp[qM]
theorem Oz{n:Nat}(hn:n≤64)(f:Nat→Nat→Bool)(l:List (Nat×Nat)){a b:Nat}(hab:a≠b):gr n (Es (qM f l) a b)=gr n (qM f (l++[(a,b)])):=by
 refine z8 hn fun x y _ _=> ?_
 unfold Es qM
 rw[List.any_append,List.any_cons,List.any_nil,Bool.or_false,Bool.or_assoc]
 congr 2
 rw[Bool.eq_iff_iff]
 simp only[decide_eq_true_eq,Bool.and_eq_true]
 constructor
 ·rintro⟨rfl,rfl⟩;exact⟨⟨hab,rfl⟩,rfl⟩
 ·rintro⟨⟨_,h1⟩,h2⟩;exact⟨h1.symm,h2.symm⟩
theorem Oy{n:Nat}(hn:n≤64)(f:Nat→Nat→Bool)(l:List (Nat×Nat))(a:Nat):gr n (qM f l)=gr n (qM f (l++[(a,a)])):=by
 refine z8 hn fun x y _ _=> ?_
 unfold qM
 rw[List.any_append];simp
theorem Ta{n:Nat}(hn:n≤64)(f:Nat→Nat→Bool)(l:List (Nat×Nat)){a b:Nat}(ha:a<n)(hb:b<n):G.iz a b (gr n (qM f l))=some (gr n (qM f (l++[(a,b)]))):=by
 unfold G.iz G.iG
 have h0:(0:Int)≤(a:Int):=by omega
 simp only[h0,decide_true,if_true]
 by_cases hab:a=b
 ·subst hab
  simp only[ne_eq,not_true_eq_false,decide_false,Bool.false_eq_true,if_false]
  rw[←Oy hn]
 ·have h1:((a:Int)≠(b:Int)):=by omega
  simp only[h1,ne_eq,not_false_eq_true,decide_true,if_true,oh hn _ ha hb,Option.bind_some]
  rw[Oz hn f l hab]
theorem Pg{a b:Int}(g:G.af)(h:a<0):G.iz a b g=some g:=by
 unfold G.iz G.iG
 have h0:¬(0:Int)≤a:=by omega
 simp[h0]
def Dn:Nat→Nat→Bool:=fun _ _=>false
theorem Jj(n:Nat):(⟨(n:Int),List.replicate n 0#64⟩:G.af)=gr n (qM Dn []):=by
 rw[Qh,rj];rfl
def g0:G.af:=⟨0,[]⟩

def soL(h:G.ah)(t:Nat):List (Nat×Nat):=((List.range t).filter fun j:Nat=>decide ((tx h j).bt=(tx h t).bt)).map fun j=>(j,t)
theorem TK{h:G.ah}{t j:Nat}(ht:t<h.au.length)(hj:j<t):Sh.idx (h.au.take t) (j:Int)=some (tx h j):=by
 have h1:j<(h.au.take t).length:=by simp;omega
 rw[cI h1]
 have h2:=ta (h:=h) (x:=j) (by omega)
 rw[cI (show j<h.au.length by omega)] at h2
 rw[←h2];simp
theorem Te{h:G.ah}(hn:h.au.length≤32):G.gz h (gr h.au.length (qM Dn []))=some (gr h.au.length (qM Dn ((List.range h.au.length).flatMap (soL h)))):=by
 unfold G.gz
 refine cT (fun k=>gr h.au.length (qM Dn ((List.range k).flatMap (soL h)))) h.au.length _ (bD (by omega)) (fun t ht=> ?_) ?_ rfl
 ·simp only[G.dY,dec_lt,ht,decide_true,if_true,ta ht,Option.bind_some]
  rw[show Sh.sub h.au 0 (t:Int)=some (h.au.take t) by have:=D2 (l:=h.au) (m:=0) (k:=t) (by omega) (by omega);simpa using this]
  simp only[Option.bind_some]
  refine cT (fun i=>gr h.au.length (qM Dn ((List.range t).flatMap (soL h)++(((List.range i).filter fun j:Nat=>decide ((tx h j).bt=(tx h t).bt)).map fun j=>(j,t))))) t _ (bD (by omega)) (fun j hj=> ?_) ?_ (by simp)
  ·have hl:(Sh.len (h.au.take t))=((t:Nat):Int):=by simp[Sh.len];omega
   simp only[G.dZ,hl,dec_lt,hj,decide_true,if_true,TK ht hj,Option.bind_some,G.d_,bf (show j<9223372036854775807 by omega),Sh.next]
   rw[List.range_succ,List.filter_append,List.map_append,←List.append_assoc]
   by_cases hs:(tx h j).bt=(tx h t).bt
   ·simp only[hs,decide_true,if_true,Ta (show h.au.length≤64 by omega) _ _ (show j<h.au.length by omega) ht,Option.bind_some]
    simp[hs]
   ·simp[hs]
  ·have hl:(Sh.len (h.au.take t))=((t:Nat):Int):=by simp[Sh.len];omega
   simp only[G.dZ,hl,dec_lt,Nat.lt_irrefl,decide_false,Bool.false_eq_true,if_false,G.fo,bf (show t<9223372036854775807 by omega),Sh.next,Ig]
   rfl
 ·simp only[G.dY,dec_lt,Nat.lt_irrefl,decide_false,Bool.false_eq_true,if_false]
theorem ahU{h:G.ah}(hn:h.au.length≤64):gr h.au.length (qM Dn ((List.range h.au.length).flatMap (soL h)))=gr h.au.length (GR h):=by
 refine z8 hn fun x y hx hy=> ?_
 unfold qM GR soL Dn
 rw[Bool.false_or,Bool.eq_iff_iff]
 simp only[List.any_eq_true,List.mem_flatMap,List.mem_range,List.mem_map,List.mem_filter,decide_eq_true_eq,Bool.and_eq_true]
 constructor
 ·rintro⟨e,⟨t,ht,j,⟨hj,hs⟩,rfl⟩,⟨h1,h2⟩,h3⟩
  simp only at h1 h2 h3
  subst h2 h3
  exact⟨hj,hs⟩
 ·rintro⟨h1,h2⟩
  exact⟨(x,y),⟨y,hy,x,⟨h1,h2⟩,rfl⟩,⟨by simp;omega,rfl⟩,rfl⟩
def soG(h:G.ah):G.af:=if right h then gr h.au.length (GR h) else g0
theorem pSo{h:G.ah}(hf:Fits h):G.xL h=some (soG h):=by
 unfold G.xL G.jT soG
 rw[xd hf]
 simp only[Option.bind_some]
 cases hr:right h with
 |false=>rfl
 |true=>
  have hn:=jV hr
  simp only[Bool.not_true,Bool.false_eq_true,if_false,if_true]
  rw[show(Sh.len h.au)=((h.au.length:Nat):Int) from rfl,fu _ (by omega)]
  simp only[Option.bind_some]
  rw[Jj,Te hn]
  simp only[Option.bind_some]
  rw[ahU (by omega)]

theorem Px{h:G.ah}(hr:right h=true){t:Nat}(ht:t<h.au.length):Ee h (t:Int) (tx h t)=true:=by
 simp only[right,Bool.and_eq_true] at hr
 have h2:=hr.2
 rw[DO,decide_eq_true_eq] at h2
 have:=h2 t ht
 have e:tx h (t:Int)=h.au[t]:=by simp[tx,ht]
 rw[e]
 simpa using this
theorem ON{h:G.ah}(hr:right h=true){t:Nat}(ht:t<h.au.length){r:G.aC}(hm:r∈(tx h t).Reads):r.bH≠(t:Int):=by
 have h1:=Px hr ht
 simp only[Ee,Bool.and_eq_true] at h1
 have h2:=wM h1.1.1.2 r hm
 simp only[there,Bool.or_eq_true,Bool.and_eq_true,decide_eq_true_eq] at h2
 rcases h2 with h2|h2
 ·omega
 ·exact h2.1.2
def wrL(h:G.ah)(t:Nat):List (Nat×Nat):=((tx h t).Reads.filter fun r=>decide (0≤r.bH)).map fun r=>(r.bH.toNat,t)
theorem Pf{h:G.ah}(hr:right h=true):G.gA h (gr h.au.length (qM Dn []))=some (gr h.au.length (qM Dn ((List.range h.au.length).flatMap (wrL h)))):=by
 have hn:=jV hr
 unfold G.gA
 refine cT (fun k=>gr h.au.length (qM Dn ((List.range k).flatMap (wrL h)))) h.au.length _ (bD (by omega)) (fun t ht=> ?_) ?_ rfl
 ·simp only[G.ec,dec_lt,ht,decide_true,if_true,ta ht,Option.bind_some]
  obtain⟨_,_,hlen⟩:=AO hr (B3 ht)
  refine cT (fun i=>gr h.au.length (qM Dn ((List.range t).flatMap (wrL h)++((((tx h t).Reads.take i).filter fun r=>decide (0≤r.bH)).map fun r=>(r.bH.toNat,t))))) (tx h t).Reads.length _ (bD (by omega)) (fun i hi=> ?_) ?_ (by simp)
  ·simp only[G.ee,dec_lt,hi,decide_true,if_true,cI hi,Option.bind_some,bf (show i<9223372036854775807 by omega),Sh.next]
   rw[List.take_add_one,List.getElem?_eq_getElem hi,Option.toList_some,List.filter_append,List.map_append,←List.append_assoc]
   by_cases h0:((tx h t).Reads[i]).bH<0
   ·have h1:¬0≤((tx h t).Reads[i]).bH:=by omega
    rw[Pg _ h0]
    simp[h1]
   ·have h1:0≤((tx h t).Reads[i]).bH:=by omega
    obtain⟨x,hx,hxn⟩:=NX hr ht (List.getElem_mem hi) h0
    rw[hx,Ta (show h.au.length≤64 by omega) _ _ hxn ht]
    simp[hx]
  ·simp only[G.ee,dec_lt,Nat.lt_irrefl,decide_false,Bool.false_eq_true,if_false,G.fq,bf (show t<9223372036854775807 by omega),Sh.next,Ig,List.take_length]
   rfl
 ·simp only[G.ec,dec_lt,Nat.lt_irrefl,decide_false,Bool.false_eq_true,if_false]
theorem ah3{h:G.ah}(hr:right h=true):gr h.au.length (qM Dn ((List.range h.au.length).flatMap (wrL h)))=gr h.au.length (Oo h):=by
 have hn:=jV hr
 refine z8 (by omega) fun x y hx hy=> ?_
 unfold qM Oo wrL Dn
 rw[Bool.false_or,Bool.eq_iff_iff]
 simp only[List.any_eq_true,List.mem_flatMap,List.mem_range,List.mem_map,List.mem_filter,decide_eq_true_eq,Bool.and_eq_true]
 constructor
 ·rintro⟨e,⟨t,ht,r,⟨hm,hp⟩,rfl⟩,⟨h1,h2⟩,h3⟩
  simp only at h1 h2 h3
  subst h2 h3
  exact⟨r,hm,by omega⟩
 ·rintro⟨r,hm,h1⟩
  have:=ON hr hy hm
  exact⟨(x,y),⟨y,hy,r,⟨hm,by omega⟩,by rw[h1];simp⟩,⟨by simp;omega,rfl⟩,rfl⟩
def wrG(h:G.ah):G.af:=if right h then gr h.au.length (Oo h) else g0
theorem alj{h:G.ah}(hf:Fits h):G.xM h=some (wrG h):=by
 unfold G.xM G.jU wrG
 rw[xd hf]
 simp only[Option.bind_some]
 cases hr:right h with
 |false=>rfl
 |true=>
  have hn:=jV hr
  simp only[Bool.not_true,Bool.false_eq_true,if_false,if_true]
  rw[show(Sh.len h.au)=((h.au.length:Nat):Int) from rfl,fu _ (by omega)]
  simp only[Option.bind_some]
  rw[Jj,Pf hr]
  simp only[Option.bind_some]
  rw[ah3 hr]
def Ob(h:G.ah):G.af:=if right h then gr h.au.length (BW (GR h) (Oo h)) else g0
theorem TL:G.ku g0 g0=some (g0,0):=by
 have:=ku (n:=0) (by omega) Dn Dn
 exact this
theorem ahC{h:G.ah}(hf:Fits h):G.tP h=some (Ob h):=by
 unfold G.tP
 rw[pSo hf,alj hf]
 simp only[Option.bind_some]
 unfold soG wrG Ob
 cases hr:right h with
 |false=>simp only[Bool.false_eq_true,if_false];rw[TL];rfl
 |true=>
  have hn:=jV hr
  simp only[if_true]
  rw[ku (by omega)];rfl

def wN(h:G.ah)(key:Int):List Nat:=(List.range h.au.length).filter fun t:Nat=>n4 (tx h t) key
theorem NG{h:G.ah}(hr:right h=true)(key:Int):Bj h key=(wN h key).map fun t:Nat=>(t:Int):=by
 unfold Bj wN;rw[if_pos hr]
theorem Xs{h:G.ah}{key:Int}{t:Nat}(ht:t∈wN h key):t<h.au.length∧n4 (tx h t) key=true:=by
 unfold wN at ht;simpa using ht
theorem Z8{h:G.ah}{key:Int}:(wN h key).length≤h.au.length:=by
 have:=List.length_filter_le (fun t:Nat=>n4 (tx h t) key) (List.range h.au.length);simpa [wN] using this
def SS(h:G.ah)(k:Nat):List (Nat×Nat):=(jq h k (-1)).flatMap fun a=>(wN h k).map fun b=>(a,b)
theorem JG{l:List Nat}{i:Nat}(h:i<l.length):Sh.idx (l.map fun t:Nat=>(t:Int)) (i:Int)=some ((l[i]:Nat):Int):=by
 rw[cI (by simpa using h)];simp
theorem Bc(l:List Nat):Sh.len (l.map fun t:Nat=>(t:Int))=((l.length:Nat):Int):=by simp[Sh.len]
theorem S_{h:G.ah}(hr:right h=true)(v a:Nat)(ha:a<h.au.length)(hv:v<1000)(key:Int)(l:List (Nat×Nat)):
  Sh.loop (fun(p:G.af×Int)=>G.di v a (Bj h key) p.1 p.2) (gr h.au.length (qM Dn l),0)=some (.inl (gr h.au.length (qM Dn (l++(wN h key).map fun b=>(a,b))),((v+1:Nat):Int))):=by
 have hn:=jV hr
 have hw:=Z8 (h:=h) (key:=key)
 rw[NG hr]
 refine cT (fun i=>gr h.au.length (qM Dn (l++((wN h key).take i).map fun b=>(a,b)))) (wN h key).length _ (bD (by omega)) (fun i hi=> ?_) ?_ (by simp)
 ·have hb:=(Xs (List.getElem_mem hi)).1
  simp only[G.di,Bc,dec_lt,hi,decide_true,if_true,JG hi,Option.bind_some,Ta (show h.au.length≤64 by omega) _ _ ha hb,bf (show i<9223372036854775807 by omega),Sh.next]
  rw[List.take_add_one,List.getElem?_eq_getElem hi,Option.toList_some,List.map_append,List.append_assoc]
  rfl
 ·simp only[G.di,Bc,dec_lt,Nat.lt_irrefl,decide_false,Bool.false_eq_true,if_false,G.eL,bf (show v<9223372036854775807 by omega),Sh.next,List.take_length]
theorem Pe{h:G.ah}(hf:Fits h)(hr:right h=true)(v k:Nat)(hv:v<1000)(l:List (Nat×Nat)):
  Sh.loop (fun(p:G.af×Int)=>G.dh h v k ((jq h k (-1)).map fun t:Nat=>(t:Int)) p.1 p.2) (gr h.au.length (qM Dn l),0)=some (.inl (gr h.au.length (qM Dn (l++SS h k)),((v+1:Nat):Int))):=by
 have hn:=jV hr
 have hrl:=Ej (h:=h) (key:=(k:Int)) (frm:= -1)
 refine cT (fun i=>gr h.au.length (qM Dn (l++((jq h k (-1)).take i).flatMap fun a=>(wN h k).map fun b=>(a,b)))) (jq h k (-1)).length _ (bD (by omega)) (fun i hi=> ?_) ?_ (by simp)
 ·have ha:=(yO (List.getElem_mem hi)).1
  simp only[G.dh,Bc,dec_lt,hi,decide_true,if_true,JG hi,Option.bind_some,Tf hf]
  rw[S_ hr i _ ha (by omega),List.take_add_one,List.getElem?_eq_getElem hi,Option.toList_some,List.flatMap_append,List.append_assoc]
  simp
 ·simp only[G.dh,Bc,dec_lt,Nat.lt_irrefl,decide_false,Bool.false_eq_true,if_false,G.eH,bf (show v<9223372036854775807 by omega),Sh.next,List.take_length]
  rfl
theorem OY(h:G.ah):(wG h).length≤16:=by
 have:=List.length_filter_le (fun k:Nat=>h.au.any fun t=>n4 t k) (List.range 16);simpa [wG] using this
theorem Nl{h:G.ah}(hf:Fits h)(hr:right h=true):G.fF h (gr h.au.length (qM Dn []))=some (gr h.au.length (qM Dn ((wG h).flatMap (SS h)))):=by
 have hn:=jV hr
 have hk:=OY h
 unfold G.fF
 rw[ahx hf]
 simp only[Option.bind_some]
 rw[show keys h=(wG h).map (fun k:Nat=>(k:Int)) by unfold keys;rw[if_pos hr]]
 refine cT (fun i=>gr h.au.length (qM Dn (((wG h).take i).flatMap (SS h)))) (wG h).length _ (bD (by omega)) (fun i hi=> ?_) ?_ (by simp)
 ·simp only[G.dN,Bc,dec_lt,hi,decide_true,if_true,JG hi,Option.bind_some,Tc hf]
  rw[show C5 h ((wG h)[i]:Nat) (-1)=(jq h ((wG h)[i]:Nat) (-1)).map (fun t:Nat=>(t:Int)) by unfold C5;rw[if_pos hr]]
  rw[Pe hf hr i _ (by omega),List.take_add_one,List.getElem?_eq_getElem hi,Option.toList_some,List.flatMap_append]
  simp
 ·simp only[G.dN,Bc,dec_lt,Nat.lt_irrefl,decide_false,Bool.false_eq_true,if_false,List.take_length]
theorem O8{h:G.ah}(hr:right h=true){y:Nat}(hy:y<h.au.length){k:Int}(hw:n4 (tx h y) k=true):0≤k∧k.toNat∈wG h:=by
 obtain⟨h0,h1⟩:=Uy hr (B3 hy) hw
 refine⟨h0, ?_⟩
 unfold wG
 simp only[List.mem_filter,List.mem_range,List.any_eq_true]
 exact⟨by omega,_,B3 hy,by rw[show((k.toNat:Nat):Int)=k by omega];exact hw⟩
theorem Y2{h:G.ah}(hr:right h=true):gr h.au.length (qM Dn ((wG h).flatMap (SS h)))=gr h.au.length (DK h):=by
 have hn:=jV hr
 refine z8 (by omega) fun x y hx hy=> ?_
 unfold qM DK SS Dn Ce
 rw[Bool.false_or,Bool.eq_iff_iff]
 simp only[List.any_eq_true,List.mem_flatMap,List.mem_map,decide_eq_true_eq,Bool.and_eq_true]
 constructor
 ·rintro⟨e,⟨k,hk,a,ha,b,hb,rfl⟩,⟨h1,h2⟩,h3⟩
  simp only at h1 h2 h3
  subst h2 h3
  obtain⟨_,hfr⟩:=yO ha
  have:=(xz hr (A9.2 hx)).1 hfr
  simp only[List.any_eq_true,decide_eq_true_eq] at this
  obtain⟨r,hm,rfl⟩:=this
  exact⟨fun he=>h1 he.symm,_,hm,rfl,(Xs hb).2⟩
 ·rintro⟨hne,r,hm,hf1,hw⟩
  obtain⟨h0,hk⟩:=O8 hr hy hw
  have e:((r.Key.toNat:Nat):Int)=r.Key:=by omega
  refine⟨(x,y),⟨r.Key.toNat,hk,x, ?_,y, ?_,rfl⟩,⟨fun he=>hne he.symm,rfl⟩,rfl⟩
  ·unfold jq
   simp only[List.mem_filter,List.mem_range,decide_eq_true_eq]
   refine⟨hx,(xz hr (A9.2 hx)).2 ?_⟩
   simp only[List.any_eq_true,decide_eq_true_eq]
   exact⟨r,hm,by rw[e,←hf1]⟩
  ·unfold wN
   simp only[List.mem_filter,List.mem_range]
   exact⟨hy,by rw[e];exact hw⟩
def UY(h:G.ah):G.af:=if right h then gr h.au.length (DK h) else g0
theorem ahw{h:G.ah}(hf:Fits h):G.tO h=some (UY h):=by
 unfold G.tO G.iu UY
 rw[xd hf]
 simp only[Option.bind_some]
 cases hr:right h with
 |false=>rfl
 |true=>
  have hn:=jV hr
  simp only[Bool.not_true,Bool.false_eq_true,if_false,if_true]
  rw[show(Sh.len h.au)=((h.au.length:Nat):Int) from rfl,fu _ (by omega)]
  simp only[Option.bind_some]
  rw[Jj,Nl hf hr]
  simp only[Option.bind_some]
  rw[Y2 hr]
end Pl
end

section
/- What follows from choices: the graphs that the program makes. -/
namespace Pl
open Go Go.Av

def cr(h:G.ah)(l:List G.aa):Bool:=right h&&l.all (one h)
theorem Fx{h:G.ah}{l:List G.aa}:cr h l=true↔right h=true∧∀c∈l,one h c=true:=by simp[cr]
theorem VT:Mr []=Dn:=by funext x y;simp[Mr,Dn]
def wwG(h:G.ah)(l:List G.aa):G.af:=if cr h l then gr h.au.length (Mr l) else g0
theorem pWw{h:G.ah}(hf:Fits h){l:List G.aa}(hl:l.length≤20000):G.vh h l=some (wwG h l):=by
 unfold G.vh wwG
 rw[JO hf hl]
 simp only[Option.bind_some]
 cases hc:(right h&&l.all (one h)) with
 |false=>rw[show cr h l=false from hc];rfl
 |true=>
  rw[show cr h l=true from hc]
  obtain⟨hr,hone⟩:=Fx.1 hc
  have hn:=jV hr
  have Bu:h.au.length≤64:=by omega
  simp only[Bool.not_true,Bool.false_eq_true,if_false,if_true]
  rw[show(Sh.len h.au)=((h.au.length:Nat):Int) from rfl,fu _ Bu]
  simp only[Option.bind_some]
  refine gB (fun i=>((h.au.length:Int),rows h.au.length (Mr (l.take i)),(i:Int))) l.length _ (bD (by omega)) (fun i hi=> ?_) ?_ ?_
  ·obtain⟨a,b,ea,eb,ha,hb,_⟩:=E0 (hone _ (List.getElem_mem hi))
   simp only[G.qR,dec_lt,hi,decide_true,if_true,cI hi,Option.bind_some,ea,eb]
   rw[show G.af.mk (h.au.length:Int) (rows h.au.length (Mr (l.take i)))=gr h.au.length (Mr (l.take i)) from rfl,oh Bu _ ha hb]
   simp only[Option.bind_some,bf (show i<9223372036854775807 by omega),Sh.next]
   have e:rows h.au.length (Es (Mr (l.take i)) a b)=rows h.au.length (Mr (l.take (i+1))):=by
    rw[eM Bu]
    intro x y _ _
    unfold Es Mr
    rw[uC hi,ea,eb]
    congr 1
    rw[Bool.eq_iff_iff]
    simp only[decide_eq_true_eq,Bool.and_eq_true]
    constructor
    ·rintro⟨rfl,rfl⟩;exact⟨rfl,rfl⟩
    ·rintro⟨h1,h2⟩;exact⟨by omega,by omega⟩
   simp only[e]
  ·simp only[G.qR,dec_lt,Nat.lt_irrefl,decide_false,Bool.false_eq_true,if_false,G.sV,List.take_length]
  ·rw[List.take_zero,VT,rj];rfl

def rwG(h:G.ah)(l:List G.aa):G.af:=if cr h l then gr h.au.length (IE h l) else g0
theorem pRw{h:G.ah}(hf:Fits h){l:List G.aa}(hl:l.length≤20000):G.vg h l=some (rwG h l):=by
 unfold G.vg rwG
 rw[JO hf hl]
 simp only[Option.bind_some]
 cases hc:(right h&&l.all (one h)) with
 |false=>rw[show cr h l=false from hc];rfl
 |true=>
  rw[show cr h l=true from hc]
  obtain⟨hr,hone⟩:=Fx.1 hc
  have hn:=jV hr
  have Bu:h.au.length≤64:=by omega
  simp only[Bool.not_true,Bool.false_eq_true,if_false,if_true]
  rw[ahw hf]
  simp only[Option.bind_some]
  rw[show UY h=gr h.au.length (DK h) by unfold UY;rw[if_pos hr]]
  refine cT (fun i=>gr h.au.length (IE h (l.take i))) l.length _ (bD (by omega)) (fun i hi=> ?_) ?_ (by congr 2;funext x y;simp[IE])
  ·obtain⟨a,b,ea,eb,ha,hb,_⟩:=E0 (hone _ (List.getElem_mem hi))
   simp only[G.qO,dec_lt,hi,decide_true,if_true,cI hi,Option.bind_some]
   refine cT (fun t=>gr h.au.length (BW (IE h (l.take i)) fun x y=>decide (x<t)&&Qa h l[i] x y)) h.au.length _ (bD (by omega)) (fun t ht=> ?_) ?_ ?_
   ·obtain⟨_,_,hlen⟩:=AO hr (B3 ht)
    have step:∀q:Bool,q=Qa h l[i] t b→G.pI l[i] (gr h.au.length (BW (IE h (l.take i)) fun x y=>decide (x<t)&&Qa h l[i] x y)) t q=some (.inl (gr h.au.length (BW (IE h (l.take i)) fun x y=>decide (x<t+1)&&Qa h l[i] x y),((t+1:Nat):Int))):=by
     intro q hq
     unfold G.pI G.qQ
     rw[eb]
     have key:∀x y,x<h.au.length→y<h.au.length→((BW (IE h (l.take i)) fun x y=>decide (x<t+1)&&Qa h l[i] x y) x y=((BW (IE h (l.take i)) fun x y=>decide (x<t)&&Qa h l[i] x y) x y||(decide (x=t∧y=b)&&q))):=by
      intro x y _ _
      unfold BW
      rw[Bool.or_assoc]
      congr 1
      by_cases e1:x=t
      ·subst e1
       by_cases e2:y=b
       ·subst e2;simp[hq]
       ·have:Qa h l[i] x y=false:=by
         unfold Qa
         rw[eb]
         have:¬(b:Int)=(y:Int):=by omega
         simp[this]
        simp[this,e2]
      ·have:(x<t+1)↔(x<t):=by omega
       simp[e1,this]
     cases q with
     |true=>
      simp only[if_true,oh Bu _ ht hb,Option.bind_some,bf (show t<9223372036854775807 by omega),Sh.next]
      congr 3
      refine z8 Bu fun x y hx hy=> ?_
      rw[key x y hx hy];simp[Es]
     |false=>
      simp only[Bool.false_eq_true,if_false,bf (show t<9223372036854775807 by omega),Sh.next]
      congr 3
      refine z8 Bu fun x y hx hy=> ?_
      rw[key x y hx hy];simp
    simp only[G.qP,dec_lt,ht,decide_true,if_true,ta ht,Option.bind_some]
    have e3:decide ((t:Int)≠l[i].B)=decide (t≠b):=by rw[eb];congr 1;exact propext (by omega)
    rw[e3,Xh (by omega)]
    simp only[Option.bind_some]
    have e4:(tx h (t:Int)).Reads.any (fun c=>decide (G.aC.mk l[i].Key l[i].A=c))=decide (qp h t l[i].Key=some l[i].A):=by
     have:=xz (t:=(t:Int)) (key:=l[i].Key) (v:=l[i].A) hr (A9.2 ht)
     rw[Bool.eq_iff_iff,decide_eq_true_eq,this]
    by_cases e5:t=b
    ·subst e5
     simp only[ne_eq,not_true_eq_false,decide_false,Bool.false_eq_true,if_false]
     refine step false ?_
     unfold Qa;simp
    ·simp only[ne_eq,e5,not_false_eq_true,decide_true,if_true]
     refine step _ ?_
     unfold Qa
     rw[e4,eb];simp[e5]
   ·simp only[G.qP,dec_lt,Nat.lt_irrefl,decide_false,Bool.false_eq_true,if_false,G.sU,bf (show i<9223372036854775807 by omega),Sh.next]
    congr 3
    refine congrArg (fun q=>(q,((i+1:Nat):Int))) (z8 Bu fun x y hx _=> ?_)
    unfold IE BW
    rw[uC hi]
    simp[hx,Bool.or_assoc]
   ·congr 2
    funext x y;simp[BW]
  ·simp only[G.qO,dec_lt,Nat.lt_irrefl,decide_false,Bool.false_eq_true,if_false,G.sS,List.take_length]

theorem Xf{n:Nat}(hn:n≤64)(f g:Nat→Nat→Bool):G.r4 (gr n f) [gr n g]=some (gr n (BW f g)):=by
 unfold G.r4
 refine gB (fun i=>if i=0 then((gr n f).N,(gr n f).Rows,0) else((n:Int),rows n (BW f g),1)) 1 _ (by decide) (fun i hi=> ?_) ?_ rfl
 ·have:i=0:=by omega
  subst this
  simp only[if_true,Nat.zero_add,G.p7,Sh.len,List.length_cons,List.length_nil]
  rw[show G.af.mk (gr n f).N (gr n f).Rows=gr n f from rfl]
  rw[show Sh.idx [gr n g] 0=some (gr n g) from rfl]
  simp only[Option.bind_some,ku hn]
  rfl
 ·simp only[G.p7,G.rI]
  rfl
def Y8(lev:Int):Bool:=decide (lev=0)||decide (lev=1)
def QZ(h:G.ah)(lev:Int)(l:List G.aa):G.af×Int:=if cr h l&&Y8 lev then(gr h.au.length (CH h lev l),0) else(g0,1)
theorem ahu{h:G.ah}(hf:Fits h)(lev:Int){l:List G.aa}(hl:l.length≤20000):G.sG h lev l=some (QZ h lev l):=by
 unfold G.sG QZ
 rw[JO hf hl]
 simp only[Option.bind_some]
 rw[show(right h&&l.all (one h))=cr h l from rfl]
 cases hc:cr h l with
 |false=>rfl
 |true=>
  obtain⟨hr,hone⟩:=Fx.1 hc
  have hn:=jV hr
  have Bu:h.au.length≤64:=by omega
  have e1:Ob h=gr h.au.length (BW (GR h) (Oo h)):=by unfold Ob;rw[if_pos hr]
  have e2:wwG h l=gr h.au.length (Mr l):=by unfold wwG;rw[if_pos hc]
  have e3:rwG h l=gr h.au.length (IE h l):=by unfold rwG;rw[if_pos hc]
  have body:G.jD h lev l false=some (gr h.au.length (BW (dF h l) (if lev=1 then xw h.au.length (dF h l) (IE h l) else IE h l)),0):=by
   unfold G.jD G.oS
   simp only[Bool.false_eq_true,if_false,ahC hf,pWw hf hl,pRw hf hl,Option.bind_some,e1,e2,e3,Xf Bu]
   by_cases hv:lev=1
   ·simp only[hv,decide_true,if_true,nj Bu,Option.bind_some,Xf Bu];rfl
   ·simp only[hv,decide_false,Bool.false_eq_true,if_false]
    rfl
  simp only[Bool.not_true,Bool.false_eq_true,if_false,Bool.true_and]
  unfold Y8
  by_cases h0:lev=0
  ·subst h0
   simp only[ne_eq,not_true_eq_false,decide_false,Bool.false_eq_true,if_false,body,decide_true,Bool.true_or,if_true]
   rfl
  ·by_cases h1:lev=1
   ·subst h1
    simp only[ne_eq,h0,not_false_eq_true,decide_true,if_true,not_true_eq_false,decide_false,body,Bool.or_true]
    rfl
   ·simp[h0,h1,G.jD,g0]
end Pl
end

section
/- Cycles: which lists are, and what is told of them. -/

namespace Pl
open Go Go.Av

theorem JD{n:Nat}:∀{l:List Int},(∀a∈l,0≤a∧a<n)→l.Nodup→l.length≤n:=by
 induction n with
 |zero=>
  intro l h _
  cases l with
  |nil=>simp
  |cons a l=>have:=h a (by simp);omega
 |succ n ih=>
  intro l h hd
  by_cases hm:(n:Int)∈l
  ·have h1:=ih (l:=l.erase (n:Int)) (fun a ha=>by
    have ha':=(List.Nodup.mem_erase_iff hd).1 ha
    have:=h a ha'.2
    have hne:a≠(n:Int):=ha'.1
    omega) (hd.erase _)
   rw[List.length_erase_of_mem hm] at h1
   omega
  ·have:=ih (l:=l) (fun a ha=>by
    have:=h a ha
    have hne:a≠(n:Int):=fun e=>hm (e▸ha)
    omega) hd
   omega
end Pl
end

section
/- How far a node is from a node: what the search and the reference tell. -/
namespace Pl
open Go Go.Av

def nE(q:Nat→Bool):Nat→Nat→Int
 |0,_=> -1
 |m+1,k=>if q k then(k:Int) else nE q m (k+1)
theorem Ax(q:Nat→Bool):∀(m k:Nat),(nE q m k= -1∧∀j,k≤j→j<k+m→q j=false)∨∃j,k≤j∧j<k+m∧nE q m k=(j:Int)∧q j=true∧∀i,k≤i→i<j→q i=false
 |0,k=>.inl ⟨rfl,fun j h1 h2=>by omega⟩
 |m+1,k=>by
  unfold nE
  cases hq:q k with
  |true=>exact .inr ⟨k,by omega,by omega,by simp,hq,fun i h1 h2=>by omega⟩
  |false=>
   simp only[Bool.false_eq_true,if_false]
   rcases Ax q m (k+1) with⟨h1,h2⟩|⟨j,h1,h2,h3,h4,h5⟩
   ·refine .inl ⟨h1,fun j hj UD=> ?_⟩
    by_cases h:j=k
    ·subst h;exact hq
    ·exact h2 j (by omega) (by omega)
   ·refine .inr ⟨j,by omega,by omega,h3,h4,fun i hi UA=> ?_⟩
    by_cases h:i=k
    ·subst h;exact hq
    ·exact h5 i (by omega) UA

def wk(n:Nat)(f:Nat→Nat→Bool)(v:Nat):Nat→Nat→Bool
 |0,x=>decide (x=v)
 |m+1,x=>(List.range n).any fun y=>f x y&&wk n f v m y
theorem Di{n:Nat}{f:Nat→Nat→Bool}{v m x:Nat}:wk n f v (m+1) x=true↔∃y,y<n∧f x y=true∧wk n f v m y=true:=by
 show((List.range n).any fun y=>f x y&&wk n f v m y)=true↔_
 simp only[List.any_eq_true,List.mem_range,Bool.and_eq_true]
theorem TT{n:Nat}{f:Nat→Nat→Bool}{v x:Nat}(hv:v<n):wk n f v 1 x=f x v:=by
 rw[Bool.eq_iff_iff,Di]
 unfold wk
 simp only[decide_eq_true_eq]
 constructor
 ·rintro⟨y,_,h,rfl⟩;exact h
 ·intro h;exact⟨v,hv,h,rfl⟩
def dk(n:Nat)(f:Nat→Nat→Bool)(v:Nat):Nat→Nat→Nat
 |0,_=>0
 |k+1,x=>if dk n f v k x≠0 then dk n f v k x else if wk n f v (k+1) x then k+1 else 0
theorem yb{n:Nat}{f:Nat→Nat→Bool}{v x:Nat}:∀k,dk n f v k x=0↔∀j,1≤j→j≤k→wk n f v j x=false:=by
 intro k
 induction k with
 |zero=>exact⟨fun _ j h1 h2=>by omega,fun _=>rfl⟩
 |succ k ih=>
  unfold dk
  by_cases h0:dk n f v k x=0
  ·rw[if_neg (by simpa using h0)]
   have hall:=ih.1 h0
   cases hw:wk n f v (k+1) x with
   |true=>
    simp only[if_true]
    constructor
    ·intro h;omega
    ·intro h;have:=h (k+1) (by omega) (by omega);rw[hw] at this;cases this
   |false=>
    simp only[Bool.false_eq_true,if_false,true_iff]
    intro j h1 h2
    by_cases hj:j=k+1
    ·subst hj;exact hw
    ·exact hall j h1 (by omega)
  ·rw[if_pos h0]
   constructor
   ·intro h;exact absurd h h0
   ·intro h;exact ih.2 fun j h1 h2=>h j h1 (by omega)
theorem Du{n:Nat}{f:Nat→Nat→Bool}{v x:Nat}:∀k,dk n f v k x≠0→wk n f v (dk n f v k x) x=true∧dk n f v k x≤k∧∀i,1≤i→i<dk n f v k x→wk n f v i x=false:=by
 intro k
 induction k with
 |zero=>intro h;exact absurd rfl h
 |succ k ih=>
  intro h
  by_cases h0:dk n f v k x=0
  ·have e:dk n f v (k+1) x=k+1:=by
    unfold dk at h ⊢
    rw[if_neg (by simpa using h0)] at h ⊢
    cases hw:wk n f v (k+1) x with
    |true=>rfl
    |false=>rw[hw] at h;exact absurd rfl h
   have hw:wk n f v (k+1) x=true:=by
    unfold dk at e
    rw[if_neg (by simpa using h0)] at e
    cases hw:wk n f v (k+1) x with
    |true=>rfl
    |false=>rw[hw] at e;simp at e
   rw[e]
   exact⟨hw,by omega,fun i h1 h2=>(yb k).1 h0 i h1 (by omega)⟩
  ·have e:dk n f v (k+1) x=dk n f v k x:=by unfold dk;rw[if_pos h0];cases k <;> rfl
   rw[e]
   obtain⟨a,b,c⟩:=ih h0
   exact⟨a,by omega,c⟩
theorem sZ{n:Nat}{f:Nat→Nat→Bool}{v x k:Nat}:dk n f v (k+1) x=if dk n f v k x≠0 then dk n f v k x else if wk n f v (k+1) x then k+1 else 0:=rfl
theorem NS{n:Nat}{f:Nat→Nat→Bool}{v x k:Nat}(h:dk n f v k x≠0):dk n f v (k+1) x=dk n f v k x:=by rw[sZ,if_pos h]

theorem Gy{n:Nat}{f:Nat→Nat→Bool}{v m x:Nat}(hm:1≤m)(hw:wk n f v (m+1) x=true)(hf:∀i,1≤i→i<m+1→wk n f v i x=false):∃y,y<n∧f x y=true∧wk n f v m y=true∧∀i,1≤i→i<m→wk n f v i y=false:=by
 obtain⟨y,hy,h1,h2⟩:=Di.1 hw
 refine⟨y,hy,h1,h2,fun i hi1 UA=> ?_⟩
 cases e:wk n f v i y with
 |false=>rfl
 |true=>
  have:=hf (i+1) (by omega) (by omega)
  rw[Di.2 ⟨y,hy,h1,e⟩] at this
  cases this
theorem chain{n:Nat}{f:Nat→Nat→Bool}{v:Nat}:∀(m x:Nat),x<n→wk n f v (m+1) x=true→(∀i,1≤i→i<m+1→wk n f v i x=false)→
  ∃l:List Int,l.length=m+1∧(∀a∈l,0≤a∧a<n)∧l.Nodup∧∀a∈l,∃j,1≤j∧j≤m+1∧wk n f v j a.toNat=true:=by
 intro m
 induction m with
 |zero=>
  intro x hx hw _
  refine⟨[(x:Int)],rfl,fun a ha=> ?_,by simp,fun a ha=> ?_⟩
  ·simp at ha;omega
  ·simp at ha;subst ha;exact⟨1,by omega,by omega,hw⟩
 |succ m ih=>
  intro x hx hw hf
  obtain⟨y,hy,_,h2,h3⟩:=Gy (by omega) hw hf
  obtain⟨l,g1,g2,g3,g4⟩:=ih y hy h2 h3
  refine⟨(x:Int)::l,by simp[g1],fun a ha=> ?_,List.nodup_cons.2 ⟨fun rP=> ?_,g3⟩,fun a ha=> ?_⟩
  ·rcases List.mem_cons.1 ha with rfl|ha
   ·omega
   ·exact g2 a ha
  ·obtain⟨j,j1,j2,j3⟩:=g4 _ rP
   have:=hf j j1 (by omega)
   simp only[Int.toNat_natCast] at j3
   rw[j3] at this;cases this
  ·rcases List.mem_cons.1 ha with rfl|ha
   ·exact⟨m+2,by omega,by omega,by simpa using hw⟩
   ·obtain⟨j,j1,j2,j3⟩:=g4 a ha
    exact⟨j,j1,by omega,j3⟩
theorem SZ{n:Nat}{f:Nat→Nat→Bool}{v m x:Nat}(hx:x<n)(hw:wk n f v (m+1) x=true)(hf:∀i,1≤i→i<m+1→wk n f v i x=false):m+1≤n:=by
 obtain⟨l,h1,h2,h3,_⟩:=chain m x hx hw hf
 have:=JD h2 h3
 omega
theorem NT{n:Nat}{f:Nat→Nat→Bool}{v k x:Nat}(hx:x<n):dk n f v k x≤n:=by
 by_cases h:dk n f v k x=0
 ·omega
 ·obtain⟨h1,h2,h3⟩:=Du k h
  obtain⟨m,hm⟩:∃m,dk n f v k x=m+1:=⟨dk n f v k x - 1,by omega⟩
  rw[hm] at h1 h3 ⊢
  exact SZ hx h1 h3

def Mo(n:Nat)(f:Nat→Nat→Bool)(v k:Nat):Nat→Bool:=fun x=>if k=0 then f x v else(List.range n).any fun y=>decide (dk n f v k y=k)&&f x y
theorem xB{n:Nat}{f:Nat→Nat→Bool}{v k x:Nat}(hv:v<n)(h0:dk n f v k x=0):Mo n f v k x=wk n f v (k+1) x:=by
 rw[Bool.eq_iff_iff]
 unfold Mo
 by_cases hk:k=0
 ·subst hk;rw[if_pos rfl,TT hv]
 ·rw[if_neg hk,List.any_eq_true,Di]
  simp only[List.mem_range,Bool.and_eq_true,decide_eq_true_eq]
  constructor
  ·rintro⟨y,hy,h1,h2⟩
   have:=(Du k (by omega:dk n f v k y≠0)).1
   rw[h1] at this
   exact⟨y,hy,h2,this⟩
  ·rintro⟨y,hy,h1,h2⟩
   have hne:dk n f v k y≠0:=fun h=>by
    have:=(yb k).1 h k (by omega) (by omega)
    rw[h2] at this;cases this
   obtain⟨g1,g2,g3⟩:=Du k hne
   refine⟨y,hy, ?_,h1⟩
   rcases Nat.lt_or_ge (dk n f v k y) k with h|h
   ·have:=(yb k).1 h0 (dk n f v k y+1) (by omega) (by omega)
    rw[Di.2 ⟨y,hy,h1,g1⟩] at this;cases this
   ·omega
theorem Zx{n:Nat}{f:Nat→Nat→Bool}{v k:Nat}(hv:v<n)(he:∀x,x<n→Mo n f v k x=false):∀m,k≤m→∀x,x<n→dk n f v m x=dk n f v k x:=by
 have none:∀m,k<m→∀x,x<n→wk n f v m x=true→(∀i,1≤i→i<m→wk n f v i x=false)→False:=by
  intro m hm
  induction m with
  |zero=>omega
  |succ m ih=>
   intro x hx hw hf
   by_cases hkm:k=m
   ·subst hkm
    have h0:dk n f v k x=0:=(yb k).2 fun j h1 h2=>hf j h1 (by omega)
    have:=he x hx
    rw[xB hv h0,hw] at this;cases this
   ·obtain⟨y,hy,_,h2,h3⟩:=Gy (by omega) hw hf
    exact ih (by omega) y hy h2 h3
 intro m hm
 induction m with
 |zero=>
  have:k=0:=by omega
  subst this;intro x _;rfl
 |succ m ih=>
  intro x hx
  by_cases hkm:k=m+1
  ·subst hkm;rfl
  ·have e:=ih (by omega) x hx
   rw[←e,sZ]
   by_cases h0:dk n f v m x=0
   ·rw[if_neg (by simpa using h0)]
    cases hw:wk n f v (m+1) x with
    |false=>simp[h0]
    |true=>exact(none (m+1) (by omega) x hx hw (fun i h1 h2=>(yb m).1 h0 i h1 (by omega))).elim
   ·rw[if_pos h0]
theorem Ii{n:Nat}{f:Nat→Nat→Bool}{v:Nat}:∀x,x<n→Mo n f v (n+1) x=false:=by
 intro x _
 unfold Mo
 rw[if_neg (by omega),List.any_eq_false]
 intro y hy
 have:=NT (f:=f) (v:=v) (k:=n+1) (List.mem_range.1 hy)
 simp;intro h;omega

def wR(F:Nat→Int):List Int:=(List.range 64).map F
theorem My(F:Nat→Int):(wR F).length=64:=by simp[wR]
theorem Fj{F G:Nat→Int}(h:∀x,x<64→F x=G x):wR F=wR G:=by
 unfold wR
 exact List.map_congr_left fun x hx=>h x (List.mem_range.1 hx)
theorem Fk(F:Nat→Int){y:Nat}(h:y<64):Sh.IQ 64 (wR F) (y:Int)=some (F y):=by
 unfold Sh.IQ
 rw[if_pos (My F),cI (by rw[My];exact h)]
 simp[wR]
theorem XB(F:Nat→Int){y:Nat}(_h:y<64)(c:Int):Sh.set (wR F) (y:Int) c=wR fun x=>if x=y then c else F x:=by
 rw[vS]
 apply List.ext_getElem? fun i=> ?_
 unfold wR
 rw[List.getElem?_set]
 by_cases hi:i<64
 ·by_cases e:y=i
  ·subst e;simp[hi]
  ·have e':¬i=y:=fun h=>e h.symm
   simp[e,e',hi]
 ·have h1:¬y=i∨¬i<64:=.inr hi
  rw[List.getElem?_eq_none (by simp;omega)]
  by_cases e:y=i
  ·simp[e,hi]
  ·simp[e,hi]
theorem Fl(F:Nat→Int):Sh.whole 64 (wR F)=some (wR F):=by
 unfold Sh.whole;rw[if_pos (My F)]

theorem Ui:List.replicate 64 (0:Int)=wR (fun _=>0):=by decide
def zn(n:Nat)(f:Nat→Nat→Bool)(v k:Nat):Nat→Int:=fun x=>if x<n then(dk n f v k x:Int) else 0
def Xb(n:Nat)(f:Nat→Nat→Bool)(v k:Nat)(L:List Nat):Nat→Int:=fun x=>if x<n then(if dk n f v k x=0∧x∈L then((k+1:Nat):Int) else(dk n f v k x:Int)) else 0
def Y1(n:Nat)(f:Nat→Nat→Bool)(v k:Nat)(L:List Nat):Nat→Bool:=fun x=>L.any fun y=>decide (dk n f v k y=0)&&f x y
theorem OM{n:Nat}(hn:n≤64)(f:Nat→Nat→Bool){v k:Nat}(hv:v<n)(hk:k≤n+1)(p:Nat→Bool):
  Sh.loop (fun(q:(List Int)×(BitVec 64)×Int)=>G.pJ (gr n (GX f)) ((k+1:Nat):Int) (lJ (row n p)) q.1 q.2.1 q.2.2) (wR (zn n f v k),0#64,0)=
   some (.inl (wR (Xb n f v k (Bv.list (row n p))),row n (Y1 n f v k (Bv.list (row n p))),((k+2:Nat):Int))):=by
 have hlen:=Bv.o8 (row n p)
 refine gB (fun j=>(wR (Xb n f v k ((Bv.list (row n p)).take j)),row n (Y1 n f v k ((Bv.list (row n p)).take j)),(j:Int))) (Bv.list (row n p)).length _ (bD (by omega)) (fun j hj=> ?_) ?_ ?_
 ·have hjl:j<(lJ (row n p)).length:=by simpa [lJ] using hj
  have hy:=Ed hn p hj
  have hjl':(j:Int)<((lJ (row n p)).length:Int):=by omega
  simp only[G.pJ,m_,hjl',decide_true,if_true,CN hj,Option.bind_some]
  generalize hye:(Bv.list (row n p))[j]=y at hy
  have hnot:y∉(Bv.list (row n p)).take j:=fun hm=>by
   obtain⟨i,hi,e⟩:=List.getElem_of_mem hm
   have hi':i<j:=by rw[List.length_take] at hi;omega
   rw[List.getElem_take] at e
   have:=List.pairwise_iff_getElem.1 (Bv.wH (row n p)) i j (by omega) hj hi'
   omega
  have hval:Xb n f v k ((Bv.list (row n p)).take j) y=(dk n f v k y:Int):=by
   unfold Xb;rw[if_pos hy,if_neg (fun h=>hnot h.2)]
  have htk:(Bv.list (row n p)).take (j+1)=(Bv.list (row n p)).take j++[y]:=by rw[List.take_succ_eq_append_getElem hj,hye]
  rw[Fk _ (by omega)]
  simp only[Option.bind_some,hval]
  by_cases h0:dk n f v k y=0
  ·have h0':(dk n f v k y:Int)=0:=by omega
   simp only[h0',decide_true,if_true,mo hy,Option.bind_some,Gv,Ns hn,G.pK,Sh.next,bf (show j<9223372036854775807 by omega)]
   rw[XB _ (by omega),htk]
   congr 3
   ·apply Fj
    intro x _
    unfold Xb
    by_cases hx:x<n
    ·by_cases e:x=y
     ·subst e;simp[hx,h0]
     ·simp[hx,e]
    ·have:¬x=y:=fun e=>hx (e▸hy)
     simp[hx,this]
   ·congr 1
    rw[yR hn]
    intro x _
    unfold Y1
    simp[h0,GX]
  ·have h0':¬(dk n f v k y:Int)=0:=by omega
   simp only[h0',decide_false,Bool.false_eq_true,if_false,G.pK,Sh.next,bf (show j<9223372036854775807 by omega)]
   rw[htk]
   congr 3
   ·apply Fj
    intro x _
    unfold Xb
    by_cases hx:x<n
    ·by_cases e:x=y
     ·subst e;simp[hx,h0]
     ·simp[hx,e]
    ·simp[hx]
   ·congr 1
    rw[yR hn]
    intro x _
    unfold Y1
    simp[h0]
 ·have hjl:¬(((Bv.list (row n p)).length:Nat):Int)<((lJ (row n p)).length:Int):=by simp[lJ]
  simp only[G.pJ,m_,hjl,decide_false,Bool.false_eq_true,if_false,List.take_length,G.sY,G.sX,Sh.next,bf (show k+1<9223372036854775807 by omega)]
 ·simp only[List.take_zero]
  congr 2
  ·funext x
   unfold zn Xb
   simp
  ·have:row n (Y1 n f v k [])=0#64:=by
    have:row n (Y1 n f v k [])=row n (fun _=>false):=by
     rw[yR hn];intro x _;rfl
    rw[this]
    apply Bv.ext
    intro i _
    rw[qs hn];simp
   rw[this]
theorem qS{n:Nat}(hn:n≤64)(f:Nat→Nat→Bool){v:Nat}(hv:v<n):G.qS (gr n (GX f)) (v:Int)=some (wR (zn n f v n)):=by
 unfold G.qS
 simp only[mo hv,Option.bind_some]
 obtain⟨K,hK,hmin⟩:=exists_least (fun k=>∀x,x<n→Mo n f v k x=false) ⟨n+1,Ii⟩
 have hKn:K≤n+1:=hmin _ Ii
 have hend:wR (zn n f v K)=wR (zn n f v n):=by
  apply Fj
  intro x _
  unfold zn
  by_cases hx:x<n
  ·rw[if_pos hx,if_pos hx]
   rcases Nat.lt_or_ge n K with h|h
   ·have e1:K=n+1:=by omega
    subst e1
    have:dk n f v (n+1) x=dk n f v n x:=by
     rw[sZ]
     by_cases h0:dk n f v n x=0
     ·rw[if_neg (by simpa using h0)]
      cases hw:wk n f v (n+1) x with
      |false=>simp[h0]
      |true=>
       have:=SZ hx hw (fun i h1 h2=>(yb n).1 h0 i h1 (by omega))
       omega
     ·rw[if_pos h0]
    rw[this]
   ·rw[Zx hv hK n h x hx]
  ·rw[if_neg hx,if_neg hx]
 rw[←hend]
 refine gB (fun k=>(wR (zn n f v k),row n (Mo n f v k),((k+1:Nat):Int))) K _ (bD (by omega)) (fun k hk=> ?_) ?_ ?_
 ·have hne:¬row n (Mo n f v k)=0#64:=fun h=>by
   have:∀x,x<n→Mo n f v k x=false:=fun x hx=>by
    have h2:(row n (Mo n f v k)).getLsbD x=false:=by rw[h];simp
    rw[qs hn] at h2
    simpa [hx] using h2
   have:=hmin k this
   omega
  simp only[G.qT,ne_eq,hne,not_false_eq_true,decide_true,if_true,mz,Option.bind_some]
  rw[OM hn f hv (by omega)]
  have hmem:∀x,x∈Bv.list (row n (Mo n f v k))↔x<n∧Mo n f v k x=true:=fun x=>vI hn _
  congr 3
  ·apply Fj
   intro x _
   unfold Xb zn
   by_cases hx:x<n
   ·rw[if_pos hx,if_pos hx,sZ]
    by_cases h0:dk n f v k x=0
    ·have hi:=xB hv h0
     rw[if_neg (show ¬dk n f v k x≠0 by simpa using h0)]
     cases hw:wk n f v (k+1) x with
     |true=>rw[if_pos ⟨h0,(hmem x).2 ⟨hx,by rw[hi,hw]⟩⟩];rfl
     |false=>rw[if_neg (fun h=>by have:=((hmem x).1 h.2).2;rw[hi,hw] at this;cases this),h0];rfl
    ·rw[if_neg (fun h=>h0 h.1),if_pos h0]
   ·rw[if_neg hx,if_neg hx]
  ·congr 1
   rw[yR hn]
   intro x _
   rw[Bool.eq_iff_iff]
   unfold Y1
   conv=>rhs;unfold Mo
   rw[if_neg (by omega),List.any_eq_true,List.any_eq_true]
   simp only[Bool.and_eq_true,decide_eq_true_eq,List.mem_range]
   constructor
   ·rintro⟨y,h1,h2,h3⟩
    obtain⟨hy,h4⟩:=(hmem y).1 h1
    refine⟨y,hy, ?_,h3⟩
    rw[sZ,if_neg (by simpa using h2)]
    rw[xB hv h2] at h4
    rw[h4];rfl
   ·rintro⟨y,hy,h2,h3⟩
    have h0:dk n f v k y=0:=Classical.byContradiction fun h=>by
     have:=(Du k h).2.1
     rw[NS h] at h2
     omega
    refine⟨y,(hmem y).2 ⟨hy, ?_⟩,h0,h3⟩
    rw[xB hv h0]
    rw[sZ,if_neg (by simpa using h0)] at h2
    cases hw:wk n f v (k+1) y with
    |true=>rfl
    |false=>rw[hw] at h2;simp at h2
 ·have hz:row n (Mo n f v K)=0#64:=by
   apply Bv.ext
   intro i _
   rw[qs hn]
   by_cases hi:i<n
   ·simp[hi,hK i hi]
   ·simp[hi]
  simp only[G.qT,hz,ne_eq,not_true_eq_false,decide_false,Bool.false_eq_true,if_false,G.sW,Fl,Option.bind_some]
 ·congr 1
  ·rw[Ui]
   apply Fj
   intro x _
   unfold zn dk
   simp
end Pl
end
