/- What the plain functions answer. -/
import Derived.Test.YtleihjegenjacaaGreatSh
import Derived.KernelRfl
set_option linter.unusedSimpArgs false
set_option linter.unusedVariables false
section
/- What is used to reason about the plain functions. -/
namespace Pl
open Go Go.Av G

theorem Ax{n:Int}(h1: -9223372036854775808≤n)(h2:n<9223372036854775808):gJ n=n:=TU h1 h2
theorem dI{α:Type}{l:List α}{k:Nat}(h:k<l.length):Sh.idx l (k:Int)=some l[k]:=by
 simp[Sh.idx,h]
theorem OO{α:Type}{l:List α}{i:Int}(h0:0≤i)(h:i<l.length):Sh.idx l i=some (l[i.toNat]'(by omega)):=by
 unfold Sh.idx
 rw[if_pos h0]
 exact List.getElem?_eq_getElem (by omega)
theorem rC{α:Type}{b:Nat}{l m:List α}(h:(l.length+m.length)*b≤140737488355328):Sh.app b l m=some (l++m):=by
 simp[Sh.app,h]
theorem Yg{α:Type}{b m:Nat}{z:α}(h:b*m≤140737488355328)(h2:m≤4611686018427387904):Sh.mk b (m:Int) (m:Int) z=some (List.replicate m z):=by
 have:((b:Int)*(m:Int))≤140737488355328:=by
  rw[←Int.natCast_mul];omega
 unfold Sh.mk
 rw[if_pos ⟨by omega,by omega,this,by omega⟩]
 simp
theorem aax{α:Type}{l:List α}{m k:Nat}(h1:m≤k)(h2:k≤l.length):Sh.sub l (m:Int) (k:Int)=some ((l.drop m).take (k - m)):=by
 unfold Sh.sub
 rw[if_pos ⟨by omega,by omega,by omega⟩]
 simp
theorem FW{α:Type}(l:List α)(k:Nat)(x:α):Sh.set l (k:Int) x=l.set k x:=by simp[Sh.set]
theorem count{σ α:Type}{b:σ×Int→Option ((σ×Int)⊕α)}(S:Nat→σ)(m:Nat)(r:α)(hm:m<Sh.sL)(h:∀k,k<m→b (S k,(k:Int))=some (.inl (S (k+1),((k+1:Nat):Int))))(hr:b (S m,(m:Int))=some (.inr r)){s:σ}(hs:s=S 0):
  Sh.loop b (s,0)=some r:=by
 subst hs
 exact Sh.EU (fun k=>(S k,(k:Int))) m r hm h hr
theorem zc{σ α:Type}(s:σ):Sh.next (α:=α) s=some (.inl s):=rfl
theorem oQ{σ α:Type}(x:α):Sh.exit (σ:=σ) (some x)=some (.inr x):=rfl
theorem bZ{n:Nat}(h:n<9223372036854775808):n<Sh.sL:=h
theorem bL{k:Nat}(h:k<9223372036854775807):gJ ((k:Int)+1)=((k+1:Nat):Int):=by
 rw[Ax (by omega) (by omega)];omega
theorem gN{α:Type}(l:List α):Sh.len l=(l.length:Int):=rfl
theorem dec_lt{k n:Nat}:decide ((k:Int)<(n:Int))=decide (k<n):=by
 congr 1;exact propext (by omega)
end Pl
namespace Pl
open Go Go.Av G
theorem scan{α:Type}{b:Int→Option (Int⊕α)}(s m:Nat)(p:Nat→Bool)(A B:α)(hsm:s≤m)(hm:m<Sh.sL)(h:∀k,s≤k→k<m→b (k:Int)=if p k then some (.inl ((k+1:Nat):Int)) else some (.inr B))(hr:b (m:Int)=some (.inr A)):
  Sh.loop b (s:Int)=some (if ∀k,k<m→s≤k→p k=true then A else B):=by
 by_cases hall:∀k,k<m→s≤k→p k=true
 ·rw[if_pos hall]
  refine Sh.EU (fun k=>((s+k:Nat):Int)) (m - s) A (by omega) (fun k hk=> ?_) ?_
  ·rw[h (s+k) (by omega) (by omega),if_pos (hall _ (by omega) (by omega))];rfl
  ·rw[show s+(m - s)=m by omega];exact hr
 ·rw[if_neg hall]
  have hex:∃k,s≤k∧k<m∧p k=false:=by
   apply Classical.byContradiction
   intro hn
   exact hall (fun k h2 h1=>by
    cases hp:p k with
    |true=>rfl
    |false=>exact absurd ⟨k,h1,h2,hp⟩ hn)
  obtain⟨k,hk,hmin⟩:=exists_least _ hex
  refine Sh.EU (fun q=>((s+q:Nat):Int)) (k - s) B (by omega) (fun q hq=> ?_) ?_
  ·have:p (s+q)=true:=by
    cases hp:p (s+q) with
    |true=>rfl
    |false=>have:=hmin (s+q) ⟨by omega,by omega,hp⟩;omega
   rw[h (s+q) (by omega) (by omega),if_pos this];rfl
  ·rw[show s+(k - s)=k by omega,h k hk.1 hk.2.1,if_neg (by rw[hk.2.2];simp)]
theorem Qj{α:Type}{b:Int→Option (Int⊕α)}(m:Nat)(p:Nat→Bool)(A B:α)(hm:m<Sh.sL)(h:∀k,k<m→b (k:Int)=if p k then some (.inl ((k+1:Nat):Int)) else some (.inr B))(hr:b (m:Int)=some (.inr A)):
  Sh.loop b 0=some (if ∀k,k<m→p k=true then A else B):=by
 have:=scan 0 m p A B (by omega) hm (fun k _ hk=>h k hk) hr
 simpa using this
theorem tI{b:Int→Option (Int⊕Bool)}(m:Nat)(p:Nat→Bool)(hm:m<Sh.sL)(h:∀k,k<m→b (k:Int)=if p k then some (.inl ((k+1:Nat):Int)) else some (.inr false))(hr:b (m:Int)=some (.inr true)):
  Sh.loop b 0=some (decide (∀k,k<m→p k=true)):=by
 rw[Qj m p true false hm h hr]
 by_cases hq:∀k,k<m→p k=true
 ·rw[if_pos hq,decide_eq_true hq]
 ·rw[if_neg hq,decide_eq_false hq]
end Pl
namespace Pl
open Go Go.Av G
theorem qd{σ α:Type}{b:σ→Option (σ⊕α)}(S:Nat→σ)(m:Nat)(X:Option α)(hm:m<Sh.sL)(h:∀k,k<m→b (S k)=some (.inl (S (k+1))))(hr:b (S m)=Sh.exit X){s:σ}(hs:s=S 0):Sh.loop b s=X:=by
 subst hs
 unfold Sh.loop
 rw[show Sh.sL=m+((Sh.sL - m - 1)+1) by omega,Sh.PU S m h]
 simp only[Sh.iter,hr]
 cases X <;> rfl
theorem fV{σ α:Type}{b:σ×Int→Option ((σ×Int)⊕α)}(S:Nat→σ)(m:Nat)(X:Option α)(hm:m<Sh.sL)(h:∀k,k<m→b (S k,(k:Int))=some (.inl (S (k+1),((k+1:Nat):Int))))(hr:b (S m,(m:Int))=Sh.exit X){s:σ}(hs:s=S 0):
  Sh.loop b (s,0)=X:=qd (fun k=>(S k,(k:Int))) m X hm h hr (by rw[hs];rfl)
end Pl
end

section
/- Loops over lists. -/
namespace Pl
open Go Go.Av G

def we{σ α β:Type}(step:Nat→σ→α→σ⊕β)(X:σ→Option β):Nat→List α→σ→Option β
 |_,[],s=>X s
 |k,x::l,s=>match step k s x with
  |.inl s'=>we step X (k+1) l s'
  |.inr r=>some r

theorem tE{σ β:Type}{b:σ→Option (σ⊕β)}{n:Nat}{s s':σ}(h:b s=some (.inl s')):Sh.iter b (n+1) s=Sh.iter b n s':=by simp[Sh.iter,h]
theorem za{σ β:Type}{b:σ→Option (σ⊕β)}{n:Nat}{s:σ}{r:β}(h:b s=some (.inr r)):Sh.iter b (n+1) s=some r:=by simp[Sh.iter,h]
theorem sw{σ β:Type}{b:σ→Option (σ⊕β)}{n:Nat}{s:σ}{X:Option β}(h:b s=Sh.exit X):Sh.iter b (n+1) s=X:=by cases X <;> simp[Sh.iter,h,Sh.exit]

theorem QZ{σ τ α β:Type}{b:τ→Option (τ⊕β)}(S:σ→Nat→τ)(step:Nat→σ→α→σ⊕β)(X:σ→Option β)(l0:List α)
  (h:∀(k:Nat) (s:σ) (hk:k<l0.length),b (S s k)=match step k s l0[k] with|.inl s'=>some (.inl (S s' (k+1)))|.inr r=>some (.inr r))
  (he:∀s,b (S s l0.length)=Sh.exit (X s)):∀(l:List α) (k n:Nat) (s:σ),l0.drop k=l→k≤l0.length→l.length<n→Sh.iter b n (S s k)=we step X k l s:=by
 intro l
 induction l with
 |nil=>
  intro k n s hl hk hn
  have zN:k=l0.length:=by
   have:(l0.drop k).length=0:=by rw[hl];rfl
   simp at this;omega
  subst zN
  obtain⟨n,rfl⟩:∃m,n=m+1:=⟨n - 1,by simp at hn;omega⟩
  exact sw (he s)
 |cons x l ih=>
  intro k n s hl hk hn
  have hlen:(l0.drop k).length=l.length+1:=by rw[hl];rfl
  have zN:k<l0.length:=by simp at hlen;omega
  obtain⟨n,rfl⟩:∃m,n=m+1:=⟨n - 1,by simp at hn;omega⟩
  have hx:l0[k]=x∧l0.drop (k+1)=l:=by
   rw[List.drop_eq_getElem_cons zN] at hl
   simp only[List.cons.injEq] at hl
   exact hl
  have hb:=h k s zN
  rw[hx.1] at hb
  simp only[we]
  cases hs:step k s x with
  |inl s'=>
   rw[hs] at hb
   rw[tE hb]
   exact ih (k+1) n s' hx.2 zN (by simp at hn;omega)
  |inr r=>
   rw[hs] at hb
   exact za hb

theorem CW{σ τ α β:Type}{b:τ→Option (τ⊕β)}(S:σ→Nat→τ)(step:Nat→σ→α→σ⊕β)(X:σ→Option β)(l:List α)(hm:l.length<Sh.sL)
  (h:∀(k:Nat) (s:σ) (hk:k<l.length),b (S s k)=match step k s l[k] with|.inl s'=>some (.inl (S s' (k+1)))|.inr r=>some (.inr r))
  (he:∀s,b (S s l.length)=Sh.exit (X s))(s:σ){t:τ}(ht:t=S s 0):Sh.loop b t=we step X 0 l s:=by
 subst ht
 exact QZ S step X l h he l 0 Sh.sL s rfl (Nat.zero_le _) hm

theorem p8{α β:Type}{b:Int→Option (Int⊕β)}(l:List α)(p:α→Bool)(A:Nat→β)(X:Option β)(hm:l.length<Sh.sL)
  (h:∀(k:Nat) (hk:k<l.length),b (k:Int)=if p l[k] then some (.inr (A k)) else some (.inl ((k+1:Nat):Int)))
  (he:b (l.length:Int)=Sh.exit X):Sh.loop b 0=(l.findIdx? p).elim X (fun k=>some (A k)):=by
 rw[CW (σ:=Unit) (α:=α) (fun _ k=>(k:Int)) (fun k _ x=>if p x then .inr (A k) else .inl ()) (fun _=>X) l hm (fun k s hk=> ?_) (fun _=>he) () (t:=(0:Int)) rfl]
 ·have key:∀(l:List α) (k:Nat),we (fun k (_:Unit) x=>if p x then Sum.inr (A k) else Sum.inl ()) (fun _=>X) k l ()=(l.findIdx? p).elim X (fun i=>some (A (k+i))):=by
   intro l
   induction l with
   |nil=>intro k;simp[we]
   |cons x l ih=>
    intro k
    simp only[we,List.findIdx?_cons]
    cases hp:p x with
    |true=>simp
    |false=>
     simp only[nF,if_false]
     rw[ih (k+1)]
     cases l.findIdx? p with
     |none=>rfl
     |some i=>simp only[Option.map_some,Option.elim_some];congr 2;omega
  rw[key l 0]
  simp
 ·rw[h k hk]
  cases p l[k] <;> rfl

theorem Bq{α β:Type}{b:Int→Option (Int⊕β)}(l:List α)(p:α→Bool)(A:β)(X:Option β)(hm:l.length<Sh.sL)
  (h:∀(k:Nat) (hk:k<l.length),b (k:Int)=if p l[k] then some (.inr A) else some (.inl ((k+1:Nat):Int)))
  (he:b (l.length:Int)=Sh.exit X):Sh.loop b 0=if l.any p then some A else X:=by
 rw[p8 l p (fun _=>A) X hm h he]
 cases hf:l.findIdx? p with
 |none=>
  have:l.any p=false:=by
   rw[List.findIdx?_eq_none_iff] at hf
   rw[List.any_eq_false]
   intro x hx
   simpa using hf x hx
  rw[this];rfl
 |some i=>
  have:l.any p=true:=by
   rw[List.any_eq_true]
   rw[List.findIdx?_eq_some_iff_getElem] at hf
   obtain⟨hi,hp,_⟩:=hf
   exact⟨l[i],List.getElem_mem hi,hp⟩
  rw[this];rfl

def pos{α:Type}(l:List α)(p:α→Bool):Int:=(l.findIdx? p).elim (-1) (fun k=>(k:Int))
theorem uh{α:Type}(l:List α)(p:α→Bool):(l.findIdx? p).elim (some (-1:Int)) (fun k=>some (k:Int))=some (pos l p):=by unfold pos;cases l.findIdx? p <;> rfl
theorem gX{α:Type}(l:List α)(p:α→Bool):decide ((0:Int)≤pos l p)=l.any p:=by
 unfold pos
 cases hf:l.findIdx? p with
 |none=>
  have:l.any p=false:=by
   rw[List.findIdx?_eq_none_iff] at hf
   rw[List.any_eq_false]
   intro x hx
   simpa using hf x hx
  rw[this];rfl
 |some i=>
  have:l.any p=true:=by
   rw[List.any_eq_true]
   rw[List.findIdx?_eq_some_iff_getElem] at hf
   obtain⟨hi,hp,_⟩:=hf
   exact⟨l[i],List.getElem_mem hi,hp⟩
  rw[this];simp
end Pl
end

section
/- Whether a history may be. -/
namespace Pl
open Go Go.Av G

theorem ak_{l:List Int}(hl:l.length<9223372036854775808)(v:Int):jy l v=some (pos l (fun x=>decide (v=x))):=by
 unfold jy
 rw[p8 l (fun x=>decide (v=x)) (fun k=>(k:Int)) (some (-1)) (bZ hl) (fun k hk=> ?_) ?_,uh]
 ·simp[jA,mz]
 ·simp only[jA,dec_lt,hk,decide_true,if_true,dI hk,fm,bL (k:=k) (by omega)]
  rfl
theorem Ur{l:List Int}(hl:l.length<9223372036854775808)(v:Int):dG l v=some (l.any (fun x=>decide (v=x))):=by
 unfold dG
 rw[ak_ hl,fm,gX]

def rising:Int→List Int→Bool
 |_,[]=>true
 |last,x::l=>decide (last<x)&&decide (x<16)&&rising x l
def ja(t:ah)(k:Int):Bool:=t.bA.any (fun x=>decide (k=x))
def there(h:af)(n:Int)(x:ak):Bool:=
 decide (x.bY= -1)||(decide (0≤x.bY)&&decide (x.bY<(h.az.length:Int))&&decide (x.bY≠n)&&match h.az[x.bY.toNat]? with|some t=>ja t x.Key|none=>false)
def rq(h:af)(n:Int):Int→List ak→Bool
 |_,[]=>true
 |last,x::l=>decide (last<x.Key)&&decide (x.Key<16)&&there h n x&&rq h n x.Key l
def GX(h:af)(n:Int)(t:ah):Bool:=rising (-1) t.bA&&rq h n (-1) t.Reads&&decide (0≤t.bw)&&decide (t.bw<8)
def uN(h:af):Nat→List ah→Bool
 |_,[]=>true
 |n,t::l=>GX h n t&&uN h (n+1) l
def right(h:af):Bool:=decide (h.az.length≤32)&&uN h 0 h.az

structure Fits (h:af):Prop where
 Vb:h.az.length≤9223372036854775807
 writes:∀t∈h.az,t.bA.length≤9223372036854775807
 reads:∀t∈h.az,t.Reads.length≤9223372036854775807

theorem y1(c y:Bool):iD c y=some (if y then(c,true) else(false,false)):=by cases y <;> rfl

theorem Z7{h:af}(hf:Fits h)(n:Int)(x:ak){α:Type}(K:Bool→Option α):
  (if decide (x.bY=(-1)) then K true else if decide ((0:Int)≤x.bY) then if decide (x.bY<(Sh.len h.az)) then if decide (x.bY≠n) then(Sh.idx h.az x.bY).bind fun VA=>(dG VA.bA x.Key).bind fun Ro=>K Ro else K false else K false else K false)=K (there h n x):=by
 unfold there
 by_cases h1:x.bY= -1
 ·simp[h1]
 ·by_cases h2:0≤x.bY
  ·by_cases h3:x.bY<(h.az.length:Int)
   ·by_cases h4:x.bY=n
    ·subst h4;simp[h1,h2,h3]
    ·have h5:h.az[x.bY.toNat]? =some (h.az[x.bY.toNat]'(by omega)):=List.getElem?_eq_getElem (by omega)
     rw[OO h2 h3,h5]
     have:=hf.writes _ (List.getElem_mem (show x.bY.toNat<h.az.length by omega))
     have h6:=Ur (l:=(h.az[x.bY.toNat]'(by omega)).bA) (by omega) x.Key
     simp[h1,h2,h3,h4,h6,ja]
   ·simp[h1,h2,h3]
  ·simp[h1,h2]

theorem Z4{h:af}(hf:Fits h)(n:Int)(t:ah)(ht:t∈h.az)(c:Bool):de h n t c=if rq h n (-1) t.Reads then dg n t c else some (.inr (false,false)):=by
 unfold de
 have hl:=hf.reads t ht
 rw[CW (σ:=Bool×Int) (fun s k=>(s.1,s.2,(k:Int))) (fun _ s x=>if decide (s.2<x.Key)&&decide (x.Key<16)&&there h n x then .inl (s.1,x.Key) else .inr (.inr (false,false))) (fun s=>dg n t s.1) t.Reads (bZ (by omega)) (fun k s hk=> ?_) (fun s=> ?_) (c, -1) (t:=(c,(-1:Int),(0:Int))) rfl]
 ·have key:∀(l:List ak) (k:Nat) (last:Int),we (fun _ (s:Bool×Int) (x:ak)=>if decide (s.2<x.Key)&&decide (x.Key<16)&&there h n x then Sum.inl (s.1,x.Key) else Sum.inr (.inr (false,false))) (fun s=>dg n t s.1) k l (c,last)=if rq h n last l then dg n t c else some (.inr (false,false)):=by
   intro l
   induction l with
   |nil=>intro k last;simp[we,rq]
   |cons x l ih=>
    intro k last
    simp only[we]
    rw[show rq h n last (x::l)=(decide (last<x.Key)&&decide (x.Key<16)&&there h n x&&rq h n x.Key l) from rfl]
    by_cases hq:(decide (last<x.Key)&&decide (x.Key<16)&&there h n x)=true
    ·rw[if_pos hq,hq,Bool.true_and];exact ih (k+1) x.Key
    ·rw[if_neg hq,Bool.eq_false_iff.2 hq];simp
  exact key t.Reads 0 (-1)
 ·obtain⟨c,last⟩:=s
  simp only[fC,dec_lt,hk,decide_true,if_true,dI hk,fm]
  rw[Z7 hf n t.Reads[k] (fun b=>cS c last k t.Reads[k] b)]
  simp only[cS,y1,eL,bL (k:=k) (by omega),fm]
  by_cases h1:last<t.Reads[k].Key
  ·by_cases h2:t.Reads[k].Key<16
   ·cases h3:there h n t.Reads[k] <;> simp[h1,h2,Sh.exit,Sh.next]
   ·simp[h1,h2,Sh.exit]
  ·simp[h1,Sh.exit]
 ·simp[fC]

theorem WD{h:af}(hf:Fits h)(n:Nat)(hn:n<9223372036854775807)(t:ah)(ht:t∈h.az)(c:Bool):
  Sh.loop (fun(p:Bool×Int×Int)=>eH h n t p.1 p.2.1 p.2.2) (c,(-1),0)=if GX h n t then some (.inl (c,((n+1:Nat):Int))) else some (.inr (false,false)):=by
 have hl:=hf.writes t ht
 rw[CW (σ:=Bool×Int) (fun s k=>(s.1,s.2,(k:Int))) (fun _ s x=>if decide (s.2<x)&&decide (x<16) then .inl (s.1,x) else .inr (.inr (false,false))) (fun s=>de h n t s.1) t.bA (bZ (by omega)) (fun k s hk=> ?_) (fun s=> ?_) (c, -1) (t:=(c,(-1:Int),(0:Int))) rfl]
 ·have key:∀(l:List Int) (k:Nat) (last:Int),we (fun _ (s:Bool×Int) (x:Int)=>if decide (s.2<x)&&decide (x<16) then Sum.inl (s.1,x) else Sum.inr (.inr (false,false))) (fun s=>de h n t s.1) k l (c,last)=if rising last l then de h n t c else some (.inr (false,false)):=by
   intro l
   induction l with
   |nil=>intro k last;simp[we,rising]
   |cons x l ih=>
    intro k last
    simp only[we]
    rw[show rising last (x::l)=(decide (last<x)&&decide (x<16)&&rising x l) from rfl]
    by_cases hq:(decide (last<x)&&decide (x<16))=true
    ·rw[if_pos hq,hq,Bool.true_and];exact ih (k+1) x
    ·rw[if_neg hq,Bool.eq_false_iff.2 hq];simp
  rw[key t.bA 0 (-1),Z4 hf n t ht]
  unfold GX
  cases h1:rising (-1) t.bA
  ·simp
  ·cases h2:rq h n (-1) t.Reads
   ·simp
   ·simp only[dg,y1,fD,bL hn,fm]
    by_cases h3:0≤t.bw
    ·by_cases h4:t.bw<8 <;> simp[h3,h4,Sh.exit,Sh.next]
    ·simp[h3,Sh.exit]
 ·obtain⟨c,last⟩:=s
  simp only[eH,dec_lt,hk,decide_true,if_true,dI hk,fm,y1,fE,bL (k:=k) (by omega)]
  by_cases h1:last<t.bA[k]
  ·by_cases h2:t.bA[k]<16 <;> simp[h1,h2,Sh.exit,Sh.next]
  ·simp[h1,Sh.exit]
 ·simp[eH]

theorem Ih{h:af}(hf:Fits h):nJ h=some (right h):=by
 have hl:=hf.Vb
 have hloop:∀c,Sh.loop (fun(p:Bool×Int)=>eG h p.1 p.2) (c,0)=if uN h 0 h.az then some (c,true) else some (false,false):=by
  intro c
  rw[CW (σ:=Bool) (fun s k=>(s,(k:Int))) (fun k s x=>if GX h k x then .inl s else .inr (false,false)) (fun s=>some (s,true)) h.az (bZ (by omega)) (fun k s hk=> ?_) (fun s=> ?_) c (t:=(c,(0:Int))) rfl]
  ·have key:∀(l:List ah) (k:Nat),we (fun k (s:Bool) (x:ah)=>if GX h (k:Nat) x then Sum.inl s else Sum.inr (false,false)) (fun s=>some (s,true)) k l c=if uN h k l then some (c,true) else some (false,false):=by
    intro l
    induction l with
    |nil=>intro k;simp[we,uN]
    |cons x l ih=>
     intro k
     simp only[we]
     rw[show uN h k (x::l)=(GX h (k:Nat) x&&uN h (k+1) l) from rfl]
     by_cases hq:GX h (k:Nat) x=true
     ·rw[if_pos hq,hq,Bool.true_and];exact ih (k+1)
     ·rw[if_neg hq,Bool.eq_false_iff.2 hq];simp
   exact key h.az 0
  ·simp only[eG,dec_lt,hk,decide_true,if_true,dI hk,fm]
   rw[WD hf k (by omega) _ (List.getElem_mem hk)]
   cases GX h k h.az[k] <;> rfl
  ·simp[eG]
 unfold nJ xT iL right
 simp only[fm,y1,gN]
 by_cases h1:h.az.length≤32
 ·have h2:((h.az.length:Int)≤32):=by omega
  simp only[h1,h2,decide_true,if_true,hloop,Bool.true_and]
  cases uN h 0 h.az <;> simp
 ·have h2:¬((h.az.length:Int)≤32):=by omega
  simp[h1,h2]

theorem G0{t:ah}(hl:t.bA.length≤9223372036854775807)(k:Int):fH t k=some (ja t k):=by
 unfold fH ja
 rw[Bq t.bA (fun x=>decide (k=x)) true (some false) (bZ (by omega)) (fun i hi=> ?_) ?_]
 ·cases t.bA.any (fun x=>decide (k=x)) <;> rfl
 ·simp[jL,mZ]
 ·simp only[jL,dec_lt,hi,decide_true,if_true,dI hi,fm,bL (k:=i) (by omega),Sh.exit,Sh.next,Option.map_some]
  by_cases h1:t.bA[i]=k
  ·simp[h1]
  ·have:¬k=t.bA[i]:=fun h=>h1 h.symm
   simp[h1,this]
end Pl
end

section
/- The reference's word on histories: whether one may be, and whether it is small. -/
namespace Pl
open Go Go.Av G

def yl{α:Type}(key:α→Int)(ok:α→Bool):Int→List α→Bool
 |_,[]=>true
 |last,x::l=>decide (last<key x)&&decide (key x<16)&&ok x&&yl key ok (key x) l
theorem FV:∀(l:List Int) (last:Int),rising last l=yl id (fun _=>true) last l
 |[],_=>rfl
 |x::l,last=>by
  rw[show rising last (x::l)=(decide (last<x)&&decide (x<16)&&rising x l) from rfl,FV l x]
  simp[yl]
theorem IM(h:af)(n:Int):∀(l:List ak) (last:Int),rq h n last l=yl (·.Key) (there h n) last l
 |[],_=>rfl
 |x::l,last=>by
  rw[show rq h n last (x::l)=(decide (last<x.Key)&&decide (x.Key<16)&&there h n x&&rq h n x.Key l) from rfl,IM h n l x.Key]
  rfl
theorem Hf{α:Type}{key:α→Int}{ok:α→Bool}:∀{l:List α} {last:Int},yl key ok last l=true↔
  ∀k (hk:k<l.length),key l[k]<16∧ok l[k]=true∧(if h0:k=0 then last<key l[k] else key (l[k - 1]'(by omega))<key l[k])
 |[],last=>by simp[yl]
 |x::l,last=>by
  simp only[yl,Bool.and_eq_true,decide_eq_true_eq,Hf (l:=l)]
  constructor
  ·rintro⟨⟨⟨h1,h2⟩,h3⟩,h4⟩ k hk
   cases k with
   |zero=>exact⟨h2,h3,by simpa using h1⟩
   |succ k=>
    have:=h4 k (by simpa using hk)
    refine⟨by simpa using this.1,by simpa using this.2.1, ?_⟩
    have h5:=this.2.2
    rw[dif_neg (by omega)]
    cases k with
    |zero=>simpa using h5
    |succ k=>simpa using h5
  ·intro h
   have h0:=h 0 (by simp)
   refine⟨⟨⟨by simpa using h0.2.2,by simpa using h0.1⟩,by simpa using h0.2.1⟩,fun k hk=> ?_⟩
   have:=h (k+1) (by simpa using hk)
   refine⟨by simpa using this.1,by simpa using this.2.1, ?_⟩
   have h5:=this.2.2
   rw[dif_neg (by omega)] at h5
   cases k with
   |zero=>simpa using h5
   |succ k=>simpa using h5
def step{α:Type}(key:α→Int)(ok:α→Bool)(l:List α)(k:Nat):Bool:=
 match l[k]? with
 |none=>true
 |some x=>decide (0≤key x)&&decide (key x<16)&&ok x&&(decide (k=0)||match l[k - 1]? with|none=>true|some y=>decide (key y<key x))
theorem F7{α:Type}(key:α→Int)(ok:α→Bool)(l:List α):decide (∀k,k<l.length→step key ok l k=true)=yl key ok (-1) l:=by
 rw[Bool.eq_iff_iff,decide_eq_true_eq,Hf]
 constructor
 ·intro h k hk
  have h1:=h k hk
  simp only[step,List.getElem?_eq_getElem hk,Bool.and_eq_true,decide_eq_true_eq,Bool.or_eq_true] at h1
  refine⟨h1.1.1.2,h1.1.2, ?_⟩
  split
  ·have:=h1.1.1.1;omega
  ·have h2:=h1.2.resolve_left (by assumption)
   rw[List.getElem?_eq_getElem (show k - 1<l.length by omega)] at h2
   simpa using h2
 ·intro h
  have pos:∀k (hk:k<l.length),0≤key l[k]:=by
   intro k
   induction k with
   |zero=>
    intro hk
    have:=(h 0 hk).2.2
    rw[dif_pos rfl] at this;omega
   |succ k ih=>
    intro hk
    have h1:=ih (by omega)
    have:=(h (k+1) hk).2.2
    rw[dif_neg (by omega)] at this
    simp only[Nat.add_sub_cancel] at this
    omega
  intro k hk
  obtain⟨h1,h2,h3⟩:=h k hk
  simp only[step,List.getElem?_eq_getElem hk,Bool.and_eq_true,decide_eq_true_eq,Bool.or_eq_true]
  refine⟨⟨⟨pos k hk,h1⟩,h2⟩, ?_⟩
  by_cases h0:k=0
  ·exact .inl h0
  ·rw[dif_neg h0] at h3
   rw[List.getElem?_eq_getElem (show k - 1<l.length by omega)]
   exact .inr (by simpa using h3)
theorem Qk{α:Type}(key:α→Int)(ok:α→Bool)(l:List α)(k:Nat)(hk:k<l.length):
  step key ok l k=(decide (0≤key l[k])&&decide (key l[k]<16)&&ok l[k]&&(if h0:k=0 then true else decide (key (l[k - 1]'(by omega))<key l[k]))):=by
 unfold step
 rw[List.getElem?_eq_getElem hk]
 by_cases h0:k=0
 ·subst h0;simp
 ·rw[List.getElem?_eq_getElem (show k - 1<l.length by omega)]
  simp[h0]

theorem N7{k:Nat}(h0:0<k)(h:k<9223372036854775807):gJ ((k:Int) - 1)=((k - 1:Nat):Int):=by
 rw[Ax (by omega) (by omega)];omega
theorem Pc{h:af}(hf:Fits h)(n:Nat)(x:ak):there h n x=(!(decide (x.bY< -1)||decide ((h.az.length:Int)≤x.bY)||decide (x.bY=n))&&(decide (x.bY<0)||match h.az[x.bY.toNat]? with|some t=>ja t x.Key|none=>false)):=by
 unfold there
 by_cases a:x.bY= -1
 ·have h1:¬((-1:Int)=n):=by omega
  have h2:¬((h.az.length:Int)≤ -1):=by omega
  simp[a,h1,h2]
 ·by_cases b:0≤x.bY
  ·have h1:¬x.bY< -1:=by omega
   have h2:¬x.bY<0:=by omega
   by_cases c:x.bY<(h.az.length:Int)
   ·have h3:¬((h.az.length:Int)≤x.bY):=by omega
    by_cases d:x.bY=n <;> simp[a,b,c,d,h1,h2,h3]
   ·have h3:((h.az.length:Int)≤x.bY):=by omega
    simp[a,b,c,h3]
  ·have h1:x.bY< -1:=by omega
   simp[a,b,h1]
theorem ahh{h:af}(hf:Fits h){n:Nat}(hn:n<h.az.length):nv h n=some (GX h n h.az[n]):=by
 have hw:=hf.writes _ (List.getElem_mem hn)
 have hr:=hf.reads _ (List.getElem_mem hn)
 have hreads:mQ h n h.az[n]=some (rq h n (-1) (h.az[n]).Reads):=by
  unfold mQ
  rw[IM,←F7]
  refine tI (h.az[n]).Reads.length (step (·.Key) (there h n) (h.az[n]).Reads) (bZ (by omega)) (fun k hk=> ?_) ?_
  ·have h5:∀b:Bool,(b=false→((h.az[n]).Reads[k]).bY<(h.az.length:Int))→cU h k ((h.az[n]).Reads[k]) b=if !b&&(decide (((h.az[n]).Reads[k]).bY<0)||match h.az[((h.az[n]).Reads[k]).bY.toNat]? with|some t=>ja t ((h.az[n]).Reads[k]).Key|none=>false) then some (.inl ((k+1:Nat):Int)) else some (.inr false):=fun b hb=>by
    unfold cU
    cases b with
    |true=>simp[Sh.exit]
    |false=>
     have hlt:=hb rfl
     by_cases a:((h.az[n]).Reads[k]).bY<0
     ·simp[a,jR,bL (k:=k) (by omega),Sh.next]
     ·have hi:((h.az[n]).Reads[k]).bY.toNat<h.az.length:=by omega
      rw[OO (by omega) hlt,List.getElem?_eq_getElem hi]
      simp only[a,decide_false,nF,if_false,fm,G0 (hf.writes _ (List.getElem_mem hi)),jR,bL (k:=k) (by omega),Sh.exit,Sh.next,Option.map_some,Bool.not_false,Bool.true_and,Bool.false_or]
      cases ja h.az[((h.az[n]).Reads[k]).bY.toNat] ((h.az[n]).Reads[k]).Key <;> simp
   simp only[mO,dec_lt,hk,decide_true,if_true,dI hk,fm,Qk _ _ _ k hk,Pc hf]
   by_cases a0:((h.az[n]).Reads[k]).Key<0
   ·rw[if_pos (by simpa using a0),h5 _ (by simp)]
    have:¬0≤((h.az[n]).Reads[k]).Key:=by omega
    simp[this]
   rw[if_neg (by simpa using a0)]
   by_cases a1:15<((h.az[n]).Reads[k]).Key
   ·rw[if_pos (by simpa using a1),h5 _ (by simp)]
    have:¬((h.az[n]).Reads[k]).Key<16:=by omega
    simp[this]
   rw[if_neg (by simpa using a1)]
   have b0:0≤((h.az[n]).Reads[k]).Key:=by omega
   have b1:((h.az[n]).Reads[k]).Key<16:=by omega
   have tail:(if decide (((h.az[n]).Reads[k]).bY<(-1)) then cU h k ((h.az[n]).Reads[k]) true else if decide ((Sh.len h.az)≤((h.az[n]).Reads[k]).bY) then cU h k ((h.az[n]).Reads[k]) true else cU h k ((h.az[n]).Reads[k]) (decide (((h.az[n]).Reads[k]).bY=n)))
     =if there h n ((h.az[n]).Reads[k]) then some (.inl ((k+1:Nat):Int)) else some (.inr false):=by
    rw[Pc hf]
    by_cases c:((h.az[n]).Reads[k]).bY< -1
    ·rw[if_pos (by simpa using c),h5 _ (by simp)]
     simp[c]
    rw[if_neg (by simpa using c)]
    by_cases d:(h.az.length:Int)≤((h.az[n]).Reads[k]).bY
    ·rw[if_pos (by simpa using d),h5 _ (by simp)]
     simp[d]
    rw[if_neg (by simpa using d),h5 _ (fun _=>by omega)]
    simp[c,d]
   rw[tail,Pc hf]
   cases k with
   |zero=>simp[b0,b1]
   |succ k=>
    have zN:k<(h.az[n]).Reads.length:=by omega
    rw[if_pos (by simp),N7 (by omega) (by omega),dI (show k+1 - 1<_ by omega)]
    simp only[Nat.add_sub_cancel,fm]
    by_cases e:((h.az[n]).Reads[k+1]).Key≤((h.az[n]).Reads[k]).Key
    ·rw[if_pos (by simpa using e),h5 _ (by simp)]
     have:¬((h.az[n]).Reads[k]).Key<((h.az[n]).Reads[k+1]).Key:=by omega
     simp[this]
    ·rw[if_neg (by simpa using e)]
     have:((h.az[n]).Reads[k]).Key<((h.az[n]).Reads[k+1]).Key:=by omega
     simp[this,b0,b1]
  ·simp[mO,pU,Sh.exit]
 have hwrites:Sh.loop (fun(p:Int)=>ic h n h.az[n] p) 0=some (rising (-1) (h.az[n]).bA&&rq h n (-1) (h.az[n]).Reads):=by
  have h6:∀(k:Nat) (b:Bool),k<9223372036854775807→gq k b=if b then some (.inr false) else some (.inl ((k+1:Nat):Int)):=fun k b hk=>by
   unfold gq
   rw[bL hk]
   cases b <;> rfl
  have:=Qj (b:=fun(p:Int)=>ic h n h.az[n] p) (h.az[n]).bA.length (step id (fun _=>true) (h.az[n]).bA) (rq h n (-1) (h.az[n]).Reads) false (bZ (by omega)) (fun k hk=> ?_) ?_
  ·rw[this,FV,←F7]
   by_cases hq:∀k,k<(h.az[n]).bA.length→step id (fun _=>true) (h.az[n]).bA k=true
   ·rw[if_pos hq,decide_eq_true hq,Bool.true_and]
   ·rw[if_neg hq,decide_eq_false hq,Bool.false_and]
  ·simp only[ic,dec_lt,hk,decide_true,if_true,dI hk,fm,Qk _ _ _ k hk,h6 k _ (by omega),id]
   by_cases a0:(h.az[n]).bA[k]<0
   ·have:¬0≤(h.az[n]).bA[k]:=by omega
    simp[a0,this]
   rw[if_neg (by simpa using a0)]
   by_cases a1:15<(h.az[n]).bA[k]
   ·have:¬(h.az[n]).bA[k]<16:=by omega
    simp[a1,this]
   rw[if_neg (by simpa using a1)]
   have b0:0≤(h.az[n]).bA[k]:=by omega
   have b1:(h.az[n]).bA[k]<16:=by omega
   cases k with
   |zero=>simp[b0,b1]
   |succ k=>
    have zN:k<(h.az[n]).bA.length:=by omega
    rw[if_pos (by simp),N7 (by omega) (by omega),dI (show k+1 - 1<_ by omega)]
    simp only[Nat.add_sub_cancel,fm]
    by_cases e:(h.az[n]).bA[k+1]≤(h.az[n]).bA[k]
    ·have:¬(h.az[n]).bA[k]<(h.az[n]).bA[k+1]:=by omega
     simp[e,this]
    ·have:(h.az[n]).bA[k]<(h.az[n]).bA[k+1]:=by omega
     simp[e,this,b0,b1]
  ·simp only[ic,dec_lt,Nat.lt_irrefl,decide_false,nF,if_false,hreads]
   rfl
 unfold nv mP
 rw[dI hn]
 simp only[fm,hwrites]
 unfold GX
 by_cases a:(h.az[n]).bw<0
 ·have:¬0≤(h.az[n]).bw:=by omega
  simp[a,this]
 ·have a2:0≤(h.az[n]).bw:=by omega
  by_cases b:7<(h.az[n]).bw
  ·have:¬(h.az[n]).bw<8:=by omega
   simp[a,b,this]
  ·have b2:(h.az[n]).bw<8:=by omega
   simp[a,b,a2,b2]
theorem FJ(h:af):∀(l:List ah) (n:Nat),uN h n l=decide (∀k (hk:k<l.length),GX h ((n+k:Nat):Int) l[k]=true)
 |[],n=>by simp[uN]
 |t::l,n=>by
  rw[show uN h n (t::l)=(GX h (n:Nat) t&&uN h (n+1) l) from rfl,FJ h l (n+1),Bool.eq_iff_iff,Bool.and_eq_true,decide_eq_true_eq,decide_eq_true_eq]
  constructor
  ·rintro⟨h1,h2⟩ k hk
   cases k with
   |zero=>simpa using h1
   |succ k=>
    have:=h2 k (by simpa using hk)
    rw[show n+1+k=n+(k+1) by omega] at this
    simpa using this
  ·intro h1
   refine⟨h1 0 (by simp),fun k hk=> ?_⟩
   have:=h1 (k+1) (by simpa using hk)
   rw[show n+1+k=n+(k+1) by omega]
   simpa using this
theorem Iw{h:af}(hf:Fits h):fk h=some (right h):=by
 unfold fk right
 by_cases h1:h.az.length≤32
 ·have h2:¬(32:Int)<(h.az.length:Int):=by omega
  simp only[Sh.len,h2,decide_false,nF,if_false,h1,decide_true,Bool.true_and]
  rw[FJ]
  have:=tI (b:=fun(p:Int)=>iq h p) h.az.length (fun k=>match h.az[k]? with|some t=>GX h k t|none=>true) (bZ (by omega)) (fun k hk=> ?_) ?_
  ·rw[this]
   congr 2
   refine propext ⟨fun h3 k hk=> ?_,fun h3 k hk=> ?_⟩
   ·have:=h3 k hk
    simp only[List.getElem?_eq_getElem hk] at this
    simpa using this
   ·simp only[List.getElem?_eq_getElem hk]
    simpa using h3 k hk
  ·simp only[iq,dec_lt,hk,decide_true,if_true,ahh hf hk,fm,List.getElem?_eq_getElem hk,bL (k:=k) (by omega)]
   cases GX h k h.az[k] <;> simp[Sh.exit,Sh.next]
  ·simp[iq,oo,Sh.exit]
 ·have h2:(32:Int)<(h.az.length:Int):=by omega
  simp[Sh.len,h2,h1]

theorem Ox{α:Type}(l:List α):decide ((20:Int)<Sh.len l)= !decide (l.length≤20):=by
 by_cases h:l.length≤20 <;> simp[h,Sh.len] <;> omega
def YK(h:af)(m:Int):Bool:=decide ((h.az.length:Int)≤m)&&h.az.all (fun t=>decide (t.bA.length≤20)&&decide (t.Reads.length≤20))
theorem alh{h:af}{m:Int}(hm:m<9223372036854775807):nu h m=some (YK h m):=by
 unfold nu YK
 by_cases h1:(h.az.length:Int)≤m
 ·have h2:¬m<(h.az.length:Int):=by omega
  simp only[Sh.len,h2,decide_false,nF,if_false,h1,decide_true,Bool.true_and]
  rw[Bq h.az (fun t=> !(decide (t.bA.length≤20)&&decide (t.Reads.length≤20))) false (some true) (bZ (by omega)) (fun k hk=> ?_) ?_]
  ·rw[List.any_eq_not_all_not]
   simp only[Bool.not_not]
   cases h.az.all (fun t=>decide (t.bA.length≤20)&&decide (t.Reads.length≤20)) <;> rfl
  ·simp[mM,pT]
  ·simp only[mM,dec_lt,hk,decide_true,if_true,dI hk,fm,Ox,mN,bL (k:=k) (by omega),Sh.exit,Sh.next,Option.map_some]
   by_cases a:(h.az[k]).bA.length≤20 <;> by_cases b:(h.az[k]).Reads.length≤20 <;> simp[a,b]
 ·have h2:m<(h.az.length:Int):=by omega
  simp[Sh.len,h2,h1]
end Pl
end

section
/- Edges, one by one: what the program and the reference answer. -/


namespace Pl
open Go Go.Av G

def tx(h:af)(x:Int):ah:=(h.az[x.toNat]?).getD default
def inr(h:af)(x:Int):Bool:=decide (0≤x)&&decide (x<(h.az.length:Int))
theorem iM{h:af}{x:Int}:inr h x=true↔0≤x∧x<(h.az.length:Int):=by simp[inr]
theorem t_{h:af}{x:Int}(hx:inr h x=true):Sh.idx h.az x=some (tx h x):=by
 rw[iM] at hx
 rw[OO hx.1 hx.2]
 simp[tx,List.getElem?_eq_getElem (show x.toNat<h.az.length by omega)]
theorem vb{h:af}{x:Int}(hx:inr h x=true):tx h x∈h.az:=by
 rw[iM] at hx
 simp only[tx,List.getElem?_eq_getElem (show x.toNat<h.az.length by omega),Option.getD_some]
 exact List.getElem_mem _

def ZP(h:af)(x y:Int)(c:aa):Bool:=decide (c.A=x)&&decide (c.B=y)&&decide (x≠y)&&ja (tx h x) c.Key&&ja (tx h y) c.Key
def V0(h:af)(l:List aa)(x y:Int):Bool:=
 (decide (x<y)&&decide ((tx h x).bw=(tx h y).bw))||(tx h y).Reads.any (fun r=>decide (r.bY=x))||l.any (ZP h x y)
def isO(h:af)(l:List aa)(y:Int)(r:ak):Bool:=
 ja (tx h y) r.Key&&(decide (r.bY<0)||(decide (r.bY≠y)&&l.any (fun c=>decide (aa.mk r.Key r.bY y=c))))
def Qu(h:af)(l:List aa)(x y:Int):Bool:=decide (x≠y)&&(tx h x).Reads.any (isO h l y)
def two(h:af)(x y:Int):Bool:=right h&&inr h x&&inr h y
def direct(h:af)(l:List aa)(x y:Int):Bool:=two h x y&&V0 h l x y
def Fz(h:af)(l:List aa)(x y:Int):Bool:=two h x y&&Qu h l x y
def rE(h:af)(lev:Int)(l:List aa)(x y:Int):Bool:=
 if lev=0 then direct h l x y||Fz h l x y
 else if lev=1 then(List.range h.az.length).any (fun m=>direct h l x m&&(decide ((m:Int)=y)||Fz h l m y))
 else false
def ring(h:af)(lev:Int)(l:List aa)(row:List Int):Bool:=
 decide (0<row.length)&&(List.range row.length).all (fun i=> !((row.take i).any (fun x=>decide (row.getD i 0=x)))&&rE h lev l (row.getD i 0) (row.getD ((i+1) % row.length) 0))

theorem Cv{h:af}(hr:right h=true){t:ah}(ht:t∈h.az):∃n:Int,rq h n (-1) t.Reads=true:=by
 simp only[right,Bool.and_eq_true] at hr
 have key:∀(l:List ah) (n:Nat),uN h n l=true→∀t∈l,∃n:Int,GX h n t=true:=by
  intro l
  induction l with
  |nil=>intro n _ t ht;cases ht
  |cons x l ih=>
   intro n hn t ht
   rw[show uN h n (x::l)=(GX h (n:Nat) x&&uN h (n+1) l) from rfl,Bool.and_eq_true] at hn
   rcases List.mem_cons.1 ht with rfl|ht
   ·exact⟨_,hn.1⟩
   ·exact ih _ hn.2 t ht
 obtain⟨n,hn⟩:=key _ 0 hr.2 t ht
 simp only[GX,Bool.and_eq_true] at hn
 exact⟨n,hn.1.1.2⟩
theorem yd{h:af}{n:Int}:∀{l:List ak} {last:Int},rq h n last l=true→∀r∈l,there h n r=true
 |[],_,_,r,hr=>by cases hr
 |x::l,last,ht,r,hr=>by
  rw[show rq h n last (x::l)=(decide (last<x.Key)&&decide (x.Key<16)&&there h n x&&rq h n x.Key l) from rfl] at ht
  simp only[Bool.and_eq_true] at ht
  rcases List.mem_cons.1 hr with rfl|hr
  ·exact ht.1.2
  ·exact yd ht.2 r hr
theorem Sz{h:af}(hr:right h=true){t:ah}(ht:t∈h.az){r:ak}(hm:r∈t.Reads):r.bY<0↔r.bY= -1:=by
 obtain⟨n,hn⟩:=Cv hr ht
 have:=yd hn r hm
 simp only[there,Bool.or_eq_true,Bool.and_eq_true,decide_eq_true_eq] at this
 rcases this with h1|h1
 ·omega
 ·have:=h1.1.1.1;omega

theorem FM{h:af}(hf:Fits h){x:Int}(hx:inr h x=true)(k:Int):qg h x k=some (ja (tx h x) k):=by
 unfold qg
 have:=hf.writes _ (vb hx)
 rw[t_ hx]
 simp only[fm]
 rw[Ur (by omega)]
 rfl
theorem ag_{h:af}(hf:Fits h){x y:Int}(hy:inr h y=true)(u:bU):sv u h x y=some ((tx h y).Reads.any (fun r=>decide (r.bY=x))):=by
 have hl:=hf.reads _ (vb hy)
 unfold sv
 rw[t_ hy]
 simp only[fm]
 unfold cH cW
 rw[p8 (tx h y).Reads (fun r=>decide (r.bY=x)) (fun k=>(k:Int)) (some (-1)) (bZ (by omega)) (fun k hk=> ?_) ?_,uh,fm,gX]
 ·rfl
 ·simp[cK,dy]
 ·simp only[cK,dec_lt,hk,decide_true,if_true,dI hk,fm,oZ,bL (k:=k) (by omega)]
  rfl
theorem Ut{h:af}(hf:Fits h){x y:Int}(hx:inr h x=true)(hy:inr h y=true){l:List aa}(hl:l.length<9223372036854775807):oP l h x y=some (l.any (ZP h x y)):=by
 have h1:∀c,i_ c x y h=some (ZP h x y c):=fun c=>by
  unfold i_ ZP
  by_cases a:c.A=x <;> by_cases b:c.B=y <;> by_cases d:x=y <;> simp[a,b,d,FM hf hx,FM hf hy]
  cases ja (tx h x) c.Key <;> simp
 unfold oP b8 ct
 rw[p8 l (ZP h x y) (fun k=>(k:Int)) (some (-1)) (bZ (by omega)) (fun k hk=> ?_) ?_,uh,fm,gX]
 ·rfl
 ·simp[b9,cN]
 ·simp only[b9,dec_lt,hk,decide_true,if_true,dI hk,fm,h1,bL (k:=k) (by omega)]
  rfl
theorem ag6{l:List aa}(hl:l.length<9223372036854775807)(v:aa):dR l v=some (l.any (fun c=>decide (v=c))):=by
 unfold dR e8
 rw[p8 l (fun c=>decide (v=c)) (fun k=>(k:Int)) (some (-1)) (bZ (by omega)) (fun k hk=> ?_) ?_,uh,fm,gX]
 ·simp[eF,fJ]
 ·simp only[eF,dec_lt,hk,decide_true,if_true,dI hk,fm,bL (k:=k) (by omega)]
  rfl
theorem ag8{h:af}(hf:Fits h){x y:Int}(hx:inr h x=true)(hy:inr h y=true){l:List aa}(hl:l.length<9223372036854775807):su l h x y=some (Qu h l x y):=by
 have hr:=hf.reads _ (vb hx)
 have h1:∀r,l_ r h y l=some (isO h l y r):=fun r=>by
  unfold l_ isO
  rw[FM hf hy]
  simp only[fm,ag6 hl]
  cases ja (tx h y) r.Key
  ·rfl
  ·by_cases a:r.bY<0
   ·simp[a]
   ·by_cases b:r.bY=y
    ·have a':¬y<0:=b▸a
     simp[b,a']
    ·simp[a,b]
 unfold su Qu
 by_cases hxy:x=y
 ·simp[hxy]
 ·rw[t_ hx]
  simp only[ne_eq,hxy,not_false_eq_true,decide_true,if_true,fm,Bool.true_and]
  unfold cG cV
  rw[p8 (tx h x).Reads (isO h l y) (fun k=>(k:Int)) (some (-1)) (bZ (by omega)) (fun k hk=> ?_) ?_,uh,fm,gX]
  ·rfl
  ·simp[cI,dw]
  ·simp only[cI,dec_lt,hk,decide_true,if_true,dI hk,fm,h1,bL (k:=k) (by omega)]
   rfl
theorem Us{h:af}{x y:Int}(hx:inr h x=true)(hy:inr h y=true)(u:bC):oO u h x y=some (decide (x<y)&&decide ((tx h x).bw=(tx h y).bw)):=by
 unfold oO
 rw[t_ hx,t_ hy]
 by_cases h1:x<y <;> simp[h1]

theorem KM{h:af}{x y:Int}:(decide (Sh.min x y<0)=false∧decide (Sh.len h.az≤Sh.max x y)=false)↔(inr h x=true∧inr h y=true):=by
 rw[decide_eq_false_iff_not,decide_eq_false_iff_not,iM,iM]
 unfold Sh.min Sh.max Sh.len
 split <;> split <;> omega

theorem P9{h:af}(hf:Fits h){l:List aa}(hl:l.length<9223372036854775807)(x y:Int):rF h l x y=some (direct h l x y):=by
 unfold rF qC direct two
 rw[Ih hf]
 simp only[fm,kJ]
 cases hr:right h
 ·simp
 ·by_cases hin:inr h x=true∧inr h y=true
  ·obtain⟨m1,m2⟩:=(KM (h:=h)).2 hin
   obtain⟨hx,hy⟩:=hin
   simp only[m1,m2,hx,hy,Bool.not_true,nF,if_false,Bool.and_self,Bool.true_and]
   unfold cz cF gZ jJ g_
   rw[Us hx hy,ag_ hf hy,Ut hf hx hy hl]
   simp only[fm,c6,V0]
   cases decide (x<y)&&decide ((tx h x).bw=(tx h y).bw)
   ·cases(tx h y).Reads.any (fun r=>decide (r.bY=x))
    ·cases l.any (ZP h x y) <;> simp
    ·simp
   ·simp
  ·have hm:¬(decide (Sh.min x y<0)=false∧decide (Sh.len h.az≤Sh.max x y)=false):=fun hm=>hin ((KM (h:=h)).1 hm)
   have hz:(inr h x&&inr h y)=false:=by
    cases a:inr h x <;> cases b:inr h y <;> simp_all
   rw[Bool.true_and,hz]
   simp only[Bool.not_true,nF,if_false,Bool.false_and]
   cases m1:decide (Sh.min x y<0)
   ·cases m2:decide (Sh.len h.az≤Sh.max x y)
    ·exact absurd ⟨m1,m2⟩ hm
    ·simp
   ·simp
theorem Yj{h:af}(hf:Fits h){l:List aa}(hl:l.length<9223372036854775807)(x y:Int):uU h l x y=some (Fz h l x y):=by
 unfold uU qB Fz two
 rw[Ih hf]
 simp only[fm,kI]
 cases hr:right h
 ·simp
 ·by_cases hin:inr h x=true∧inr h y=true
  ·obtain⟨m1,m2⟩:=(KM (h:=h)).2 hin
   obtain⟨hx,hy⟩:=hin
   simp only[m1,m2,hx,hy,Bool.not_true,nF,if_false,Bool.and_self,Bool.true_and]
   unfold cw cE jI
   rw[ag8 hf hx hy hl]
   simp only[fm,c5]
   cases Qu h l x y <;> simp
  ·have hm:¬(decide (Sh.min x y<0)=false∧decide (Sh.len h.az≤Sh.max x y)=false):=fun hm=>hin ((KM (h:=h)).1 hm)
   have hz:(inr h x&&inr h y)=false:=by
    cases a:inr h x <;> cases b:inr h y <;> simp_all
   rw[Bool.true_and,hz]
   simp only[Bool.not_true,nF,if_false,Bool.false_and]
   cases m1:decide (Sh.min x y<0)
   ·cases m2:decide (Sh.len h.az≤Sh.max x y)
    ·exact absurd ⟨m1,m2⟩ hm
    ·simp
   ·simp
theorem pIs{h:af}(hf:Fits h){l:List aa}(hl:l.length<9223372036854775807)(lev x y:Int):CO h lev l x y=some (rE h lev l x y):=by
 unfold CO rE
 rw[P9 hf hl,Yj hf hl]
 simp only[fm]
 by_cases h0:lev=0
 ·subst h0
  simp only[decide_true,if_true]
  cases direct h l x y <;> simp
 ·by_cases h1:lev=1
  ·subst h1
   simp only[h0,decide_false,nF,if_false,decide_true,if_true]
   have hrl:(List.range h.az.length).length=h.az.length:=by simp
   have ht:=hf.Vb
   rw[Bq (List.range h.az.length) (fun m=>direct h l x m&&(decide ((m:Int)=y)||Fz h l m y)) true (some false) (bZ (by omega)) (fun k hk=> ?_) ?_]
   ·cases(List.range h.az.length).any (fun m=>direct h l x m&&(decide ((m:Int)=y)||Fz h l m y)) <;> rfl
   ·simp[wO,uW,dec_lt]
   ·rw[hrl] at hk
    simp only[wO,dec_lt,hk,decide_true,if_true,P9 hf hl,Yj hf hl,fm,uX,bL (k:=k) (by omega),List.getElem_range]
    cases direct h l x k
    ·rfl
    ·by_cases hy:(k:Int)=y
     ·simp[hy,Sh.exit]
     ·cases Fz h l k y <;> simp[hy,Sh.exit,Sh.next]
  ·simp[h0,h1,uW]
end Pl
end

section
/- Transactions one by one: what the program and the reference play. -/
namespace Pl
open Go Go.Av G

structure Es (n:Nat) (o:List Int):Prop where
 len:o.length=n
 node:∀a∈o,0≤a∧a<(n:Int)
 nodup:o.Nodup
theorem KL:∀{n:Nat} {o:List Int},(∀a∈o,0≤a∧a<(n:Int))→o.Nodup→o.length≤n
 |0,o,h,_=>by
  cases o with
  |nil=>simp
  |cons a o=>have:=h a (List.mem_cons_self ..);omega
 |n+1,o,h,hd=>by
  by_cases hn:(n:Int)∈o
  ·have h1:=KL (n:=n) (o:=o.erase (n:Int)) (fun a ha=>by
    obtain⟨h1,h2⟩:=(List.Nodup.mem_erase_iff hd).1 ha
    have:=h a h2;omega) (hd.erase _)
   rw[List.length_erase_of_mem hn] at h1
   omega
  ·have h1:=KL (n:=n) (o:=o) (fun a ha=>by
    have:=h a ha
    have:a≠(n:Int):=fun e=>hn (e▸ha)
    omega) hd
   omega
theorem Es.all{n:Nat}{o:List Int}(p:Es n o){k:Nat}(hk:k<n):(k:Int)∈o:=by
 apply Classical.byContradiction
 intro hn
 have h1:=KL (n:=n) (o:=(k:Int)::o) (fun a ha=>by
  rcases List.mem_cons.1 ha with e|e
  ·omega
  ·exact p.node a e) (List.nodup_cons.2 ⟨hn,p.nodup⟩)
 simp only[List.length_cons,p.len] at h1
 omega
theorem Ip:∀{n:Nat} {o:List Int},o.length=n→(∀k,k<n→(k:Int)∈o)→o.Nodup∧∀a∈o,0≤a∧a<(n:Int)
 |0,o,hl,_=>by
  have:=List.eq_nil_of_length_eq_zero hl
  subst this;simp
 |n+1,o,hl,h=>by
  have hn:=h n (Nat.lt_succ_self _)
  have hp:=List.perm_cons_erase hn
  have h1:=Ip (n:=n) (o:=o.erase (n:Int)) (by rw[List.length_erase_of_mem hn];omega) (fun k hk=>(List.mem_erase_of_ne (by omega)).2 (h k (by omega)))
  refine⟨hp.nodup_iff.2 (List.nodup_cons.2 ⟨fun hm=> ?_,h1.1⟩),fun a ha=> ?_⟩
  ·have:=h1.2 _ hm;omega
  ·rcases List.mem_cons.1 (hp.mem_iff.1 ha) with e|e
   ·omega
   ·have:=h1.2 a e;omega
def OZ(n:Nat)(o:List Int):Bool:=decide (o.length=n∧(∀a∈o,0≤a∧a<(n:Int))∧o.Nodup)
theorem wo{n:Nat}{o:List Int}:OZ n o=true↔Es n o:=by
 unfold OZ
 rw[decide_eq_true_eq]
 exact⟨fun⟨a,b,c⟩=>⟨a,b,c⟩,fun p=>⟨p.len,p.node,p.nodup⟩⟩
def xw(o:List Int)(t:Int):Nat:=o.findIdx fun x=>decide (x=t)
theorem yg{o:List Int}{t:Int}(h:t∈o):xw o t<o.length:=List.findIdx_lt_length_of_exists ⟨t,h,by simp⟩
theorem vf{o:List Int}{t:Int}(h:t∈o):o[xw o t]'(yg h)=t:=by
 have:=List.findIdx_getElem (xs:=o) (p:=fun x=>decide (x=t)) (w:=yg h)
 exact of_decide_eq_true this
theorem OW{o:List Int}(hd:o.Nodup){i j:Nat}(hi:i<o.length)(hj:j<o.length)(he:o[i]=o[j]):i=j:=by
 have hp:=List.pairwise_iff_getElem.1 hd
 rcases Nat.lt_trichotomy i j with h|h|h
 ·exact absurd he (hp i j hi hj h)
 ·exact h
 ·exact absurd he.symm (hp j i hj hi h)
theorem Kn{o:List Int}(hd:o.Nodup){k:Nat}(hk:k<o.length):xw o o[k]=k:=by
 have h1:=vf (List.getElem_mem hk)
 exact OW hd _ _ h1
theorem Gc{o:List Int}(hd:o.Nodup){k:Nat}(hk:k<o.length):o[k]∉o.take k:=fun hm=>by
 obtain⟨j,hj,he⟩:=List.mem_iff_getElem.1 hm
 rw[List.getElem_take] at he
 have hj':j<k:=by simp at hj;omega
 have:=OW hd _ hk he
 omega
theorem nk{o:List Int}{k:Nat}(hk:k<o.length){a:Int}:a∈o.take (k+1)↔a∈o.take k∨a=o[k]:=by
 rw[List.take_succ_eq_append_getElem hk,List.mem_append,List.mem_singleton]

def tv{α:Type}(N:Nat)(F:Nat→α):List α:=(List.range N).map F
section
variable {α:Type} {N:Nat}
@[simp] theorem GG(F:Nat→α):(tv N F).length=N:=by simp[tv]
theorem qX{F G:Nat→α}(h:∀x,x<N→F x=G x):tv N F=tv N G:=List.map_congr_left fun x hx=>h x (List.mem_range.1 hx)
theorem zF(F:Nat→α){y:Nat}(h:y<N):(tv N F)[y]? =some (F y):=by simp[tv,h]
theorem CI(F:Nat→α){y:Nat}(h:y<N):Sh.idx (tv N F) (y:Int)=some (F y):=by
 unfold Sh.idx
 rw[if_pos (by omega),Int.toNat_natCast,zF F h]
theorem Ev(F:Nat→α){y:Nat}(h:y<N):Sh.I9 N (tv N F) (y:Int)=some (F y):=by
 unfold Sh.I9
 rw[if_pos (GG F),CI F h]
theorem zG(F:Nat→α){y:Nat}(c:α):Sh.set (tv N F) (y:Int) c=tv N fun x=>if x=y then c else F x:=by
 rw[FW]
 apply List.ext_getElem? fun i=> ?_
 rw[List.getElem?_set]
 by_cases hi:i<N
 ·rw[zF _ hi]
  by_cases e:y=i
  ·subst e;rw[if_pos rfl,GG,if_pos hi,zF _ hi,if_pos rfl]
  ·rw[if_neg e,zF _ hi,if_neg (Ne.symm e)]
 ·have h1:(tv N F)[i]? =none:=List.getElem?_eq_none (by simp;omega)
  have h2:(tv N fun x=>if x=y then c else F x)[i]? =none:=List.getElem?_eq_none (by simp;omega)
  rw[h1,h2]
  split <;> simp;omega
theorem yT(c:α):List.replicate N c=tv N (fun _=>c):=by
 apply List.ext_getElem (by simp) fun i h1 h2=>by simp[tv]
end

theorem NH{σ α:Type}{b:σ→Option (σ⊕α)}(S:Nat→σ)(m:Nat)(p:Nat→Bool)(A B:Option α)(hm:m<Sh.sL)(h:∀k,k<m→(∀j,j<k→p j=true)→b (S k)=if p k then some (.inl (S (k+1))) else Sh.exit B)(hr:(∀j,j<m→p j=true)→b (S m)=Sh.exit A){s:σ}(hs:s=S 0):
  Sh.loop b s=if ∀k,k<m→p k=true then A else B:=by
 subst hs
 by_cases hall:∀k,k<m→p k=true
 ·rw[if_pos hall]
  exact qd S m A hm (fun k hk=>by rw[h k hk (fun j hj=>hall j (by omega)),if_pos (hall k hk)]) (hr hall) rfl
 ·rw[if_neg hall]
  have hex:∃k,k<m∧p k=false:=by
   apply Classical.byContradiction
   intro hn
   exact hall fun k hk=>by
    cases hp:p k with
    |true=>rfl
    |false=>exact absurd ⟨k,hk,hp⟩ hn
  obtain⟨k,⟨hk,hp⟩,hmin⟩:=exists_least _ hex
  have hb:∀j,j<k→p j=true:=fun j hj=>by
   cases hp:p j with
   |true=>rfl
   |false=>have:=hmin j ⟨by omega,hp⟩;omega
  exact qd S k B (by omega) (fun j hj=>by rw[h j (by omega) (fun i hi=>hb i (by omega)),if_pos (hb j hj)]) (by rw[h k hk hb,hp];rfl) rfl

theorem nB{h:af}(hr:right h=true):h.az.length≤32:=by
 simp only[right,Bool.and_eq_true,decide_eq_true_eq] at hr;exact hr.1
theorem E9{h:af}(hr:right h=true){t:Nat}(ht:t<h.az.length):GX h (t:Int) (tx h t)=true:=by
 simp only[right,Bool.and_eq_true] at hr
 have h2:=hr.2
 rw[FJ,decide_eq_true_eq] at h2
 have:=h2 t ht
 have e:tx h (t:Int)=h.az[t]:=by simp[tx,ht]
 rw[e]
 simpa using this
theorem FA{α:Type}{key:α→Int}{ok:α→Bool}:∀{l:List α} {last:Int},yl key ok last l=true→∀x∈l,last<key x∧key x<16
 |[],_,_,x,hx=>by simp at hx
 |y::l,last,h,x,hx=>by
  simp only[yl,Bool.and_eq_true,decide_eq_true_eq] at h
  rcases List.mem_cons.1 hx with e|e
  ·subst e;exact⟨h.1.1.1,h.1.1.2⟩
  ·have:=FA h.2 x e
   have:=h.1.1.1
   omega
theorem C7{h:af}(hr:right h=true){t:Nat}(ht:t<h.az.length):∀w∈(tx h t).bA,0≤w∧w<16:=fun w hw=>by
 have h1:=E9 hr ht
 simp only[GX,Bool.and_eq_true] at h1
 have h2:=h1.1.1.1
 rw[FV] at h2
 have:=FA h2 w hw
 simp only[id] at this
 omega
theorem Cu{h:af}(hr:right h=true){t:Nat}(ht:t<h.az.length):∀r∈(tx h t).Reads,0≤r.Key∧r.Key<16:=fun r hw=>by
 have h1:=E9 hr ht
 simp only[GX,Bool.and_eq_true] at h1
 have h2:=h1.1.1.2
 rw[IM] at h2
 have:=FA h2 r hw
 omega
theorem U2{h:af}(hr:right h=true){t:Nat}(ht:t<h.az.length):0≤(tx h t).bw∧(tx h t).bw<8:=by
 have h1:=E9 hr ht
 simp only[GX,Bool.and_eq_true,decide_eq_true_eq] at h1
 exact⟨h1.1.2,h1.2⟩
theorem ua{h:af}{t:Nat}(ht:t<h.az.length):Sh.idx h.az (t:Int)=some (tx h t):=t_ (iM.2 ⟨by omega,by omega⟩)
theorem CC{h:af}{t:Nat}(ht:t<h.az.length):tx h t∈h.az:=vb (iM.2 ⟨by omega,by omega⟩)
theorem EN{t:ah}{k:Int}:ja t k=true↔k∈t.bA:=by simp[ja]

def vz(h:af)(o:List Int)(key:Int):Int:=(o.reverse.find? fun t=>ja (tx h t) key).getD (-1)
theorem D4{h:af}{o:List Int}{t key:Int}:vz h (o++[t]) key=if ja (tx h t) key then t else vz h o key:=by
 unfold vz
 rw[List.reverse_append,List.reverse_singleton,List.singleton_append,List.find?_cons]
 cases ja (tx h t) key <;> rfl
theorem M8{h:af}{key:Int}:∀{o:List Int},(vz h o key= -1∧∀t∈o,ja (tx h t) key=false)∨(vz h o key∈o∧ja (tx h (vz h o key)) key=true):=by
 intro o
 unfold vz
 cases hf:o.reverse.find? fun t=>ja (tx h t) key with
 |none=>
  left
  rw[List.find?_eq_none] at hf
  exact⟨rfl,fun t ht=>by simpa using hf t (List.mem_reverse.2 ht)⟩
 |some t=>
  right
  exact⟨List.mem_reverse.1 (List.mem_of_find?_eq_some hf),by simpa using List.find?_some hf⟩
theorem M7{h:af}{o:List Int}{n:Nat}(hp:∀a∈o,0≤a∧a<(n:Int))(key:Int): -1≤vz h o key∧vz h o key<(n:Int):=by
 rcases M8 (h:=h) (key:=key) (o:=o) with⟨h1,_⟩|⟨h1,_⟩
 ·rw[h1];omega
 ·have:=hp _ h1;omega
def qa(h:af)(o:List Int)(t:Int):List ak:=(tx h t).Reads.map fun r=>⟨r.Key,vz h (o.take (xw o t)) r.Key⟩
def sS(h:af)(o:List Int):List (List ak):=tv h.az.length fun t:Nat=>qa h o t

theorem P_{h:af}(hf:Fits h)(o:List Int):u_ h o=some (right h&&OZ h.az.length o):=by
 unfold u_
 rw[Ih hf]
 simp only[fm]
 cases hr:right h with
 |false=>rfl
 |true=>
  have hn:=nB hr
  simp only[Bool.not_true,nF,if_false,Bool.true_and]
  by_cases hl:o.length=h.az.length
  ·have h1:¬(Sh.len o)≠(Sh.len h.az):=by simp only[Sh.len];omega
   rw[decide_eq_false h1]
   simp only[uy,nF,if_false]
   rw[NH (fun k=>(tv 32 (fun x:Nat=>decide ((x:Int)∈o.take k)),(k:Int))) o.length (fun k=>match o[k]? with|some a=>decide (0≤a∧a<(o.length:Int)∧a∉o.take k)|none=>true) (some true) (some false) (bZ (by omega)) (fun k hk hall=> ?_) (fun _=> ?_) (by rw[yT];simp)]
   ·have e:(if ∀k,k<o.length→(match o[k]? with|some a=>decide (0≤a∧a<(o.length:Int)∧a∉o.take k)|none=>true)=true then some true else some false)=some (decide (∀k,k<o.length→(match o[k]? with|some a=>decide (0≤a∧a<(o.length:Int)∧a∉o.take k)|none=>true)=true)):=by
     split
     ·rename_i hq;rw[decide_eq_true hq]
     ·rename_i hq;rw[decide_eq_false hq]
    rw[e]
    congr 1
    rw[Bool.eq_iff_iff,decide_eq_true_eq,wo]
    constructor
    ·intro hq
     have hq':∀k (hk:k<o.length),0≤o[k]∧o[k]<(o.length:Int)∧o[k]∉o.take k:=fun k hk=>by
      have:=hq k hk
      simpa only[List.getElem?_eq_getElem hk,decide_eq_true_eq] using this
     refine⟨hl,fun a ha=> ?_, ?_⟩
     ·obtain⟨k,hk,rfl⟩:=List.mem_iff_getElem.1 ha
      have:=hq' k hk;omega
     ·rw[List.Nodup,List.pairwise_iff_getElem]
      intro i j hi hj hij he
      refine(hq' j hj).2.2 (List.mem_iff_getElem.2 ⟨i,by simp;omega, ?_⟩)
      rw[List.getElem_take];exact he
    ·intro p k hk
     simp only[List.getElem?_eq_getElem hk,decide_eq_true_eq]
     have:=p.node _ (List.getElem_mem hk)
     exact⟨this.1,by rw[p.len];exact this.2,Gc p.nodup hk⟩
   ·have adw:k<32:=by omega
    simp only[uw,dec_lt,hk,decide_true,if_true,dI hk,fm,List.getElem?_eq_getElem hk]
    by_cases h0:o[k]<0
    ·have:¬(0≤o[k]∧o[k]<(o.length:Int)∧o[k]∉o.take k):=fun hq=>by omega
     rw[decide_eq_true h0,decide_eq_false this];rfl
    ·by_cases h2:(Sh.len o)≤o[k]
     ·have:¬(0≤o[k]∧o[k]<(o.length:Int)∧o[k]∉o.take k):=fun hq=>by simp only[Sh.len] at h2;omega
      rw[decide_eq_false h0,decide_eq_true h2,decide_eq_false this];rfl
     ·simp only[Sh.len] at h2
      obtain⟨y,hy⟩:∃y:Nat,o[k]=(y:Int):=⟨o[k].toNat,by omega⟩
      have akz:y<32:=by omega
      have h3:¬(o.length:Int)≤(y:Int):=by omega
      have h4:¬(y:Int)<0:=by omega
      simp only[hy,h4,h3,decide_false,nF,if_false,Ev _ akz,fm,sB,Sh.len]
      by_cases hm:(y:Int)∈o.take k
      ·have:¬(0≤(y:Int)∧(y:Int)<(o.length:Int)∧(y:Int)∉o.take k):=fun hq=>hq.2.2 hm
       rw[decide_eq_true hm,decide_eq_false this];rfl
      ·have:(0≤(y:Int)∧(y:Int)<(o.length:Int)∧(y:Int)∉o.take k):=⟨by omega,by omega,hm⟩
       rw[decide_eq_false hm,decide_eq_true this]
       simp only[nF,if_false,if_true,Sh.next,bL (k:=k) (by omega),zG]
       congr 3
       refine qX fun x _=> ?_
       by_cases hx:x=y
       ·subst hx
        rw[if_pos rfl,decide_eq_true ((nk hk).2 (.inr hy.symm))]
       ·rw[if_neg hx]
        congr 1
        refine propext ⟨fun hq=>(nk hk).2 (.inl hq),fun hq=> ?_⟩
        rcases(nk hk).1 hq with hq|hq
        ·exact hq
        ·omega
   ·simp[uw,wz,Sh.exit]
  ·have h1:(Sh.len o)≠(Sh.len h.az):=by simp only[Sh.len];omega
   have h2:OZ h.az.length o=false:=by
    cases hq:OZ h.az.length o with
    |false=>rfl
    |true=>exact absurd (wo.1 hq).len hl
   rw[decide_eq_true h1,h2];rfl
end Pl
end

section
/- What the program and the reference play, and whether an order shows a history to be serializable. -/
namespace Pl
open Go Go.Av G

def H6(h:af)(o:List Int)(k:Nat)(y:Nat):Int:=vz h (o.take k) y+1
def T1(h:af)(o:List Int)(t:Nat)(k i:Nat)(y:Nat):Int:=if(y:Int)∈(tx h t).bA.take i then(t:Int)+1 else H6 h o k y
def O3(h:af)(o:List Int)(t:Nat)(k i:Nat):List (List ak):=tv h.az.length fun x:Nat=>if x=t then(qa h o t).take i else if(x:Int)∈o.take k then qa h o x else []
def Ul(h:af)(o:List Int)(k:Nat):List (List ak):=tv h.az.length fun x:Nat=>if(x:Int)∈o.take k then qa h o x else []
theorem zg{h:af}{o:List Int}{t:Int}:(qa h o t).length=(tx h t).Reads.length:=by simp[qa]
theorem ag9{h:af}(hf:Fits h)(hb:∀t∈h.az,t.Reads.length≤1000000)(o:List Int):zk h o=some (if right h&&OZ h.az.length o then sS h o else []):=by
 unfold zk
 rw[P_ hf o]
 simp only[fm]
 cases hq:(right h&&OZ h.az.length o) with
 |false=>rfl
 |true=>
  simp only[Bool.and_eq_true] at hq
  obtain⟨hr,hok⟩:=hq
  have p:=wo.1 hok
  have hn:=nB hr
  simp only[Bool.not_true,nF,if_false,if_true]
  rw[show Sh.len o=((h.az.length:Nat):Int) by simp only[Sh.len,p.len],Yg (by omega) (by omega)]
  simp only[fm]
  refine qd (fun k=>(tv 16 (H6 h o k),Ul h o k,(k:Int))) h.az.length _ (bZ (by omega)) (fun k hk=> ?_) ?_ ?_
  ·have hko:k<o.length:=by rw[p.len];exact hk
   obtain⟨t,ht⟩:∃t:Nat,o[k]=(t:Int):=⟨o[k].toNat,by have:=p.node _ (List.getElem_mem hko);omega⟩
   have htn:t<h.az.length:=by have:=p.node _ (List.getElem_mem hko);omega
   have hat:xw o t=k:=by rw[←ht];exact Kn p.nodup hko
   have hnin:(t:Int)∉o.take k:=by rw[←ht];exact Gc p.nodup hko
   have hbd:=hb _ (CC htn)
   have hfr:=hf.reads _ (CC htn)
   have hfw:=hf.writes _ (CC htn)
   simp only[vI,show Sh.len o=((o.length:Nat):Int) from rfl,dec_lt,hko,decide_true,if_true,dI hko,ht,fm,ua htn]
   refine qd (fun i=>(O3 h o t k i,(i:Int))) (tx h t).Reads.length _ (bZ (by omega)) (fun i hi=> ?_) ?_ ?_
   ·have hkey:=Cu hr htn _ (List.getElem_mem hi)
    obtain⟨y,hy⟩:∃y:Nat,(tx h t).Reads[i].Key=(y:Int):=⟨(tx h t).Reads[i].Key.toNat,by omega⟩
    have ZL:y<16:=by omega
    have V6:=M7 (h:=h) (o:=o.take k) (fun a ha=>p.node a (List.mem_of_mem_take ha)) (y:Int)
    have hrow:Sh.idx (O3 h o t k i) (t:Int)=some ((qa h o t).take i):=by
     unfold O3;rw[CI _ htn,if_pos rfl]
    have hpl:(qa h o t).take i++[⟨(tx h t).Reads[i].Key,gJ (H6 h o k y - 1)⟩]=(qa h o t).take (i+1):=by
     have hi':i<(qa h o t).length:=by rw[zg];exact hi
     rw[List.take_succ_eq_append_getElem hi']
     congr 2
     simp only[qa,List.getElem_map,hat,hy,H6]
     congr 1
     rw[Ax (by omega) (by omega)];omega
    simp only[vK,dec_lt,hi,decide_true,if_true,dI hi,fm,hrow,hy,Ev _ ZL]
    rw[←hy,rC (by simp only[List.length_take,List.length_cons,List.length_nil];omega)]
    simp only[fm,Sh.next,bL (k:=i) (by omega),hpl]
    congr 3
    unfold O3
    rw[zG]
    refine qX fun x _=> ?_
    by_cases hx:x=t
    ·rw[if_pos hx,if_pos hx]
    ·rw[if_neg hx,if_neg hx,if_neg hx]
   ·simp only[vK,dec_lt,Nat.lt_irrefl,decide_false,nF,if_false]
    have hj3:vL h (tv 16 (H6 h o k)) (k:Int) (t:Int) (O3 h o t k (tx h t).Reads.length)=some (.inl (tv 16 (H6 h o (k+1)),Ul h o (k+1),((k+1:Nat):Int))):=by
     unfold vL
     simp only[ua htn,fm]
     refine qd (fun i=>(tv 16 (T1 h o t k i),(i:Int))) (tx h t).bA.length _ (bZ (by omega)) (fun i hi=> ?_) ?_ ?_
     ·have hkey:=C7 hr htn _ (List.getElem_mem hi)
      obtain⟨y,hy⟩:∃y:Nat,(tx h t).bA[i]=(y:Int):=⟨(tx h t).bA[i].toNat,by omega⟩
      have ZL:y<16:=by omega
      simp only[vJ,dec_lt,hi,decide_true,if_true,dI hi,hy,fm,Ev _ ZL,Sh.next,bL (k:=i) (by omega),zG]
      congr 3
      refine qX fun x _=> ?_
      unfold T1
      by_cases hx:x=y
      ·subst hx
       rw[if_pos rfl,if_pos ((nk hi).2 (.inr hy.symm)),Ax (by omega) (by omega)]
      ·rw[if_neg hx]
       have:((x:Int)∈(tx h t).bA.take i)↔((x:Int)∈(tx h t).bA.take (i+1)):=by
        rw[nk hi,hy]
        exact⟨.inl,fun hq=>hq.resolve_right (fun e=>hx (by omega))⟩
       simp only[this]
     ·simp only[vJ,dec_lt,Nat.lt_irrefl,decide_false,nF,if_false,yb,Sh.next,bL (k:=k) (by omega)]
      congr 4
      ·refine qX fun x _=> ?_
       unfold T1 H6
       rw[List.take_length,List.take_succ_eq_append_getElem hko,D4,ht]
       by_cases hw:(x:Int)∈(tx h t).bA
       ·rw[if_pos hw,EN.2 hw,if_pos rfl]
       ·have:ja (tx h t) x=false:=by
         cases hq:ja (tx h t) x with
         |false=>rfl
         |true=>exact absurd (EN.1 hq) hw
        rw[if_neg hw,this];rfl
      ·unfold O3 Ul
       congr 1
       refine qX fun x _=> ?_
       rw[←zg (o:=o),List.take_length]
       by_cases hx:x=t
       ·subst hx;rw[if_pos rfl,if_pos ((nk hko).2 (.inr ht.symm))]
       ·rw[if_neg hx]
        have:((x:Int)∈o.take k)↔((x:Int)∈o.take (k+1)):=by
         rw[nk hko,ht]
         exact⟨.inl,fun hq=>hq.resolve_right (fun e=>hx (by omega))⟩
        simp only[this]
     ·rfl
    rw[hj3]
   ·congr 1
    unfold Ul O3
    refine qX fun x _=> ?_
    by_cases hx:x=t
    ·subst hx;rw[if_pos rfl,if_neg hnin];simp
    ·rw[if_neg hx]
  ·simp only[vI,show Sh.len o=((o.length:Nat):Int) from rfl,p.len,dec_lt,Nat.lt_irrefl,decide_false,nF,if_false,ya]
   congr 2
   unfold sS Ul
   refine qX fun x hx=> ?_
   rw[←p.len,List.take_length,if_pos (p.all hx)]
  ·rw[yT,yT];rfl

theorem ak9{a b:List ak}(ha:a.length<9223372036854775807):eT a b=some (decide (a=b)):=by
 unfold eT
 by_cases hl:a.length=b.length
 ·have h1:¬(Sh.len a)≠(Sh.len b):=by simp only[Sh.len];omega
  rw[decide_eq_false h1]
  simp only[nF,if_false]
  rw[tI (b:=fun(p:Int)=>ew a b p) a.length (fun i=>decide (a[i]? =b[i]?)) (bZ (by omega)) (fun k hk=> ?_) ?_]
  ·congr 1
   refine decide_eq_decide.2 ⟨fun h=>List.ext_getElem? fun i=> ?_,fun h i _=>by rw[h];exact decide_eq_true rfl⟩
   by_cases hi:i<a.length
   ·simpa using h i hi
   ·rw[List.getElem?_eq_none (by omega),List.getElem?_eq_none (by omega)]
  ·simp[ew,gl,Sh.exit]
  ·have zN:k<b.length:=by omega
   simp only[ew,dec_lt,hk,decide_true,if_true,dI hk,dI zN,fm,bL (k:=k) (by omega),List.getElem?_eq_getElem hk,List.getElem?_eq_getElem zN,Option.some.injEq]
   by_cases he:a[k]=b[k] <;> simp[he,Sh.exit,Sh.next]
 ·have h1:(Sh.len a)≠(Sh.len b):=by simp only[Sh.len];omega
  have h2:¬a=b:=fun e=>hl (by rw[e])
  rw[decide_eq_true h1,decide_eq_false h2];rfl
theorem aau{a b:List ak}(ha:a.length<9223372036854775807):kO a b=some (decide (a=b)):=by
 unfold kO
 by_cases hl:a.length=b.length
 ·have h1:¬(Sh.len a)≠(Sh.len b):=by simp only[Sh.len];omega
  rw[decide_eq_false h1]
  simp only[nF,if_false]
  rw[tI (b:=fun(p:Int)=>iA a b p) a.length (fun i=>decide (a[i]? =b[i]?)) (bZ (by omega)) (fun k hk=> ?_) ?_]
  ·congr 1
   refine decide_eq_decide.2 ⟨fun h=>List.ext_getElem? fun i=> ?_,fun h i _=>by rw[h];exact decide_eq_true rfl⟩
   by_cases hi:i<a.length
   ·simpa using h i hi
   ·rw[List.getElem?_eq_none (by omega),List.getElem?_eq_none (by omega)]
  ·simp[iA,oI,Sh.exit]
  ·have zN:k<b.length:=by omega
   simp only[iA,dec_lt,hk,decide_true,if_true,dI hk,dI zN,fm,bL (k:=k) (by omega),List.getElem?_eq_getElem hk,List.getElem?_eq_getElem zN,Option.some.injEq]
   by_cases he:a[k]=b[k] <;> simp[he,Sh.exit,Sh.next]
 ·have h1:(Sh.len a)≠(Sh.len b):=by simp only[Sh.len];omega
  have h2:¬a=b:=fun e=>hl (by rw[e])
  rw[decide_eq_true h1,decide_eq_false h2];rfl

theorem aar{o:List Int}(ho:o.length≤9223372036854775807)(t:Int):kM o t=some (pos o (fun x=>decide (x=t))):=by
 unfold kM
 rw[p8 o (fun x=>decide (x=t)) (fun k=>(k:Int)) (some (-1)) (bZ (by omega)) (fun k hk=> ?_) ?_,uh]
 ·simp[kB,oG]
 ·simp only[kB,dec_lt,hk,decide_true,if_true,dI hk,fm,bL (k:=k) (by omega)]
  rfl
theorem Qa{o:List Int}{t:Int}:(0≤pos o (fun x=>decide (x=t)))↔t∈o:=by
 have h:=gX o (fun x=>decide (x=t))
 rw[Bool.eq_iff_iff,decide_eq_true_eq,List.any_eq_true] at h
 rw[h]
 exact⟨fun⟨x,h1,h2⟩=>by rw[←of_decide_eq_true h2];exact h1,fun h=>⟨t,h,decide_eq_true rfl⟩⟩
theorem Ym{n:Nat}(hn:n≤9223372036854775807)(o:List Int):jN o (n:Int)=some (OZ n o):=by
 unfold jN
 by_cases hl:o.length=n
 ·have h1:¬(Sh.len o)≠(n:Int):=by simp only[Sh.len];omega
  rw[decide_eq_false h1]
  simp only[nF,if_false]
  rw[tI (b:=fun(p:Int)=>jo o n p) n (fun i=>decide ((i:Int)∈o)) (bZ (by omega)) (fun k hk=> ?_) ?_]
  ·congr 1
   rw[Bool.eq_iff_iff,decide_eq_true_eq,wo]
   constructor
   ·intro hq
    have:=Ip hl (fun k hk=>of_decide_eq_true (hq k hk))
    exact⟨hl,this.2,this.1⟩
   ·intro p k hk
    exact decide_eq_true (p.all hk)
  ·simp[jo,pe,Sh.exit]
  ·simp only[jo,dec_lt,hk,decide_true,if_true,aar (o:=o) (by omega),fm,bL (k:=k) (by omega)]
   by_cases hp:(k:Int)∈o
   ·have:¬pos o (fun x=>decide (x=(k:Int)))<0:=by have:=Qa.2 hp;omega
    rw[decide_eq_false this,decide_eq_true hp];rfl
   ·have:pos o (fun x=>decide (x=(k:Int)))<0:=by
     have h2:¬0≤pos o (fun x=>decide (x=(k:Int))):=fun h=>hp (Qa.1 h)
     omega
    rw[decide_eq_true this,decide_eq_false hp];rfl
 ·have h1:(Sh.len o)≠(n:Int):=by simp only[Sh.len];omega
  have h2:OZ n o=false:=by
   cases hq:OZ n o with
   |false=>rfl
   |true=>exact absurd (wo.1 hq).len hl
  rw[decide_eq_true h1,h2];rfl
theorem aam{h:af}(hf:Fits h){o:List Int}(p:Es h.az.length o)(key:Int):∀(k:Nat),k≤o.length→mu h o (k:Int) key=some (vz h (o.take k) key):=by
 have hfl:=hf.Vb
 have key':∀(k n:Nat),k≤o.length→k<n→Sh.iter (fun(p:Int)=>jq h o key p) n (gJ ((k:Int) - 1))=some (vz h (o.take k) key):=by
  intro k
  induction k with
  |zero=>
   intro n _ hn
   obtain⟨n,rfl⟩:∃m,n=m+1:=⟨n - 1,by omega⟩
   exact za (by rw[show gJ (((0:Nat):Int) - 1)= -1 from by rw[Ax (by omega) (by omega)];omega];rfl)
  |succ k ih=>
   intro n hk hn
   obtain⟨n,rfl⟩:∃m,n=m+1:=⟨n - 1,by omega⟩
   have hpl:=p.len
   have hko:k<o.length:=by omega
   obtain⟨t,ht⟩:∃t:Nat,o[k]=(t:Int):=⟨o[k].toNat,by have:=p.node _ (List.getElem_mem hko);omega⟩
   have htn:t<h.az.length:=by have:=p.node _ (List.getElem_mem hko);omega
   have hb:jq h o key (gJ (((k+1:Nat):Int) - 1))=if ja (tx h t) key then some (.inr (t:Int)) else some (.inl (gJ ((k:Int) - 1))):=by
    rw[show gJ (((k+1:Nat):Int) - 1)=(k:Int) from by rw[Ax (by omega) (by omega)];omega]
    have hw:=G0 (t:=tx h t) (by have:=hf.writes _ (CC htn);omega) key
    simp only[jq,show(0:Int)≤(k:Int) by omega,decide_true,if_true,dI hko,ht,fm,ua htn,hw]
    cases ja (tx h t) key <;> rfl
   rw[List.take_succ_eq_append_getElem hko,D4,ht]
   cases hw:ja (tx h t) key with
   |true=>rw[hw] at hb;rw[za hb];rfl
   |false=>rw[hw] at hb;rw[tE hb];simp only[nF,if_false];exact ih n (by omega) (by omega)
 intro k hk
 unfold mu
 have hpl:=p.len
 exact key' k Sh.sL hk (bZ (by omega))
theorem ahi{h:af}(hf:Fits h)(hb:∀t∈h.az,t.Reads.length≤1000000)(o:List Int):mq h o=some (if right h&&OZ h.az.length o then sS h o else []):=by
 unfold mq
 rw[Iw hf,show Sh.len h.az=((h.az.length:Nat):Int) from rfl,Ym hf.Vb]
 simp only[fm]
 cases hr:right h with
 |false=>rfl
 |true=>
  cases hok:OZ h.az.length o with
  |false=>rfl
  |true=>
   have p:=wo.1 hok
   have hn:=nB hr
   simp only[Bool.not_true,nF,if_false,Bool.and_self,if_true,lR]
   refine qd (fun k=>((sS h o).take k,(k:Int))) h.az.length _ (bZ (by omega)) (fun t ht=> ?_) ?_ rfl
   ·have hat:=yg (p.all ht)
    have hpl:=p.len
    have hbd:=hb _ (CC ht)
    simp only[lN,show Sh.len h.az=((h.az.length:Nat):Int) from rfl,dec_lt,ht,decide_true,if_true]
    refine qd (fun i=>(i:Int)) (xw o (t:Int)) _ (bZ (by omega)) (fun i hi=> ?_) ?_ rfl
    ·have hio:i<o.length:=by omega
     have hne:o[i]≠(t:Int):=fun e=>by
      have:=List.not_of_lt_findIdx (p:=fun x=>decide (x=(t:Int))) (xs:=o) hi
      simp[e] at this
     simp only[lQ,dI hio,fm,decide_eq_true hne,if_true,Sh.next,bL (k:=i) (by omega)]
    ·have he:=vf (p.all ht)
     have hne:¬o[xw o (t:Int)]≠(t:Int):=fun e=>e he
     simp only[lQ,dI hat,fm,decide_eq_false hne,nF,if_false]
     have hj:lS h o ((sS h o).take t) (t:Int) (xw o (t:Int):Nat)=some (.inl ((sS h o).take (t+1),((t+1:Nat):Int))):=by
      unfold lS
      refine qd (fun i=>((qa h o t).take i,(i:Int))) (tx h t).Reads.length _ (bZ (by omega)) (fun i hi=> ?_) ?_ rfl
      ·simp only[lP,ua ht,fm,dec_lt,hi,decide_true,if_true,dI hi,aam hf p _ _ (Nat.le_of_lt hat)]
       rw[rC (by simp only[List.length_take,List.length_cons,List.length_nil];omega)]
       simp only[fm,Sh.next,bL (k:=i) (by omega)]
       have hi':i<(qa h o t).length:=by rw[zg];exact hi
       rw[List.take_succ_eq_append_getElem hi']
       simp[qa]
      ·simp only[lP,ua ht,fm,dec_lt,Nat.lt_irrefl,decide_false,nF,if_false,pq]
       rw[rC (by simp only[List.length_take,List.length_cons,List.length_nil];omega)]
       simp only[fm,pn,Sh.next,bL (k:=t) (by omega)]
       have ht':t<(sS h o).length:=by simp[sS,ht]
       rw[List.take_succ_eq_append_getElem ht',←zg (o:=o),List.take_length]
       simp[sS,tv,Sh.exit]
     rw[hj]
   ·simp only[lN,show Sh.len h.az=((h.az.length:Nat):Int) from rfl,dec_lt,Nat.lt_irrefl,decide_false,nF,if_false,pg]
    rw[List.take_of_length_le (by simp[sS])]
end Pl
end

section
/- The statements of layer 20, in plain words: each answers true. -/

namespace Pl
open Go Go.Av G

def R7(h:af)(a b:Int):Prop:=¬(b<a∧(tx h a).bw=(tx h b).bw)
instance (h:af) (a b:Int):Decidable (R7 h a b):=by unfold R7;infer_instance
def Ff(h:af)(o:List Int):Bool:=decide (o.Pairwise (R7 h))
theorem NJ{h:af}{o:List Int}:Ff h o=true↔∀(k i:Nat) (hk:k<i) (hi:i<o.length),R7 h (o[k]'(by omega)) o[i]:=by
 unfold Ff
 rw[decide_eq_true_eq,List.pairwise_iff_getElem]
 exact⟨fun q k i hk hi=>q k i (by omega) hi hk,fun q k i hk hi hki=>q k i hki hi⟩
theorem Rp{h:af}{o:List Int}(p:Es h.az.length o)(hn:h.az.length<1000000):iz h o=some (Ff h o):=by
 unfold iz
 have hpl:=p.len
 have nat:∀k (hk:k<o.length),∃t:Nat,o[k]=(t:Int)∧t<h.az.length:=fun k hk=>by
  have:=p.node _ (List.getElem_mem hk)
  exact⟨o[k].toNat,by omega,by omega⟩
 rw[tI (b:=fun(p:Int)=>gm h o p) o.length (fun i=>decide (∀k,k<i→(match o[k]?,o[i]? with|some a,some b=>decide (R7 h a b)|_,_=>true)=true)) (bZ (by omega)) (fun i hi=> ?_) ?_]
 ·congr 1
  rw[Bool.eq_iff_iff,decide_eq_true_eq,NJ]
  constructor
  ·intro q k i hk hi
   have:=of_decide_eq_true (q i hi) k hk
   simpa only[List.getElem?_eq_getElem hi,List.getElem?_eq_getElem (show k<o.length by omega),decide_eq_true_eq] using this
  ·intro q i hi
   refine decide_eq_true fun k hk=> ?_
   simp only[List.getElem?_eq_getElem hi,List.getElem?_eq_getElem (show k<o.length by omega),decide_eq_true_eq]
   exact q k i hk hi
 ·simp[gm,lg,Sh.exit]
 ·simp only[gm,show Sh.len o=((o.length:Nat):Int) from rfl,dec_lt,hi,decide_true,if_true]
  rw[NH (s:=(0:Int)) (fun k=>(k:Int)) i (fun k=>match o[k]?,o[i]? with|some a,some b=>decide (R7 h a b)|_,_=>true) (some (Sum.inl ((i+1:Nat):Int)):Option (Int⊕Bool)) (some (Sum.inr false)) (bZ (by omega)) (fun k hk _=> ?_) (fun _=> ?_) rfl]
  ·by_cases hq:∀k,k<i→(match o[k]?,o[i]? with|some a,some b=>decide (R7 h a b)|_,_=>true)=true
   ·rw[if_pos hq,decide_eq_true hq];rfl
   ·rw[if_neg hq,decide_eq_false hq];rfl
  ·have hko:k<o.length:=by omega
   obtain⟨a,ha,han⟩:=nat k hko
   obtain⟨b,hb,hbn⟩:=nat i hi
   simp only[iE,dec_lt,hk,decide_true,if_true,dI hko,dI hi,fm,ha,hb,ua han,ua hbn,List.getElem?_eq_getElem hko,List.getElem?_eq_getElem hi,iF,bL (k:=k) (by omega)]
   by_cases h1:(b:Int)<(a:Int)
   ·have h1':b<a:=by omega
    by_cases h2:(tx h a).bw=(tx h b).bw
    ·have h3:¬R7 h a b:=fun q=>q ⟨h1,h2⟩
     simp only[h1',h2,h3,decide_true,decide_false,if_true,nF,if_false];rfl
    ·have h3:R7 h a b:=fun q=>h2 q.2
     simp only[h1',h2,h3,decide_true,decide_false,if_true,nF,if_false];rfl
   ·have h1':¬b<a:=by omega
    have h3:R7 h a b:=fun q=>h1 q.1
    simp only[h1',h3,decide_true,decide_false,if_true,nF,if_false];rfl
  ·simp only[iE,dec_lt,Nat.lt_irrefl,decide_false,nF,if_false,lp,Sh.next,bL (k:=i) (by omega)]
def AH(h:af)(o:List Int)(s:Int):Int:=match o.reverse.find? fun t=>decide ((tx h t).bw=s) with|some t=>t+1|none=>0
theorem Aa{h:af}{o:List Int}{t s:Int}:AH h (o++[t]) s=if(tx h t).bw=s then t+1 else AH h o s:=by
 unfold AH
 rw[List.reverse_append,List.reverse_singleton,List.singleton_append,List.find?_cons]
 by_cases hs:(tx h t).bw=s
 ·simp[hs]
 ·simp[hs]
theorem Ru{h:af}:∀{o:List Int},o.Nodup→(∀a∈o,0≤a)→((∀k (hk:k<o.length),AH h (o.take k) (tx h o[k]).bw≤o[k])↔o.Pairwise (R7 h)):=by
 intro o hd hpos
 constructor
 ·intro q
  have key:∀i (hi:i<o.length),∀k (hk:k<i),(tx h (o[k]'(by omega))).bw=(tx h o[i]).bw→o[k]'(by omega)<o[i]:=by
   intro i
   induction i using Nat.strongRecOn with
   |ind i ih=>
    intro hi k hk hs
    have h1:=q i hi
    -- the last one of that session
    have ak4:∀(m:Nat) (hm:m≤i),(∃k,∃hk:k<m,(tx h (o[k]'(by omega))).bw=(tx h o[i]).bw)→∃j,∃hj:j<m,(tx h (o[j]'(by omega))).bw=(tx h o[i]).bw∧AH h (o.take m) (tx h o[i]).bw=o[j]'(by omega)+1∧∀x (hx:x<m),j<x→(tx h (o[x]'(by omega))).bw≠(tx h o[i]).bw:=by
     intro m
     induction m with
     |zero=>intro _ ⟨k,hk,_⟩;omega
     |succ m ihm=>
      intro hm ⟨k,hk,hks⟩
      have hmo:m<o.length:=by omega
      rw[List.take_succ_eq_append_getElem hmo,Aa]
      by_cases he:(tx h o[m]).bw=(tx h o[i]).bw
      ·exact⟨m,by omega,he,if_pos he,fun x hx hjx=>by omega⟩
      ·have hkm:k<m:=by
        rcases Nat.lt_or_ge k m with hlt|hge
        ·exact hlt
        ·have:k=m:=by omega
         subst this;exact absurd hks he
       obtain⟨j,hj,a1,a2,a3⟩:=ihm (by omega) ⟨k,hkm,hks⟩
       refine⟨j,by omega,a1,by rw[if_neg he];exact a2,fun x hx hjx=> ?_⟩
       by_cases hxm:x=m
       ·subst hxm;exact he
       ·exact a3 x (by omega) hjx
    obtain⟨j,hj,a1,a2,a3⟩:=ak4 i (Nat.le_refl _) ⟨k,hk,hs⟩
    have hji:o[j]'(by omega)<o[i]:=by rw[a2] at h1;omega
    rcases Nat.lt_trichotomy k j with c|c|c
    ·have:=ih j hj (by omega) k c (hs.trans a1.symm)
     omega
    ·subst c;exact hji
    ·exact absurd hs (a3 k hk c)
  rw[List.pairwise_iff_getElem]
  intro k i hk hi hki
  intro⟨h1,h2⟩
  have:=key i hi k hki h2
  omega
 ·intro q k hk
  have hb:∀(m:Nat) (hm:m≤k),AH h (o.take m) (tx h o[k]).bw≤o[k]∨(∀x (hx:x<m),(tx h (o[x]'(by omega))).bw≠(tx h o[k]).bw):=by
   intro m
   induction m with
   |zero=>intro _;right;intro x hx;omega
   |succ m ihm=>
    intro hm
    have hmo:m<o.length:=by omega
    rw[List.take_succ_eq_append_getElem hmo,Aa]
    by_cases he:(tx h o[m]).bw=(tx h o[k]).bw
    ·left
     rw[if_pos he]
     have h1:=List.pairwise_iff_getElem.1 q m k hmo hk (by omega)
     have h2:o[m]≠o[k]:=fun e=>by have:=OW hd hmo hk e;omega
     have h3:¬o[k]<o[m]:=fun hlt=>h1 ⟨hlt,he⟩
     omega
    ·rw[if_neg he]
     rcases ihm (by omega) with c|c
     ·exact .inl c
     ·exact .inr fun x hx=>by
       by_cases hxm:x=m
       ·subst hxm;exact he
       ·exact c x (by omega)
  by_cases h0:∃x,∃hx:x<k,(tx h (o[x]'(by omega))).bw=(tx h o[k]).bw
  ·obtain⟨x,hx,hs⟩:=h0
   rcases hb k (Nat.le_refl _) with c|c
   ·exact c
   ·exact absurd hs (c x hx)
  ·have hne:∀m,m≤k→AH h (o.take m) (tx h o[k]).bw=0:=by
    intro m
    induction m with
    |zero=>intro _;rfl
    |succ m ihm=>
     intro hm
     have hmo:m<o.length:=by omega
     rw[List.take_succ_eq_append_getElem hmo,Aa,if_neg (fun e=>h0 ⟨m,by omega,e⟩)]
     exact ihm (by omega)
   rw[hne k (Nat.le_refl _)]
   exact hpos _ (List.getElem_mem hk)

def Iy(h:af):List (List ak):=tv h.az.length fun t:Nat=>(tx h t).Reads
def qi(h:af)(o:List Int):Bool:=right h&&OZ h.az.length o&&decide (sS h o=Iy h)&&Ff h o
theorem Ol{α:Type}{N:Nat}{F G:Nat→α}:tv N F=tv N G↔∀x,x<N→F x=G x:=by
 constructor
 ·intro h x hx
  have:=congrArg (fun l=>l[x]?) h
  simpa [zF F hx,zF G hx] using this
 ·exact qX
theorem ZZ{h:af}(hf:Fits h)(hb:∀t∈h.az,t.Reads.length≤1000000)(o:List Int):wG h o=some (qi h o):=by
 unfold wG qi
 rw[P_ hf o]
 simp only[fm]
 cases hq:(right h&&OZ h.az.length o) with
 |false=>rfl
 |true=>
  rw[ag9 hf hb o,hq]
  simp only[Bool.and_eq_true] at hq
  obtain⟨hr,hok⟩:=hq
  have p:=wo.1 hok
  have hn:=nB hr
  have hpl:=p.len
  simp only[Bool.not_true,nF,if_false,if_true,fm,Bool.true_and]
  have hj1:uv h o=some (Ff h o):=by
   unfold uv
   rw[NH (fun k=>(tv 8 (fun x:Nat=>AH h (o.take k) x),(k:Int))) o.length (fun k=>match o[k]? with|some a=>decide (AH h (o.take k) (tx h a).bw≤a)|none=>true) (some true) (some false) (bZ (by omega)) (fun k hk _=> ?_) (fun _=> ?_) (by rw[yT];rfl)]
   ·have e:=Ru (h:=h) p.nodup (fun a ha=>(p.node a ha).1)
    unfold Ff
    by_cases hs:o.Pairwise (R7 h)
    ·rw[decide_eq_true hs,if_pos (fun k hk=>by
      simp only[List.getElem?_eq_getElem hk,decide_eq_true_eq];exact e.2 hs k hk)]
    ·rw[decide_eq_false hs,if_neg (fun q=>hs (e.1 fun k hk=>by
      have:=q k hk
      simpa only[List.getElem?_eq_getElem hk,decide_eq_true_eq] using this))]
   ·obtain⟨t,ht⟩:∃t:Nat,o[k]=(t:Int):=⟨o[k].toNat,by have:=p.node _ (List.getElem_mem hk);omega⟩
    have htn:t<h.az.length:=by have:=p.node _ (List.getElem_mem hk);omega
    have hs:=U2 hr htn
    obtain⟨s,hse⟩:∃s:Nat,(tx h t).bw=(s:Int):=⟨(tx h t).bw.toNat,by omega⟩
    have hs8:s<8:=by omega
    simp only[ur,show Sh.len o=((o.length:Nat):Int) from rfl,dec_lt,hk,decide_true,if_true,dI hk,ht,fm,ua htn,hse,Ev _ hs8,List.getElem?_eq_getElem hk]
    by_cases hlt:(t:Int)<AH h (o.take k) s
    ·have:¬AH h (o.take k) s≤(t:Int):=by omega
     simp only[hlt,this,decide_true,decide_false,if_true,nF,if_false]
    ·have:AH h (o.take k) s≤(t:Int):=by omega
     simp only[hlt,this,decide_true,decide_false,if_true,nF,if_false,Sh.next,bL (k:=k) (by omega),zG]
     congr 3
     refine qX fun x _=> ?_
     rw[List.take_succ_eq_append_getElem hk,Aa,ht,hse,Ax (by omega) (by omega)]
     by_cases hx:x=s
     ·subst hx;rw[if_pos rfl,if_pos rfl]
     ·rw[if_neg hx,if_neg (fun e=>hx (by omega))]
   ·simp[ur,wv,Sh.exit]
  rw[NH (s:=(0:Int)) (fun k=>(k:Int)) h.az.length (fun k=>decide (qa h o (k:Nat)=(tx h (k:Nat)).Reads)) (some (Ff h o)) (some false) (bZ (by omega)) (fun k hk _=> ?_) (fun _=> ?_) rfl]
  ·by_cases he:sS h o=Iy h
   ·have:=Ol.1 he
    rw[decide_eq_true he,if_pos (fun k hk=>decide_eq_true (this k hk))];rfl
   ·rw[decide_eq_false he,if_neg (fun q=>he (qX fun x hx=>of_decide_eq_true (q x hx)))];rfl
  ·have hkl:k<(sS h o).length:=by simp[sS,hk]
   have hrow:Sh.idx (sS h o) (k:Int)=some (qa h o k):=CI _ hk
   have hbd:=hb _ (CC hk)
   simp only[uu,dec_lt,hkl,decide_true,if_true,hrow,fm,ua hk,ak9 (a:=qa h o k) (b:=(tx h k).Reads) (by rw[zg];omega),bL (k:=k) (by omega)]
   cases decide (qa h o k=(tx h k).Reads) <;> rfl
  ·have hkl:¬h.az.length<(sS h o).length:=by simp[sS]
   simp only[uu,dec_lt,hkl,decide_false,nF,if_false,hj1]
theorem aak{h:af}(hf:Fits h)(hb:∀t∈h.az,t.Reads.length≤1000000)(o:List Int):kN h o=some (qi h o):=by
 unfold kN qi
 rw[Iw hf,show Sh.len h.az=((h.az.length:Nat):Int) from rfl,Ym hf.Vb]
 simp only[fm]
 cases hr:right h with
 |false=>rfl
 |true=>
  cases hok:OZ h.az.length o with
  |false=>rfl
  |true=>
   have p:=wo.1 hok
   have hn:=nB hr
   simp only[Bool.not_true,nF,if_false,Bool.and_self,Bool.true_and,kD,ahi hf hb o,hr,hok,if_true,fm]
   rw[NH (s:=(0:Int)) (fun k=>(k:Int)) h.az.length (fun k=>decide (qa h o (k:Nat)=(tx h (k:Nat)).Reads)) (some (Ff h o)) (some false) (bZ (by omega)) (fun k hk _=> ?_) (fun _=> ?_) rfl]
   ·by_cases he:sS h o=Iy h
    ·have:=Ol.1 he
     rw[decide_eq_true he,if_pos (fun k hk=>decide_eq_true (this k hk))];rfl
    ·rw[decide_eq_false he,if_neg (fun q=>he (qX fun x hx=>of_decide_eq_true (q x hx)))];rfl
   ·have hrow:Sh.idx (sS h o) (k:Int)=some (qa h o k):=CI _ hk
    have hbd:=hb _ (CC hk)
    simp only[kC,show Sh.len h.az=((h.az.length:Nat):Int) from rfl,dec_lt,hk,decide_true,if_true,hrow,fm,ua hk,aau (a:=(tx h k).Reads) (b:=qa h o k) (by omega),bL (k:=k) (by omega)]
    rw[show decide ((tx h k).Reads=qa h o k)=decide (qa h o k=(tx h k).Reads) from decide_eq_decide.2 ⟨Eq.symm,Eq.symm⟩]
    cases decide (qa h o k=(tx h k).Reads) <;> rfl
   ·simp only[kC,show Sh.len h.az=((h.az.length:Nat):Int) from rfl,dec_lt,Nat.lt_irrefl,decide_false,nF,if_false,oH,Rp p (by omega),fm]

theorem QI{h:af}{m:Int}(hf:YK h m=true):∀t∈h.az,t.Reads.length≤1000000:=fun t ht=>by
 simp only[YK,Bool.and_eq_true,decide_eq_true_eq,List.all_eq_true] at hf
 have:=(hf.2 t ht).2;omega
def alb(h:af)(o:List Int):af:=⟨tv h.az.length fun t:Nat=>⟨(tx h t).bw,(tx h t).bA,qa h o t⟩⟩
end Pl
end

section
/- The rows of writers. -/
namespace Pl
open Go Go.Av G

def Vm(h:af)(key:Int)(n:Nat):List Int:=((List.range n).filter fun(t:Nat)=>ja (tx h t) key).map fun(t:Nat)=>(t:Int)
def Dw(h:af)(key:Int):List Int:=Vm h key h.az.length
theorem Vn(h:af)(key:Int)(n:Nat):Vm h key (n+1)=if ja (tx h n) key then Vm h key n++[(n:Int)] else Vm h key n:=by
 unfold Vm
 rw[List.range_succ,List.filter_append,List.map_append]
 cases hw:ja (tx h n) key <;> simp[List.filter,hw]
theorem Qm(h:af)(key:Int)(n:Nat):(Vm h key n).length≤n:=by
 unfold Vm
 rw[List.length_map]
 exact Nat.le_trans (List.length_filter_le _ _) (by simp)
theorem GW{h:af}{key t:Int}:t∈Dw h key↔(0≤t∧t<h.az.length)∧ja (tx h t) key=true:=by
 unfold Dw Vm
 simp only[List.mem_map,List.mem_filter,List.mem_range]
 constructor
 ·rintro⟨n,⟨h1,h2⟩,rfl⟩;exact⟨⟨by omega,by omega⟩,h2⟩
 ·rintro⟨⟨h1,h2⟩,h3⟩
  refine⟨t.toNat,⟨by omega, ?_⟩,by omega⟩
  rw[show((t.toNat:Nat):Int)=t by omega];exact h3
theorem IS(h:af)(key:Int):(Dw h key).Pairwise (· < ·):=by
 unfold Dw Vm
 refine List.Pairwise.map _ (fun a b h=> ?_) (List.Pairwise.filter _ List.pairwise_lt_range)
 exact Int.ofNat_lt.2 h
theorem RM(h:af)(key:Int):(Dw h key).Nodup:=(IS h key).imp fun h=>by omega
theorem Cl{h:af}(hf:Fits h)(hn:h.az.length≤1000000)(key:Int):tq h key=some (Dw h key):=by
 unfold tq
 refine fV (fun k=>Vm h key k) h.az.length _ (bZ (by omega)) (fun k hk=> ?_) ?_ (by simp[Vm])
 ·have hx:Sh.idx h.az (k:Int)=some (tx h k):=ua hk
  have hw:=hf.writes _ (CC hk)
  have hl:=Qm h key k
  simp only[sV,gN,dec_lt,hk,decide_true,if_true,hx,fm,Ur (show(tx h k).bA.length<9223372036854775808 by omega)]
  rw[show(tx h k).bA.any (fun x=>decide (key=x))=ja (tx h k) key from rfl,Vn,rC (by simp;omega)]
  unfold sW
  cases ja (tx h k) key <;> simp[Sh.next,bL (k:=k) (by omega)]
 ·simp[sV,vo,gN,Dw]

theorem aha{c:List Int}(hc:c.length≤1000000):cB c=some (Sh.Cg c):=by
 unfold cB eE dW
 have:cO [] c=some c:=by
  unfold cO
  refine fV (fun k=>c.take k) c.length _ (bZ (by omega)) (fun k hk=> ?_) ?_ (by simp)
  ·simp only[cD,jB,gN,dec_lt,hk,decide_true,if_true,dI hk,fm]
   rw[rC (by simp;omega)]
   simp only[fm,bL (k:=k) (by omega),Sh.next]
   rw[List.take_add_one,List.getElem?_eq_getElem hk,Option.toList_some]
  ·simp[cD,gN]
 rw[this]
 have h2:Sh.sort c=some (Sh.Cg c):=by unfold Sh.sort;rw[if_pos (by omega)]
 simp only[fm,h2]
theorem HU:∀(o:List Int) (x:Int) (i:Nat),x∈o→Lib.idxFrom o x i=((i+xw o x:Nat):Int)
 |[],x,i,h=>by cases h
 |y::o,x,i,h=>by
  unfold Lib.idxFrom xw
  rw[List.findIdx_cons]
  by_cases hy:y=x
  ·simp[hy]
  ·have hm:x∈o:=by
    rcases List.mem_cons.1 h with e|e
    ·exact absurd e.symm hy
    ·exact e
   simp only[hy,if_false,decide_false,cond_false]
   rw[HU o x (i+1) hm]
   unfold xw
   omega
theorem Yb{o:List Int}{x:Int}(h:x∈o):Sh.ix o x=(xw o x:Int):=by
 unfold Sh.ix Lib.idxOf
 rw[HU o x 0 h];simp
def rowAt(h:af)(o:List Int)(k:Nat):Option aA:=if Dw h k=[] then none else some ⟨k,Sh.ye o (Dw h k)⟩
def uO(h:af)(o:List Int):List aA:=(List.range 16).filterMap (rowAt h o)
theorem Ln{h:af}{o:List Int}(p:Es h.az.length o){key t:Int}(ht:t∈Dw h key):t∈o:=by
 have:=(GW.1 ht).1
 have:=p.all (k:=t.toNat) (by omega)
 rwa [show((t.toNat:Nat):Int)=t by omega] at this
theorem GH{o:List Int}{a b:Int}(ha:a∈o)(hb:b∈o)(e:xw o a=xw o b):a=b:=by
 have h1:=vf ha
 have h2:=vf hb
 rw[←h1,←h2]
 congr 1
end Pl
end

section
/- The way through a graph, node by node: it says whether something leads back. -/
namespace Pl
open Go Go.Av G

inductive Path (N:Nat) (nx:Nat→List Int):Nat→Nat→Prop
 |one {x y:Nat}:x<N→y<N→(y:Int)∈nx x→Path N nx x y
 |more {x y z:Nat}:Path N nx x y→z<N→(z:Int)∈nx y→Path N nx x z
theorem Path.lt{N:Nat}{nx:Nat→List Int}{x y:Nat}(h:Path N nx x y):x<N∧y<N:=by
 induction h with
 |one a b _=>exact⟨a,b⟩
 |more _ b _ ih=>exact⟨ih.1,b⟩
def AN(N:Nat)(c:Nat→Int):Nat:=(List.range N).countP fun y=>decide (c y=0)
theorem Vk(N:Nat)(c:Nat→Int):AN N c≤N:=by
 unfold AN
 have:=List.countP_le_length (p:=fun y=>decide (c y=0)) (l:=List.range N)
 simpa using this
theorem RK{N:Nat}{c:Nat→Int}{x:Nat}{v:Int}(hx:x<N)(h0:c x=0)(hv:v≠0):AN N (fun y=>if y=x then v else c y)+1=AN N c:=by
 unfold AN
 induction N with
 |zero=>omega
 |succ N ih=>
  rw[List.range_succ,List.countP_append,List.countP_append]
  simp only[List.countP_singleton]
  by_cases e:N=x
  ·subst e
   have:(List.range N).countP (fun y=>decide ((if y=N then v else c y)=0))=(List.range N).countP (fun y=>decide (c y=0)):=by
    refine List.countP_congr fun y hy=> ?_
    have:y≠N:=by have:=List.mem_range.1 hy;omega
    simp[this]
   rw[this]
   simp[h0,hv]
  ·have hh:=ih (by omega)
   simp only[e,if_false]
   simp only[] at hh
   have e2:∀(a b d:Nat),a+1=b→a+d+1=b+d:=by omega
   exact e2 _ _ _ hh
theorem Pv{N:Nat}{c d:Nat→Int}(h:∀y,y<N→c y≠0→d y≠0):AN N d≤AN N c:=by
 unfold AN
 refine List.countP_mono_left fun y hy hd=> ?_
 simp only[decide_eq_true_eq] at hd ⊢
 exact Classical.byContradiction fun hc=>h y (List.mem_range.1 hy) hc hd

structure Col (N:Nat) (nx:Nat→List Int) (c:Nat→Int):Prop where
 on:∀y,y<N→c y=0∨c y=1∨c y=2
 shut:∀y,y<N→c y=2→∀z:Nat,z<N→(z:Int)∈nx y→c z=2
 back:∀y,y<N→c y=2→¬Path N nx y y
theorem jX{T:List ah}{P:List Int}{N:Nat}{nx:Nat→List Int}(hnx:∀x,x<N→mE (x:Int) T P=some (nx x))(hin:∀x,x<N→∀y∈nx x,0≤y∧y<(N:Int))(hlen:∀x,x<N→(nx x).length≤1000000):
  ∀(f x:Nat) (c:Nat→Int),x<N→AN N c<f→Col N nx c→(∀g,g<N→c g=1→Path N nx g x)→
   ∃c' b,mD f (x:Int) T P (tv N c)=some (tv N c',b)∧(∀y,y<N→c y≠0→c' y≠0)∧
    (b=true→Col N nx c'∧(∀y,y<N→(c' y=1↔c y=1))∧(∀y,y<N→c y=2→c' y=2)∧c' x=2)∧(b=false→∃z,Path N nx z z):=by
 intro f
 induction f with
 |zero=>intro x c _ h;omega
 |succ f ih=>
  intro x c hx hw hc hg
  show ∃c' b,n4 (mD f) (x:Int) T P (tv N c)=_∧_
  unfold n4
  simp only[CI c hx,fm]
  rcases hc.on x hx with h0|h1|h2
  · -- it is new
   have hd:decide ((0:Int)<c x)=false:=by rw[h0];rfl
   simp only[hd,nF,if_false,hnx x hx,fm,zG]
   have hs1:∃c1:Nat→Int,c1=fun y=>if y=x then 1 else c y:=⟨_,rfl⟩
   obtain⟨c1,PM⟩:=hs1
   rw[←PM]
   have w1:AN N c1+1=AN N c:=by rw[PM];exact RK hx h0 (by decide)
   have c1x:c1 x=1:=by rw[PM];simp
   have c1o:∀y,y≠x→c1 y=c y:=fun y hy=>by rw[PM];simp[hy]
   have aiB:Col N nx c1:=by
    refine⟨fun y hy=> ?_,fun y hy h z hz e=> ?_,fun y hy h=> ?_⟩
    ·by_cases e:y=x
     ·subst e;exact .inr (.inl c1x)
     ·rw[c1o y e];exact hc.on y hy
    ·have hyx:y≠x:=fun e=>by subst e;rw[c1x] at h;cases h
     rw[c1o y hyx] at h
     have h2:=hc.shut y hy h z hz e
     have hzx:z≠x:=fun e=>by subst e;rw[h0] at h2;cases h2
     rw[c1o z hzx];exact h2
    ·have hyx:y≠x:=fun e=>by subst e;rw[c1x] at h;cases h
     rw[c1o y hyx] at h
     exact hc.back y hy h
   -- the rounds
   have rounds:∀(m k fu:Nat) (ck:Nat→Int),k+m=(nx x).length→m<fu→Col N nx ck→(∀y,y<N→(ck y=1↔c1 y=1))→(∀y,y<N→c1 y≠0→ck y≠0)→(∀y,y<N→c y=2→ck y=2)→(∀j (hj:j<(nx x).length),j<k→ck (nx x)[j].toNat=2)→
     ∃c' b,Sh.iter (fun(p:(List Int)×Int)=>kR (mD f) (x:Int) T P (nx x) p.1 p.2) fu (tv N ck,(k:Int))=some (tv N c',b)∧(∀y,y<N→c y≠0→c' y≠0)∧
      (b=true→Col N nx c'∧(∀y,y<N→(c' y=1↔c y=1))∧(∀y,y<N→c y=2→c' y=2)∧c' x=2)∧(b=false→∃z,Path N nx z z):=by
    intro m
    induction m with
    |zero=>
     intro k fu ck hk hfu col YQ hwh hbl hdone
     obtain⟨fu,rfl⟩:∃q,fu=q+1:=⟨fu - 1,by omega⟩
     refine⟨fun y=>if y=x then 2 else ck y,true, ?_,fun y hy hne=> ?_,fun _=>⟨⟨fun y hy=> ?_,fun y hy h z hz e=> ?_,fun y hy h p=> ?_⟩,fun y hy=> ?_,fun y hy h=> ?_,by simp⟩,fun h=>by cases h⟩
     ·refine(sw (X:=qe (x:Int) (tv N ck)) ?_).trans ?_
      ·simp only[kR]
       rw[if_neg (by simp[Sh.len];omega)]
      ·unfold qe
       rw[CI ck hx,fm,zG]
     ·by_cases e:y=x
      ·simp[e]
      ·simp only[e,if_false]
       exact hwh y hy (by rw[c1o y e];exact hne)
     ·by_cases e:y=x
      ·simp[e]
      ·simp only[e,if_false];exact col.on y hy
     ·by_cases ez:z=x
      ·simp[ez]
      ·simp only[ez,if_false]
       by_cases ey:y=x
       ·subst ey
        obtain⟨j,hj,he⟩:=List.getElem_of_mem e
        have:=hdone j hj (by omega)
        rw[he,Int.toNat_natCast] at this
        exact this
       ·simp only[ey,if_false] at h
        exact col.shut y hy h z hz e
     ·by_cases ey:y=x
      ·subst ey
       -- from the first step on all is black
       have first:∀{a b:Nat},Path N nx a b→a=y→ck b=2:=by
        intro a b q
        induction q with
        |one _ hb e=>
         intro ea;subst ea
         obtain⟨j,hj,he⟩:=List.getElem_of_mem e
         have:=hdone j hj (by omega)
         rw[he,Int.toNat_natCast] at this
         exact this
        |more q hb e ih2=>intro ea;exact col.shut _ q.lt.2 (ih2 ea) _ hb e
       have h2:=first p rfl
       have h3:=(YQ y hx).2 c1x
       rw[h3] at h2;cases h2
      ·simp only[ey,if_false] at h
       exact col.back y hy h p
     ·by_cases e:y=x
      ·subst e;simp[h0]
      ·simp only[e,if_false]
       rw[YQ y hy,c1o y e]
     ·by_cases e:y=x
      ·subst e;rw[h0] at h;cases h
      ·simp only[e,if_false];exact hbl y hy h
    |succ m ihm=>
     intro k fu ck hk hfu col YQ hwh hbl hdone
     obtain⟨fu,rfl⟩:∃q,fu=q+1:=⟨fu - 1,by omega⟩
     have zN:k<(nx x).length:=by omega
     have hy:=hin x hx _ (List.getElem_mem zN)
     have hl:=hlen x hx
     obtain⟨y,hyy⟩:∃y:Nat,(nx x)[k]=(y:Int):=⟨(nx x)[k].toNat,by omega⟩
     have hyN:y<N:=by omega
     have hmem:(y:Int)∈nx x:=by rw[←hyy];exact List.getElem_mem zN
     have wk:AN N ck<f:=by
      have:=Pv (N:=N) (c:=c1) (d:=ck) hwh
      omega
     obtain⟨c2,b,e1,e2,e3,e4⟩:=ih y ck hyN wk col (fun g hgN hgg=>by
      have hg2:=(YQ g hgN).1 hgg
      by_cases e:g=x
      ·subst e;exact .one hgN hyN hmem
      ·rw[c1o g e] at hg2
       exact .more (hg g hgN hg2) hyN hmem)
     have body:kR (mD f) (x:Int) T P (nx x) (tv N ck) (k:Int)=if b then some (.inl (tv N c2,((k+1:Nat):Int))) else some (.inr (tv N c2,false)):=by
      simp only[kR,gN,dec_lt,zN,decide_true,if_true,dI zN,fm,hyy,e1]
      cases b
      ·simp[Sh.exit]
      ·simp[Sh.next,bL (k:=k) (by omega)]
     cases b with
     |false=>
      refine⟨c2,false,za (by simpa using body),fun z hz hne=>e2 z hz ?_,(fun h=>by cases h),e4⟩
      by_cases e:z=x
      ·exact hwh z hz (by subst e;rw[c1x];decide)
      ·exact hwh z hz (by rw[c1o z e];exact hne)
     |true=>
      obtain⟨f1,f2,f3,f4⟩:=e3 rfl
      obtain⟨c3,b3,g1,g2⟩:=ihm (k+1) fu c2 (by omega) (by omega) f1 (fun z hz=>(f2 z hz).trans (YQ z hz)) (fun z hz hne=>e2 z hz (hwh z hz hne)) (fun z hz h=>f3 z hz (hbl z hz h)) (fun j hj hjk=>by
       by_cases e:j=k
       ·subst e
        rw[hyy,Int.toNat_natCast];exact f4
       ·have hj2:=hin x hx _ (List.getElem_mem hj)
        exact f3 _ (by omega) (hdone j hj (by omega)))
      exact⟨c3,b3,(tE (by simpa using body)).trans g1,g2⟩
   have hl:=hlen x hx
   obtain⟨c',b,r1,r2⟩:=rounds (nx x).length 0 Sh.sL c1 (by omega) (bZ (by omega)) aiB (fun y _=>Iff.rfl) (fun y _ h=>h) (fun y hy h=>by
    have:y≠x:=fun e=>by subst e;rw[h0] at h;cases h
    rw[c1o y this];exact h) (fun j _ hj=>by omega)
   exact⟨c',b,r1,r2⟩
  · -- it is being gone through
   have hd:decide ((0:Int)<c x)=true:=by rw[h1];rfl
   have EO:decide (c x=2)=false:=by rw[h1];rfl
   simp only[hd,if_true,EO]
   exact⟨c,false,rfl,fun _ _ h=>h,(fun h=>by cases h),fun _=>⟨x,hg x hx h1⟩⟩
  · -- it is done
   have hd:decide ((0:Int)<c x)=true:=by rw[h2];rfl
   have EO:decide (c x=2)=true:=by rw[h2];rfl
   simp only[hd,if_true,EO]
   exact⟨c,true,rfl,fun _ _ h=>h,fun _=>⟨hc,fun _ _=>Iff.rfl,fun _ _ h=>h,h2⟩,fun h=>by cases h⟩
theorem VZ{h:af}{P:List Int}{nx:Nat→List Int}(hN:h.az.length≤1000000)(hnx:∀x,x<h.az.length→mE (x:Int) h.az P=some (nx x))(hin:∀x,x<h.az.length→∀y∈nx x,0≤y∧y<(h.az.length:Int))(hlen:∀x,x<h.az.length→(nx x).length≤1000000):
  ∃b,tL h P=some b∧(b=true↔∀z,¬Path h.az.length nx z z):=by
 unfold tL
 rw[gN,Yg (by omega) (by omega),fm,yT]
 have rounds:∀(m k fu:Nat) (ck:Nat→Int),k+m=h.az.length→m<fu→Col h.az.length nx ck→(∀y,y<h.az.length→ck y≠1)→(∀j,j<k→ck j=2)→
   ∃b,Sh.iter (fun(p:(List Int)×Int)=>rY h P (tv h.az.length fun _=>0) p.1 p.2) fu (tv h.az.length ck,(k:Int))=some b∧(b=true↔∀z,¬Path h.az.length nx z z):=by
  intro m
  induction m with
  |zero=>
   intro k fu ck hk hfu col hg hd
   obtain⟨fu,rfl⟩:∃q,fu=q+1:=⟨fu - 1,by omega⟩
   refine⟨true,(sw (X:=yc) ?_).trans rfl,fun _ z p=> ?_,fun _=>rfl⟩
   ·simp only[rY,gN,GG]
    rw[if_neg (by simp;omega)]
   ·exact col.back z p.lt.1 (hd z (by have:=p.lt.1;omega)) p
  |succ m ih=>
   intro k fu ck hk hfu col hg hd
   obtain⟨fu,rfl⟩:∃q,fu=q+1:=⟨fu - 1,by omega⟩
   have zN:k<h.az.length:=by omega
   have hwl:=Vk h.az.length ck
   obtain⟨c2,b,e1,e2,e3,e4⟩:=jX hnx hin hlen Sh.sL k ck zN (bZ (by omega)) col (fun g hgN hgg=>absurd hgg (hg g hgN))
   have body:rY h P (tv h.az.length fun _=>0) (tv h.az.length ck) (k:Int)=if b then some (.inl (tv h.az.length c2,((k+1:Nat):Int))) else some (.inr false):=by
    have:yI (k:Int) h.az P (tv h.az.length ck)=some (tv h.az.length c2,b):=e1
    simp only[rY,gN,GG,dec_lt,zN,decide_true,if_true,this,fm]
    cases b
    ·simp[Sh.exit]
    ·simp[Sh.next,bL (k:=k) (by omega)]
   cases b with
   |false=>
    obtain⟨z,hz⟩:=e4 rfl
    exact⟨false,za (by simpa using body),by simp;exact⟨z,hz⟩⟩
   |true=>
    obtain⟨f1,f2,f3,f4⟩:=e3 rfl
    obtain⟨b3,g1,g2⟩:=ih (k+1) fu c2 (by omega) (by omega) f1 (fun y hy hc=>hg y hy ((f2 y hy).1 hc)) (fun j hj=>by
     by_cases e:j=k
     ·subst e;exact f4
     ·exact f3 j (by omega) (hd j (by omega)))
    exact⟨b3,(tE (by simpa using body)).trans g1,g2⟩
 exact rounds h.az.length 0 Sh.sL (fun _=>0) (by omega) (bZ (by omega)) ⟨fun _ _=>.inl rfl,fun _ _ h=>by simp at h,fun _ _ h=>by simp at h⟩ (fun _ _ h=>by simp at h) (fun j hj=>by omega)
end Pl
end

section
/- Whether rows may be, and what leads where by them. -/
namespace Pl
open Go Go.Av G

theorem ag5{a b:List Int}(ha:a.length<9223372036854775807):jx a b=some (decide (a=b)):=by
 unfold jx
 by_cases hl:a.length=b.length
 ·have h1:¬(Sh.len a)≠(Sh.len b):=by simp only[Sh.len];omega
  rw[decide_eq_false h1]
  simp only[nF,if_false]
  rw[tI (b:=fun(p:Int)=>gH a b p) a.length (fun i=>decide (a[i]? =b[i]?)) (bZ (by omega)) (fun k hk=> ?_) ?_]
  ·congr 1
   refine decide_eq_decide.2 ⟨fun h=>List.ext_getElem? fun i=> ?_,fun h i _=>by rw[h];exact decide_eq_true rfl⟩
   by_cases hi:i<a.length
   ·simpa using h i hi
   ·rw[List.getElem?_eq_none (by omega),List.getElem?_eq_none (by omega)]
  ·simp[gH,mw,Sh.exit]
  ·have zN:k<b.length:=by omega
   simp only[gH,dec_lt,hk,decide_true,if_true,dI hk,dI zN,fm,bL (k:=k) (by omega),List.getElem?_eq_getElem hk,List.getElem?_eq_getElem zN,Option.some.injEq]
   by_cases he:a[k]=b[k] <;> simp[he,Sh.exit,Sh.next]
 ·have h1:(Sh.len a)≠(Sh.len b):=by simp only[Sh.len];omega
  have h2:¬a=b:=fun e=>hl (by rw[e])
  rw[decide_eq_true h1,decide_eq_false h2];rfl

def nY(h:af):List Nat→List aA→Bool
 |[],l=>l.isEmpty
 |k::ks,l=>if Dw h k=[] then nY h ks l else match l with
  |[]=>false
  |r::l'=>decide (r.Key=(k:Int))&&(decide (Dw h k=Sh.Cg r.L)&&nY h ks l')
theorem W5(h:af)(key:Int):(Dw h key).length≤h.az.length:=Qm h key _
theorem WC{h:af}(hf:Fits h)(hn:h.az.length≤1000000){l:List aA}(hl:l.length≤1000000)(hL:∀r∈l,r.L.length≤1000000):zp h l=some (right h&&nY h (List.range 16) l):=by
 unfold zp
 rw[Ih hf]
 simp only[fm]
 cases hr:right h with
 |false=>rfl
 |true=>
  simp only[Bool.not_true,nF,if_false,Bool.true_and]
  have rounds:∀(m v n fu:Nat),v+m=16→m<fu→n≤l.length→n≤v→Sh.iter (fun(p:Int×Int)=>nq h l p.1 p.2) fu ((n:Int),(v:Int))=some (nY h (List.range' v m) (l.drop n)):=by
   intro m
   induction m with
   |zero=>
    intro v n fu hv hfu hn1 hn2
    obtain⟨fu,rfl⟩:∃q,fu=q+1:=⟨fu - 1,by omega⟩
    refine(sw (X:=vN l (n:Int)) ?_).trans ?_
    ·simp only[nq]
     rw[if_neg (by simp;omega)]
    ·unfold vN
     simp only[List.range',nY]
     congr 1
     rw[Bool.eq_iff_iff,List.isEmpty_iff,List.drop_eq_nil_iff]
     simp only[Sh.len,decide_eq_true_eq]
     omega
   |succ m ih=>
    intro v n fu hv hfu hn1 hn2
    obtain⟨fu,rfl⟩:∃q,fu=q+1:=⟨fu - 1,by omega⟩
    have hlt:decide ((v:Int)<16)=true:=decide_eq_true (by omega)
    have nx:∀c:Int,tM (v:Int) c=some (.inl (c,((v+1:Nat):Int))):=fun c=>by
     unfold tM Sh.next
     rw[bL (k:=v) (by omega)]
    have hwl:=W5 h v
    simp only[List.range'_succ,nY]
    by_cases hw:Dw h v=[]
    ·rw[if_pos hw]
     refine(tE ?_).trans (ih (v+1) n fu (by omega) (by omega) hn1 (by omega))
     simp[nq,hlt,Cl hf hn,hw,nx]
    ·rw[if_neg hw]
     have hz:decide (((Dw h v).length:Int)=0)=false:=by
      have:=List.length_pos_iff.2 hw
      simp;omega
     by_cases hend:n=l.length
     ·rw[List.drop_eq_nil_of_le (by omega)]
      refine sw ?_
      simp only[nq,hlt,if_true,Cl hf hn,fm,gN,hz,nF,if_false,hend,decide_true,pH]
     ·have hn3:n<l.length:=by omega
      have hne:decide ((n:Int)=(l.length:Int))=false:=decide_eq_false (by omega)
      rw[List.drop_eq_getElem_cons hn3]
      have hLn:=hL _ (List.getElem_mem hn3)
      by_cases hk:l[n].Key=(v:Int)
      ·by_cases hs:Dw h v=Sh.Cg l[n].L
       ·have hsd:decide (Dw h v=Sh.Cg l[n].L)=true:=decide_eq_true hs
        simp only[hk,hsd,decide_true,Bool.true_and]
        refine(tE ?_).trans (ih (v+1) (n+1) fu (by omega) (by omega) (by omega) (by omega))
        simp only[nq,hlt,if_true,Cl hf hn,fm,gN,hz,nF,if_false,hne,dI hn3,hk,ne_eq,not_true,decide_false,aha hLn,ag5 (show(Dw h v).length<9223372036854775807 by omega),hsd,Bool.not_true,pH,iB]
        rw[bL (k:=n) (by omega),nx]
       ·simp only[hk,hs,decide_true,decide_false,Bool.true_and,Bool.false_and]
        refine sw ?_
        simp only[nq,hlt,if_true,Cl hf hn,fm,gN,hz,nF,if_false,hne,dI hn3,hk,ne_eq,not_true,decide_false,aha hLn,ag5 (show(Dw h v).length<9223372036854775807 by omega),hs,Bool.not_false,pH,iB]
      ·simp only[hk,decide_false,Bool.false_and]
       refine sw ?_
       simp only[nq,hlt,if_true,Cl hf hn,fm,gN,hz,nF,if_false,hne,dI hn3,hk,ne_eq,not_false_eq_true,decide_true,pH]
  have:=rounds 16 0 0 Sh.sL rfl (bZ (by omega)) (by omega) (by omega)
  rw[List.range_eq_range']
  exact this
theorem Gb{h:af}:∀{m v:Nat} {l:List aA},nY h (List.range' v m) l=true→(∀r∈l,((v:Int)≤r.Key∧r.Key<((v+m:Nat):Int))∧Sh.Cg r.L=Dw h r.Key)∧l.Pairwise (fun a b=>a.Key<b.Key)∧(∀k,v≤k→k<v+m→Dw h k≠[]→∃r∈l,r.Key=(k:Int)):=by
 intro m
 induction m with
 |zero=>
  intro v l hm
  simp only[List.range',nY,List.isEmpty_iff] at hm
  subst hm
  refine⟨by simp,by simp,fun k h1 h2=>by omega⟩
 |succ m ih=>
  intro v l hm
  simp only[List.range'_succ,nY] at hm
  by_cases hw:Dw h v=[]
  ·rw[if_pos hw] at hm
   obtain⟨a,b,c⟩:=ih hm
   refine⟨fun r hr=> ?_,b,fun k h1 h2 h3=> ?_⟩
   ·have:=a r hr;exact⟨⟨by omega,by omega⟩,this.2⟩
   ·have:k≠v:=fun e=>h3 (by rw[e];exact hw)
    exact c k (by omega) (by omega) h3
  ·rw[if_neg hw] at hm
   cases l with
   |nil=>cases hm
   |cons r l=>
    simp only[Bool.and_eq_true,decide_eq_true_eq] at hm
    obtain⟨hk,hs,hm⟩:=hm
    obtain⟨a,b,c⟩:=ih hm
    refine⟨fun q hq=> ?_, ?_,fun k h1 h2 h3=> ?_⟩
    ·rcases List.mem_cons.1 hq with e|e
     ·subst e;exact⟨⟨by omega,by omega⟩,by rw[hk,hs]⟩
     ·have:=a q e;exact⟨⟨by omega,by omega⟩,this.2⟩
    ·refine List.pairwise_cons.2 ⟨fun q hq=> ?_,b⟩
     have:=a q hq;omega
    ·by_cases e:k=v
     ·subst e;exact⟨r,by simp,hk⟩
     ·obtain⟨q,hq,e2⟩:=c k (by omega) (by omega) h3
      exact⟨q,by simp[hq],e2⟩

def xG(l:List aA)(k:Int):List Int:=((l.find? fun r=>decide (r.Key=k)).map (·.L)).getD []
def place(l:List aA)(k t:Int):Int:=if t∈xG l k then(xw (xG l k) t:Int)+1 else 0
def u6(l:List aA):List Int:=tv 512 fun q:Nat=>place l ((q / 32:Nat):Int) ((q % 32:Nat):Int)
theorem Q0{l:List aA}{r:aA}(hd:∀a∈l,a.Key≠r.Key)(k:Int):xG (l++[r]) k=if r.Key=k then r.L else xG l k:=by
 unfold xG
 rw[List.find?_append]
 by_cases e:r.Key=k
 ·subst e
  have:l.find? (fun a=>decide (a.Key=r.Key))=none:=by
   rw[List.find?_eq_none]
   intro a ha;simpa using hd a ha
  simp[this]
 ·simp[e]
theorem HZ{l:List aA}{k:Int}(h:xG l k≠[]):∃r∈l,r.Key=k∧xG l k=r.L:=by
 unfold xG at h ⊢
 cases hf:l.find? (fun r=>decide (r.Key=k)) with
 |none=>rw[hf] at h;exact absurd rfl h
 |some r=>exact⟨r,List.mem_of_find?_eq_some hf,by simpa using List.find?_some hf,rfl⟩
theorem TY{l:List aA}(hp:l.Pairwise fun a b=>a.Key<b.Key){r:aA}(hr:r∈l):xG l r.Key=r.L:=by
 unfold xG
 induction l with
 |nil=>cases hr
 |cons a l ih=>
  rw[List.pairwise_cons] at hp
  rw[List.find?_cons]
  rcases List.mem_cons.1 hr with e|e
  ·subst e;simp
  ·have:=hp.1 r e
   have hne:¬a.Key=r.Key:=by omega
   simp only[hne,decide_false]
   exact ih hp.2 e
structure dc (l:List aA):Prop where
 key:∀r∈l,0≤r.Key∧r.Key<16
 node:∀r∈l,∀t∈r.L,0≤t∧t<32
 nodup:∀r∈l,r.L.Nodup
 aaw:l.Pairwise fun a b=>a.Key<b.Key
theorem H7{n:Nat}{k:Nat}(h:k<n):Sh.lim n (k:Int)=some k:=by
 unfold Sh.lim
 rw[if_pos ⟨by omega,by omega⟩];simp
theorem Va{N:Nat}{F:Nat→Int}{i:Nat}{x:Int}(h:i<N):Sh.RD (tv N F) i x=some (tv N fun q=>if q=i then x else F q):=by
 have:=zG (N:=N) F (y:=i) x
 unfold Sh.RD
 rw[if_pos (by simpa [tv] using h),←this]
 simp[Sh.set]
theorem Z6{h:af}{l:List aA}(tb:dc l)(hl:l.length≤1000000):Sh.loop (fun(p:(List Int)×Int)=>tJ h l p.1 p.2) (List.replicate 512 0,0)=tL h (u6 l):=by
 refine fV (fun k=>u6 (l.take k)) l.length _ (bZ (by omega)) (fun k hk=> ?_) ?_ ?_
 ·simp only[tJ,gN,dec_lt,hk,decide_true,if_true,dI hk,fm]
  obtain⟨r,hr⟩:∃r,r=l[k]:=⟨_,rfl⟩
  have hm:r∈l:=by rw[hr];exact List.getElem_mem hk
  rw[←hr]
  obtain⟨kk,hkk⟩:∃kk:Nat,r.Key=(kk:Int):=⟨r.Key.toNat,by have:=tb.key r hm;omega⟩
  have ai9:kk<16:=by have:=tb.key r hm;omega
  have hlen:r.L.length≤32:=KL (n:=32) (tb.node r hm) (tb.nodup r hm)
  have hfin:(fun q:Nat=>if((q / 32:Nat):Int)=r.Key∧((q % 32:Nat):Int)∈r.L.take r.L.length then(xw r.L ((q % 32:Nat):Int):Int)+1 else place (l.take k) ((q / 32:Nat):Int) ((q % 32:Nat):Int))=fun q:Nat=>place (l.take (k+1)) ((q / 32:Nat):Int) ((q % 32:Nat):Int):=by
   funext q
   have hd:∀a∈l.take k,a.Key≠r.Key:=fun a ha=>by
    obtain⟨i,hi,e⟩:=List.getElem_of_mem ha
    rw[List.getElem_take] at e
    rw[List.length_take] at hi
    have:=List.pairwise_iff_getElem.1 tb.aaw i k (by omega) hk (by omega)
    rw[e,←hr] at this
    omega
   have hsn:l.take (k+1)=l.take k++[r]:=by rw[List.take_add_one,List.getElem?_eq_getElem hk,hr];rfl
   unfold place
   rw[hsn,Q0 hd,List.take_length]
   by_cases e:r.Key=((q / 32:Nat):Int)
   ·rw[if_pos e]
    have hdn:xG (l.take k) ((q / 32:Nat):Int)=[]:=by
     apply Classical.byContradiction
     intro hc
     obtain⟨a,ha,e2,_⟩:=HZ hc
     exact hd a ha (by rw[e2,e])
    rw[hdn]
    by_cases e3:((q % 32:Nat):Int)∈r.L
    ·rw[if_pos ⟨e.symm,e3⟩,if_pos e3]
    ·rw[if_neg (fun c=>e3 c.2),if_neg e3,if_neg (by simp)]
   ·rw[if_neg e,if_neg (fun c=>e c.1.symm)]
  have body:Sh.loop (fun(p:(List Int)×Int)=>tK (k:Int) r p.1 p.2) (u6 (l.take k),0)=vM (k:Int) (u6 (l.take (k+1))):=by
   refine fV (fun j=>tv 512 fun q:Nat=>if((q / 32:Nat):Int)=r.Key∧((q % 32:Nat):Int)∈r.L.take j then(xw r.L ((q % 32:Nat):Int):Int)+1 else place (l.take k) ((q / 32:Nat):Int) ((q % 32:Nat):Int)) r.L.length _ (bZ (by omega)) (fun j hj=> ?_) ?_ ?_
   ·have hin:=tb.node r hm _ (List.getElem_mem hj)
    obtain⟨t,ht⟩:∃t:Nat,r.L[j]=(t:Int):=⟨r.L[j].toNat,by omega⟩
    have aj7:t<32:=by omega
    simp only[tK,gN,dec_lt,hj,decide_true,if_true,dI hj,fm,ht,hkk,H7 ai9,H7 aj7,bL (k:=j) (by omega)]
    rw[Va (by omega)]
    simp only[fm,Sh.next]
    refine congrArg (fun X:List Int=>(some (.inl (X,((j+1:Nat):Int))):Option (((List Int)×Int)⊕_))) (qX fun q _=> ?_)
    simp only[nk hj,ht]
    by_cases e:q=kk*32+t
    ·have e1:q / 32=kk:=by omega
     have e2:q % 32=t:=by omega
     have hat:xw r.L (t:Int)=j:=by rw[←ht];exact Kn (tb.nodup r hm) hj
     rw[if_pos e,e1,e2,if_pos ⟨rfl,.inr rfl⟩,hat];simp
    ·rw[if_neg e]
     have:((((q / 32:Nat):Int)=(kk:Int))∧(((q % 32:Nat):Int)∈r.L.take j∨((q % 32:Nat):Int)=(t:Int)))↔((((q / 32:Nat):Int)=(kk:Int))∧((q % 32:Nat):Int)∈r.L.take j):=by
      constructor
      ·rintro⟨a,b|b⟩
       ·exact⟨a,b⟩
       ·exact absurd (show q=kk*32+t by omega) e
      ·rintro⟨a,b⟩;exact⟨a,.inl b⟩
     simp only[this]
   ·simp only[tK,gN]
    rw[if_neg (by simp),hfin];rfl
   ·refine qX fun q _=> ?_
    rw[List.take_zero,if_neg (by simp)]
  rw[body]
  unfold vM Sh.next
  rw[bL (k:=k) (by omega)]
 ·simp only[tJ,gN]
  rw[if_neg (by simp),List.take_length]
 ·show List.replicate 512 0=tv 512 _
  rw[yT]
  refine qX fun q _=> ?_
  simp[place,xG]
end Pl
end

section
/- What leads where by rows; and the check. -/
namespace Pl
open Go Go.Av G

theorem M6{h:af}{o:List Int}{key:Int}:∀m,m≤o.length→(vz h (o.take m) key= -1∧∀i (hi:i<o.length),i<m→ja (tx h o[i]) key=false)∨
  ∃(j:Nat) (hj:j<o.length),j<m∧vz h (o.take m) key=o[j]∧ja (tx h o[j]) key=true∧∀i (hi:i<o.length),j<i→i<m→ja (tx h o[i]) key=false:=by
 intro m
 induction m with
 |zero=>intro _;exact .inl ⟨rfl,fun i _ hi=>by omega⟩
 |succ m ih=>
  intro hm
  have e:o.take (m+1)=o.take m++[o[m]]:=by
   rw[List.take_add_one,List.getElem?_eq_getElem (by omega),Option.toList_some]
  rw[e,D4]
  cases hw:ja (tx h o[m]) key with
  |true=>
   rw[if_pos rfl]
   exact .inr ⟨m,by omega,by omega,rfl,hw,fun i _ h1 h2=>by omega⟩
  |false=>
   rw[if_neg (by simp)]
   rcases ih (by omega) with⟨h1,h2⟩|⟨j,hj,h1,h2,h3,h4⟩
   ·refine .inl ⟨h1,fun i hi him=> ?_⟩
    by_cases hc:i=m
    ·subst hc;exact hw
    ·exact h2 i hi (by omega)
   ·refine .inr ⟨j,hj,by omega,h2,h3,fun i hi hji him=> ?_⟩
    by_cases hc:i=m
    ·subst hc;exact hw
    ·exact h4 i hi hji (by omega)

theorem J1{h:af}(hr:right h=true){t:Nat}(ht:t<h.az.length){r:ak}(hm:r∈(tx h t).Reads):r.bY= -1∨((0≤r.bY∧r.bY<h.az.length)∧r.bY≠(t:Int)∧ja (tx h r.bY) r.Key=true):=by
 have h1:=E9 hr ht
 simp only[GX,Bool.and_eq_true] at h1
 have h2:=yd h1.1.1.2 r hm
 simp only[there,Bool.or_eq_true,Bool.and_eq_true,decide_eq_true_eq] at h2
 rcases h2 with h2|h2
 ·exact .inl h2
 ·refine .inr ⟨h2.1.1,h2.1.2, ?_⟩
  have h3:=h2.2
  unfold tx
  have hl:r.bY.toNat<h.az.length:=by omega
  rw[List.getElem?_eq_getElem hl] at h3 ⊢
  exact h3
theorem Uv{h:af}{o:List Int}:sS h o=Iy h↔∀t:Nat,t<h.az.length→∀r∈(tx h t).Reads,vz h (o.take (xw o t)) r.Key=r.bY:=by
 unfold sS Iy
 rw[Ol]
 constructor
 ·intro hh t ht r hr
  have e:=hh t ht
  unfold qa at e
  obtain⟨i,hi,rfl⟩:=List.getElem_of_mem hr
  have:=congrArg (fun l:List ak=>l[i]?) e
  simp only[List.getElem?_map,List.getElem?_eq_getElem hi,Option.map_some,Option.some.injEq] at this
  have:=congrArg ak.bY this
  exact this
 ·intro hh t ht
  unfold qa
  refine(List.map_congr_left fun r hr=> ?_).trans (List.map_id _)
  rw[hh t ht r hr];rfl

def s7(l:List aA)(key a b:Int):Bool:=decide (0<place l key b)&&(decide (a<0)||(decide (0<place l key a)&&decide (place l key a<place l key b)))
def s4(h:af)(l:List aA)(x y:Int):Bool:=(decide (x<y)&&decide ((tx h x).bw=(tx h y).bw))||((tx h y).Reads.any (fun r=>decide (r.bY=x))||(tx h x).bA.any (fun key=>s7 l key x y))
def Ck(h:af)(l:List aA)(x y:Int):Bool:=decide (x≠y)&&(tx h x).Reads.any (fun r=>s7 l r.Key r.bY y)
def Ub(h:af)(l:List aA)(y:Int)(w:Nat):List Int:=((List.range w).filter fun z:Nat=>Ck h l y z).map fun z:Nat=>(z:Int)
def R3(h:af)(l:List aA)(x:Int)(v:Nat):List Int:=(List.range v).flatMap fun y:Nat=>if s4 h l x y then(y:Int)::Ub h l y h.az.length else []
def ZW(h:af)(l:List aA)(x:Nat):List Int:=R3 h l x h.az.length
theorem Uc(h:af)(l:List aA)(y:Int)(w:Nat):Ub h l y (w+1)=if Ck h l y w then Ub h l y w++[(w:Int)] else Ub h l y w:=by
 unfold Ub
 rw[List.range_succ,List.filter_append,List.map_append]
 cases hw:Ck h l y w <;> simp[List.filter,hw]
theorem P4(h:af)(l:List aA)(y:Int)(w:Nat):(Ub h l y w).length≤w:=by
 unfold Ub
 rw[List.length_map]
 exact Nat.le_trans (List.length_filter_le _ _) (by simp)
theorem Nh(h:af)(l:List aA)(x:Int)(v:Nat):R3 h l x (v+1)=if s4 h l x v then R3 h l x v++[(v:Int)]++Ub h l v h.az.length else R3 h l x v:=by
 unfold R3
 rw[List.range_succ,List.flatMap_append]
 cases hw:s4 h l x v <;> simp[hw]
theorem P5(h:af)(l:List aA)(x:Int)(v:Nat)(hN:h.az.length≤32):(R3 h l x v).length≤v*33:=by
 induction v with
 |zero=>simp[R3]
 |succ v ih=>
  rw[Nh]
  have:=P4 h l v h.az.length
  split
  ·simp only[List.length_append,List.length_cons,List.length_nil];omega
  ·omega
theorem PZ{h:af}{l:List aA}{x:Nat}{z:Int}:z∈ZW h l x↔(0≤z∧z<h.az.length)∧(s4 h l x z=true∨∃y:Nat,y<h.az.length∧s4 h l x y=true∧Ck h l y z=true):=by
 unfold ZW R3 Ub
 simp only[List.mem_flatMap,List.mem_range]
 constructor
 ·rintro⟨y,hy,hz⟩
  split at hz
  ·rename_i hd
   rcases List.mem_cons.1 hz with e|e
   ·subst e;exact⟨⟨by omega,by omega⟩,.inl hd⟩
   ·simp only[List.mem_map,List.mem_filter,List.mem_range] at e
    obtain⟨w,⟨hw,ho⟩,rfl⟩:=e
    exact⟨⟨by omega,by omega⟩,.inr ⟨y,hy,hd,ho⟩⟩
  ·cases hz
 ·rintro⟨⟨h0,h1⟩,hd|⟨y,hy,hd,ho⟩⟩
  ·refine⟨z.toNat,by omega, ?_⟩
   have:((z.toNat:Nat):Int)=z:=by omega
   rw[this,hd];simp
  ·refine⟨y,hy, ?_⟩
   rw[hd,if_pos rfl]
   refine List.mem_cons_of_mem _ (List.mem_map.2 ⟨z.toNat,List.mem_filter.2 ⟨List.mem_range.2 (by omega), ?_⟩,by omega⟩)
   rw[show((z.toNat:Nat):Int)=z by omega];exact ho

theorem NY(l:List aA){k t:Nat}(hk:k<16)(ht:t<32):Sh.IP (u6 l) (k*32+t)=some (place l (k:Int) (t:Int)):=by
 unfold Sh.IP u6
 rw[zF _ (by omega),show(k*32+t) / 32=k by omega,show(k*32+t) % 32=t by omega]
theorem Un{l:List aA}{T:List ah}{key a b:Int}(hk:0≤key∧key<16)(ha:a<32)(hb:0≤b∧b<32):nC key a b T (u6 l)=some (s7 l key a b):=by
 obtain⟨k,rfl⟩:∃k:Nat,key=(k:Int):=⟨key.toNat,by omega⟩
 obtain⟨t,rfl⟩:∃t:Nat,b=(t:Int):=⟨b.toNat,by omega⟩
 have zN:k<16:=by omega
 have ht2:t<32:=by omega
 unfold nC s7
 simp only[H7 zN,H7 ht2,fm,NY l zN ht2]
 by_cases h1:0<place l (k:Int) (t:Int)
 ·simp only[h1,decide_true,if_true,Bool.true_and]
  by_cases h2:a<0
  ·simp[h2]
  ·obtain⟨s,rfl⟩:∃s:Nat,a=(s:Int):=⟨a.toNat,by omega⟩
   have hs2:s<32:=by omega
   simp only[h2,decide_false,nF,if_false,H7 hs2,fm,NY l zN hs2,Bool.false_or]
   by_cases h3:0<place l (k:Int) (s:Int) <;> simp[h3]
 ·simp[h1]
section
variable {h:af} {l:List aA}
theorem Up(hf:Fits h){x y:Int}(hy:inr h y=true):b6 (tx h y).Reads x=some ((tx h y).Reads.any fun r=>decide (r.bY=x)):=by
 have hl:=hf.reads _ (vb hy)
 unfold b6 cM
 rw[p8 (tx h y).Reads (fun r=>decide (r.bY=x)) (fun k=>(k:Int)) (some (-1)) (bZ (by omega)) (fun k hk=> ?_) ?_,uh,fm,gX]
 ·simp[cC,c8]
 ·simp only[cC,dec_lt,hk,decide_true,if_true,dI hk,fm,mT,bL (k:=k) (by omega)]
  rfl
theorem Uq(hf:Fits h)(hr:right h=true){x y:Int}(hx:inr h x=true)(hy:inr h y=true):di (tx h x).bA x y h.az (u6 l)=some ((tx h x).bA.any fun key=>s7 l key x y):=by
 have hl:=hf.writes _ (vb hx)
 have hN:=nB hr
 have s5:=iM.1 hx
 have hy2:=iM.1 hy
 unfold di eO
 rw[p8 (tx h x).bA (fun key=>s7 l key x y) (fun k=>(k:Int)) (some (-1)) (bZ (by omega)) (fun k hk=> ?_) ?_,uh,fm,gX]
 ·simp[dm,eA]
 ·have hkk:0≤(tx h x).bA[k]∧(tx h x).bA[k]<16:=by
   obtain⟨n,rfl⟩:∃n:Nat,x=(n:Int):=⟨x.toNat,by omega⟩
   exact C7 hr (t:=n) (by omega) _ (List.getElem_mem hk)
  simp only[dm,dec_lt,hk,decide_true,if_true,dI hk,fm,p6,Un (l:=l) (T:=h.az) (a:=x) (b:=y) hkk (by omega) (by omega),bL (k:=k) (by omega)]
  rfl
theorem Uo(hf:Fits h)(hr:right h=true){x y:Int}(hx:inr h x=true)(hy:inr h y=true):pI x y h.az (u6 l)=some (s4 h l x y):=by
 have hj:∀b,jv x y h.az (u6 l) b=some (b||((tx h y).Reads.any (fun r=>decide (r.bY=x))||(tx h x).bA.any (fun key=>s7 l key x y))):=fun b=>by
  unfold jv
  rw[t_ hy,t_ hx]
  simp only[fm,Up hf hy,Uq hf hr hx hy]
  cases b
  ·cases(tx h y).Reads.any (fun r=>decide (r.bY=x)) <;> simp
  ·simp
 unfold pI s4
 rw[hj,t_ hx,t_ hy]
 simp only[fm,hj]
 by_cases e:x<y <;> simp[e]
theorem Z3(hf:Fits h)(hr:right h=true){x y:Int}(hx:inr h x=true)(hy:inr h y=true):qG x y h.az (u6 l)=some (Ck h l x y):=by
 have hl:=hf.reads _ (vb hx)
 have hN:=nB hr
 have s5:=iM.1 hx
 have hy2:=iM.1 hy
 unfold qG Ck
 by_cases hxy:x=y
 ·simp[hxy]
 ·rw[t_ hx]
  simp only[ne_eq,hxy,not_false_eq_true,decide_true,if_true,fm,Bool.true_and]
  unfold dr dQ
  rw[p8 (tx h x).Reads (fun r=>s7 l r.Key r.bY y) (fun k=>(k:Int)) (some (-1)) (bZ (by omega)) (fun k hk=> ?_) ?_,uh,fm,gX]
  ·rfl
  ·simp[cL,dz]
  ·have hm:=List.getElem_mem hk
   have hkk:(0≤(tx h x).Reads[k].Key∧(tx h x).Reads[k].Key<16)∧(tx h x).Reads[k].bY<32:=by
    obtain⟨n,rfl⟩:∃n:Nat,x=(n:Int):=⟨x.toNat,by omega⟩
    refine⟨Cu hr (t:=n) (by omega) _ hm, ?_⟩
    rcases J1 hr (t:=n) (by omega) hm with e|e
    ·omega
    ·omega
   simp only[cL,dec_lt,hk,decide_true,if_true,dI hk,fm,rj,Un (l:=l) (T:=h.az) (b:=y) hkk.1 hkk.2 (by omega),bL (k:=k) (by omega)]
   rfl
theorem ag7(hf:Fits h)(hr:right h=true){x:Nat}(hx:x<h.az.length):mE (x:Int) h.az (u6 l)=some (ZW h l x):=by
 have hN:=nB hr
 have hxi:inr h (x:Int)=true:=iM.2 ⟨by omega,by omega⟩
 unfold mE
 refine fV (fun v=>R3 h l x v) h.az.length _ (bZ (by omega)) (fun v hv=> ?_) ?_ (by simp[R3])
 ·have hvi:inr h (v:Int)=true:=iM.2 ⟨by omega,by omega⟩
  have hl:=P5 h l x v hN
  simp only[n_,gN,dec_lt,hv,decide_true,if_true,Uo hf hr hxi hvi,fm]
  rw[Nh]
  cases hd:s4 h l x v with
  |false=>
   simp only[Bool.not_false,if_true,nF,if_false,kS,Sh.next]
   rw[bL (k:=v) (by omega)]
  |true=>
   simp only[Bool.not_true,nF,if_false,if_true]
   rw[rC (by simp;omega),fm]
   refine fV (fun w=>R3 h l x v++[(v:Int)]++Ub h l v w) h.az.length _ (bZ (by omega)) (fun w hw=> ?_) ?_ (by simp[Ub])
   ·have hwi:inr h (w:Int)=true:=iM.2 ⟨by omega,by omega⟩
    have XL:=P4 h l v w
    simp only[oa,gN,dec_lt,hw,decide_true,if_true,Z3 hf hr hvi hwi,fm]
    rw[Uc]
    cases ho:Ck h l v w with
    |false=>
     simp only[nF,if_false,kT,Sh.next]
     rw[bL (k:=w) (by omega)]
    |true=>
     simp only[if_true]
     rw[rC (by simp;omega),fm]
     simp only[kT,Sh.next]
     rw[bL (k:=w) (by omega),List.append_assoc (R3 h l x v++[(v:Int)])]
   ·simp only[oa,gN]
    rw[if_neg (by simp)]
    unfold kS Sh.next Sh.exit
    rw[bL (k:=v) (by omega)]
 ·simp only[n_,gN]
  rw[if_neg (by simp)];rfl
theorem Q5(hr:right h=true)(hm:nY h (List.range 16) l=true):dc l:=by
 rw[List.range_eq_range'] at hm
 obtain⟨a,b,_⟩:=Gb hm
 have hN:=nB hr
 refine⟨fun r hr=>by have:=(a r hr).1;omega,fun r hr t ht=> ?_,fun r hr=> ?_,b⟩
 ·have:=(Sh.ta r.L).mem_iff.2 ht
  rw[(a r hr).2] at this
  have:=(GW.1 this).1
  omega
 ·have h1:=(Sh.ta r.L).nodup_iff
  rw[←h1,(a r hr).2]
  exact RM h r.Key
def PC(h:af)(l:List aA):Prop:=∃z,Path h.az.length (ZW h l) z z
theorem WA(hf:Fits h)(hn:h.az.length≤1000000)(hl:l.length≤1000000)(hL:∀r∈l,r.L.length≤1000000):∃b,zm h l=some b∧(b=true↔right h=true∧nY h (List.range 16) l=true∧¬PC h l):=by
 unfold zm
 rw[WC hf hn hl hL,fm]
 cases hr:right h with
 |false=>exact⟨false,rfl,by simp⟩
 |true=>
  cases hm:nY h (List.range 16) l with
  |false=>exact⟨false,rfl,by simp⟩
  |true=>
   have tb:=Q5 hr hm
   have hN:=nB hr
   simp only[Bool.true_and,Bool.not_true,nF,if_false]
   rw[Z6 tb hl]
   obtain⟨b,e1,e2⟩:=VZ (h:=h) (P:=u6 l) (nx:=ZW h l) hn (fun x hx=>ag7 hf hr hx) (fun x hx y hy=>(PZ.1 hy).1) (fun x hx=>by
    have:=P5 h l x h.az.length hN
    unfold ZW;omega)
   refine⟨b,e1,e2.trans ?_⟩
   simp[PC]
end
end Pl
end

section
/- Rings of edges, and what the reference answers of edges. -/
namespace Pl
open Go Go.Av G

def D8(h:af)(lev:Int)(l:List aa)(row:List Int)(i:Nat):Bool:=
 !((row.take i).any (fun x=>decide (row.getD i 0=x)))&&rE h lev l (row.getD i 0) (row.getD ((i+1) % row.length) 0)
theorem WN(h:af)(lev:Int)(l:List aa)(row:List Int):
  ring h lev l row=if ∀k,k<row.length→D8 h lev l row k=true then decide (0<row.length) else false:=by
 unfold ring
 by_cases hq:∀k,k<row.length→D8 h lev l row k=true
 ·rw[if_pos hq]
  have:(List.range row.length).all (D8 h lev l row)=true:=List.all_eq_true.2 fun k hk=>hq k (List.mem_range.1 hk)
  rw[show(List.range row.length).all (fun i=> !((row.take i).any (fun x=>decide (row.getD i 0=x)))&&rE h lev l (row.getD i 0) (row.getD ((i+1) % row.length) 0))=true from this,Bool.and_true]
 ·rw[if_neg hq]
  have:(List.range row.length).all (D8 h lev l row)=false:=by
   cases hc:(List.range row.length).all (D8 h lev l row) with
   |false=>rfl
   |true=>exact absurd (fun k hk=>List.all_eq_true.1 hc k (List.mem_range.2 hk)) hq
  rw[show(List.range row.length).all (fun i=> !((row.take i).any (fun x=>decide (row.getD i 0=x)))&&rE h lev l (row.getD i 0) (row.getD ((i+1) % row.length) 0))=false from this,Bool.and_false]
theorem PK{l:List Int}{k:Nat}(h:k<l.length):l.getD k 0=l[k]:=by simp[List.getD,List.getElem?_eq_getElem h]
theorem aav{a b:Nat}(hb:0<b)(ha:a<9223372036854775808)(RY:b<9223372036854775808):Sh.rem (a:Int) (b:Int)=some ((a % b:Nat):Int):=by
 unfold Sh.rem
 have:(b:Int)≠0:=by omega
 simp only[this,ne_eq,not_false_eq_true,if_true]
 rw[Int.tmod_eq_emod_of_nonneg (by omega)]
 rfl
theorem Z0{h:af}(hf:Fits h){l:List aa}(hl:l.length<9223372036854775807)(lev:Int){row:List Int}(hw:row.length<9223372036854775808):
  uV h lev l row=some (ring h lev l row):=by
 unfold uV
 rw[WN]
 refine Qj row.length (D8 h lev l row) (decide (0<row.length)) false (bZ (by omega)) (fun k hk=> ?_) ?_
 ·have hm:(k+1) % row.length<row.length:=Nat.mod_lt _ (by omega)
  simp only[sO,dec_lt,hk,decide_true,if_true,dI hk,fm,gN]
  rw[show Sh.sub row 0 (k:Int)=some (row.take k) by simpa using aax (l:=row) (m:=0) (k:=k) (by omega) (by omega)]
  rw[fm,Ur (by simp;omega),fm]
  unfold D8
  rw[PK hk,PK hm]
  cases hc:(row.take k).any (fun x=>decide (row[k]=x)) with
  |true=>simp[qK,Sh.exit]
  |false=>
   rw[if_neg (by simp),bL (by omega),aav (by omega) (by omega) (by omega)]
   simp only[fm,dI hm,pIs hf hl,qK,bL (k:=k) (by omega)]
   cases rE h lev l row[k] row[(k+1) % row.length] <;> simp[Sh.exit,Sh.next]
 ·simp[sO,vh,Sh.exit,gN]

end Pl
end

section
/- Law 19, first half: edges as the reference sees them; what one more choice adds. -/

namespace Pl
open Go Go.Av G

def one(h:af)(c:aa):Bool:=decide (c.A≠c.B)&&inr h c.A&&inr h c.B&&ja (tx h c.A) c.Key&&ja (tx h c.B) c.Key
theorem V5{h:af}(hr:right h=true){t:ah}(ht:t∈h.az){r:ak}(hm:r∈t.Reads)(h0:¬r.bY<0):inr h r.bY=true∧ja (tx h r.bY) r.Key=true:=by
 obtain⟨n,hn⟩:=Cv hr ht
 have:=yd hn r hm
 simp only[there,Bool.or_eq_true,Bool.and_eq_true,decide_eq_true_eq] at this
 rcases this with h1|h1
 ·omega
 ·obtain⟨⟨⟨a,b⟩,_⟩,d⟩:=h1
  refine⟨iM.2 ⟨a,b⟩, ?_⟩
  unfold tx
  have hi:r.bY.toNat<h.az.length:=by omega
  rw[List.getElem?_eq_getElem hi] at d ⊢
  exact d
end Pl
end

section
/- Facts: what follows from what; the program's answer and the reference's. -/

namespace Pl
open Go Go.Av G

def back(c:aa):aa:=⟨c.Key,c.B,c.A⟩
def may(h:af)(lev:Int):Bool:=right h&&(decide (lev=0)||decide (lev=1))
theorem Hg{h:af}{l m:List aa}(hs:∀c∈l,c∈m){x y:Int}(hd:direct h l x y=true):direct h m x y=true:=by
 unfold direct V0 at*
 simp only[Bool.and_eq_true,Bool.or_eq_true,List.any_eq_true] at*
 refine⟨hd.1,hd.2.imp id ?_⟩
 rintro⟨c,hc,hp⟩;exact⟨c,hs c hc,hp⟩
theorem LI{h:af}{l m:List aa}(hs:∀c∈l,c∈m){x y:Int}(hd:Fz h l x y=true):Fz h m x y=true:=by
 unfold Fz Qu isO at*
 simp only[Bool.and_eq_true,Bool.or_eq_true,List.any_eq_true] at*
 obtain⟨h1,h2,r,hr,h3,h4⟩:=hd
 refine⟨h1,h2,r,hr,h3,h4.imp id ?_⟩
 rintro⟨h5,c,hc,hp⟩;exact⟨h5,c,hs c hc,hp⟩
theorem Sm{h:af}{l m:List aa}(hs:∀c∈l,c∈m){lev x y:Int}(hd:rE h lev l x y=true):rE h lev m x y=true:=by
 unfold rE at*
 by_cases h0:lev=0
 ·simp only[h0,if_true,Bool.or_eq_true] at*
  exact hd.imp (Hg hs) (LI hs)
 ·by_cases h1:lev=1
  ·simp only[h0,h1,if_false,if_true,List.any_eq_true,Bool.and_eq_true,Bool.or_eq_true,show ¬((1:Int)=0) by omega] at*
   obtain⟨m,hm,RZ,EO⟩:=hd
   exact⟨m,hm,Hg hs RZ,EO.imp id (LI hs)⟩
  ·simp[h0,h1] at hd
theorem UW{h:af}{l m:List aa}(hs:∀c∈l,c∈m){lev:Int}{row:List Int}(hd:ring h lev l row=true):ring h lev m row=true:=by
 unfold ring at*
 simp only[Bool.and_eq_true,List.all_eq_true] at*
 exact⟨hd.1,fun i hi=>⟨(hd.2 i hi).1,Sm hs (hd.2 i hi).2⟩⟩
def uI(h:af)(t key:Int):Option Int:=
 if right h&&inr h t then((tx h t).Reads.findIdx? (fun r=>decide (r.Key=key))).map (fun k=>((tx h t).Reads.getD k default).bY) else none
theorem ahg{h:af}(hf:Fits h)(t key:Int):mc h t key=some (match uI h t key with|some v=>(v,true)|none=>(0,false)):=by
 unfold mc uI
 rw[Iw hf]
 simp only[fm]
 cases hr:right h with
 |false=>simp[fh]
 |true=>
  by_cases hx:inr h t=true
  ·obtain⟨a,b⟩:=iM.1 hx
   have h1:¬t<0:=by omega
   have h2:¬(h.az.length:Int)≤t:=by omega
   have h3:=hf.reads _ (vb hx)
   simp only[Bool.not_true,nF,if_false,h1,decide_false,Sh.len,h2,fh,t_ hx,fm,hx,Bool.and_self,if_true]
   rw[p8 (tx h t).Reads (fun r=>decide (r.Key=key)) (fun k=>(((tx h t).Reads.getD k default).bY,true)) (some (0,false)) (bZ (by omega)) (fun k hk=> ?_) ?_]
   ·cases(tx h t).Reads.findIdx? (fun r=>decide (r.Key=key)) <;> rfl
   ·simp[lG,o5]
   ·have h4:(tx h t).Reads.getD k default=(tx h t).Reads[k]:=by simp[List.getD,List.getElem?_eq_getElem hk]
    simp only[lG,dec_lt,hk,decide_true,if_true,dI hk,fm,bL (k:=k) (by omega),Sh.exit,Sh.next,Option.map_some,h4]
  ·have h1:inr h t=false:=by simpa using hx
   have h2:¬(0≤t∧t<(h.az.length:Int)):=fun h2=>hx (iM.2 h2)
   rw[h1]
   by_cases c:t<0
   ·simp[c,fh]
   ·have d:(h.az.length:Int)≤t:=by omega
    simp[c,d,fh,Sh.len]
theorem IN{h:af}{n:Int}:∀{l:List ak} {last:Int},rq h n last l=true→∀r∈l,last<r.Key
 |[],_,_,r,hr=>by cases hr
 |x::l,last,ht,r,hr=>by
  rw[show rq h n last (x::l)=(decide (last<x.Key)&&decide (x.Key<16)&&there h n x&&rq h n x.Key l) from rfl] at ht
  simp only[Bool.and_eq_true,decide_eq_true_eq] at ht
  rcases List.mem_cons.1 hr with rfl|hr
  ·exact ht.1.1.1
  ·have:=IN ht.2 r hr;have:=ht.1.1.1;omega
theorem J9{h:af}{n:Int}:∀{l:List ak} {last:Int},rq h n last l=true→∀r∈l,∀s∈l,r.Key=s.Key→r=s
 |[],_,_,r,hr,_,_,_=>by cases hr
 |x::l,last,ht,r,hr,s,hs,he=>by
  rw[show rq h n last (x::l)=(decide (last<x.Key)&&decide (x.Key<16)&&there h n x&&rq h n x.Key l) from rfl] at ht
  simp only[Bool.and_eq_true,decide_eq_true_eq] at ht
  rcases List.mem_cons.1 hr with h1|h1
  ·rcases List.mem_cons.1 hs with h2|h2
   ·rw[h1,h2]
   ·have:=IN ht.2 s h2;rw[h1] at he;omega
  ·rcases List.mem_cons.1 hs with h2|h2
   ·have:=IN ht.2 r h1;rw[h2] at he;omega
   ·exact J9 ht.2 r h1 s h2 he
theorem FF{h:af}(hr:right h=true){t key v:Int}(hx:inr h t=true):uI h t key=some v↔(tx h t).Reads.any (fun r=>decide (ak.mk key v=r))=true:=by
 obtain⟨n,hn⟩:=Cv hr (vb hx)
 unfold uI
 rw[hr,hx]
 simp only[Bool.and_self,if_true,List.any_eq_true,decide_eq_true_eq]
 constructor
 ·intro h1
  cases hfi:(tx h t).Reads.findIdx? (fun r=>decide (r.Key=key)) with
  |none=>rw[hfi] at h1;cases h1
  |some k=>
   rw[hfi] at h1
   rw[List.findIdx?_eq_some_iff_getElem] at hfi
   obtain⟨hk,hp,_⟩:=hfi
   simp only[Option.map_some,Option.some.injEq,List.getD,List.getElem?_eq_getElem hk,Option.getD_some] at h1
   refine⟨_,List.getElem_mem hk, ?_⟩
   simp only[decide_eq_true_eq] at hp
   cases hc:(tx h t).Reads[k] with
   |mk K F=>rw[hc] at hp h1;simp at hp h1;rw[hp,h1]
 ·rintro⟨r,hm,rfl⟩
  cases hfi:(tx h t).Reads.findIdx? (fun r=>decide (r.Key=key)) with
  |none=>
   rw[List.findIdx?_eq_none_iff] at hfi
   have:=hfi _ hm
   simp at this
  |some k=>
   rw[List.findIdx?_eq_some_iff_getElem] at hfi
   obtain⟨hk,hp,_⟩:=hfi
   simp only[decide_eq_true_eq] at hp
   have:=J9 hn _ (List.getElem_mem hk) _ hm hp
   simp[List.getD,List.getElem?_eq_getElem hk,this]
end Pl
end

section
/- Sets of numbers as bits: the program's functions, and the reference's, say the same. -/

namespace Pl
open Go Go.Av G

def join(l:List (BitVec 64)):BitVec 64:=l.foldl (· ||| ·) 0#64
@[simp] theorem UA(i:Int):mB i=some (decide (0≤i∧i≤63)):=by
 unfold mB
 by_cases h:0≤i <;> simp[h]
theorem JZ(i:Nat)(h:i≤63):iT (i:Int)=some (1#64<<<i):=by
 unfold iT
 refine count (fun k=>1#64<<<k) i _ (bZ (by omega)) (fun k hk=> ?_) ?_ (by simp)
 ·simp only[kf,dec_lt,hk,decide_true,if_true,Sh.next,bL (k:=k) (by omega)]
  congr 3
  apply BitVec.eq_of_toNat_eq
  simp only[BitVec.toNat_add,BitVec.toNat_shiftLeft,Nat.shiftLeft_eq,BitVec.toNat_ofNat]
  rw[Nat.pow_succ];omega
 ·simp[kf,ov,Sh.exit]
theorem LY(s:BitVec 64)(k:Nat)(hk:k<64):decide (s / (1#64<<<k) % 2#64=1#64)=s.getLsbD k:=by
 have h1:(1#64<<<k).toNat=2 ^ k:=by
  have:2 ^ k<2 ^ 64:=Nat.pow_lt_pow_right (by omega) hk
  simp[Nat.shiftLeft_eq,Nat.mod_eq_of_lt this]
 have h2:(s / (1#64<<<k) % 2#64).toNat=s.toNat / 2 ^ k % 2:=by
  simp only[BitVec.toNat_umod,BitVec.toNat_udiv,h1,BitVec.toNat_ofNat]
 have h3:s.getLsbD k=decide (s.toNat / 2 ^ k % 2=1):=by
  simp only[BitVec.getLsbD,Nat.testBit_eq_decide_div_mod_eq]
 rw[h3]
 congr 1
 apply propext
 rw[←h2]
 constructor
 ·intro h;rw[h];rfl
 ·intro h;apply BitVec.eq_of_toNat_eq;rw[h];rfl
@[simp] theorem KX(s:BitVec 64)(i:Int):jg s i=some (Bv.has s i):=by
 unfold jg Bv.has
 simp only[UA,fm]
 by_cases h:0≤i∧i≤63
 ·obtain⟨k,rfl⟩:∃k:Nat,i=k:=⟨i.toNat,by omega⟩
  have hk:k<64:=by omega
  have hne:(1#64<<<k)≠0#64:=by
   intro h0
   have:=congrArg (fun x:BitVec 64=>x.getLsbD k) h0
   simp[hk] at this
  have e1:Sh.udiv s (1#64<<<k)=some (s / (1#64<<<k)):=by simp only[Sh.udiv,hne,ne_eq,not_false_eq_true,if_true]
  simp only[h,decide_true,Bool.not_true,nF,if_false,JZ k (by omega),fm,e1,Sh.umod]
  have e2:(2#64:BitVec 64)≠0#64:=by decide
  simp only[e2,ne_eq,not_false_eq_true,if_true,fm,LY s k hk]
  have:((k:Int)<64):=by omega
  simp[this]
 ·rw[decide_eq_false h]
  by_cases h0:0≤i
  ·have:¬i<64:=by omega
   simp[h0,this]
  ·simp[h0]
theorem KC(s:BitVec 64){k:Nat}(hk:k<64):Bv.has s (k:Int)=s.getLsbD k:=by
 unfold Bv.has
 have h1:(0:Int)≤(k:Int):=by omega
 have h2:(k:Int)<64:=by omega
 simp[h2]
theorem VO(s:BitVec 64)(k:Nat)(hk:k<64)(hb:s.getLsbD k=false):s+1#64<<<k=s|||1#64<<<k:=by
 rw[BitVec.add_eq_or_of_and_eq_zero]
 apply Bv.ext
 intro j hj
 simp only[BitVec.getLsbD_and,BitVec.getLsbD_shiftLeft,hj,decide_true,Bool.true_and,BitVec.getLsbD_zero]
 by_cases hjk:j=k
 ·subst hjk;simp[hb]
 ·by_cases hlt:j<k
  ·simp[hlt]
  ·simp[hlt,BitVec.getLsbD_one];omega
theorem ZY(s:BitVec 64)(k:Nat)(hk:k<64)(hb:s.getLsbD k=true):s|||1#64<<<k=s:=by
 apply Bv.ext
 intro j hj
 simp only[BitVec.getLsbD_or,BitVec.getLsbD_shiftLeft,hj,decide_true,Bool.true_and]
 by_cases hjk:j=k
 ·subst hjk;simp[hb]
 ·by_cases hlt:j<k
  ·simp[hlt]
  ·simp[hlt,BitVec.getLsbD_one];omega
@[simp] theorem vC(s:BitVec 64)(i:Int):eD s i=some (s|||Bv.bit i):=by
 unfold eD lH
 simp only[KX,UA,fm]
 by_cases h:0≤i∧i≤63
 ·obtain⟨k,rfl⟩:∃k:Nat,i=k:=⟨i.toNat,by omega⟩
  have hk:k<64:=by omega
  have hbit:Bv.bit (k:Int)=1#64<<<k:=by unfold Bv.bit;rw[if_pos ⟨by omega,by omega⟩];simp
  have hh:Bv.has s (k:Int)=s.getLsbD k:=KC s hk
  rw[hh,hbit]
  cases hb:s.getLsbD k with
  |true=>simp[ZY s k hk hb]
  |false=>simp[h,JZ k (by omega),VO s k hk hb]
 ·have hbit:Bv.bit i=0#64:=by unfold Bv.bit;rw[if_neg (by omega)]
  have hh:Bv.has s i=false:=by
   unfold Bv.has
   by_cases h0:0≤i
   ·have:¬i<64:=by omega
    simp[this]
   ·simp[h0]
  simp[hh,hbit,h]
end Pl
namespace Pl
open Go Go.Av G
end Pl
end

section
/- Graphs as rows of bits: the program's functions and the reference's, over the edges. -/

namespace Pl
open Go Go.Av G

def row:Nat→(Nat→Bool)→BitVec 64
 |0,_=>0#64
 |n+1,p=>if p n then row n p|||(1#64<<<n) else row n p
theorem Rv(k i:Nat)(hk:k<64):(1#64<<<k).getLsbD i=decide (i=k):=by
 by_cases hi:i<64
 ·simp only[BitVec.getLsbD_shiftLeft,hi,decide_true,Bool.true_and]
  by_cases hik:i=k
  ·subst hik;simp
  ·by_cases hlt:i<k
   ·simp[hlt,hik]
   ·simp[hlt,hik,BitVec.getLsbD_one];omega
 ·have:¬i=k:=by omega
  simp[BitVec.getLsbD_of_ge _ i (show 64≤i by omega),this]
theorem Ao{n:Nat}(hn:n≤64)(p:Nat→Bool)(i:Nat):(row n p).getLsbD i=(decide (i<n)&&p i):=by
 induction n with
 |zero=>simp[row]
 |succ n ih=>
  have ih:=ih (by omega)
  unfold row
  by_cases hp:p n=true
  ·rw[if_pos hp,BitVec.getLsbD_or,ih,Rv n i (by omega)]
   by_cases h:i=n
   ·subst h;simp[hp]
   ·by_cases h2:i<n
    ·simp[h,h2,show i<n+1 by omega]
    ·simp[h,h2,show ¬i<n+1 by omega]
  ·rw[if_neg hp,ih]
   by_cases h:i=n
   ·subst h;simp[hp]
   ·by_cases h2:i<n
    ·simp[h2,show i<n+1 by omega]
    ·simp[h2,show ¬i<n+1 by omega]
def rows(n:Nat)(f:Nat→Nat→Bool):List (BitVec 64):=(List.range n).map fun x=>row n (f x)
@[simp] theorem ahk(n:Nat)(f:Nat→Nat→Bool):(rows n f).length=n:=by simp[rows]
theorem Fa{n:Nat}{f:Nat→Nat→Bool}{x:Nat}(h:x<(rows n f).length):(rows n f)[x]=row n (f x):=by simp[rows]
theorem vH{n:Nat}{f:Nat→Nat→Bool}{x:Nat}(h:x<n):Sh.idx (rows n f) (x:Int)=some (row n (f x)):=by
 rw[dI (by simpa using h),Fa]
abbrev rg(n:Nat)(f:Nat→Nat→Bool):aj:=⟨(n:Int),rows n f⟩

theorem Qi{n:Nat}(hn:n≤64){p q:Nat→Bool}:row n p=row n q↔∀i,i<n→p i=q i:=by
 constructor
 ·intro h i hi
  have:=congrArg (fun x:BitVec 64=>x.getLsbD i) h
  simpa [Ao hn,hi] using this
 ·intro h
  apply Bv.ext
  intro i _
  rw[Ao hn,Ao hn]
  by_cases hi:i<n
  ·simp[hi,h i hi]
  ·simp[hi]
theorem iG{n:Nat}(hn:n≤64){f h:Nat→Nat→Bool}:rows n f=rows n h↔∀x y,x<n→y<n→f x y=h x y:=by
 constructor
 ·intro e x y hx hy
  have h1:(rows n f)[x]? =(rows n h)[x]? :=by rw[e]
  rw[List.getElem?_eq_getElem (by simpa using hx),List.getElem?_eq_getElem (by simpa using hx),Fa,Fa] at h1
  exact(Qi hn).1 (Option.some.inj h1) y hy
 ·intro e
  unfold rows
  apply List.map_congr_left
  intro x hx
  exact(Qi hn).2 (fun y hy=>e x y (by simpa using hx) hy)
def Pe(N:Int)(R:List (BitVec 64)):Bool:=decide (0≤N∧N≤64∧(R.length:Int)=N∧∀r∈R,∀i:Nat,i<64→N≤(i:Int)→r.getLsbD i=false)
theorem Pf{n:Nat}(hn:n≤64)(f:Nat→Nat→Bool):Pe (n:Int) (rows n f)=true:=by
 refine decide_eq_true ⟨by omega,by omega,by simp,fun r hr i _ hi=> ?_⟩
 simp only[rows,List.mem_map] at hr
 obtain⟨x,_,rfl⟩:=hr
 rw[Ao hn]
 have:¬i<n:=by omega
 simp[this]
theorem C8(n:Nat):List.replicate n 0#64=rows n (fun _ _=>false):=by
 unfold rows
 apply List.ext_getElem (by simp)
 intro x h1 h2
 simp only[List.getElem_replicate,List.getElem_map]
 have:∀m,row m (fun _=>false)=0#64:=fun m=>by
  induction m with
  |zero=>rfl
  |succ m ih=>simp[row,ih]
 rw[this]
theorem WO{n:Nat}(hn:n≤64)(p:Nat→Bool){k:Nat}(hk:k<n):Bv.has (row n p) (k:Int)=p k:=by
 rw[KC _ (by omega),Ao hn];simp[hk]
theorem E_{n:Nat}(hn:n≤64)(p:Nat→Bool){k:Nat}(hk:k<n):row n p|||Bv.bit (k:Int)=row n (fun i=>p i||decide (i=k)):=by
 apply Bv.ext
 intro i hi
 rw[Ao hn,BitVec.getLsbD_or,Ao hn]
 have hb:Bv.bit (k:Int)=1#64<<<k:=by unfold Bv.bit;rw[if_pos ⟨by omega,by omega⟩];simp
 rw[hb]
 simp only[BitVec.getLsbD_shiftLeft,hi,decide_true,Bool.true_and]
 by_cases hik:i=k
 ·subst hik;simp[hk]
 ·by_cases hlt:i<k
  ·simp[hlt,hik]
  ·simp[hlt,hik,BitVec.getLsbD_one];omega
theorem Fb{n:Nat}(f:Nat→Nat→Bool){x:Nat}(_hx:x<n)(p:Nat→Bool):(rows n f).set x (row n p)=rows n (fun a=>if a=x then p else f a):=by
 apply List.ext_getElem (by simp)
 intro a h1 h2
 rw[List.getElem_set,Fa,Fa]
 by_cases ha:x=a
 ·subst ha;simp
 ·simp[ha,Ne.symm ha]
def VN(f:Nat→Nat→Bool)(a b:Nat):Nat→Nat→Bool:=fun x y=>f x y||decide (x=a∧y=b)
def Jk(f h:Nat→Nat→Bool):Nat→Nat→Bool:=fun x y=>f x y||h x y
def EB(n:Nat)(f h:Nat→Nat→Bool):Nat→Nat→Bool:=fun x y=>(List.range n).any fun z=>f x z&&h z y
end Pl
end

section
/- The reference's graphs. -/
namespace Pl
open Go Go.Av G

theorem x_{n:Nat}(hn:n≤64)(f:Nat→Nat→Bool){a:Nat}(ha:a<n){b:Nat}(hb:b<n):eS (rg n f) (a:Int) (b:Int)=some (f a b):=by
 unfold eS
 simp only[vH ha,fm,KX,WO hn _ hb]
theorem Aj(n:Nat)(hn:n≤64):fM (n:Int)=some ⟨(n:Int),List.replicate n 0#64⟩:=by
 unfold fM
 refine count (fun k=>List.replicate k 0#64) n _ (bZ (by omega)) (fun k hk=> ?_) ?_ rfl
 ·simp only[mR,dec_lt,hk,decide_true,if_true]
  rw[rC (by simp;omega)]
  simp only[fm,Sh.next,bL (k:=k) (by omega)]
  rw[List.replicate_succ']
 ·simp only[mR,Int.lt_irrefl,decide_false,nF,if_false,pV,oQ]
theorem Rh(g:aj)(hl:g.Rows.length<9223372036854775808):iU g=some (Pe g.N g.Rows):=by
 unfold iU iw Pe
 obtain⟨N,R⟩:=g
 by_cases h1:0≤N
 ·by_cases h2:N≤64
  ·by_cases h3:(R.length:Int)=N
   ·subst h3
    have g1:¬((R.length:Int)<0):=by omega
    have g2:¬((64:Int)<R.length):=by omega
    have hR:R.length≤64:=by omega
    simp only[g1,g2,h1,h2,decide_false,nF,if_false,gN,ne_eq,not_true_eq_false,true_and]
    have key:=tI (b:=fun(p:Int)=>ir ⟨(R.length:Int),R⟩ p) R.length (fun k=>decide (∀j:Nat,j<64→R.length≤j→(R.getD k 0#64).getLsbD j=false)) hl (fun k hk=> ?_) ?_
    ·rw[key]
     congr 2
     apply propext
     simp only[decide_eq_true_eq]
     constructor
     ·intro h r hr i hi hN
      obtain⟨k,hk,rfl⟩:=List.getElem_of_mem hr
      have:=h k hk i hi (by omega)
      simpa [List.getD,hk] using this
     ·intro h k hk j hj hjk
      have:=h R[k] (List.getElem_mem hk) j hj (by omega)
      simpa [List.getD,hk] using this
    ·have hg:R.getD k 0#64=R[k]:=by simp[List.getD,hk]
     simp only[ir,dec_lt,hk,decide_true,if_true,hg]
     have:=scan (b:=fun(p:Int)=>iu ⟨(R.length:Int),R⟩ (k:Int) p) R.length 64 (fun j=> !R[k].getLsbD j) (some (.inl ((k+1:Nat):Int))|>.getD (.inr true)) (.inr false) hR (bZ (by omega)) (fun j hj hj2=> ?_) ?_
     ·rw[this]
      by_cases hq:∀j,j<64→R.length≤j→R[k].getLsbD j=false
      ·have hq':∀j,j<64→R.length≤j→(!R[k].getLsbD j)=true:=fun j a b=>by simp[hq j a b]
       rw[if_pos hq',decide_eq_true hq];rfl
      ·have hq':¬∀j,j<64→R.length≤j→(!R[k].getLsbD j)=true:=fun h=>hq (fun j a b=>by simpa using h j a b)
       rw[if_neg hq',decide_eq_false hq];rfl
     ·have hj':(j:Int)<64:=by omega
      simp only[iu,hj',decide_true,if_true,dI hk,fm,KX,KC _ hj2,Sh.next,oQ,bL (k:=j) (by omega)]
      cases R[k].getLsbD j <;> rfl
     ·simp[iu,oz,Sh.exit,Sh.next,bL (k:=k) (by omega)]
    ·simp[ir,ow,Sh.exit]
   ·have g1:¬N<0:=by omega
    have g2:¬(64:Int)<N:=by omega
    simp[g1,g2,h3]
  ·have g1:¬N<0:=by omega
   have g2:(64:Int)<N:=by omega
   simp[g1,g2,h2]
 ·have g1:N<0:=by omega
  simp[g1,h1]

def yD(h:Nat→Nat→Bool)(x y:Nat):Nat→Nat→Bool:=fun a b=>if a<x then h a b else if a=x then decide (b<y)&&h a b else false
theorem Nd{n:Nat}(hn:n≤64)(h:Nat→Nat→Bool):rows n (yD h 0 0)=List.replicate n 0#64:=by
 rw[C8,iG hn]
 intro a b _ _
 unfold yD
 by_cases ha:a=0 <;> simp[ha]
theorem Nc{n:Nat}(hn:n≤64)(h:Nat→Nat→Bool)(x:Nat):rows n (yD h x n)=rows n (yD h (x+1) 0):=by
 rw[iG hn]
 intro a b _ hb
 unfold yD
 by_cases h1:a<x
 ·simp[h1,show a<x+1 by omega]
 ·by_cases h2:a=x
  ·subst h2;simp[hb]
  ·simp[h1,h2,show ¬a<x+1 by omega]
theorem PX{n:Nat}(hn:n≤64)(h:Nat→Nat→Bool):rows n (yD h n 0)=rows n h:=by
 rw[iG hn]
 intro a b ha _
 simp[yD,ha]
theorem OU{n:Nat}(hn:n≤64)(h:Nat→Nat→Bool){x y:Nat}(he:h x y=false):rows n (yD h x y)=rows n (yD h x (y+1)):=by
 rw[iG hn]
 intro a b _ _
 unfold yD
 by_cases h1:a<x
 ·simp[h1]
 ·by_cases h2:a=x
  ·subst h2
   by_cases h3:b<y
   ·simp[h3,show b<y+1 by omega]
   ·by_cases h4:b=y
    ·subst h4;simp[he]
    ·simp[h3,show ¬b<y+1 by omega]
  ·simp[h1,h2]
theorem PY{n:Nat}(h:Nat→Nat→Bool){x y:Nat}(hx:x<n):Sh.idx (rows n (yD h x y)) (x:Int)=some (row n (yD h x y x)):=vH hx
theorem GQ{n:Nat}(hn:n≤64)(h:Nat→Nat→Bool){x y:Nat}(hx:x<n)(hy:y<n)(he:h x y=true):
  Sh.set (rows n (yD h x y)) (x:Int) (row n (yD h x y x)|||Bv.bit (y:Int))=rows n (yD h x (y+1)):=by
 rw[FW,E_ hn _ hy,Fb _ hx,iG hn]
 intro a b _ _
 by_cases ha:a=x
 ·subst ha
  unfold yD
  by_cases h3:b<y
  ·have:¬b=y:=by omega
   simp[h3,show b<y+1 by omega,this]
  ·by_cases h4:b=y
   ·subst h4;simp[he]
   ·simp[h3,h4,show ¬b<y+1 by omega]
 ·simp only[ha,if_false]
  unfold yD
  by_cases h1:a<x <;> simp[h1,ha]
theorem CY{n:Nat}(hn:n≤64)(f h:Nat→Nat→Bool):gL (rg n f) (rg n h)=some (rg n (Jk f h)):=by
 unfold gL
 simp only[Aj n hn,fm]
 refine count (fun x=>rows n (yD (Jk f h) x 0)) n _ (bZ (by omega)) (fun x hx=> ?_) ?_ (by rw[Nd hn])
 ·simp only[kg,dec_lt,hx,decide_true,if_true]
  refine count (fun y=>rows n (yD (Jk f h) x y)) n _ (bZ (by omega)) (fun y hy=> ?_) ?_ rfl
  ·have e:Jk f h x y=(f x y||h x y):=rfl
   simp only[kj,dec_lt,hy,decide_true,if_true,x_ hn f hx hy,x_ hn h hx hy,fm,kn,ko,PY _ hx,vC,Sh.next,bL (k:=y) (by omega)]
   cases h1:f x y with
   |true=>simp only[if_true,GQ hn (Jk f h) hx hy (by rw[e,h1];rfl)]
   |false=>
    cases h2:h x y with
    |true=>simp only[nF,if_false,if_true,GQ hn (Jk f h) hx hy (by rw[e,h1,h2];rfl)]
    |false=>simp only[nF,if_false,OU hn (Jk f h) (show Jk f h x y=false by rw[e,h1,h2];rfl)]
  ·simp only[kj,Int.lt_irrefl,decide_false,nF,if_false,oB,zc,oQ,Nc hn,bL (k:=x) (by omega)]
 ·simp only[kg,Int.lt_irrefl,decide_false,nF,if_false,oA,oQ,PX hn]
end Pl
namespace Pl
open Go Go.Av G
def s_(c:Nat→Nat→Bool)(x:Nat)(p:Nat→Bool):Nat→Nat→Bool:=fun a b=>if a<x then c a b else if a=x then p b else false
theorem HA{n:Nat}(hn:n≤64)(c:Nat→Nat→Bool):rows n (s_ c 0 fun _=>false)=List.replicate n 0#64:=by
 rw[C8,iG hn]
 intro a b _ _
 simp[s_]
theorem Hy{n:Nat}(hn:n≤64)(c:Nat→Nat→Bool)(x:Nat):rows n (s_ c x (c x))=rows n (s_ c (x+1) fun _=>false):=by
 rw[iG hn]
 intro a b _ _
 unfold s_
 by_cases h1:a<x
 ·simp[h1,show a<x+1 by omega]
 ·by_cases h2:a=x
  ·subst h2;simp
  ·simp[h1,h2,show ¬a<x+1 by omega]
theorem KB{n:Nat}(hn:n≤64)(c:Nat→Nat→Bool):rows n (s_ c n fun _=>false)=rows n c:=by
 rw[iG hn]
 intro a b ha _
 simp[s_,ha]
theorem tZ{n:Nat}(hn:n≤64)(c:Nat→Nat→Bool)(x:Nat){p q:Nat→Bool}(h:∀b,b<n→p b=q b):rows n (s_ c x p)=rows n (s_ c x q):=by
 rw[iG hn]
 intro a b _ hb
 simp[s_,h b hb]
theorem Hz{n:Nat}(hn:n≤64)(c:Nat→Nat→Bool){x y:Nat}(hx:x<n)(hy:y<n)(p:Nat→Bool):
  Sh.set (rows n (s_ c x p)) (x:Int) (row n (s_ c x p x)|||Bv.bit (y:Int))=rows n (s_ c x fun b=>p b||decide (b=y)):=by
 rw[FW,E_ hn _ hy,Fb _ hx,iG hn]
 intro a b _ _
 by_cases ha:a=x
 ·subst ha;simp[s_]
 ·simp[ha,s_]
theorem Nz{n:Nat}(hn:n≤64)(f h:Nat→Nat→Bool):jh (rg n f) (rg n h)=some (rg n (EB n f h)):=by
 unfold jh
 simp only[Aj n hn,fm]
 refine count (fun x=>rows n (s_ (EB n f h) x fun _=>false)) n _ (bZ (by omega)) (fun x hx=> ?_) ?_ (by rw[HA hn])
 ·simp only[ji,dec_lt,hx,decide_true,if_true]
  refine count (fun y=>rows n (s_ (EB n f h) x fun b=>(List.range y).any fun z=>f x z&&h z b)) n _ (bZ (by omega)) (fun y hy=> ?_) ?_ (by simp)
  ·simp only[jj,dec_lt,hy,decide_true,if_true,x_ hn f hx hy,fm]
   have step:rows n (s_ (EB n f h) x fun b=>((List.range y).any fun z=>f x z&&h z b)||(f x y&&h y b))=rows n (s_ (EB n f h) x fun b=>(List.range (y+1)).any fun z=>f x z&&h z b):=by
    apply tZ hn
    intro b _
    rw[List.range_succ,List.any_append];simp
   cases hf:f x y with
   |false=>
    rw[hf] at step
    simp only[Bool.false_and,Bool.or_false] at step
    simp only[Bool.not_false,if_true,gF,Sh.next,bL (k:=y) (by omega),step]
   |true=>
    rw[hf] at step
    simp only[Bool.true_and] at step
    simp only[Bool.not_true,nF,if_false]
    refine count (fun z=>rows n (s_ (EB n f h) x fun b=>((List.range y).any fun z=>f x z&&h z b)||(decide (b<z)&&h y b))) n _ (bZ (by omega)) (fun z hz=> ?_) ?_ (tZ hn _ x (fun b _=>by simp))
    ·have hz':(z:Int)<(n:Int):=by omega
     simp only[jk,dec_lt,hz,decide_true,if_true,x_ hn h hy hz,fm,jl,vH hx,vC,Sh.next,bL (k:=z) (by omega),Hz hn _ hx hz]
     cases hh:h y z with
     |true=>
      simp only[if_true]
      congr 3
      apply tZ hn
      intro b _
      by_cases h1:b<z
      ·have:¬b=z:=by omega
       simp[h1,show b<z+1 by omega,this]
      ·by_cases h2:b=z
       ·subst h2;simp[hh]
       ·simp[h1,h2,show ¬b<z+1 by omega]
     |false=>
      simp only[nF,if_false]
      congr 3
      apply tZ hn
      intro b _
      by_cases h1:b<z
      ·simp[h1,show b<z+1 by omega]
      ·by_cases h2:b=z
       ·subst h2;simp[hh]
       ·simp[h1,show ¬b<z+1 by omega]
    ·simp only[jk,Int.lt_irrefl,decide_false,nF,if_false,gF,zc,oQ,bL (k:=y) (by omega)]
     congr 4
     rw[←step]
     apply tZ hn
     intro b hb
     simp[hb]
  ·simp only[jj,Int.lt_irrefl,decide_false,nF,if_false,mh,zc,oQ,bL (k:=x) (by omega)]
   rw[←Hy hn];rfl
 ·simp only[ji,Int.lt_irrefl,decide_false,nF,if_false,mg,oQ,KB hn]
end Pl
end

section
/- Where ways lead. -/

namespace Pl
open Go Go.Av G

inductive Way (n:Nat) (f:Nat→Nat→Bool):Nat→Nat→Prop
 |rE {x y:Nat}:x<n→y<n→f x y=true→Way n f x y
 |cons {x y z:Nat}:x<n→y<n→f x y=true→Way n f y z→Way n f x z

theorem Way.trans{n:Nat}{f:Nat→Nat→Bool}{x y z:Nat}(h:Way n f x y)(k:Way n f y z):Way n f x z:=by
 induction h with
 |rE hx hy hf=>exact .cons hx hy hf k
 |cons hx hy hf _ ih=>exact .cons hx hy hf (ih k)
theorem Way.left{n:Nat}{f:Nat→Nat→Bool}{x y:Nat}(h:Way n f x y):x<n:=by cases h <;> assumption
theorem Way.right{n:Nat}{f:Nat→Nat→Bool}{x y:Nat}(h:Way n f x y):y<n:=by
 induction h with
 |rE _ hy _=>exact hy
 |cons _ _ _ _ ih=>exact ih
theorem Way.snoc{n:Nat}{f:Nat→Nat→Bool}{x y z:Nat}(h:Way n f x y)(hz:z<n)(hf:f y z=true):Way n f x z:=h.trans (.rE h.right hz hf)
theorem Way.mono{n:Nat}{f h:Nat→Nat→Bool}(hm:∀x y,x<n→y<n→f x y=true→Way n h x y){x y:Nat}(w:Way n f x y):Way n h x y:=by
 induction w with
 |rE hx hy hf=>exact hm _ _ hx hy hf
 |cons hx hy hf _ ih=>exact(hm _ _ hx hy hf).trans ih
theorem Way.last{n:Nat}{f:Nat→Nat→Bool}{x z:Nat}(h:Way n f x z):∃y,y<n∧f y z=true∧(y=x∨Way n f x y):=by
 induction h with
 |rE hx hy hf=>exact⟨_,hx,hf,.inl rfl⟩
 |cons hx hy hf _ ih=>
  obtain⟨y,h1,h2,h3⟩:=ih
  refine⟨y,h1,h2,.inr ?_⟩
  rcases h3 with rfl|h3
  ·exact .rE hx hy hf
  ·exact .cons hx hy hf h3

noncomputable def N8(n:Nat)(f:Nat→Nat→Bool):Nat→Nat→Bool:=fun x y=> @decide (Way n f x y) (Classical.propDecidable _)
theorem Ll{n:Nat}{f:Nat→Nat→Bool}{x y:Nat}:N8 n f x y=true↔Way n f x y:=by
 unfold N8;exact @decide_eq_true_iff _ (Classical.propDecidable _)

noncomputable def VX(n:Nat)(f:Nat→Nat→Bool):Bool:= @decide (∃x,Way n f x x) (Classical.propDecidable _)
theorem EC{n:Nat}{f:Nat→Nat→Bool}:VX n f=true↔∃x,Way n f x x:=by
 unfold VX;exact @decide_eq_true_iff _ (Classical.propDecidable _)
end Pl
end

section
/- The statements on graphs. -/

namespace Pl
open Go Go.Av G

end Pl
end

section
/- The statements on where ways lead. -/

namespace Pl
open Go Go.Av G

def GM(f:Nat→Nat→Bool):Nat→Nat→Nat→Bool
 |0=>f
 |k+1=>fun x y=>GM f k x y||(GM f k x k&&GM f k k y)
inductive VM (n:Nat) (f:Nat→Nat→Bool) (k:Nat):Nat→Nat→Prop
 |rE {x y:Nat}:x<n→y<n→f x y=true→VM n f k x y
 |cons {x y z:Nat}:x<n→y<n→y<k→f x y=true→VM n f k y z→VM n f k x z
theorem RI{n:Nat}{f:Nat→Nat→Bool}{k x y:Nat}(hk:k<n)(h:VM n f (k+1) x y):VM n f k x y∨(VM n f k x k∧VM n f k k y):=by
 induction h with
 |rE hx hy hf=>exact .inl (.rE hx hy hf)
 | @cons x z y hx hz hzk hf _ ih=>
  by_cases hlt:z<k
  ·rcases ih with h|⟨h1,h2⟩
   ·exact .inl (.cons hx hz hlt hf h)
   ·exact .inr ⟨.cons hx hz hlt hf h1,h2⟩
  ·have:z=k:=by omega
   subst this
   rcases ih with h|⟨h1,h2⟩
   ·exact .inr ⟨.rE hx hk hf,h⟩
   ·exact .inr ⟨.rE hx hk hf,h2⟩
theorem Lk{n:Nat}{f:Nat→Nat→Bool}:∀(k:Nat),k≤n→∀{x y:Nat},VM n f k x y→GM f k x y=true
 |0,_,x,y,h=>by
  cases h with
  |rE _ _ hf=>exact hf
  |cons _ _ h0 _ _=>omega
 |k+1,hk,x,y,h=>by
  simp only[GM,Bool.or_eq_true,Bool.and_eq_true]
  rcases RI (by omega) h with h|⟨h1,h2⟩
  ·exact .inl (Lk k (by omega) h)
  ·exact .inr ⟨Lk k (by omega) h1,Lk k (by omega) h2⟩
theorem EG{n:Nat}{f:Nat→Nat→Bool}:∀(k:Nat),k≤n→∀{x y:Nat},x<n→y<n→GM f k x y=true→Way n f x y
 |0,_,x,y,hx,hy,h=>.rE hx hy h
 |k+1,hk,x,y,hx,hy,h=>by
  simp only[GM,Bool.or_eq_true,Bool.and_eq_true] at h
  rcases h with h|⟨h1,h2⟩
  ·exact EG k (by omega) hx hy h
  ·exact(EG k (by omega) hx (by omega) h1).trans (EG k (by omega) (by omega) hy h2)
theorem W3{n:Nat}{f:Nat→Nat→Bool}{x y:Nat}(h:Way n f x y):VM n f n x y:=by
 induction h with
 |rE hx hy hf=>exact .rE hx hy hf
 |cons hx hy hf _ ih=>exact .cons hx hy hy hf ih
theorem YL{n:Nat}(hn:n≤64)(f:Nat→Nat→Bool):rows n (GM f n)=rows n (N8 n f):=by
 rw[iG hn]
 intro x y hx hy
 rw[Bool.eq_iff_iff,Ll]
 exact⟨EG n (Nat.le_refl n) hx hy,fun h=>Lk n (Nat.le_refl n) (W3 h)⟩
theorem Rj{n:Nat}(hn:n≤64)(f:Nat→Nat→Bool):kL (rg n f)=some (rg n (N8 n f)):=by
 unfold kL
 refine Sh.EU (fun k=>((n:Int),rows n (GM f k),(k:Int))) n _ (bZ (by omega)) (fun k hk=> ?_) ?_
 ·simp only[kq,dec_lt,hk,decide_true,if_true,Aj n hn,fm]
  refine count (fun x=>rows n (yD (GM f (k+1)) x 0)) n _ (bZ (by omega)) (fun x hx=> ?_) ?_ (by rw[Nd hn])
  ·simp only[kr,dec_lt,hx,decide_true,if_true]
   refine count (fun y=>rows n (yD (GM f (k+1)) x y)) n _ (bZ (by omega)) (fun y hy=> ?_) ?_ rfl
   ·have e:GM f (k+1) x y=(GM f k x y||(GM f k x k&&GM f k k y)):=rfl
    simp only[ku,dec_lt,hy,decide_true,if_true,x_ hn _ hx hy,x_ hn _ hx hk,x_ hn _ hk hy,fm,iy,kz,PY _ hx,vC,Sh.next,bL (k:=y) (by omega)]
    cases h1:GM f k x y with
    |true=>simp only[if_true,GQ hn (GM f (k+1)) hx hy (by rw[e,h1];rfl)]
    |false=>
     cases h2:GM f k x k with
     |false=>simp only[nF,if_false,OU hn (GM f (k+1)) (show GM f (k+1) x y=false by rw[e,h1,h2];rfl)]
     |true=>
      cases h3:GM f k k y with
      |true=>simp only[nF,if_false,if_true,GQ hn (GM f (k+1)) hx hy (by rw[e,h1,h2,h3];rfl)]
      |false=>simp only[nF,if_false,if_true,OU hn (GM f (k+1)) (show GM f (k+1) x y=false by rw[e,h1,h2,h3];rfl)]
   ·simp only[ku,Int.lt_irrefl,decide_false,nF,if_false,oF,zc,oQ,Nc hn,bL (k:=x) (by omega)]
  ·simp only[kr,Int.lt_irrefl,decide_false,nF,if_false,oE,oD,zc,oQ,PX hn,bL (k:=k) (by omega)]
 ·simp only[kq,Int.lt_irrefl,decide_false,nF,if_false,oC,oQ,YL hn]
theorem O_{n:Nat}(hn:n≤64)(f:Nat→Nat→Bool):jS (rg n f)=some (VX n f):=by
 unfold jS
 have hr:iU (rg n f)=some true:=by
  rw[Rh _ (by simp;omega)];exact congrArg some (Pf hn f)
 simp only[hr,fm,Bool.not_true,nF,if_false,Rj hn]
 refine(Qj n (fun k=> !N8 n f k k) false true (bZ (by omega)) (fun k hk=> ?_) ?_).trans ?_
 ·simp only[jM,dec_lt,hk,decide_true,if_true,x_ hn _ hk hk,fm,oQ,Sh.next,bL (k:=k) (by omega)]
  cases N8 n f k k <;> rfl
 ·simp only[jM,Int.lt_irrefl,decide_false,nF,if_false,ng,oQ]
 ·congr 1
  by_cases h:∀k,k<n→(!N8 n f k k)=true
  ·rw[if_pos h]
   symm
   rw[←Bool.not_eq_true,EC]
   rintro⟨x,hx⟩
   have:=h x hx.left
   simp[Ll.2 hx] at this
  ·rw[if_neg h]
   symm
   rw[EC]
   apply Classical.byContradiction
   intro hno
   apply h
   intro k hk
   cases hb:N8 n f k k with
   |false=>rfl
   |true=>exact absurd ⟨k,Ll.1 hb⟩ hno
end Pl
end

section
/- The reference's graphs of a history: what must come ahead of what. -/
namespace Pl
open Go Go.Av G

theorem vj{h:af}{x:Nat}:inr h (x:Int)=true↔x<h.az.length:=by rw[iM];omega
theorem CT{h:af}{x:Nat}(hx:x<h.az.length):Sh.idx h.az (x:Int)=some (tx h x):=t_ (vj.2 hx)
theorem Ka{h:af}{x:Nat}(hx:x<h.az.length):tx h x∈h.az:=vb (vj.2 hx)
theorem NK{n:Nat}(hn:n≤64)(f:Nat→Nat→Bool){a b:Nat}(ha:a<n)(hb:b<n):Sh.set (rows n f) (a:Int) (row n (f a)|||Bv.bit (b:Int))=rows n (VN f a b):=by
 rw[E_ hn _ hb,FW,Fb f ha,iG hn]
 intro x y _ _
 unfold VN
 by_cases hx:x=a
 ·subst hx;simp
 ·simp[hx]

def J5(h:af)(x y:Nat):Bool:=decide (x<y)&&decide ((tx h x).bw=(tx h y).bw)
def Vl(h:af)(x y:Nat):Bool:=(tx h y).Reads.any (fun r=>decide (r.bY=(x:Int)))
def BV(h:af)(r:ak)(y:Nat):Bool:=decide (r.bY= -1)&&ja (tx h y) r.Key
def HV(h:af)(x y:Nat):Bool:=decide (y≠x)&&(tx h x).Reads.any (fun r=>BV h r y)
def Yz(l:List aa)(x y:Nat):Bool:=l.any (fun c=>decide (c.A=(x:Int))&&decide (c.B=(y:Int)))
def rwC(h:af)(c:aa)(x y:Nat):Bool:=decide (c.B=(y:Int))&&decide (x≠y)&&decide (uI h x c.Key=some c.A)
def R6(h:af)(l:List aa)(x y:Nat):Bool:=HV h x y||l.any (fun c=>rwC h c x y)


theorem xk{α:Type}{l:List α}{k:Nat}(h:k<l.length)(q:α→Bool):(l.take (k+1)).any q=((l.take k).any q||q l[k]):=by
 rw[List.take_add_one,List.getElem?_eq_getElem h,Option.toList_some,List.any_append,List.any_cons,List.any_nil,Bool.or_false]
theorem aad{h:af}(hn:h.az.length≤64):oR h=some (rg h.az.length (J5 h)):=by
 unfold oR
 rw[show(Sh.len h.az)=((h.az.length:Nat):Int) from rfl,Aj _ hn]
 simp only[fm]
 refine fV (fun k=>rows h.az.length (s_ (J5 h) k fun _=>false)) h.az.length _ (bZ (by omega)) (fun a ha=> ?_) ?_ (by rw[HA hn])
 ·simp only[nN,dec_lt,ha,decide_true,if_true]
  rw[bL (by omega)]
  refine qd (fun j=>(rows h.az.length (s_ (J5 h) a fun y=>decide (y<a+1+j)&&J5 h a y),((a+1+j:Nat):Int))) (h.az.length - (a+1)) _ (bZ (by omega)) (fun j hj=> ?_) ?_ ?_
  ·have hb:a+1+j<h.az.length:=by omega
   have ne:rows h.az.length (s_ (J5 h) a fun y=>(decide (y<a+1+j)&&J5 h a y)||(decide (y=a+1+j)&&J5 h a (a+1+j)))=rows h.az.length (s_ (J5 h) a fun y=>decide (y<a+1+(j+1))&&J5 h a y):=by
    apply tZ hn
    intro y hy
    by_cases e2:y=a+1+j
    ·subst e2;simp
    ·have:(y<a+1+(j+1))↔(y<a+1+j):=by omega
     simp[e2,this]
   simp only[nO,dec_lt,hb,decide_true,if_true,CT ha,CT hb,fm,vH ha,vC,Hz hn _ ha hb,nP,bL (k:=a+1+j) (by omega),Sh.next]
   have hlt:decide (a<a+1+j)=true:=by simp;omega
   by_cases hs:(tx h a).bw=(tx h (a+1+j:Nat)).bw
   ·have hso:J5 h a (a+1+j)=true:=by unfold J5;rw[hlt,hs];simp
    rw[←ne,hso]
    simp only[hs,decide_true,if_true,Bool.and_true]
    rfl
   ·have hso:J5 h a (a+1+j)=false:=by unfold J5;rw[decide_eq_false hs];simp
    rw[←ne,hso]
    simp only[hs,decide_false,nF,if_false,Bool.and_false,Bool.or_false]
    rfl
  ·rw[show a+1+(h.az.length - (a+1))=h.az.length by omega]
   simp only[nO,dec_lt,Nat.lt_irrefl,decide_false,nF,if_false,ql,bL (k:=a) (by omega),Sh.next]
   rw[←Hy hn]
   congr 4
   exact tZ hn _ _ fun y hy=>by simp[hy]
  ·congr 1
   refine tZ hn _ _ fun y hy=> ?_
   by_cases e2:y<a+1
   ·have:¬a<y:=by omega
    simp[J5,this]
   ·simp[e2]
 ·simp only[nN,dec_lt,Nat.lt_irrefl,decide_false,nF,if_false,qk]
  rw[KB hn]

def yt(c:Nat→Nat→Bool)(t:Nat)(p:Nat→Bool):Nat→Nat→Bool:=fun a b=>if b<t then c a b else if b=t then p a else false
theorem QL{n:Nat}(hn:n≤64)(c:Nat→Nat→Bool):rows n (yt c 0 fun _=>false)=List.replicate n 0#64:=by
 rw[C8,iG hn]
 intro a b _ _
 simp[yt]
theorem QJ{n:Nat}(hn:n≤64)(c:Nat→Nat→Bool)(x:Nat):rows n (yt c x fun a=>c a x)=rows n (yt c (x+1) fun _=>false):=by
 rw[iG hn]
 intro a b _ _
 unfold yt
 by_cases h1:b<x
 ·simp[h1,show b<x+1 by omega]
 ·by_cases h2:b=x
  ·subst h2;simp
  ·simp[h1,h2,show ¬b<x+1 by omega]
theorem SA{n:Nat}(hn:n≤64)(c:Nat→Nat→Bool):rows n (yt c n fun _=>false)=rows n c:=by
 rw[iG hn]
 intro a b _ hb
 simp[yt,hb]
theorem EK{n:Nat}(hn:n≤64)(c:Nat→Nat→Bool)(x:Nat){p q:Nat→Bool}(h:∀a,a<n→p a=q a):rows n (yt c x p)=rows n (yt c x q):=by
 rw[iG hn]
 intro a b ha _
 simp[yt,h a ha]
theorem QK{n:Nat}(hn:n≤64)(c:Nat→Nat→Bool){x y:Nat}(hx:x<n)(hy:y<n)(p:Nat→Bool):
  Sh.set (rows n (yt c y p)) (x:Int) (row n (yt c y p x)|||Bv.bit (y:Int))=rows n (yt c y fun a=>p a||decide (a=x)):=by
 rw[FW,E_ hn _ hy,Fb _ hx,iG hn]
 intro a b _ _
 by_cases ha:a=x
 ·subst ha
  by_cases hb:b=y
  ·subst hb;simp[yt]
  ·simp[yt,hb]
 ·by_cases hb:b=y
  ·subst hb;simp[ha,yt]
  ·simp[ha,yt,hb]

theorem V4{h:af}(hr:right h=true){t:Nat}(ht:t<h.az.length){r:ak}(hm:r∈(tx h t).Reads)(h0:¬r.bY<0):∃x:Nat,r.bY=(x:Int)∧x<h.az.length:=by
 have:=(V5 hr (Ka ht) hm h0).1
 obtain⟨a,b⟩:=iM.1 this
 exact⟨r.bY.toNat,by omega,by omega⟩
theorem aae{h:af}(hf:Fits h)(hr:right h=true)(hn:h.az.length≤64):oS h=some (rg h.az.length (Vl h)):=by
 unfold oS
 rw[show(Sh.len h.az)=((h.az.length:Nat):Int) from rfl,Aj _ hn]
 simp only[fm]
 refine fV (fun k=>rows h.az.length (yt (Vl h) k fun _=>false)) h.az.length _ (bZ (by omega)) (fun t ht=> ?_) ?_ (by rw[QL hn])
 ·have hl:=hf.reads _ (Ka ht)
  simp only[nQ,dec_lt,ht,decide_true,if_true,CT ht,fm]
  refine fV (fun i=>rows h.az.length (yt (Vl h) t fun x=>((tx h t).Reads.take i).any (fun r=>decide (r.bY=(x:Int))))) (tx h t).Reads.length _ (bZ (by omega)) (fun i hi=> ?_) ?_ (by simp)
  ·have hm:=List.getElem_mem hi
   have ne:rows h.az.length (yt (Vl h) t fun x=>((tx h t).Reads.take i).any (fun r=>decide (r.bY=(x:Int)))||decide (((tx h t).Reads[i]).bY=(x:Int)))=rows h.az.length (yt (Vl h) t fun x=>((tx h t).Reads.take (i+1)).any (fun r=>decide (r.bY=(x:Int)))):=
    EK hn _ _ fun x _=>by rw[xk hi]
   simp only[nR,dec_lt,hi,decide_true,if_true,dI hi,fm,vC,nS,bL (k:=i) (by omega),Sh.next]
   by_cases h0:((tx h t).Reads[i]).bY<0
   ·have h1:¬0≤((tx h t).Reads[i]).bY:=by omega
    simp only[h1,decide_false,nF,if_false]
    rw[←ne]
    congr 3
    refine EK hn _ _ fun x _=> ?_
    have:¬((tx h t).Reads[i]).bY=(x:Int):=by omega
    simp[this]
   ·have h1:0≤((tx h t).Reads[i]).bY:=by omega
    obtain⟨x,hx,hxn⟩:=V4 hr ht hm h0
    simp only[hx,show(0:Int)≤(x:Int) by omega,decide_true,if_true,vH hxn,fm,QK hn _ hxn ht]
    rw[←ne]
    congr 3
    refine EK hn _ _ fun y _=> ?_
    rw[hx]
    congr 1
    rw[Bool.eq_iff_iff]
    simp only[decide_eq_true_eq]
    omega
  ·simp only[nR,dec_lt,Nat.lt_irrefl,decide_false,nF,if_false,qn,bL (k:=t) (by omega),Sh.next]
   rw[←QJ hn]
   congr 4
   exact EK hn _ _ fun y hy=>by rw[List.take_of_length_le (Nat.le_refl _)];rfl
 ·simp only[nQ,dec_lt,Nat.lt_irrefl,decide_false,nF,if_false,qm]
  rw[SA hn]

theorem UI{h:af}(hf:Fits h)(hr:right h=true)(hn:h.az.length≤64):mj h=some (rg h.az.length (Jk (J5 h) (Vl h))):=by
 unfold mj
 rw[aad hn,aae hf hr hn]
 simp only[fm,CY hn]

theorem UH{h:af}(hf:Fits h)(hn:h.az.length≤64):o6 h=some (rg h.az.length (HV h)):=by
 unfold o6
 rw[show(Sh.len h.az)=((h.az.length:Nat):Int) from rfl,Aj _ hn]
 simp only[fm]
 refine fV (fun k=>rows h.az.length (s_ (HV h) k fun _=>false)) h.az.length _ (bZ (by omega)) (fun t ht=> ?_) ?_ (by rw[HA hn])
 ·have hl:=hf.reads _ (Ka ht)
  simp only[lI,dec_lt,ht,decide_true,if_true,CT ht,fm]
  refine fV (fun i=>rows h.az.length (s_ (HV h) t fun y=>decide (y≠t)&&((tx h t).Reads.take i).any (fun r=>BV h r y))) (tx h t).Reads.length _ (bZ (by omega)) (fun i hi=> ?_) ?_ (by simp)
  ·simp only[lJ,dec_lt,hi,decide_true,if_true]
   refine fV (fun w=>rows h.az.length (s_ (HV h) t fun y=>(decide (y≠t)&&((tx h t).Reads.take i).any (fun r=>BV h r y))||(decide (y<w)&&(decide (y≠t)&&BV h ((tx h t).Reads[i]) y)))) h.az.length _ (bZ (by omega)) (fun w hw=> ?_) ?_ (by simp)
   ·have ne:rows h.az.length (s_ (HV h) t fun y=>((decide (y≠t)&&((tx h t).Reads.take i).any (fun r=>BV h r y))||(decide (y<w)&&(decide (y≠t)&&BV h ((tx h t).Reads[i]) y)))||(decide (y=w)&&(decide (w≠t)&&BV h ((tx h t).Reads[i]) w)))=rows h.az.length (s_ (HV h) t fun y=>(decide (y≠t)&&((tx h t).Reads.take i).any (fun r=>BV h r y))||(decide (y<w+1)&&(decide (y≠t)&&BV h ((tx h t).Reads[i]) y))):=
     tZ hn _ _ fun y _=>by
      by_cases e2:y=w
      ·subst e2;simp
      ·have:(y<w+1)↔(y<w):=by omega
       simp[e2,this]
    have hj:∀b:Bool,gM t (rows h.az.length (s_ (HV h) t fun y=>(decide (y≠t)&&((tx h t).Reads.take i).any (fun r=>BV h r y))||(decide (y<w)&&(decide (y≠t)&&BV h ((tx h t).Reads[i]) y)))) w b=some (.inl (rows h.az.length (s_ (HV h) t fun y=>((decide (y≠t)&&((tx h t).Reads.take i).any (fun r=>BV h r y))||(decide (y<w)&&(decide (y≠t)&&BV h ((tx h t).Reads[i]) y)))||(decide (y=w)&&b)),((w+1:Nat):Int))):=fun b=>by
     unfold gM
     simp only[vH ht,fm,vC,Hz hn _ ht hw,lM,bL (k:=w) (by omega),Sh.next]
     cases b
     ·simp
     ·simp
    simp only[lK,dec_lt,hw,decide_true,if_true,CT hw,dI hi,fm,G0 (hf.writes _ (Ka hw)),hj]
    rw[←ne]
    unfold BV
    have e3:decide ((w:Int)≠(t:Int))=decide (w≠t):=by congr 1;exact propext (by omega)
    rw[e3]
    cases ja (tx h w) ((tx h t).Reads[i]).Key
    ·simp
    ·by_cases e4:((tx h t).Reads[i]).bY= -1
     ·simp[e4]
     ·simp[e4]
   ·simp only[lK,dec_lt,Nat.lt_irrefl,decide_false,nF,if_false,o9,bL (k:=i) (by omega),Sh.next]
    congr 4
    refine tZ hn _ _ fun y hy=> ?_
    rw[xk hi]
    simp only[hy,decide_true,Bool.true_and]
    cases decide (y≠t) <;> simp
  ·simp only[lJ,dec_lt,Nat.lt_irrefl,decide_false,nF,if_false,o8,bL (k:=t) (by omega),Sh.next]
   rw[←Hy hn]
   congr 4
   exact tZ hn _ _ fun y hy=>by rw[List.take_of_length_le (Nat.le_refl _)];rfl
 ·simp only[lI,dec_lt,Nat.lt_irrefl,decide_false,nF,if_false,o7]
  rw[KB hn]

theorem P6{h:af}{c:aa}(h1:one h c=true):∃a b:Nat,c.A=(a:Int)∧c.B=(b:Int)∧a<h.az.length∧b<h.az.length∧a≠b∧ja (tx h a) c.Key=true∧ja (tx h b) c.Key=true:=by
 simp only[one,Bool.and_eq_true,decide_eq_true_eq] at h1
 obtain⟨⟨⟨⟨d,e⟩,f⟩,g⟩,k⟩:=h1
 have e':=iM.1 e
 have f':=iM.1 f
 have ea:c.A=((c.A.toNat:Nat):Int):=by omega
 have eb:c.B=((c.B.toNat:Nat):Int):=by omega
 refine⟨c.A.toNat,c.B.toNat,ea,eb,by omega,by omega,by omega, ?_, ?_⟩
 ·rw[←ea];exact g
 ·rw[←eb];exact k
theorem aah{h:af}(hn:h.az.length≤64){l:List aa}(hl:l.length<9223372036854775807)(hone:∀c∈l,one h c=true):oU h l=some (rg h.az.length (Yz l)):=by
 unfold oU
 rw[show(Sh.len h.az)=((h.az.length:Nat):Int) from rfl,Aj _ hn]
 simp only[fm]
 refine fV (fun i=>rows h.az.length (Yz (l.take i))) l.length _ (bZ (by omega)) (fun i hi=> ?_) ?_ ?_
 ·obtain⟨a,b,ea,eb,ha,hb,_⟩:=P6 (hone _ (List.getElem_mem hi))
  simp only[nW,dec_lt,hi,decide_true,if_true,dI hi,fm,ea,eb,vH ha,vC,NK hn _ ha hb,bL (k:=i) (by omega),Sh.next]
  congr 3
  rw[iG hn]
  intro x y _ _
  unfold VN Yz
  rw[xk hi,ea,eb]
  congr 1
  rw[Bool.eq_iff_iff]
  simp only[decide_eq_true_eq,Bool.and_eq_true]
  omega
 ·simp only[nW,dec_lt,Nat.lt_irrefl,decide_false,nF,if_false,qq,List.take_length]
 ·rw[C8]
  congr 1
def pY(h:af)(key frm:Int):List Nat:=(List.range h.az.length).filter fun t:Nat=>decide (uI h t key=some frm)
theorem Nw{h:af}(hf:Fits h)(hn:h.az.length≤64)(key frm:Int):jc h key frm=some ((pY h key frm).map fun t:Nat=>(t:Int)):=by
 unfold jc pY
 refine fV (fun k=>(((List.range k).filter fun t:Nat=>decide (uI h t key=some frm)).map fun t:Nat=>(t:Int))) h.az.length _ (bZ (by omega)) (fun k hk=> ?_) ?_ (by simp)
 ·have hj:∀b:Bool,gC (((List.range k).filter fun t:Nat=>decide (uI h t key=some frm)).map fun t:Nat=>(t:Int)) k b=some (.inl ((((List.range k).filter fun t:Nat=>decide (uI h t key=some frm)).map fun t:Nat=>(t:Int))++(if b then [(k:Int)] else []),((k+1:Nat):Int))):=fun b=>by
   unfold gC
   have hle:((List.range k).filter fun t:Nat=>decide (uI h t key=some frm)).length≤k:=by
    have:=List.length_filter_le (fun t:Nat=>decide (uI h t key=some frm)) (List.range k);simpa using this
   cases b
   ·simp[gB,bL (k:=k) (by omega),Sh.next]
   ·simp only[if_true]
    rw[rC (by simp;omega)]
    simp[gB,bL (k:=k) (by omega),Sh.next]
  simp only[jd,dec_lt,hk,decide_true,if_true,ahg hf,fm,hj]
  have e:∀v:Option Int,(if(match v with|some v=>(v,true)|none=>((0:Int),false)).2=true then some (Sum.inl (α:=List Int×Int) (β:=List Int) ((((List.range k).filter fun t:Nat=>decide (uI h t key=some frm)).map fun t:Nat=>(t:Int))++(if decide ((match v with|some v=>(v,true)|none=>((0:Int),false)).1=frm)=true then [(k:Int)] else []),((k+1:Nat):Int))) else some (Sum.inl ((((List.range k).filter fun t:Nat=>decide (uI h t key=some frm)).map fun t:Nat=>(t:Int))++(if false=true then [(k:Int)] else []),((k+1:Nat):Int))))=some (.inl ((((List.range k).filter fun t:Nat=>decide (uI h t key=some frm)).map fun t:Nat=>(t:Int))++(if decide (v=some frm) then [(k:Int)] else []),((k+1:Nat):Int))):=fun v=>by
   cases v with
   |none=>simp
   |some v=>by_cases hv:v=frm <;> simp[hv]
  refine(e (uI h k key)).trans ?_
  rw[List.range_succ,List.filter_append,List.map_append]
  by_cases zN:uI h k key=some frm <;> simp[zN]
 ·simp[jd,me,Sh.len]
theorem Ix{h:af}{key frm:Int}{t:Nat}(ht:t∈pY h key frm):t<h.az.length∧uI h t key=some frm:=by
 unfold pY at ht
 simpa using ht
theorem NC{h:af}{key frm:Int}:(pY h key frm).length≤h.az.length:=by
 have:=List.length_filter_le (fun t:Nat=>decide (uI h t key=some frm)) (List.range h.az.length);simpa [pY] using this
theorem aag{h:af}(hf:Fits h)(hn:h.az.length≤64){l:List aa}(hl:l.length<9223372036854775807)(hone:∀c∈l,one h c=true):oT h l=some (rg h.az.length (R6 h l)):=by
 unfold oT
 rw[UH hf hn]
 simp only[fm]
 refine fV (fun i=>rows h.az.length (R6 h (l.take i))) l.length _ (bZ (by omega)) (fun i hi=> ?_) ?_ ?_
 ·obtain⟨a,b,ea,eb,ha,hb,_⟩:=P6 (hone _ (List.getElem_mem hi))
  simp only[nT,dec_lt,hi,decide_true,if_true,dI hi,fm,Nw hf hn]
  have hlen:=NC (h:=h) (key:=(l[i]).Key) (frm:=(l[i]).A)
  refine fV (fun k=>rows h.az.length (fun x y=>R6 h (l.take i) x y||(decide (y=b)&&decide (x≠b)&&((pY h (l[i]).Key (l[i]).A).take k).any (fun t=>decide (x=t))))) (pY h (l[i]).Key (l[i]).A).length _ (bZ (by omega)) (fun k hk=> ?_) ?_ ?_
  ·have zN:k<((pY h (l[i]).Key (l[i]).A).map fun t:Nat=>(t:Int)).length:=by simpa using hk
   have et:((pY h (l[i]).Key (l[i]).A).map fun t:Nat=>(t:Int))[k]=(((pY h (l[i]).Key (l[i]).A)[k]:Nat):Int):=by simp
   obtain⟨htn,_⟩:=Ix (List.getElem_mem hk)
   generalize hF:(fun x y=>R6 h (l.take i) x y||(decide (y=b)&&decide (x≠b)&&((pY h (l[i]).Key (l[i]).A).take k).any (fun t=>decide (x=t))))=F
   generalize ht:(pY h (l[i]).Key (l[i]).A)[k]=t at htn et
   simp only[nU,dec_lt,zN,decide_true,if_true,dI zN,dI hi,fm,et,eb,vH htn,vC,NK hn _ htn hb,nV,bL (k:=k) (by omega),Sh.next]
   by_cases e:t=b
   ·have e':¬((t:Int)≠(b:Int)):=by omega
    simp only[e',decide_false,nF,if_false]
    congr 3
    rw[iG hn]
    intro x y _ _
    rw[←hF,xk hk,ht]
    by_cases hx:x=t
    ·subst hx;simp[e]
    ·simp[hx]
   ·have e':¬((t:Int)=(b:Int)):=by omega
    simp only[ne_eq,e',not_false_eq_true,decide_true,if_true]
    congr 3
    rw[iG hn]
    intro x y _ _
    unfold VN
    rw[←hF,xk hk,ht]
    by_cases hx:x=t
    ·subst hx;by_cases hy:y=b <;> simp[e,hy]
    ·simp[hx]
  ·have hm:((pY h (l[i]).Key (l[i]).A).map fun t:Nat=>(t:Int)).length=(pY h (l[i]).Key (l[i]).A).length:=by simp
   simp only[nU,gN,hm,dec_lt,Nat.lt_irrefl,decide_false,nF,if_false,qp,bL (k:=i) (by omega),Sh.next]
   congr 4
   rw[iG hn]
   intro x y hx hy
   rw[List.take_length]
   unfold R6
   rw[xk hi,Bool.or_assoc]
   congr 2
   unfold rwC
   rw[eb,Bool.eq_iff_iff]
   simp only[Bool.and_eq_true,decide_eq_true_eq,List.any_eq_true]
   constructor
   ·rintro⟨⟨h1,h2⟩,t,ht,rfl⟩
    exact⟨⟨by omega,by omega⟩,(Ix ht).2⟩
   ·rintro⟨⟨h1,h2⟩,h3⟩
    refine⟨⟨by omega,by omega⟩,x, ?_,rfl⟩
    unfold pY
    simp[hx,h3]
  ·congr 2
   funext x y
   simp
 ·simp only[nT,dec_lt,Nat.lt_irrefl,decide_false,nF,if_false,qo,List.take_length]
 ·congr 2
  funext x y
  simp[R6]

def dF(h:af)(l:List aa):Nat→Nat→Bool:=Jk (Jk (J5 h) (Vl h)) (Yz l)
def yX(h:af)(lev:Int)(l:List aa):Nat→Nat→Bool:=
 Jk (dF h l) (if lev=1 then EB h.az.length (dF h l) (R6 h l) else R6 h l)
theorem UK{h:af}(hf:Fits h)(hr:right h=true)(lev:Int){l:List aa}(hl:l.length<9223372036854775807)(hone:∀c∈l,one h c=true):mm h lev l=some (rg h.az.length (yX h lev l)):=by
 have hn:h.az.length≤64:=by
  simp only[right,Bool.and_eq_true,decide_eq_true_eq] at hr;omega
 unfold mm yX
 rw[UI hf hr hn,aah hn hl hone]
 simp only[fm,CY hn,aag hf hn hl hone]
 by_cases h1:lev=1
 ·simp only[h1,decide_true,if_true,jm,Nz hn,fm]
  rw[show Jk (Jk (J5 h) (Vl h)) (Yz l)=dF h l from rfl,CY hn]
  rfl
 ·simp only[h1,decide_false,nF,if_false,jm,fm]
  rw[show Jk (Jk (J5 h) (Vl h)) (Yz l)=dF h l from rfl,CY hn]
  rfl
noncomputable def DU(h:af)(lev:Int)(l:List aa):Bool:= !VX h.az.length (yX h lev l)
theorem UL{h:af}(hf:Fits h)(hr:right h=true)(lev:Int){l:List aa}(hl:l.length<9223372036854775807)(hone:∀c∈l,one h c=true):mo h lev l=some (DU h lev l):=by
 have hn:h.az.length≤64:=by
  simp only[right,Bool.and_eq_true,decide_eq_true_eq] at hr;omega
 unfold mo DU
 rw[UK hf hr lev hl hone]
 simp only[fm,O_ hn]
end Pl
end

section
/- What follows must be so: whoever chooses all pairs, and lets nothing lead back, chooses it too. -/
namespace Pl
open Go Go.Av G

theorem FB{h:af}{s:List aa}{x y:Nat}(hd:direct h s x y=true):dF h s x y=true:=by
 unfold direct V0 at hd
 simp only[Bool.and_eq_true,Bool.or_eq_true,decide_eq_true_eq,List.any_eq_true] at hd
 unfold dF Jk
 simp only[Bool.or_eq_true]
 rcases hd.2 with(h1|h1)|h1
 ·left;left
  unfold J5
  simp only[Bool.and_eq_true,decide_eq_true_eq]
  exact⟨by omega,h1.2⟩
 ·left;right
  unfold Vl
  simp only[List.any_eq_true,decide_eq_true_eq]
  exact h1
 ·right
  obtain⟨c,hc,hw⟩:=h1
  unfold ZP at hw
  unfold Yz
  simp only[Bool.and_eq_true,decide_eq_true_eq] at hw
  simp only[List.any_eq_true,Bool.and_eq_true,decide_eq_true_eq]
  exact⟨c,hc,hw.1.1.1.1,hw.1.1.1.2⟩
theorem LH{h:af}{s:List aa}{x y:Nat}(hx:x<h.az.length)(hd:Fz h s x y=true):R6 h s x y=true:=by
 unfold Fz Qu isO two at hd
 simp only[Bool.and_eq_true,Bool.or_eq_true,decide_eq_true_eq,List.any_eq_true] at hd
 obtain⟨⟨⟨hr,_⟩,_⟩,hne,r,hm,hw,ho⟩:=hd
 unfold R6
 rw[Bool.or_eq_true]
 rcases ho with h0|⟨_,c,hc,he⟩
 ·left
  have h1:=(Sz hr (Ka hx) hm).1 h0
  unfold HV BV
  simp only[Bool.and_eq_true,decide_eq_true_eq,List.any_eq_true]
  exact⟨by omega,r,hm,h1,hw⟩
 ·right
  subst he
  simp only[List.any_eq_true]
  refine⟨_,hc, ?_⟩
  unfold rwC
  simp only[Bool.and_eq_true,decide_eq_true_eq]
  refine⟨⟨by simp,by omega⟩, ?_⟩
  rw[FF hr (vj.2 hx)]
  simp only[List.any_eq_true,decide_eq_true_eq]
  exact⟨r,hm,rfl⟩
theorem QG{h:af}{lev:Int}{s:List aa}{x y:Nat}(hx:x<h.az.length)(hd:rE h lev s x y=true):yX h lev s x y=true:=by
 unfold rE at hd
 unfold yX Jk
 rw[Bool.or_eq_true]
 by_cases h0:lev=0
 ·subst h0
  simp only[if_true,Bool.or_eq_true] at hd
  rcases hd with hd|hd
  ·exact .inl (FB hd)
  ·right
   simp only[show ¬((0:Int)=1) by omega,if_false]
   exact LH hx hd
 ·by_cases h1:lev=1
  ·subst h1
   simp only[show ¬((1:Int)=0) by omega,if_false,if_true,List.any_eq_true,List.mem_range,Bool.and_eq_true,Bool.or_eq_true,decide_eq_true_eq] at hd
   obtain⟨m,hm,RZ,EO⟩:=hd
   rcases EO with EO|EO
   ·left
    have:m=y:=by omega
    subst this
    exact FB RZ
   ·right
    simp only[if_true]
    unfold EB
    simp only[List.any_eq_true,List.mem_range,Bool.and_eq_true]
    exact⟨m,hm,FB RZ,LH hm EO⟩
  ·simp[h0,h1] at hd
theorem V1{h:af}{lev:Int}{s:List aa}{x y:Int}(hd:rE h lev s x y=true):inr h x=true∧inr h y=true:=by
 unfold rE direct Fz two at hd
 by_cases h0:lev=0
 ·simp only[h0,if_true,Bool.or_eq_true,Bool.and_eq_true] at hd
  rcases hd with hd|hd <;> exact⟨hd.1.1.2,hd.1.2⟩
 ·by_cases h1:lev=1
  ·simp only[h0,h1,if_false,if_true,List.any_eq_true,Bool.and_eq_true,Bool.or_eq_true,show ¬((1:Int)=0) by omega,decide_eq_true_eq] at hd
   obtain⟨m,hm,RZ,EO⟩:=hd
   refine⟨RZ.1.1.2, ?_⟩
   rcases EO with EO|EO
   ·rw[←EO];exact RZ.1.2
   ·exact EO.1.2
  ·simp[h0,h1] at hd
theorem UX{h:af}{lev:Int}{s:List aa}{row:List Int}(hd:ring h lev s row=true):∃x,Way h.az.length (yX h lev s) x x:=by
 unfold ring at hd
 simp only[Bool.and_eq_true,List.all_eq_true,decide_eq_true_eq,List.mem_range] at hd
 obtain⟨hp,hall⟩:=hd
 have hq:∀i,rE h lev s (row.getD (i % row.length) 0) (row.getD ((i+1) % row.length) 0)=true:=fun i=>by
  have:=(hall (i % row.length) (Nat.mod_lt _ hp)).2
  rwa [Nat.mod_add_mod] at this
 let q:Nat→Nat:=fun i=>(row.getD (i % row.length) 0).toNat
 have hin:∀i,((q i:Nat):Int)=row.getD (i % row.length) 0∧q i<h.az.length:=fun i=>by
  have:=iM.1 (V1 (hq i)).1
  simp only[q]
  omega
 have hstep:∀i,yX h lev s (q i) (q (i+1))=true:=fun i=>by
  refine QG (hin i).2 ?_
  rw[(hin i).1,(hin (i+1)).1]
  exact hq i
 have hway:∀k,Way h.az.length (yX h lev s) (q 0) (q (k+1)):=by
  intro k
  induction k with
  |zero=>exact .rE (hin 0).2 (hin 1).2 (hstep 0)
  |succ k ih=>exact ih.snoc (hin (k+2)).2 (hstep (k+1))
 refine⟨q 0, ?_⟩
 have h1:=hway (row.length - 1)
 have h2:q (row.length - 1+1)=q 0:=by
  simp only[q]
  rw[show row.length - 1+1=row.length by omega]
  simp
 rwa [h2] at h1

end Pl
end

section
/- All pairs, and all ways to choose them. -/
namespace Pl
open Go Go.Av G

def jC(h:af)(key:Int):List Int:=if right h then((List.range h.az.length).filter fun t:Nat=>ja (tx h t) key).map fun t:Nat=>(t:Int) else []
theorem Nx{h:af}(hf:Fits h)(key:Int):je h key=some (jC h key):=by
 unfold je jC
 rw[Iw hf]
 simp only[fm]
 cases hr:right h with
 |false=>
  refine qd (fun _=>([],false,0)) 0 _ (by decide) (fun k hk=>by omega) ?_ rfl
  simp[gD,fL,jf]
 |true=>
  have hn:h.az.length≤32:=by simp only[right,Bool.and_eq_true,decide_eq_true_eq] at hr;exact hr.1
  refine qd (fun k=>((((List.range k).filter fun t:Nat=>ja (tx h t) key).map fun t:Nat=>(t:Int)),true,(k:Int))) h.az.length _ (bZ (by omega)) (fun k hk=> ?_) ?_ rfl
  ·have hle:((List.range k).filter fun t:Nat=>ja (tx h t) key).length≤k:=by
    have:=List.length_filter_le (fun t:Nat=>ja (tx h t) key) (List.range k);simpa using this
   simp only[gD,if_true,fL,dec_lt,hk,decide_true,CT hk,fm,G0 (hf.writes _ (Ka hk))]
   rw[List.range_succ,List.filter_append,List.map_append]
   cases hw:ja (tx h k) key with
   |false=>simp[gE,bL (k:=k) (by omega),Sh.next,hw]
   |true=>
    simp only[if_true]
    rw[rC (by simp;omega)]
    simp[gE,bL (k:=k) (by omega),Sh.next,hw]
  ·simp[gD,fL,jf,Sh.len]
theorem N9{h:af}{key:Int}:(jC h key).length≤h.az.length:=by
 unfold jC
 split
 ·have:=List.length_filter_le (fun t:Nat=>ja (tx h t) key) (List.range h.az.length);simpa using this
 ·simp
theorem xW{h:af}(hr:right h=true){key x:Int}:x∈jC h key↔inr h x=true∧ja (tx h x) key=true:=by
 unfold jC
 rw[if_pos hr]
 simp only[List.mem_map,List.mem_filter,List.mem_range]
 constructor
 ·rintro⟨t,⟨h1,h2⟩,rfl⟩;exact⟨vj.2 h1,h2⟩
 ·rintro⟨h1,h2⟩
  obtain⟨a,b⟩:=iM.1 h1
  refine⟨x.toNat,⟨by omega, ?_⟩,by omega⟩
  rw[show((x.toNat:Nat):Int)=x by omega];exact h2
theorem CE{h:af}{key:Int}:(jC h key).Pairwise (· < ·):=by
 unfold jC
 split
 ·rw[List.pairwise_map]
  refine List.Pairwise.imp (R:=fun a b:Nat=>a<b) (fun{a b} hab=>by omega) ?_
  exact List.Pairwise.filter _ List.pairwise_lt_range
 ·exact .nil

def Ai(key:Int)(ws:List Int)(i:Nat):List aa:=(ws.drop (i+1)).map fun w=>⟨key,ws.getD i 0,w⟩
def Cr(key:Int)(ws:List Int):List aa:=(List.range ws.length).flatMap (Ai key ws)
def sQ(h:af):List aa:=(List.range 16).flatMap fun k:Nat=>Cr k (jC h k)
theorem Hw{α:Type}(f:Nat→List α)(b:Nat)(hb:∀k,(f k).length≤b):∀n,((List.range n).flatMap f).length≤n*b:=by
 intro n
 induction n with
 |zero=>simp
 |succ n ih=>
  rw[List.range_succ,List.flatMap_append,List.length_append]
  have:=hb n
  simp only[List.flatMap_cons,List.flatMap_nil,List.append_nil]
  rw[Nat.add_mul,Nat.one_mul];omega
theorem Ii(key:Int)(ws:List Int)(i:Nat):(Ai key ws i).length≤ws.length:=by simp[Ai]
theorem O7(key:Int)(ws:List Int):(Cr key ws).length≤ws.length*ws.length:=Hw _ _ (Ii key ws) _
theorem JM{α:Type}(f:Nat→List α)(k:Nat):(List.range (k+1)).flatMap f=(List.range k).flatMap f++f k:=by
 rw[List.range_succ,List.flatMap_append];simp
theorem Kc{h:af}{key:Int}:(jC h key).length≤64:=by
 cases hr:right h with
 |false=>unfold jC;rw[hr];simp
 |true=>
  have hn:h.az.length≤32:=by simp only[right,Bool.and_eq_true,decide_eq_true_eq] at hr;exact hr.1
  have:=N9 (h:=h) (key:=key)
  omega
theorem JY{h:af}(hf:Fits h):iS h=some (sQ h):=by
 have hkk:∀k:Nat,(Cr k (jC h k)).length≤4096:=fun k=>by
  have h1:=O7 (k:Int) (jC h k)
  have h2:(jC h (k:Int)).length≤64:=Kc
  exact Nat.le_trans h1 (Nat.mul_le_mul h2 h2)
 unfold iS sQ
 refine fV (fun k=>(List.range k).flatMap fun k:Nat=>Cr k (jC h k)) 16 _ (by decide) (fun k hk=> ?_) ?_ rfl
 ·have zN:(k:Int)<16:=by omega
  have hw2:(jC h (k:Int)).length≤64:=Kc
  have hout:=Hw (fun k:Nat=>Cr k (jC h k)) 4096 hkk k
  have ho2:k*4096≤65536:=Nat.mul_le_mul (show k≤16 by omega) (Nat.le_refl 4096)
  simp only[j8,zN,decide_true,if_true,Nx hf,fm]
  rw[JM]
  generalize ((List.range k).flatMap fun k:Nat=>Cr k (jC h k))=out at hout
  generalize jC h (k:Int)=ws at hw2
  refine fV (fun i=>out++(List.range i).flatMap (Ai k ws)) ws.length _ (bZ (by omega)) (fun i hi=> ?_) ?_ (by simp)
  ·have ho3:=Hw (Ai (k:Int) ws) 64 (fun i=>Nat.le_trans (Ii _ _ _) hw2) i
   have ho4:i*64≤4096:=Nat.mul_le_mul (show i≤64 by omega) (Nat.le_refl 64)
   simp only[j9,dec_lt,hi,decide_true,if_true]
   rw[bL (by omega),JM,←List.append_assoc]
   have ho5:(out++(List.range i).flatMap (Ai (k:Int) ws)).length≤100000:=by simp only[List.length_append];omega
   generalize out++(List.range i).flatMap (Ai (k:Int) ws)=ak8 at ho5
   refine qd (fun j=>(ak8++((ws.drop (i+1)).take j).map fun w=>⟨(k:Int),ws.getD i 0,w⟩,((i+1+j:Nat):Int))) (ws.length - (i+1)) _ (bZ (by omega)) (fun j hj=> ?_) ?_ (by simp)
   ·have hb:i+1+j<ws.length:=by omega
    have hd:ws.getD i 0=ws[i]:=by simp[List.getD,List.getElem?_eq_getElem hi]
    have hj2:j<(ws.drop (i+1)).length:=by simp;omega
    simp only[j_,dec_lt,hb,decide_true,if_true,dI hi,dI hb,fm]
    rw[rC (by simp;omega)]
    simp only[fm,bL (k:=i+1+j) (by omega),Sh.next]
    rw[List.take_add_one,List.getElem?_eq_getElem hj2,Option.toList_some,List.map_append,List.append_assoc,List.getElem_drop,hd]
    rfl
   ·rw[show i+1+(ws.length - (i+1))=ws.length by omega]
    simp only[j_,dec_lt,Nat.lt_irrefl,decide_false,nF,if_false,ou,bL (k:=i) (by omega),Sh.next]
    rw[List.take_of_length_le (by simp)]
    rfl
  ·simp only[j9,dec_lt,Nat.lt_irrefl,decide_false,nF,if_false,ot,bL (k:=k) (by omega),Sh.next]
   rfl
 ·simp[j8,oq]

theorem FN{h:af}(hr:right h=true){c:aa}(hc:c∈sQ h):one h c=true:=by
 unfold sQ Cr Ai at hc
 simp only[List.mem_flatMap,List.mem_range,List.mem_map] at hc
 obtain⟨k,hk,i,hi,w,hw,rfl⟩:=hc
 have hd:(jC h (k:Int)).getD i 0=(jC h (k:Int))[i]:=by simp[List.getD,List.getElem?_eq_getElem hi]
 have m1:=(xW hr).1 (List.getElem_mem hi)
 have m2:=(xW hr).1 (List.mem_of_mem_drop hw)
 have hlt:(jC h (k:Int))[i]<w:=by
  have hs:=CE (h:=h) (key:=(k:Int))
  rw[List.pairwise_iff_getElem] at hs
  obtain⟨j,hj,rfl⟩:=List.getElem_of_mem hw
  rw[List.getElem_drop]
  simp only[List.length_drop] at hj
  exact hs i (i+1+j) hi (by omega) (by omega)
 unfold one
 rw[hd]
 simp only[m1.1,m1.2,m2.1,m2.2,Bool.and_true,decide_eq_true_eq]
 omega
theorem PL{h:af}(hr:right h=true){t:ah}(ht:t∈h.az){k:Int}(hw:ja t k=true):0≤k∧k<16:=by
 have key:∀(l:List ah) (n:Nat),uN h n l=true→∀t∈l,rising (-1) t.bA=true:=by
  intro l
  induction l with
  |nil=>intro n _ t ht;cases ht
  |cons x l ih=>
   intro n hn t ht
   rw[show uN h n (x::l)=(GX h (n:Nat) x&&uN h (n+1) l) from rfl,Bool.and_eq_true] at hn
   rcases List.mem_cons.1 ht with rfl|ht
   ·have:=hn.1
    simp only[GX,Bool.and_eq_true] at this
    exact this.1.1.1
   ·exact ih _ hn.2 t ht
 have hri:rising (-1) t.bA=true:=by
  simp only[right,Bool.and_eq_true] at hr
  exact key _ 0 hr.2 t ht
 have bd:∀(l:List Int) (last:Int),rising last l=true→∀x∈l,last<x∧x<16:=by
  intro l
  induction l with
  |nil=>intro _ _ x hx;cases hx
  |cons y l ih=>
   intro last hl x hx
   rw[show rising last (y::l)=(decide (last<y)&&decide (y<16)&&rising y l) from rfl] at hl
   simp only[Bool.and_eq_true,decide_eq_true_eq] at hl
   rcases List.mem_cons.1 hx with rfl|hx
   ·exact⟨hl.1.1,hl.1.2⟩
   ·have:=ih _ hl.2 x hx;omega
 unfold ja at hw
 simp only[List.any_eq_true,decide_eq_true_eq] at hw
 obtain⟨x,hx,rfl⟩:=hw
 have:=bd _ _ hri _ hx
 omega
theorem JV{h:af}(hr:right h=true){c:aa}(hc:one h c=true):c∈sQ h∨back c∈sQ h:=by
 have mk:∀(K x y:Int),inr h x=true→inr h y=true→ja (tx h x) K=true→ja (tx h y) K=true→x<y→(⟨K,x,y⟩:aa)∈sQ h:=by
  intro K x y hx hy wx wy hlt
  obtain⟨k0,k1⟩:=PL hr (vb hx) wx
  have ek:K=((K.toNat:Nat):Int):=by omega
  generalize K.toNat=k at ek
  subst ek
  have mx:=(xW hr).2 ⟨hx,wx⟩
  have my:=(xW hr).2 ⟨hy,wy⟩
  obtain⟨i,hi,ei⟩:=List.getElem_of_mem mx
  obtain⟨j,hj,ej⟩:=List.getElem_of_mem my
  have hs:=CE (h:=h) (key:=(k:Int))
  rw[List.pairwise_iff_getElem] at hs
  have hij:i<j:=by
   rcases Nat.lt_trichotomy i j with h1|h1|h1
   ·exact h1
   ·subst h1;omega
   ·have:=hs j i hj hi h1;omega
  unfold sQ Cr Ai
  simp only[List.mem_flatMap,List.mem_range,List.mem_map]
  refine⟨k,by omega,i,hi,y, ?_, ?_⟩
  ·rw[List.mem_iff_getElem]
   refine⟨j - (i+1),by simp;omega, ?_⟩
   rw[List.getElem_drop]
   rw[←ej]
   congr 1
   omega
  ·have hd:(jC h (k:Int)).getD i 0=(jC h (k:Int))[i]:=by simp[List.getD,List.getElem?_eq_getElem hi]
   rw[hd,ei]
 simp only[one,Bool.and_eq_true,decide_eq_true_eq] at hc
 obtain⟨⟨⟨⟨d,e⟩,f⟩,g⟩,k⟩:=hc
 by_cases hlt:c.A<c.B
 ·exact .inl (mk c.Key c.A c.B e f g k hlt)
 ·exact .inr (mk c.Key c.B c.A f e k g (by omega))

inductive Jz:List aa→List aa→Prop
 |nil:Jz [] []
 |so {x:aa} {r s:List aa}:Jz r s→Jz (x::r) (x::s)
 |not {x:aa} {r s:List aa}:Jz r s→Jz (x::r) (back x::s)
theorem Jz.len{r s:List aa}(h:Jz r s):s.length=r.length:=by induction h <;> simp_all
theorem Jz.mem{r s:List aa}(h:Jz r s):∀c∈r,c∈s∨back c∈s:=by
 induction h with
 |nil=>intro c hc;cases hc
 |so _ ih=>
  intro c hc
  rcases List.mem_cons.1 hc with rfl|hc
  ·exact .inl (List.mem_cons_self ..)
  ·exact(ih c hc).imp (List.mem_cons_of_mem _) (List.mem_cons_of_mem _)
 |not _ ih=>
  intro c hc
  rcases List.mem_cons.1 hc with rfl|hc
  ·exact .inr (List.mem_cons_self ..)
  ·exact(ih c hc).imp (List.mem_cons_of_mem _) (List.mem_cons_of_mem _)
theorem Jz.all{r s:List aa}(h:Jz r s){p:aa→Prop}(h1:∀c∈r,p c)(h2:∀c,p c→p (back c)):∀c∈s,p c:=by
 induction h with
 |nil=>intro c hc;cases hc
 |so _ ih=>
  intro c hc
  rcases List.mem_cons.1 hc with rfl|hc
  ·exact h1 _ (List.mem_cons_self ..)
  ·exact ih (fun c hc=>h1 c (List.mem_cons_of_mem _ hc)) c hc
 |not _ ih=>
  intro c hc
  rcases List.mem_cons.1 hc with rfl|hc
  ·exact h2 _ (h1 _ (List.mem_cons_self ..))
  ·exact ih (fun c hc=>h1 c (List.mem_cons_of_mem _ hc)) c hc
theorem Nk{h:af}{c:aa}(h1:one h c=true):one h (back c)=true:=by
 simp only[one,back,Bool.and_eq_true,decide_eq_true_eq] at*
 obtain⟨⟨⟨⟨d,e⟩,f⟩,g⟩,k⟩:=h1
 refine⟨⟨⟨⟨?_,f⟩,e⟩,k⟩,g⟩
 exact decide_eq_true (fun h=>d h.symm)
theorem QC(c:aa):back (back c)=c:=rfl
end Pl
end

section
/- Law 22: facts as the reference sees them; what one more fact adds. -/

namespace Pl
open Go Go.Av G

end Pl
end

section
/- Law 22: what facts say must be so. -/
namespace Pl
open Go Go.Av G

theorem aas{h:af}(hf:Fits h){m p:Int}(hm:m<9223372036854775807):kP h m p=some (YK h m&&right h&&decide (((sQ h).length:Int)≤p)):=by
 unfold kP
 rw[alh hm,Iw hf,JY hf]
 simp only[fm]
 cases YK h m <;> cases right h <;> rfl
end Pl
end
