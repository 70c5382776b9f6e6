/- What the plain functions answer. -/
import Derived.Test.YtanbmobkolihaaaGreatDoorSh
import Derived.Test.YtanbmobkolihaaaGreatDoorBase3
import Derived.KernelRfl
open Go.Sh renaming len→arA,exit→aaN,idx→aaV,next→abo,loop→abt,app→abz,sub→abH,min→abM,max→abN
open List renaming all_eq_true→agP,any_eq_false→aj4,any_eq_true→aj8,append_assoc→aj9,cons_append→ajF,ext_getElem→akT,filter_append→akY,findIdx?_cons→alF,findIdx?_eq_none_iff→alK,findIdx?_eq_some_iff_getElem→alL,getD→alN,getElem?_eq_getElem→ab9,getElem_drop→ams,getElem_map→ajJ,getElem_mem→acI,getElem_of_mem→amt,length→ajL,length_append→amB,length_cons→acN,length_drop→amC,length_map→ajM,length_nil→acR,length_replicate→amI,map_append→amQ,map_congr_left→anE,mem_append→aqj,mem_cons_of_mem→adU,mem_cons_self→ad2,mem_filter→aow,mem_flatMap→aoB,mem_map→aoI,mem_of_mem_take→ajO,mem_range→agW,nil_append→aoK,nodup_iff_pairwise_ne→aoL,pairwise_iff_getElem→aoM,pairwise_lt_range→aoN,pairwise_map→aoO,range→aeD,range_succ→aoP,replicate→aeR,set_set→aoQ,take_add_one→aoR,take_length→aoZ,take_of_length_le→aha,take_succ_eq_append_getElem→ao3,take_zero→aph
open Option renaming getD_some→api,map_some→ajX,toList_some→apj
open Nat renaming add_zero→afg,le_refl→afk,le_trans→afp,lt_irrefl→afr,lt_or_ge→aft,mod_lt→afw,mul_le_mul→apl,pow_lt_pow_right→apn,shiftLeft_eq→apv,zero_add→afQ,zero_le→afR
open Bool renaming and_eq_true→aiq,and_self→apy,eq_iff_iff→apB,false_and→afS,false_or→apC,not_false→aqv,not_true→apS,or_assoc→ap_,or_eq_true→ajm,true_and→aqb
open Int renaming lt_irrefl→aqg,toNat_natCast→aqh
set_option linter.unusedSimpArgs false
set_option linter.unusedVariables false
section
namespace Pl
open Go Go.Av G
theorem dM{n:Int}(h1: -9223372036854775808≤n)(h2:n<9223372036854775808):bM n=n:=Q4 h1 h2
theorem aU{α:Type}{l:List α}{k:Nat}(h:k<l.length):aaV l (k:Int)=some l[k]:=by
 simp[aaV,h]
theorem wL{α:Type}{l:List α}{i:Int}(h0:0≤i)(h:i<l.length):aaV l i=some (l[i.toNat]'(by omega)):=by
 unfold aaV
 rw[if_pos h0]
 exact ab9 (by omega)
theorem cA{α:Type}{b:Nat}{l m:List α}(h:(l.length+m.length)*b≤140737488355328):abz b l m=some (l++m):=by
 simp[abz,h]
theorem NO{α:Type}{b m:Nat}{z:α}(h:b*m≤140737488355328)(h2:m≤4611686018427387904):Sh.mk b (m:Int) (m:Int) z=some (aeR m z):=by
 have:((b:Int)*(m:Int))≤140737488355328:=by
  rw[←Int.natCast_mul];omega
 unfold Sh.mk
 rw[if_pos ⟨by omega,by omega,this,by omega⟩]
 simp
theorem sY{α:Type}{l:List α}{m k:Nat}(h1:m≤k)(h2:k≤l.length):abH l (m:Int) (k:Int)=some ((l.drop m).take (k - m)):=by
 unfold abH
 rw[if_pos ⟨by omega,by omega,by omega⟩]
 simp
theorem lZ{α:Type}(l:List α)(k:Nat)(x:α):Sh.set l (k:Int) x=l.set k x:=by simp[Sh.set]
theorem YB{α:Type}{l m:List α}(h:m.length=l.length):Sh.YA l m=some m:=by simp[Sh.YA,h]

theorem count{σ α:Type}{b:σ×Int→Option ((σ×Int)⊕α)}(S:Nat→σ)(m:Nat)(r:α)(hm:m<Sh.s5)(h:∀k,k<m→b (S k,(k:Int))=some (.inl (S (k+1),((k+1:Nat):Int))))(hr:b (S m,(m:Int))=some (.inr r)){s:σ}(hs:s=S 0):
  abt b (s,0)=some r:=by
 subst hs
 exact Sh.LR (fun k=>(S k,(k:Int))) m r hm h hr
theorem NP{σ α:Type}(s:σ):abo (α:=α) s=some (.inl s):=rfl
theorem uC{σ α:Type}(x:α):aaN (σ:=σ) (some x)=some (.inr x):=rfl
theorem aP{n:Nat}(h:n<9223372036854775808):n<Sh.s5:=h
theorem aH{k:Nat}(h:k<9223372036854775807):bM ((k:Int)+1)=((k+1:Nat):Int):=by
 rw[dM (by omega) (by omega)];omega
theorem kD{α:Type}(l:List α):arA l=(l.length:Int):=rfl
theorem dec_lt{k n:Nat}:decide ((k:Int)<(n:Int))=decide (k<n):=by
 congr 1;exact propext (by omega)
end Pl
namespace Pl
open Go Go.Av G
theorem scan{α:Type}{b:Int→Option (Int⊕α)}(s m:Nat)(p:Nat→Bool)(A B:α)(hsm:s≤m)(hm:m<Sh.s5)(h:∀k,s≤k→k<m→b (k:Int)=if p k then some (.inl ((k+1:Nat):Int)) else some (.inr B))(hr:b (m:Int)=some (.inr A)):
  abt b (s:Int)=some (if ∀k,k<m→s≤k→p k=true then A else B):=by
 by_cases hall:∀k,k<m→s≤k→p k=true
 ·rw[if_pos hall]
  refine Sh.LR (fun k=>((s+k:Nat):Int)) (m - s) A (by omega) (fun k hk=> ?_) ?_
  ·rw[h (s+k) (by omega) (by omega),if_pos (hall _ (by omega) (by omega))];rfl
  ·rw[show s+(m - s)=m by omega];exact hr
 ·rw[if_neg hall]
  have hex:∃k,s≤k∧k<m∧p k=false:=by
   apply Classical.byContradiction
   intro hn
   exact hall (fun k h2 h1=>by
    cases hp:p k with
    |true=>rfl
    |false=>exact absurd ⟨k,h1,h2,hp⟩ hn)
  obtain⟨k,hk,hmin⟩:=exists_least _ hex
  refine Sh.LR (fun q=>((s+q:Nat):Int)) (k - s) B (by omega) (fun q hq=> ?_) ?_
  ·have:p (s+q)=true:=by
    cases hp:p (s+q) with
    |true=>rfl
    |false=>have:=hmin (s+q) ⟨by omega,by omega,hp⟩;omega
   rw[h (s+q) (by omega) (by omega),if_pos this];rfl
  ·rw[show s+(k - s)=k by omega,h k hk.1 hk.2.1,if_neg (by rw[hk.2.2];simp)]
theorem VS{α:Type}{b:Int→Option (Int⊕α)}(m:Nat)(p:Nat→Bool)(A B:α)(hm:m<Sh.s5)(h:∀k,k<m→b (k:Int)=if p k then some (.inl ((k+1:Nat):Int)) else some (.inr B))(hr:b (m:Int)=some (.inr A)):
  abt b 0=some (if ∀k,k<m→p k=true then A else B):=by
 have:=scan 0 m p A B (by omega) hm (fun k _ hk=>h k hk) hr
 simpa using this
theorem N7{b:Int→Option (Int⊕Bool)}(m:Nat)(p:Nat→Bool)(hm:m<Sh.s5)(h:∀k,k<m→b (k:Int)=if p k then some (.inl ((k+1:Nat):Int)) else some (.inr false))(hr:b (m:Int)=some (.inr true)):
  abt b 0=some (decide (∀k,k<m→p k=true)):=by
 rw[VS m p true false hm h hr]
 by_cases hq:∀k,k<m→p k=true
 ·rw[if_pos hq,eD hq]
 ·rw[if_neg hq,dg hq]
end Pl
namespace Pl
open Go Go.Av G
theorem h_{σ α:Type}{b:σ→Option (σ⊕α)}(S:Nat→σ)(m:Nat)(X:Option α)(hm:m<Sh.s5)(h:∀k,k<m→b (S k)=some (.inl (S (k+1))))(hr:b (S m)=aaN X){s:σ}(hs:s=S 0):abt b s=X:=by
 subst hs
 unfold abt
 rw[show Sh.s5=m+((Sh.s5 - m - 1)+1) by omega,Sh.Vm S m h]
 simp only[Sh.iter,hr]
 cases X <;> rfl
theorem cB{σ α:Type}{b:σ×Int→Option ((σ×Int)⊕α)}(S:Nat→σ)(m:Nat)(X:Option α)(hm:m<Sh.s5)(h:∀k,k<m→b (S k,(k:Int))=some (.inl (S (k+1),((k+1:Nat):Int))))(hr:b (S m,(m:Int))=aaN X){s:σ}(hs:s=S 0):
  abt b (s,0)=X:=h_ (fun k=>(S k,(k:Int))) m X hm h hr (by rw[hs];rfl)
end Pl
end

section
namespace Pl
open Go Go.Av G
def yK{σ α β:Type}(step:Nat→σ→α→σ⊕β)(X:σ→Option β):Nat→List α→σ→Option β
 |_,[],s=>X s
 |k,x::l,s=>match step k s x with
  |.inl s'=>yK step X (k+1) l s'
  |.inr r=>some r

theorem Jp{σ β:Type}{b:σ→Option (σ⊕β)}{n:Nat}{s s':σ}(h:b s=some (.inl s')):Sh.iter b (n+1) s=Sh.iter b n s':=by simp[Sh.iter,h]
theorem WY{σ β:Type}{b:σ→Option (σ⊕β)}{n:Nat}{s:σ}{r:β}(h:b s=some (.inr r)):Sh.iter b (n+1) s=some r:=by simp[Sh.iter,h]
theorem Fz{σ β:Type}{b:σ→Option (σ⊕β)}{n:Nat}{s:σ}{X:Option β}(h:b s=aaN X):Sh.iter b (n+1) s=X:=by cases X <;> simp[Sh.iter,h,aaN]

theorem WM{σ τ α β:Type}{b:τ→Option (τ⊕β)}(S:σ→Nat→τ)(step:Nat→σ→α→σ⊕β)(X:σ→Option β)(l0:List α)
  (h:∀(k:Nat) (s:σ) (hk:k<l0.length),b (S s k)=match step k s l0[k] with|.inl s'=>some (.inl (S s' (k+1)))|.inr r=>some (.inr r))
  (he:∀s,b (S s l0.length)=aaN (X s)):∀(l:List α) (k n:Nat) (s:σ),l0.drop k=l→k≤l0.length→l.length<n→Sh.iter b n (S s k)=yK step X k l s:=by
 intro l
 induction l with
 |nil=>
  intro k n s hl hk hn
  have Lz:k=l0.length:=by
   have:(l0.drop k).length=0:=by rw[hl];rfl
   simp at this;omega
  subst Lz
  obtain⟨n,rfl⟩:∃m,n=m+1:=⟨n - 1,by simp at hn;omega⟩
  exact Fz (he s)
 |cons x l ih=>
  intro k n s hl hk hn
  have hlen:(l0.drop k).length=l.length+1:=by rw[hl];rfl
  have Lz:k<l0.length:=by simp at hlen;omega
  obtain⟨n,rfl⟩:∃m,n=m+1:=⟨n - 1,by simp at hn;omega⟩
  have hx:l0[k]=x∧l0.drop (k+1)=l:=by
   rw[List.drop_eq_getElem_cons Lz] at hl
   simp only[List.cons.injEq] at hl
   exact hl
  have hb:=h k s Lz
  rw[hx.1] at hb
  simp only[yK]
  cases hs:step k s x with
  |inl s'=>
   rw[hs] at hb
   rw[Jp hb]
   exact ih (k+1) n s' hx.2 Lz (by simp at hn;omega)
  |inr r=>
   rw[hs] at hb
   exact WY hb

theorem FA{σ τ α β:Type}{b:τ→Option (τ⊕β)}(S:σ→Nat→τ)(step:Nat→σ→α→σ⊕β)(X:σ→Option β)(l:List α)(hm:l.length<Sh.s5)
  (h:∀(k:Nat) (s:σ) (hk:k<l.length),b (S s k)=match step k s l[k] with|.inl s'=>some (.inl (S s' (k+1)))|.inr r=>some (.inr r))
  (he:∀s,b (S s l.length)=aaN (X s))(s:σ){t:τ}(ht:t=S s 0):abt b t=yK step X 0 l s:=by
 subst ht
 exact WM S step X l h he l 0 Sh.s5 s rfl (afR _) hm

theorem p9{α β:Type}{b:Int→Option (Int⊕β)}(l:List α)(p:α→Bool)(A:Nat→β)(X:Option β)(hm:l.length<Sh.s5)
  (h:∀(k:Nat) (hk:k<l.length),b (k:Int)=if p l[k] then some (.inr (A k)) else some (.inl ((k+1:Nat):Int)))
  (he:b (l.length:Int)=aaN X):abt b 0=(l.findIdx? p).elim X (fun k=>some (A k)):=by
 rw[FA (σ:=Unit) (α:=α) (fun _ k=>(k:Int)) (fun k _ x=>if p x then .inr (A k) else .inl ()) (fun _=>X) l hm (fun k s hk=> ?_) (fun _=>he) () (t:=(0:Int)) rfl]
 ·have key:∀(l:List α) (k:Nat),yK (fun k (_:Unit) x=>if p x then Sum.inr (A k) else Sum.inl ()) (fun _=>X) k l ()=(l.findIdx? p).elim X (fun i=>some (A (k+i))):=by
   intro l
   induction l with
   |nil=>intro k;simp[yK]
   |cons x l ih=>
    intro k
    simp only[yK,alF]
    cases hp:p x with
    |true=>simp
    |false=>
     simp only[dw,aR]
     rw[ih (k+1)]
     cases l.findIdx? p with
     |none=>rfl
     |some i=>simp only[ajX,Option.elim_some];congr 2;omega
  rw[key l 0]
  simp
 ·rw[h k hk]
  cases p l[k] <;> rfl

theorem Qa{α β:Type}{b:Int→Option (Int⊕β)}(l:List α)(p:α→Bool)(A:β)(X:Option β)(hm:l.length<Sh.s5)
  (h:∀(k:Nat) (hk:k<l.length),b (k:Int)=if p l[k] then some (.inr A) else some (.inl ((k+1:Nat):Int)))
  (he:b (l.length:Int)=aaN X):abt b 0=if l.any p then some A else X:=by
 rw[p9 l p (fun _=>A) X hm h he]
 cases hf:l.findIdx? p with
 |none=>
  have:l.any p=false:=by
   rw[alK] at hf
   rw[aj4]
   intro x hx
   simpa using hf x hx
  rw[this];rfl
 |some i=>
  have:l.any p=true:=by
   rw[aj8]
   rw[alL] at hf
   obtain⟨hi,hp,_⟩:=hf
   exact⟨l[i],acI hi,hp⟩
  rw[this];rfl

def pos{α:Type}(l:List α)(p:α→Bool):Int:=(l.findIdx? p).elim (-1) (fun k=>(k:Int))
theorem xU{α:Type}(l:List α)(p:α→Bool):(l.findIdx? p).elim (some (-1:Int)) (fun k=>some (k:Int))=some (pos l p):=by unfold pos;cases l.findIdx? p <;> rfl
theorem iG{α:Type}(l:List α)(p:α→Bool):decide ((0:Int)≤pos l p)=l.any p:=by
 unfold pos
 cases hf:l.findIdx? p with
 |none=>
  have:l.any p=false:=by
   rw[alK] at hf
   rw[aj4]
   intro x hx
   simpa using hf x hx
  rw[this];rfl
 |some i=>
  have:l.any p=true:=by
   rw[aj8]
   rw[alL] at hf
   obtain⟨hi,hp,_⟩:=hf
   exact⟨l[i],acI hi,hp⟩
  rw[this];simp
theorem aoh{l:List Int}(hl:l.length<9223372036854775808)(v:Int):gJ l v=some (pos l (fun x=>decide (v=x))):=by
 unfold gJ
 rw[p9 l (fun x=>decide (v=x)) (fun k=>(k:Int)) (some (-1)) (aP hl) (fun k hk=> ?_) ?_,xU]
 ·simp[oG,uP]
 ·simp only[oG,dec_lt,hk,bt,aY,aU hk,bp,aH (k:=k) (by omega)]
  rfl
theorem LY{l:List Int}(hl:l.length<9223372036854775808)(v:Int):bJ l v=some (l.any (fun x=>decide (v=x))):=by
 unfold bJ
 rw[aoh hl,bp,iG]

def rising:Int→List Int→Bool
 |_,[]=>true
 |last,x::l=>decide (last<x)&&decide (x<16)&&rising x l
def ku(t:aJ)(k:Int):Bool:=t.bA.any (fun x=>decide (k=x))
def there(h:af)(n:Int)(x:aO):Bool:=
 decide (x.eu= -1)||(decide (0≤x.eu)&&decide (x.eu<(h.aL.length:Int))&&decide (x.eu≠n)&&match h.aL[x.eu.toNat]? with|some t=>ku t x.Key|none=>false)
def jW(h:af)(n:Int):Int→List aO→Bool
 |_,[]=>true
 |last,x::l=>decide (last<x.Key)&&decide (x.Key<16)&&there h n x&&jW h n x.Key l
def J3(h:af)(n:Int)(t:aJ):Bool:=rising (-1) t.bA&&jW h n (-1) t.Reads&&decide (0≤t.aI)&&decide (t.aI<8)
def uK(h:af):Nat→List aJ→Bool
 |_,[]=>true
 |n,t::l=>J3 h n t&&uK h (n+1) l
def right(h:af):Bool:=decide (h.aL.length≤32)&&uK h 0 h.aL

structure Fits (h:af):Prop where
 aeB:h.aL.length<9223372036854775807
 writes:∀t∈h.aL,t.bA.length<9223372036854775807
 reads:∀t∈h.aL,t.Reads.length<9223372036854775807

theorem y1(c y:Bool):iP c y=some (if y then(c,true) else(false,false)):=by cases y <;> rfl

theorem ahT{h:af}(hf:Fits h)(n:Int)(x:aO){α:Type}(K:Bool→Option α):
  (if decide (x.eu=(-1)) then K true else if decide ((0:Int)≤x.eu) then if decide (x.eu<(arA h.aL)) then if decide (x.eu≠n) then(aaV h.aL x.eu).bind fun ajn=>(bJ ajn.bA x.Key).bind fun aip=>K aip else K false else K false else K false)=K (there h n x):=by
 unfold there
 by_cases h1:x.eu= -1
 ·simp[h1]
 ·by_cases h2:0≤x.eu
  ·by_cases h3:x.eu<(h.aL.length:Int)
   ·by_cases h4:x.eu=n
    ·subst h4;simp[h1,h2,h3]
    ·have h5:h.aL[x.eu.toNat]? =some (h.aL[x.eu.toNat]'(by omega)):=ab9 (by omega)
     rw[wL h2 h3,h5]
     have:=hf.writes _ (acI (show x.eu.toNat<h.aL.length by omega))
     have h6:=LY (l:=(h.aL[x.eu.toNat]'(by omega)).bA) (by omega) x.Key
     simp[h1,h2,h3,h4,h6,ku]
   ·simp[h1,h2,h3]
  ·simp[h1,h2]

theorem ahR{h:af}(hf:Fits h)(n:Int)(t:aJ)(ht:t∈h.aL)(c:Bool):dZ h n t c=if jW h n (-1) t.Reads then d_ n t c else some (.inr (false,false)):=by
 unfold dZ
 have hl:=hf.reads t ht
 rw[FA (σ:=Bool×Int) (fun s k=>(s.1,s.2,(k:Int))) (fun _ s x=>if decide (s.2<x.Key)&&decide (x.Key<16)&&there h n x then .inl (s.1,x.Key) else .inr (.inr (false,false))) (fun s=>d_ n t s.1) t.Reads (aP (by omega)) (fun k s hk=> ?_) (fun s=> ?_) (c, -1) (t:=(c,(-1:Int),(0:Int))) rfl]
 ·have key:∀(l:List aO) (k:Nat) (last:Int),yK (fun _ (s:Bool×Int) (x:aO)=>if decide (s.2<x.Key)&&decide (x.Key<16)&&there h n x then Sum.inl (s.1,x.Key) else Sum.inr (.inr (false,false))) (fun s=>d_ n t s.1) k l (c,last)=if jW h n last l then d_ n t c else some (.inr (false,false)):=by
   intro l
   induction l with
   |nil=>intro k last;simp[yK,jW]
   |cons x l ih=>
    intro k last
    simp only[yK]
    rw[show jW h n last (x::l)=(decide (last<x.Key)&&decide (x.Key<16)&&there h n x&&jW h n x.Key l) from rfl]
    by_cases hq:(decide (last<x.Key)&&decide (x.Key<16)&&there h n x)=true
    ·rw[if_pos hq,hq,aqb];exact ih (k+1) x.Key
    ·rw[if_neg hq,Bool.eq_false_iff.2 hq];simp
  exact key t.Reads 0 (-1)
 ·obtain⟨c,last⟩:=s
  simp only[jf,dec_lt,hk,bt,aY,aU hk,bp]
  rw[ahT hf n t.Reads[k] (fun b=>cW c last k t.Reads[k] b)]
  simp only[cW,y1,gu,aH (k:=k) (by omega),bp]
  by_cases h1:last<t.Reads[k].Key
  ·by_cases h2:t.Reads[k].Key<16
   ·cases h3:there h n t.Reads[k] <;> simp[h1,h2,aaN,abo]
   ·simp[h1,h2,aaN]
  ·simp[h1,aaN]
 ·simp[jf]

theorem adC{h:af}(hf:Fits h)(n:Nat)(hn:n<9223372036854775807)(t:aJ)(ht:t∈h.aL)(c:Bool):
  abt (fun(p:Bool×Int×Int)=>gq h n t p.1 p.2.1 p.2.2) (c,(-1),0)=if J3 h n t then some (.inl (c,((n+1:Nat):Int))) else some (.inr (false,false)):=by
 have hl:=hf.writes t ht
 rw[FA (σ:=Bool×Int) (fun s k=>(s.1,s.2,(k:Int))) (fun _ s x=>if decide (s.2<x)&&decide (x<16) then .inl (s.1,x) else .inr (.inr (false,false))) (fun s=>dZ h n t s.1) t.bA (aP (by omega)) (fun k s hk=> ?_) (fun s=> ?_) (c, -1) (t:=(c,(-1:Int),(0:Int))) rfl]
 ·have key:∀(l:List Int) (k:Nat) (last:Int),yK (fun _ (s:Bool×Int) (x:Int)=>if decide (s.2<x)&&decide (x<16) then Sum.inl (s.1,x) else Sum.inr (.inr (false,false))) (fun s=>dZ h n t s.1) k l (c,last)=if rising last l then dZ h n t c else some (.inr (false,false)):=by
   intro l
   induction l with
   |nil=>intro k last;simp[yK,rising]
   |cons x l ih=>
    intro k last
    simp only[yK]
    rw[show rising last (x::l)=(decide (last<x)&&decide (x<16)&&rising x l) from rfl]
    by_cases hq:(decide (last<x)&&decide (x<16))=true
    ·rw[if_pos hq,hq,aqb];exact ih (k+1) x
    ·rw[if_neg hq,Bool.eq_false_iff.2 hq];simp
  rw[key t.bA 0 (-1),ahR hf n t ht]
  unfold J3
  cases h1:rising (-1) t.bA
  ·simp
  ·cases h2:jW h n (-1) t.Reads
   ·simp
   ·simp only[d_,y1,jg,aH hn,bp]
    by_cases h3:0≤t.aI
    ·by_cases h4:t.aI<8 <;> simp[h3,h4,aaN,abo]
    ·simp[h3,aaN]
 ·obtain⟨c,last⟩:=s
  simp only[gq,dec_lt,hk,bt,aY,aU hk,bp,y1,jh,aH (k:=k) (by omega)]
  by_cases h1:last<t.bA[k]
  ·by_cases h2:t.bA[k]<16 <;> simp[h1,h2,aaN,abo]
  ·simp[h1,aaN]
 ·simp[gq]

theorem uq{h:af}(hf:Fits h):fR h=some (right h):=by
 have hl:=hf.aeB
 have hloop:∀c,abt (fun(p:Bool×Int)=>gp h p.1 p.2) (c,0)=if uK h 0 h.aL then some (c,true) else some (false,false):=by
  intro c
  rw[FA (σ:=Bool) (fun s k=>(s,(k:Int))) (fun k s x=>if J3 h k x then .inl s else .inr (false,false)) (fun s=>some (s,true)) h.aL (aP (by omega)) (fun k s hk=> ?_) (fun s=> ?_) c (t:=(c,(0:Int))) rfl]
  ·have key:∀(l:List aJ) (k:Nat),yK (fun k (s:Bool) (x:aJ)=>if J3 h (k:Nat) x then Sum.inl s else Sum.inr (false,false)) (fun s=>some (s,true)) k l c=if uK h k l then some (c,true) else some (false,false):=by
    intro l
    induction l with
    |nil=>intro k;simp[yK,uK]
    |cons x l ih=>
     intro k
     simp only[yK]
     rw[show uK h k (x::l)=(J3 h (k:Nat) x&&uK h (k+1) l) from rfl]
     by_cases hq:J3 h (k:Nat) x=true
     ·rw[if_pos hq,hq,aqb];exact ih (k+1)
     ·rw[if_neg hq,Bool.eq_false_iff.2 hq];simp
   exact key h.aL 0
  ·simp only[gp,dec_lt,hk,bt,aY,aU hk,bp]
   rw[adC hf k (by omega) _ (acI hk)]
   cases J3 h k h.aL[k] <;> rfl
  ·simp[gp]
 unfold fR A2 kC right
 simp only[bp,y1,kD]
 by_cases h1:h.aL.length≤32
 ·have h2:((h.aL.length:Int)≤32):=by omega
  simp only[h1,h2,bt,aY,hloop,aqb]
  cases uK h 0 h.aL <;> simp
 ·have h2:¬((h.aL.length:Int)≤32):=by omega
  simp[h1,h2]

theorem VR{t:aJ}(hl:t.bA.length<9223372036854775807)(k:Int):fM t k=some (ku t k):=by
 unfold fM ku
 rw[Qa t.bA (fun x=>decide (k=x)) true (some false) (aP (by omega)) (fun i hi=> ?_) ?_]
 ·cases t.bA.any (fun x=>decide (k=x)) <;> rfl
 ·simp[gM,o9]
 ·simp only[gM,dec_lt,hi,bt,aY,aU hi,bp,aH (k:=i) (by omega),aaN,abo,ajX]
  by_cases h1:t.bA[i]=k
  ·simp[h1]
  ·have:¬k=t.bA[i]:=fun h=>h1 h.symm
   simp[h1,this]
def tx(h:af)(x:Int):aJ:=(h.aL[x.toNat]?).getD default
def inr(h:af)(x:Int):Bool:=decide (0≤x)&&decide (x<(h.aL.length:Int))
theorem jH{h:af}{x:Int}:inr h x=true↔0≤x∧x<(h.aL.length:Int):=by simp[inr]
theorem z_{h:af}{x:Int}(hx:inr h x=true):aaV h.aL x=some (tx h x):=by
 rw[jH] at hx
 rw[wL hx.1 hx.2]
 simp[tx,ab9 (show x.toNat<h.aL.length by omega)]
theorem yE{h:af}{x:Int}(hx:inr h x=true):tx h x∈h.aL:=by
 rw[jH] at hx
 simp only[tx,ab9 (show x.toNat<h.aL.length by omega),api]
 exact acI _

def isW(h:af)(x y:Int)(c:aa):Bool:=decide (c.A=x)&&decide (c.B=y)&&decide (x≠y)&&ku (tx h x) c.Key&&ku (tx h y) c.Key
def YD(h:af)(l:List aa)(x y:Int):Bool:=
 (decide (x<y)&&decide ((tx h x).aI=(tx h y).aI))||(tx h y).Reads.any (fun r=>decide (r.eu=x))||l.any (isW h x y)
def isO(h:af)(l:List aa)(y:Int)(r:aO):Bool:=
 ku (tx h y) r.Key&&(decide (r.eu<0)||(decide (r.eu≠y)&&l.any (fun c=>decide (aa.mk r.Key r.eu y=c))))
def SG(h:af)(l:List aa)(x y:Int):Bool:=decide (x≠y)&&(tx h x).Reads.any (isO h l y)
def two(h:af)(x y:Int):Bool:=right h&&inr h x&&inr h y
def direct(h:af)(l:List aa)(x y:Int):Bool:=two h x y&&YD h l x y
def GG(h:af)(l:List aa)(x y:Int):Bool:=two h x y&&SG h l x y
def yf(h:af)(lev:Int)(l:List aa)(x y:Int):Bool:=
 if lev=0 then direct h l x y||GG h l x y
 else if lev=1 then(aeD h.aL.length).any (fun m=>direct h l x m&&(decide ((m:Int)=y)||GG h l m y))
 else false
def ring(h:af)(lev:Int)(l:List aa)(row:List Int):Bool:=
 decide (0<row.length)&&(aeD row.length).all (fun i=> !((row.take i).any (fun x=>decide (row.getD i 0=x)))&&yf h lev l (row.getD i 0) (row.getD ((i+1) % row.length) 0))

theorem E4{h:af}(hr:right h=true){t:aJ}(ht:t∈h.aL):∃n:Int,jW h n (-1) t.Reads=true:=by
 simp only[right,aiq] at hr
 have key:∀(l:List aJ) (n:Nat),uK h n l=true→∀t∈l,∃n:Int,J3 h n t=true:=by
  intro l
  induction l with
  |nil=>intro n _ t ht;cases ht
  |cons x l ih=>
   intro n hn t ht
   rw[show uK h n (x::l)=(J3 h (n:Nat) x&&uK h (n+1) l) from rfl,aiq] at hn
   rcases List.mem_cons.1 ht with rfl|ht
   ·exact⟨_,hn.1⟩
   ·exact ih _ hn.2 t ht
 obtain⟨n,hn⟩:=key _ 0 hr.2 t ht
 simp only[J3,aiq] at hn
 exact⟨n,hn.1.1.2⟩
theorem Bq{h:af}{n:Int}:∀{l:List aO} {last:Int},jW h n last l=true→∀r∈l,there h n r=true
 |[],_,_,r,hr=>by cases hr
 |x::l,last,ht,r,hr=>by
  rw[show jW h n last (x::l)=(decide (last<x.Key)&&decide (x.Key<16)&&there h n x&&jW h n x.Key l) from rfl] at ht
  simp only[aiq] at ht
  rcases List.mem_cons.1 hr with rfl|hr
  ·exact ht.1.2
  ·exact Bq ht.2 r hr
theorem YW{h:af}(hr:right h=true){t:aJ}(ht:t∈h.aL){r:aO}(hm:r∈t.Reads):r.eu<0↔r.eu= -1:=by
 obtain⟨n,hn⟩:=E4 hr ht
 have:=Bq hn r hm
 simp only[there,ajm,aiq,dI] at this
 rcases this with h1|h1
 ·omega
 ·have:=h1.1.1.1;omega

theorem Jw{h:af}(hf:Fits h){x:Int}(hx:inr h x=true)(k:Int):uA h x k=some (ku (tx h x) k):=by
 unfold uA
 have:=hf.writes _ (yE hx)
 rw[z_ hx]
 simp only[bp]
 rw[LY (by omega)]
 rfl
theorem aos{h:af}(hf:Fits h){x y:Int}(hy:inr h y=true)(u:dG):y_ u h x y=some ((tx h y).Reads.any (fun r=>decide (r.eu=x))):=by
 have hl:=hf.reads _ (yE hy)
 unfold y_
 rw[z_ hy]
 simp only[bp]
 unfold dW ez
 rw[p9 (tx h y).Reads (fun r=>decide (r.eu=x)) (fun k=>(k:Int)) (some (-1)) (aP (by omega)) (fun k hk=> ?_) ?_,xU,bp,iG]
 ·rfl
 ·simp[dY,fP]
 ·simp only[dY,dec_lt,hk,bt,aY,aU hk,bp,uV,aH (k:=k) (by omega)]
  rfl
theorem aaw{h:af}(hf:Fits h){x y:Int}(hx:inr h x=true)(hy:inr h y=true){l:List aa}(hl:l.length<9223372036854775807):tO l h x y=some (l.any (isW h x y)):=by
 have h1:∀c,mU c x y h=some (isW h x y c):=fun c=>by
  unfold mU isW
  by_cases a:c.A=x <;> by_cases b:c.B=y <;> by_cases d:x=y <;> simp[a,b,d,Jw hf hx,Jw hf hy]
  cases ku (tx h x) c.Key <;> simp
 unfold tO cN c7
 rw[p9 l (isW h x y) (fun k=>(k:Int)) (some (-1)) (aP (by omega)) (fun k hk=> ?_) ?_,xU,bp,iG]
 ·rfl
 ·simp[cO,eR]
 ·simp only[cO,dec_lt,hk,bt,aY,aU hk,bp,h1,aH (k:=k) (by omega)]
  rfl
theorem aog{l:List aa}(hl:l.length<9223372036854775807)(v:aa):e8 l v=some (l.any (fun c=>decide (v=c))):=by
 unfold e8 iN
 rw[p9 l (fun c=>decide (v=c)) (fun k=>(k:Int)) (some (-1)) (aP (by omega)) (fun k hk=> ?_) ?_,xU,bp,iG]
 ·simp[gQ,kM]
 ·simp only[gQ,dec_lt,hk,bt,aY,aU hk,bp,aH (k:=k) (by omega)]
  rfl
theorem aoq{h:af}(hf:Fits h){x y:Int}(hx:inr h x=true)(hy:inr h y=true){l:List aa}(hl:l.length<9223372036854775807):y9 l h x y=some (SG h l x y):=by
 have hr:=hf.reads _ (yE hx)
 have h1:∀r,qy r h y l=some (isO h l y r):=fun r=>by
  unfold qy isO
  rw[Jw hf hy]
  simp only[bp,aog hl]
  cases ku (tx h y) r.Key
  ·rfl
  ·by_cases a:r.eu<0
   ·simp[a]
   ·by_cases b:r.eu=y
    ·have a':¬y<0:=b▸a
     simp[b,a']
    ·simp[a,b]
 unfold y9 SG
 by_cases hxy:x=y
 ·simp[hxy]
 ·rw[z_ hx]
  simp only[ne_eq,hxy,not_false_eq_true,bt,aY,bp,aqb]
  unfold dV ey
  rw[p9 (tx h x).Reads (isO h l y) (fun k=>(k:Int)) (some (-1)) (aP (by omega)) (fun k hk=> ?_) ?_,xU,bp,iG]
  ·rfl
  ·simp[dX,fO]
  ·simp only[dX,dec_lt,hk,bt,aY,aU hk,bp,h1,aH (k:=k) (by omega)]
   rfl
theorem aat{h:af}{x y:Int}(hx:inr h x=true)(hy:inr h y=true)(u:b9):tN u h x y=some (decide (x<y)&&decide ((tx h x).aI=(tx h y).aI)):=by
 unfold tN
 rw[z_ hx,z_ hy]
 by_cases h1:x<y <;> simp[h1]

theorem O4{h:af}{x y:Int}:(decide (abM x y<0)=false∧decide (arA h.aL≤abN x y)=false)↔(inr h x=true∧inr h y=true):=by
 rw[decide_eq_false_iff_not,decide_eq_false_iff_not,jH,jH]
 unfold abM abN arA
 split <;> split <;> omega

theorem KC{h:af}(hf:Fits h){l:List aa}(hl:l.length<9223372036854775807)(x y:Int):qW h l x y=some (direct h l x y):=by
 unfold qW yh direct two
 rw[uq hf]
 simp only[bp,oV]
 cases hr:right h
 ·simp
 ·by_cases hin:inr h x=true∧inr h y=true
  ·obtain⟨m1,m2⟩:=(O4 (h:=h)).2 hin
   obtain⟨hx,hy⟩:=hin
   simp only[m1,m2,hx,hy,apS,dw,aR,apy,aqb]
   unfold dn dL mJ oT mK
   rw[aat hx hy,aos hf hy,aaw hf hx hy hl]
   simp only[bp,fu,YD]
   cases decide (x<y)&&decide ((tx h x).aI=(tx h y).aI)
   ·cases(tx h y).Reads.any (fun r=>decide (r.eu=x))
    ·cases l.any (isW h x y) <;> simp
    ·simp
   ·simp
  ·have hm:¬(decide (abM x y<0)=false∧decide (arA h.aL≤abN x y)=false):=fun hm=>hin ((O4 (h:=h)).1 hm)
   have hz:(inr h x&&inr h y)=false:=by
    cases a:inr h x <;> cases b:inr h y <;> simp_all
   rw[aqb,hz]
   simp only[apS,dw,aR,afS]
   cases m1:decide (abM x y<0)
   ·cases m2:decide (arA h.aL≤abN x y)
    ·exact absurd ⟨m1,m2⟩ hm
    ·simp
   ·simp
theorem afE{h:af}(hf:Fits h){l:List aa}(hl:l.length<9223372036854775807)(x y:Int):B8 h l x y=some (GG h l x y):=by
 unfold B8 yg GG two
 rw[uq hf]
 simp only[bp,oU]
 cases hr:right h
 ·simp
 ·by_cases hin:inr h x=true∧inr h y=true
  ·obtain⟨m1,m2⟩:=(O4 (h:=h)).2 hin
   obtain⟨hx,hy⟩:=hin
   simp only[m1,m2,hx,hy,apS,dw,aR,apy,aqb]
   unfold dm dK oS
   rw[aoq hf hx hy hl]
   simp only[bp,fq]
   cases SG h l x y <;> simp
  ·have hm:¬(decide (abM x y<0)=false∧decide (arA h.aL≤abN x y)=false):=fun hm=>hin ((O4 (h:=h)).1 hm)
   have hz:(inr h x&&inr h y)=false:=by
    cases a:inr h x <;> cases b:inr h y <;> simp_all
   rw[aqb,hz]
   simp only[apS,dw,aR,afS]
   cases m1:decide (abM x y<0)
   ·cases m2:decide (arA h.aL≤abN x y)
    ·exact absurd ⟨m1,m2⟩ hm
    ·simp
   ·simp
theorem pIs{h:af}(hf:Fits h){l:List aa}(hl:l.length<9223372036854775807)(lev x y:Int):Kw h lev l x y=some (yf h lev l x y):=by
 unfold Kw yf
 rw[KC hf hl,afE hf hl]
 simp only[bp]
 by_cases h0:lev=0
 ·subst h0
  simp only[bt,aY]
  cases direct h l x y <;> simp
 ·by_cases h1:lev=1
  ·subst h1
   simp only[h0,b7,dw,aR,bt,aY]
   have hrl:(aeD h.aL.length).length=h.aL.length:=by simp
   have ht:=hf.aeB
   rw[Qa (aeD h.aL.length) (fun m=>direct h l x m&&(decide ((m:Int)=y)||GG h l m y)) true (some false) (aP (by omega)) (fun k hk=> ?_) ?_]
   ·cases(aeD h.aL.length).any (fun m=>direct h l x m&&(decide ((m:Int)=y)||GG h l m y)) <;> rfl
   ·simp[GP,CR,dec_lt]
   ·rw[hrl] at hk
    simp only[GP,dec_lt,hk,bt,aY,KC hf hl,afE hf hl,bp,CS,aH (k:=k) (by omega),List.getElem_range]
    cases direct h l x k
    ·rfl
    ·by_cases hy:(k:Int)=y
     ·simp[hy,aaN]
     ·cases GG h l k y <;> simp[hy,aaN,abo]
  ·simp[h0,h1,CR]
def GY(h:af)(lev:Int)(l:List aa)(row:List Int)(i:Nat):Bool:=
 !((row.take i).any (fun x=>decide (row.getD i 0=x)))&&yf h lev l (row.getD i 0) (row.getD ((i+1) % row.length) 0)
theorem aea(h:af)(lev:Int)(l:List aa)(row:List Int):
  ring h lev l row=if ∀k,k<row.length→GY h lev l row k=true then decide (0<row.length) else false:=by
 unfold ring
 by_cases hq:∀k,k<row.length→GY h lev l row k=true
 ·rw[if_pos hq]
  have:(aeD row.length).all (GY h lev l row)=true:=List.all_eq_true.2 fun k hk=>hq k (List.mem_range.1 hk)
  rw[show(aeD row.length).all (fun i=> !((row.take i).any (fun x=>decide (row.getD i 0=x)))&&yf h lev l (row.getD i 0) (row.getD ((i+1) % row.length) 0))=true from this,Bool.and_true]
 ·rw[if_neg hq]
  have:(aeD row.length).all (GY h lev l row)=false:=by
   cases hc:(aeD row.length).all (GY h lev l row) with
   |false=>rfl
   |true=>exact absurd (fun k hk=>List.all_eq_true.1 hc k (List.mem_range.2 hk)) hq
  rw[show(aeD row.length).all (fun i=> !((row.take i).any (fun x=>decide (row.getD i 0=x)))&&yf h lev l (row.getD i 0) (row.getD ((i+1) % row.length) 0))=false from this,Bool.and_false]
theorem Vb{l:List Int}{k:Nat}(h:k<l.length):l.getD k 0=l[k]:=by simp[alN,ab9 h]
theorem aiv{a b:Nat}(hb:0<b)(ha:a<9223372036854775808)(QY:b<9223372036854775808):Sh.rem (a:Int) (b:Int)=some ((a % b:Nat):Int):=by
 unfold Sh.rem
 have:(b:Int)≠0:=by omega
 simp only[this,ne_eq,not_false_eq_true,aY]
 rw[Int.tmod_eq_emod_of_nonneg (by omega)]
 rfl
theorem aao{h:af}(hf:Fits h){l:List aa}(hl:l.length<9223372036854775807)(lev:Int){row:List Int}(hw:row.length<9223372036854775808):
  zN h lev l row=some (ring h lev l row):=by
 unfold zN
 rw[aea]
 refine VS row.length (GY h lev l row) (decide (0<row.length)) false (aP (by omega)) (fun k hk=> ?_) ?_
 ·have hm:(k+1) % row.length<row.length:=afw _ (by omega)
  simp only[BC,dec_lt,hk,bt,aY,aU hk,bp,kD]
  rw[show abH row 0 (k:Int)=some (row.take k) by simpa using sY (l:=row) (m:=0) (k:=k) (by omega) (by omega)]
  rw[bp,LY (by simp;omega),bp]
  unfold GY
  rw[Vb hk,Vb hm]
  cases hc:(row.take k).any (fun x=>decide (row[k]=x)) with
  |true=>simp[xg,aaN]
  |false=>
   rw[if_neg (by simp),aH (by omega),aiv (by omega) (by omega) (by omega)]
   simp only[bp,aU hm,pIs hf hl,xg,aH (k:=k) (by omega)]
   cases yf h lev l row[k] row[(k+1) % row.length] <;> simp[aaN,abo]
 ·simp[BC,Gd,aaN,kD]
def Ed{α:Type}(key:α→Int)(ok:α→Bool):Int→List α→Bool
 |_,[]=>true
 |last,x::l=>decide (last<key x)&&decide (key x<16)&&ok x&&Ed key ok (key x) l
theorem N4:∀(l:List Int) (last:Int),rising last l=Ed id (fun _=>true) last l
 |[],_=>rfl
 |x::l,last=>by
  rw[show rising last (x::l)=(decide (last<x)&&decide (x<16)&&rising x l) from rfl,N4 l x];simp[Ed]
theorem R5(h:af)(n:Int):∀(l:List aO) (last:Int),jW h n last l=Ed (·.Key) (there h n) last l
 |[],_=>rfl
 |x::l,last=>by
  rw[show jW h n last (x::l)=(decide (last<x.Key)&&decide (x.Key<16)&&there h n x&&jW h n x.Key l) from rfl,R5 h n l x.Key];rfl
theorem Lc{α:Type}{key:α→Int}{ok:α→Bool}:∀{l:List α} {last:Int},Ed key ok last l=true↔
  ∀k (hk:k<l.length),key l[k]<16∧ok l[k]=true∧(if h0:k=0 then last<key l[k] else key (l[k - 1]'(by omega))<key l[k])
 |[],last=>by simp[Ed]
 |x::l,last=>by
  simp only[Ed,aiq,dI,Lc (l:=l)];constructor
  ·grind
  ·intro h
   have h0:=h 0 (by simp);refine⟨⟨⟨by grind,by grind⟩,by grind⟩,fun k hk=> ?_⟩;have:=h (k+1) (by grind);grind
def step{α:Type}(key:α→Int)(ok:α→Bool)(l:List α)(k:Nat):Bool:=
 match l[k]? with
 |none=>true
 |some x=>decide (0≤key x)&&decide (key x<16)&&ok x&&(decide (k=0)||match l[k - 1]? with|none=>true|some y=>decide (key y<key x))
theorem JT{α:Type}(key:α→Int)(ok:α→Bool)(l:List α):decide (∀k,k<l.length→step key ok l k=true)=Ed key ok (-1) l:=by
 rw[apB,dI,Lc];constructor
 ·intro h k hk
  have h1:=h k hk;simp only[step,ab9 hk,aiq,dI,ajm] at h1;grind
 ·intro h
  have pos:∀k (hk:k<l.length),0≤key l[k]:=by
   intro k
   induction k with
   |zero=>
    grind
   |succ k ih=>
    grind
  intro k hk;simp only[step,ab9 hk,aiq,dI,ajm];grind
theorem VV{α:Type}(key:α→Int)(ok:α→Bool)(l:List α)(k:Nat)(hk:k<l.length):
  step key ok l k=(decide (0≤key l[k])&&decide (key l[k]<16)&&ok l[k]&&(if h0:k=0 then true else decide (key (l[k - 1]'(by omega))<key l[k]))):=by
 grind [step]

theorem Sd{k:Nat}(h0:0<k)(h:k<9223372036854775807):bM ((k:Int) - 1)=((k - 1:Nat):Int):=by
 grind [dM]
theorem aaP{h:af}(hf:Fits h)(n:Nat)(x:aO):there h n x=(!(decide (x.eu< -1)||decide ((h.aL.length:Int)≤x.eu)||decide (x.eu=n))&&(decide (x.eu<0)||match h.aL[x.eu.toNat]? with|some t=>ku t x.Key|none=>false)):=by
 unfold there;by_cases a:x.eu= -1
 ·have h2:¬((h.aL.length:Int)≤ -1):=by omega
  simp_all
 grind
theorem aoV{h:af}(hf:Fits h){n:Nat}(hn:n<h.aL.length):sB h n=some (J3 h n h.aL[n]):=by
 have hw:=hf.writes _ (acI hn);have hr:=hf.reads _ (acI hn);have hreads:yO h n h.aL[n]=some (jW h n (-1) (h.aL[n]).Reads):=by
  rw[R5,←JT];refine N7 (h.aL[n]).Reads.length (step (·.Key) (there h n) (h.aL[n]).Reads) (aP (by omega)) (fun k hk=> ?_) ?_
  ·have h5:∀b:Bool,(b=false→((h.aL[n]).Reads[k]).eu<(h.aL.length:Int))→cF h k ((h.aL[n]).Reads[k]) b=if !b&&(decide (((h.aL[n]).Reads[k]).eu<0)||match h.aL[((h.aL[n]).Reads[k]).eu.toNat]? with|some t=>ku t ((h.aL[n]).Reads[k]).Key|none=>false) then some (.inl ((k+1:Nat):Int)) else some (.inr false):=fun b hb=>by
    unfold cF;cases b with
    |true=>rfl
    |false=>
     have hlt:=hb rfl;by_cases a:((h.aL[n]).Reads[k]).eu<0
     ·grind [nZ,aH,abo]
     ·have hi:((h.aL[n]).Reads[k]).eu.toNat<h.aL.length:=by omega
      rw[wL (by omega) hlt,ab9 hi];simp only[a,b7,dw,aR,bp,VR (hf.writes _ (acI hi)),nZ,aH (k:=k) (by omega),aaN,abo,ajX,aqv,aqb,apC];grind
   simp only[sU,dec_lt,hk,bt,aY,aU hk,bp,VV _ _ _ k hk,aaP hf];by_cases a0:((h.aL[n]).Reads[k]).Key<0
   ·grind
   rw[if_neg (by grind)];by_cases a1:15<((h.aL[n]).Reads[k]).Key
   ·grind
   rw[if_neg (by grind)];have tail:(if decide (((h.aL[n]).Reads[k]).eu<(-1)) then cF h k ((h.aL[n]).Reads[k]) true else if decide ((arA h.aL)≤((h.aL[n]).Reads[k]).eu) then cF h k ((h.aL[n]).Reads[k]) true else cF h k ((h.aL[n]).Reads[k]) (decide (((h.aL[n]).Reads[k]).eu=n)))
     =if there h n ((h.aL[n]).Reads[k]) then some (.inl ((k+1:Nat):Int)) else some (.inr false):=by
    rw[aaP hf];grind
   cases k with
   |zero=>grind
   |succ k=>
    rw[if_pos (by simp),Sd (by omega) (by omega),aU (show k+1 - 1<_ by omega)];grind
  ·simp[sU,yP,aaN]
 have hwrites:abt (fun(p:Int)=>kJ h n h.aL[n] p) 0=some (rising (-1) (h.aL[n]).bA&&jW h n (-1) (h.aL[n]).Reads):=by
  have h6:∀(k:Nat) (b:Bool),k<9223372036854775807→ja k b=if b then some (.inr false) else some (.inl ((k+1:Nat):Int)):=fun k b hk=>by
   unfold ja;rw[aH hk];rfl
  have:=VS (b:=fun(p:Int)=>kJ h n h.aL[n] p) (h.aL[n]).bA.length (step id (fun _=>true) (h.aL[n]).bA) (jW h n (-1) (h.aL[n]).Reads) false (aP (by omega)) (fun k hk=> ?_) ?_
  ·rw[this,N4,←JT]
   grind
  ·simp only[kJ,dec_lt,hk,bt,aY,aU hk,bp,VV _ _ _ k hk,h6 k _ (by omega),id]
   by_cases a0:(h.aL[n]).bA[k]<0
   ·grind
   rw[if_neg (by grind)];by_cases a1:15<(h.aL[n]).bA[k]
   ·grind
   rw[if_neg (by grind)];cases k with
   |zero=>grind
   |succ k=>
    rw[if_pos (by simp),Sd (by omega) (by omega),aU (show k+1 - 1<_ by omega)];grind
  ·simp only[kJ,dec_lt,afr,b7,dw,aR,hreads]
   rfl
 grind [sB,sV,aU,J3]
theorem FB(h:af):∀(l:List aJ) (n:Nat),uK h n l=decide (∀k (hk:k<l.length),J3 h ((n+k:Nat):Int) l[k]=true)
 |[],n=>by rfl
 |t::l,n=>by
  rw[show uK h n (t::l)=(J3 h (n:Nat) t&&uK h (n+1) l) from rfl,FB h l (n+1),apB,aiq,dI,dI];constructor
  ·grind
  ·intro h1
   refine⟨h1 0 (by simp),fun k hk=> ?_⟩;have:=h1 (k+1) (by grind);grind
theorem aiu{h:af}(hf:Fits h):o8 h=some (right h):=by
 unfold o8 right;by_cases h1:h.aL.length≤32
 ·have h2:¬(32:Int)<(h.aL.length:Int):=by omega
  simp only[arA,h2,b7,dw,aR,h1,bt,aqb];rw[FB];have:=N7 (b:=fun(p:Int)=>mu h p) h.aL.length (fun k=>match h.aL[k]? with|some t=>J3 h k t|none=>true) (aP (by omega)) (fun k hk=> ?_) ?_
  ·simp_all
  ·simp only[mu,dec_lt,hk,bt,aY,aoV hf hk,bp,ab9 hk,aH (k:=k) (by omega)]
   grind [aaN,abo]
  ·simp[mu,v_,aaN]
 grind

def few(h:af)(m:Int):Bool:=decide ((h.aL.length:Int)≤m)&&h.aL.all (fun t=>decide (t.bA.length≤20)&&decide (t.Reads.length≤20))
def one(h:af)(c:aa):Bool:=decide (c.A≠c.B)&&inr h c.A&&inr h c.B&&ku (tx h c.A) c.Key&&ku (tx h c.B) c.Key
theorem afI{h:af}(hf:Fits h)(x k:Int):mT x k h=some (inr h x&&ku (tx h x) k):=by
 unfold mT
 by_cases hx:inr h x=true
 ·obtain⟨a,b⟩:=jH.1 hx
  have:=hf.writes _ (yE hx)
  rw[if_pos (by simpa using a),if_pos (by simpa [arA] using b),z_ hx,bp,LY (by omega),bp,hx]
  rfl
 ·have h1:inr h x=false:=by simpa using hx
  rw[h1]
  unfold inr at h1
  by_cases a:0≤x <;> by_cases b:x<(h.aL.length:Int) <;> simp[a,b,arA] at h1 ⊢
theorem aoo{h:af}(hf:Fits h)(c:aa):qx c h=some (!one h c):=by
 unfold qx one
 rw[afI hf,afI hf]
 simp only[bp]
 by_cases a:c.A=c.B
 ·simp[a]
 ·simp only[a,b7,dw,aR,ne_eq,not_false_eq_true,bt,aqb]
  cases inr h c.A <;> cases ku (tx h c.A) c.Key <;> cases inr h c.B <;> cases ku (tx h c.B) c.Key <;> rfl
theorem Iu{h:af}(hf:Fits h){l:List aa}(hl:l.length≤20000):mR h l=some (right h&&l.all (one h)):=by
 unfold mR yd
 rw[uq hf]
 simp only[bp]
 have hd:decide ((20000:Int)<arA l)=false:=by simp[arA];omega
 rw[hd]
 have:cq l h=some (!(l.all (one h))):=by
  unfold cq dJ
  rw[p9 l (fun c=> !one h c) (fun k=>(k:Int)) (some (-1)) (aP (by omega)) (fun k hk=> ?_) ?_,xU,bp,iG]
  ·rw[List.any_eq_not_all_not];simp
  ·simp[dr,fm]
  ·simp only[dr,dec_lt,hk,bt,aY,aU hk,bp,aoo hf,aH (k:=k) (by omega)]
   rfl
 rw[this]
 cases right h <;> simp

theorem acy{h:af}(hr:right h=true){t:aJ}(ht:t∈h.aL){r:aO}(hm:r∈t.Reads)(h0:¬r.eu<0):inr h r.eu=true∧ku (tx h r.eu) r.Key=true:=by
 obtain⟨n,hn⟩:=E4 hr ht
 have:=Bq hn r hm
 simp only[there,ajm,aiq,dI] at this
 rcases this with h1|h1
 ·omega
 ·obtain⟨⟨⟨a,b⟩,_⟩,d⟩:=h1
  refine⟨jH.2 ⟨a,b⟩, ?_⟩
  unfold tx
  have hi:r.eu.toNat<h.aL.length:=by omega
  rw[ab9 hi] at d ⊢
  exact d
def back(c:aa):aa:=⟨c.Key,c.B,c.A⟩
def ini(l:List au)(i:Int):Bool:=decide (0≤i)&&decide (i<(l.length:Int))
def fa(l:List au)(i:Int):au:=(l[i.toNat]?).getD default
theorem OS{l:List au}{i:Int}:ini l i=true↔0≤i∧i<(l.length:Int):=by simp[ini]
theorem Zp{l:List au}{i:Int}(hx:ini l i=true):aaV l i=some (fa l i):=by
 grind [OS,wL,fa]
def may(h:af)(lev:Int):Bool:=right h&&(decide (lev=0)||decide (lev=1))
def OT(l:List au)(f:au):Bool:=
 ini l f.I&&ini l f.J&&decide ((fa l f.I).C.B=(fa l f.J).C.A)&&decide ((fa l f.I).C.Key=(fa l f.J).C.Key)&&decide (f.C=⟨(fa l f.I).C.Key,(fa l f.I).C.A,(fa l f.J).C.B⟩)
def aa0(h:af)(f:au):Bool:=
 decide (f.J=0)&&decide (f.I≠f.C.A)&&inr h f.I&&(tx h f.I).Reads.any (fun r=>decide (aO.mk f.C.Key f.C.B=r))&&direct h [] f.C.A f.I
def reason(h:af)(lev:Int)(l:List au)(f:au):Bool:=
 if f.Kind=1 then decide (f.I=0)&&decide (f.J=0)&&direct h [] f.C.A f.C.B
 else if f.Kind=2 then OT l f
 else if f.Kind=3 then aa0 h f
 else if f.Kind=4 then decide (f.I=0)&&decide (f.J=0)&&ring h lev (l.map (·.C)++[back f.C]) f.eH
 else false
def holds(h:af)(lev:Int)(l:List au)(f:au):Bool:=
 may h lev&&one h f.C&&(decide (f.Kind=4)||decide (f.eH.length=0))&&reason h lev l f
def BM(h:af)(lev:Int)(l:List au)(k:Nat):Bool:=holds h lev (l.take k) (l.getD k default)
def replay(h:af)(lev:Int)(l:List au):Bool:=may h lev&&decide (∀k,k<l.length→BM h lev l k=true)

theorem aol{h:af}(hf:Fits h)(lev:Int):Ej h lev=some (may h lev):=by
 grind [Ej,may,uq]
theorem pWr{h:af}(hf:Fits h)(x:Int)(c:aa):oo x h c=some (inr h x&&ku (tx h x) c.Key):=by
 unfold oo;by_cases hx:inr h x=true
 ·obtain⟨a,b⟩:=jH.1 hx
  have:=hf.writes _ (yE hx);rw[if_pos (by grind),if_pos (by grind),z_ hx,bp,LY (by omega),bp,hx];rfl
 ·have h1:inr h x=false:=by grind
  unfold inr at h1;grind
theorem aop{h:af}(hf:Fits h)(c:aa):A0 h c=some (one h c):=by
 unfold A0 one;rw[pWr hf,pWr hf];grind
theorem afG{l:List aO}(hl:l.length<9223372036854775807)(v:aO):eL l v=some (l.any (fun c=>decide (v=c))):=by
 unfold eL jF;rw[p9 l (fun c=>decide (v=c)) (fun k=>(k:Int)) (some (-1)) (aP (by omega)) (fun k hk=> ?_) ?_,xU,bp,iG]
 ·simp[iM,mH]
 ·simp only[iM,dec_lt,hk,bt,aY,aU hk,bp,aH (k:=k) (by omega)]
  rfl
theorem xT{l:List au}(hl:l.length≤1000000):iT l=some (l.map (·.C)):=by
 refine cB (fun k=>(l.take k).map (·.C)) l.length _ (aP (by omega)) (fun k hk=> ?_) ?_ (by simp)
 ·simp only[yj,dec_lt,hk,bt,aY,aU hk,bp]
  grind [cA,aH,abo,aoR]
 ·simp[yj,DH]
theorem ahM{h:af}(hf:Fits h)(lev:Int)(l:List au)(f:au):si ⟨h,lev,l,f⟩=some (decide (f.I=0)&&decide (f.J=0)&&direct h [] f.C.A f.C.B):=by
 grind [si,KC]
theorem mm{l:List au}{x y:Int}:(decide (abM x y<0)=false∧decide (arA l≤abN x y)=false)↔(ini l x=true∧ini l y=true):=by
 rw[decide_eq_false_iff_not,decide_eq_false_iff_not,OS,OS];unfold abM abN arA;omega
theorem ady(h:af)(lev:Int)(l:List au)(f:au):qA ⟨h,lev,l,f⟩=some (OT l f):=by
 unfold qA OT;by_cases hin:ini l f.I=true∧ini l f.J=true
 ·obtain⟨m1,m2⟩:=(mm (l:=l)).2 hin
  obtain⟨hx,hy⟩:=hin;simp only[m1,m2,hx,hy,mX,dw,aR,Zp hx,Zp hy,bp,aqb,Sh.EK];grind
 ·have hm:¬(decide (abM f.I f.J<0)=false∧decide (arA l≤abN f.I f.J)=false):=fun hm=>hin ((mm (l:=l)).1 hm)
  simp_all [abM,mX]
theorem aou{h:af}(hf:Fits h)(lev:Int)(l:List au)(f:au):tP ⟨h,lev,l,f⟩=some (aa0 h f):=by
 unfold tP aa0;by_cases a:f.J=0
 ·by_cases b:f.I=f.C.A
  ·simp[a,b,gC]
  ·by_cases hx:inr h f.I=true
   ·obtain⟨c,d⟩:=jH.1 hx
    have h1:¬f.I<0:=by omega
    have h2:¬(h.aL.length:Int)≤f.I:=by omega
    have h3:=hf.reads _ (yE hx);simp only[a,b,h1,h2,ne_eq,not_true,not_false_eq_true,b7,bt,dw,aR,gC,arA,z_ hx,bp,afG h3,KC hf (show([]:List aa).length<9223372036854775807 by simp),hx,aqb];grind
   ·have h1:inr h f.I=false:=by grind
    have h2:¬(0≤f.I∧f.I<(h.aL.length:Int)):=fun h2=>hx (jH.2 h2);simp_all [gC]
 ·simp[a,gC]
theorem adx{h:af}(hf:Fits h)(lev:Int){l:List au}(hl:l.length≤1000000){f:au}(hc:f.eH.length<9223372036854775808):
  qz ⟨h,lev,l,f⟩=some (decide (f.I=0)&&decide (f.J=0)&&ring h lev (l.map (·.C)++[back f.C]) f.eH):=by
 unfold qz;rw[xT hl];simp only[bp];rw[cA (by grind),bp,show aa.mk f.C.Key f.C.B f.C.A=back f.C from rfl,aao hf (by grind) lev hc];grind
theorem Pe{h:af}(hf:Fits h)(lev:Int){l:List au}(hl:l.length≤1000000){f:au}(hc:f.eH.length<9223372036854775808):
  uh h lev l f=some (holds h lev l f):=by
 have hj:∀b,p8 h lev l f b=some (!b&&reason h lev l f):=fun b=>by
  unfold p8 reason;have he:au.mk (aa.mk f.C.Key f.C.A f.C.B) f.Kind f.I f.J f.eH=f:=rfl;have hh:af.mk h.aL=h:=rfl;rw[he,hh];cases b
  ·simp only[dw,aR,zb,bp,ahM hf,ady,aou hf,adx hf lev hl hc,Ge]
   grind
  ·simp
 unfold uh holds;rw[aol hf,aop hf];simp only[bp,hj];cases may h lev
 ·simp
 ·cases one h f.C
  ·simp
  ·by_cases k:f.Kind=4
   ·simp[k]
   ·by_cases z:f.eH.length=0
    ·simp_all
    simp_all
def Yd(l:List au):Prop:=l.length≤1000000∧∀f∈l,f.eH.length<9223372036854775808
theorem Pg{h:af}(hf:Fits h)(lev:Int){l:List au}(hl:Yd l):uD h lev l=some (replay h lev l):=by
 unfold uD replay;have hlen:=hl.1;have:=VS (b:=fun(p:Int)=>u0 h lev l p) l.length (BM h lev l) (may h lev) false (aP (by omega)) (fun k hk=> ?_) ?_
 ·grind
 ·have h1:l.getD k default=l[k]:=by grind
  simp only[u0,dec_lt,hk,bt,aY,aU hk,bp];rw[show abH l 0 (k:Int)=some (l.take k) by simpa using sY (l:=l) (m:=0) (k:=k) (by omega) (by omega)];simp only[bp,Pe hf lev (l:=l.take k) (by grind) (hl.2 _ (acI hk)),aH (k:=k) (by omega),BM,h1];grind [aaN,abo]
 ·simp[u0,Ei,aol hf,aaN]

theorem Lf{h:af}{l m:List aa}(hs:∀c∈l,c∈m){x y:Int}(hd:direct h l x y=true):direct h m x y=true:=by
 unfold direct YD at*;simp only[aiq,ajm,aj8] at*;grind
theorem P_{h:af}{l m:List aa}(hs:∀c∈l,c∈m){x y:Int}(hd:GG h l x y=true):GG h m x y=true:=by
 unfold GG SG isO at*;grind
theorem YH{h:af}{l m:List aa}(hs:∀c∈l,c∈m){lev x y:Int}(hd:yf h lev l x y=true):yf h lev m x y=true:=by
 unfold yf at*;by_cases h0:lev=0
 ·grind [Lf,P_]
 ·by_cases h1:lev=1
  ·grind [Lf,P_]
  grind
theorem aaT{h:af}{l m:List aa}(hs:∀c∈l,c∈m){lev:Int}{row:List Int}(hd:ring h lev l row=true):ring h lev m row=true:=by
 unfold ring at*;grind [YH]
theorem RF(h:af)(lev:Int)(l:List au)(g:au):replay h lev (l++[g])=(replay h lev l&&holds h lev l g):=by
 unfold replay;have key:∀k,k<l.length→BM h lev (l++[g]) k=BM h lev l k:=fun k hk=>by
  grind [BM]
 have last:BM h lev (l++[g]) l.length=holds h lev l g:=by
  grind [BM]
 grind
def JX(h:af)(t key:Int):Option Int:=
 if right h&&inr h t then((tx h t).Reads.findIdx? (fun r=>decide (r.Key=key))).map (fun k=>((tx h t).Reads.getD k default).eu) else none
theorem IQ{h:af}{n:Int}:∀{l:List aO} {last:Int},jW h n last l=true→∀r∈l,last<r.Key
 |[],_,_,r,hr=>by cases hr
 |x::l,last,ht,r,hr=>by
  rw[show jW h n last (x::l)=(decide (last<x.Key)&&decide (x.Key<16)&&there h n x&&jW h n x.Key l) from rfl] at ht;simp only[aiq,dI] at ht;rcases List.mem_cons.1 hr with rfl|hr
  ·omega
  ·have:=IQ ht.2 r hr;omega
theorem Oe{h:af}{n:Int}:∀{l:List aO} {last:Int},jW h n last l=true→∀r∈l,∀s∈l,r.Key=s.Key→r=s
 |[],_,_,r,hr,_,_,_=>by cases hr
 |x::l,last,ht,r,hr,s,hs,he=>by
  rw[show jW h n last (x::l)=(decide (last<x.Key)&&decide (x.Key<16)&&there h n x&&jW h n x.Key l) from rfl] at ht;simp only[aiq,dI] at ht;rcases List.mem_cons.1 hr with h1|h1
  ·rcases List.mem_cons.1 hs with h2|h2
   ·grind
   ·have:=IQ ht.2 s h2;grind
  ·rcases List.mem_cons.1 hs with h2|h2
   ·have:=IQ ht.2 r h1;grind
   ·exact Oe ht.2 r h1 s h2 he
theorem zv{h:af}(hr:right h=true){t key v:Int}(hx:inr h t=true):JX h t key=some v↔(tx h t).Reads.any (fun r=>decide (aO.mk key v=r))=true:=by
 obtain⟨n,hn⟩:=E4 hr (yE hx);unfold JX;constructor
 ·intro h1
  cases hfi:(tx h t).Reads.findIdx? (fun r=>decide (r.Key=key)) with
  |none=>grind
  |some k=>
   rw[hfi] at h1;rw[alL] at hfi;obtain⟨hk,hp,_⟩:=hfi;cases hc:(tx h t).Reads[k] with
   |mk K F=>grind
 ·cases hfi:(tx h t).Reads.findIdx? (fun r=>decide (r.Key=key)) with
  |none=>
   grind
  |some k=>
   rw[alL] at hfi;grind [Oe,acI]
end Pl
end

section
namespace Pl
open Go Go.Av G
@[simp] theorem zG(i:Int):G.zG i=some (Bv.bit i):=by
 unfold G.zG Ea Bv.bit;by_cases h:i<0
 ·simp[h];omega
 ·by_cases h2:64≤i
  ·simp[h,h2];omega
  ·simp[h,h2,Sh.shl,show 0≤i by omega,show i<64 by omega]
@[simp] theorem p7(s:BitVec 64)(i:Int):G.p7 s i=some (s|||Bv.bit i):=by simp[G.p7]
theorem acK(s:BitVec 64)(i:Int):decide ((s&&&Bv.bit i)≠0#64)=Bv.has s i:=by
 unfold Bv.bit Bv.has;by_cases h:0≤i∧i<64
 ·simp only[h.1,h.2,bt,aqb]
  obtain⟨k,rfl⟩:∃k:Nat,i=k:=⟨i.toNat,by omega⟩;simp only[aqh];cases hb:s.getLsbD k with
  |true=>
   rw[dI];intro h0;have:=congrArg (fun x:BitVec 64=>x.getLsbD k) h0;grind
  |false=>
   grind
 grind
@[simp] theorem xF(s:BitVec 64)(i:Int):G.xF s i=some (Bv.has s i):=by
 simp only[G.xF,zG,bp,acK]
@[simp] theorem zF(a b:BitVec 64):G.zF a b=some (decide (a&&& ~~~b=0#64)):=rfl

def join(l:List (BitVec 64)):BitVec 64:=l.foldl (· ||| ·) 0#64
theorem WN(l:List (BitVec 64))(k:Nat)(h:k<l.length):join (l.take (k+1))=join (l.take k)|||l[k]:=by
 grind [join,ao3]
theorem p6(l:List (BitVec 64))(hl:l.length<9223372036854775808):G.p6 l=some (join l):=by
 refine count (fun k=>join (l.take k)) l.length _ hl (fun k hk=> ?_) ?_ rfl
 ·simp only[CI,kD,dec_lt,hk,bt,aY,aU hk,bp,abo,WN l k hk,aH (k:=k) (by omega)]
 grind [CI,HE,aaN]
theorem LJ(a b:BitVec 64):G.p6 [a,b]=some (a|||b):=by
 grind [p6,join]

theorem ael(a:BitVec 64)(n:Nat):Sh.shr a (n:Int)=some (a>>>n):=by rfl
theorem aiU(s:BitVec 64)(h2:Bv.ctz s<64):aaV Sh.XH ((((1#64<<<Bv.ctz s)*Bv.dB)>>>58).toNat:Int)=some ((Bv.ctz s:Nat):Int):=by
 have h4:=Bv.aiW ⟨Bv.ctz s,h2⟩;simp only[aaV,Sh.XH,List.getElem?_map];rw[if_pos (by omega),aqh,h4];rfl
@[simp] theorem tz(s:BitVec 64):fA s=some (Bv.ctz s:Int):=by
 unfold fA;by_cases h:s=0#64
 ·subst h
  rfl
 ·obtain⟨_,h2,h3⟩:=Bv.NM s h
  rw[if_neg (by simpa using h),h3];have h5:Sh.shr ((1#64<<<Bv.ctz s)*285870213051353865#64) ((58:Nat):Int)=some (((1#64<<<Bv.ctz s)*285870213051353865#64)>>>58):=ael _ _;have e2:(((58#64).toNat:Nat):Int)=((58:Nat):Int):=rfl;rw[e2,h5];have h6:=aiU s h2;unfold Bv.dB at h6;rw[bp,h6,bp];rw[dM (by omega) (by omega)]

def j0(s:BitVec 64):List Int:=(Bv.list s).map fun(k:Nat)=>(k:Int)
theorem NG(s:BitVec 64):(j0 s).length≤64:=by simp[j0,Bv.oC]

theorem WW:∀(n:Nat) (s:BitVec 64) (acc:List Int),(Bv.list s).length<n→acc.length+(Bv.list s).length≤64→
  Sh.iter (fun(p:(BitVec 64)×(List Int))=>uS p.1 p.2) n (s,acc)=some (acc++j0 s):=by
 intro n
 induction n with
 |zero=>omega
 |succ n ih=>
  intro s acc h1 h2;by_cases h:s=0#64
  ·grind [Sh.iter,uS,HF,aaN,j0,Bv.WX]
  ·obtain⟨e,_,_⟩:=Bv.NM s h
   have ha:abz 8 acc [((Bv.ctz s:Nat):Int)]=some (acc++[((Bv.ctz s:Nat):Int)]):=cA (by grind);have hb:uS s acc=some (.inl (s&&&(s - 1#64),acc++[((Bv.ctz s:Nat):Int)])):=by
    simp_all [uS,abo]
   grind [Sh.iter,j0]
@[simp] theorem lB(s:BitVec 64):G.lB s=some (j0 s):=by
 have:=Bv.oC s;have h:=WW Sh.s5 s [] (Nat.lt_of_le_of_lt this (aP (by omega))) (by simpa using this);simpa [G.lB,abt] using h
@[simp] theorem aaE(i:Int):tW i=some (decide (0≤i∧i≤63)):=by
 unfold tW;by_cases h:0≤i <;> simp[h]
theorem NW(i:Nat)(h:i≤63):um (i:Int)=some (1#64<<<i):=by
 refine count (fun k=>1#64<<<k) i _ (aP (by omega)) (fun k hk=> ?_) ?_ (by simp)
 ·simp only[qm,dec_lt,hk,bt,aY,abo,aH (k:=k) (by omega)]
  congr 3;apply BitVec.eq_of_toNat_eq;grind [BitVec.toNat_shiftLeft,apv]
 ·simp[qm,wj,aaN]
theorem Qw(s:BitVec 64)(k:Nat)(hk:k<64):decide (s / (1#64<<<k) % 2#64=1#64)=s.getLsbD k:=by
 have h1:(1#64<<<k).toNat=2 ^ k:=by
  have:2 ^ k<2 ^ 64:=apn (by omega) hk;grind [apv]
 have h2:(s / (1#64<<<k) % 2#64).toNat=s.toNat / 2 ^ k % 2:=by
  simp_all
 have h3:s.getLsbD k=decide (s.toNat / 2 ^ k % 2=1):=by
  grind [BitVec.getLsbD]
 rw[h3];congr 1;apply propext;constructor
 ·grind
 ·intro h;apply BitVec.eq_of_toNat_eq;grind
@[simp] theorem adL(s:BitVec 64)(i:Int):wQ s i=some (Bv.has s i):=by
 unfold wQ Bv.has;simp only[aaE,bp];by_cases h:0≤i∧i≤63
 ·obtain⟨k,rfl⟩:∃k:Nat,i=k:=⟨i.toNat,by omega⟩
  have hk:k<64:=by omega
  have hne:(1#64<<<k)≠0#64:=by
   intro h0;have:=congrArg (fun x:BitVec 64=>x.getLsbD k) h0;simp[hk] at this
  have e1:Sh.udiv s (1#64<<<k)=some (s / (1#64<<<k)):=by simp only[Sh.udiv,hne,ne_eq,not_false_eq_true,aY]
  simp only[h,bt,apS,dw,aR,NW k (by omega),bp,e1,Sh.umod];have e2:(2#64:BitVec 64)≠0#64:=by decide
  simp only[e2,ne_eq,not_false_eq_true,aY,bp,Qw s k hk];have:((k:Int)<64):=by omega
  simp[this]
 ·rw[dg h]
  by_cases h0:0≤i
  ·have:¬i<64:=by omega
   simp[h0,this]
  ·simp[h0]
theorem OR(s:BitVec 64){k:Nat}(hk:k<64):Bv.has s (k:Int)=s.getLsbD k:=by
 grind [Bv.has]
theorem abZ(s:BitVec 64)(k:Nat)(hk:k<64)(hb:s.getLsbD k=false):s+1#64<<<k=s|||1#64<<<k:=by
 rw[BitVec.add_eq_or_of_and_eq_zero];grind
theorem ahm(s:BitVec 64)(k:Nat)(hk:k<64)(hb:s.getLsbD k=true):s|||1#64<<<k=s:=by
 grind
@[simp] theorem aoE(s:BitVec 64)(i:Int):A6 s i=some (s|||Bv.bit i):=by
 unfold A6 rA;simp only[adL,aaE,bp];by_cases h:0≤i∧i≤63
 ·obtain⟨k,rfl⟩:∃k:Nat,i=k:=⟨i.toNat,by omega⟩
  have hk:k<64:=by omega
  have hbit:Bv.bit (k:Int)=1#64<<<k:=by unfold Bv.bit;rw[if_pos ⟨by omega,by omega⟩];simp
  have hh:Bv.has s (k:Int)=s.getLsbD k:=OR s hk;rw[hh,hbit];cases hb:s.getLsbD k with
  |true=>simp[ahm s k hk hb]
  |false=>simp[h,NW k (by omega),abZ s k hk hb]
 ·have hbit:Bv.bit i=0#64:=by unfold Bv.bit;rw[if_neg (by omega)]
  have hh:Bv.has s i=false:=by
   unfold Bv.has;by_cases h0:0≤i
   ·have:¬i<64:=by omega
    simp[this]
   ·simp[h0]
  simp[hh,hbit,h]
theorem VW(a b:BitVec 64):a&&& ~~~b=0#64↔∀i,a.getLsbD i=true→b.getLsbD i=true:=by
 constructor
 ·intro h i hi
  have:=congrArg (fun x:BitVec 64=>x.getLsbD i) h;grind
 ·intro h
  apply Bv.ext;grind
end Pl
namespace Pl
open Go Go.Av G
end Pl
end

section
namespace Pl
open Go Go.Av G
def row:Nat→(Nat→Bool)→BitVec 64
 |0,_=>0#64
 |n+1,p=>if p n then row n p|||(1#64<<<n) else row n p
theorem qH{n:Nat}(hn:n≤64)(p:Nat→Bool)(i:Nat):(row n p).getLsbD i=(decide (i<n)&&p i):=by
 induction n with
 |zero=>simp[row]
 |succ n ih=>
  unfold row;grind
def rows(n:Nat)(f:Nat→Nat→Bool):List (BitVec 64):=(aeD n).map fun x=>row n (f x)
@[simp] theorem RJ(n:Nat)(f:Nat→Nat→Bool):(rows n f).length=n:=by simp[rows]
theorem IC{n:Nat}{f:Nat→Nat→Bool}{x:Nat}(h:x<(rows n f).length):(rows n f)[x]=row n (f x):=by simp[rows]
theorem rI{n:Nat}{f:Nat→Nat→Bool}{x:Nat}(h:x<n):aaV (rows n f) (x:Int)=some (row n (f x)):=by
 simp_all [aU,IC]
abbrev gr(n:Nat)(f:Nat→Nat→Bool):aj:=⟨(n:Int),rows n f⟩
theorem FI{n:Nat}(hn:n≤64){p q:Nat→Bool}:row n p=row n q↔∀i,i<n→p i=q i:=by
 constructor
 ·intro h i hi
  have:=congrArg (fun x:BitVec 64=>x.getLsbD i) h;grind [qH]
 ·intro h
  apply Bv.ext;grind [qH]
theorem xX{n:Nat}(hn:n≤64){f h:Nat→Nat→Bool}:rows n f=rows n h↔∀x y,x<n→y<n→f x y=h x y:=by
 constructor
 ·intro e x y hx hy
  have h1:(rows n f)[x]? =(rows n h)[x]? :=by rw[e]
  rw[ab9 (by simp_all),ab9 (by grind),IC,IC] at h1;grind [FI]
 grind [rows,anE,FI]
def TX(N:Int)(R:List (BitVec 64)):Bool:=decide (0≤N∧N≤64∧(R.length:Int)=N∧∀r∈R,∀i:Nat,i<64→N≤(i:Int)→r.getLsbD i=false)
theorem TY{n:Nat}(hn:n≤64)(f:Nat→Nat→Bool):TX (n:Int) (rows n f)=true:=by
 refine eD ⟨by omega,by omega,by simp,fun r hr i _ hi=> ?_⟩;simp only[rows,aoI] at hr;grind [qH]
theorem NQ(n:Nat)(hn:n≤64)(i:Nat)(hi:i<64):((1#64<<<n) - 1#64).getLsbD i=decide (i<n):=by
 rcases aft n 64 with h|h
 ·have e:((1#64<<<n) - 1#64).toNat=2 ^ n - 1:=by
   have h1:2 ^ n<2 ^ 64:=apn (by omega) h;grind [apv]
  grind [BitVec.getLsbD]
 ·have:n=64:=by omega
  subst this;have e:(1#64<<<64) - 1#64=BitVec.allOnes 64:=by decide
  rw[e,BitVec.getLsbD_allOnes]
theorem Q7(l:List (BitVec 64))(i:Nat):(join l).getLsbD i=l.any (·.getLsbD i):=by
 have key:∀(l:List (BitVec 64)) (a:BitVec 64),(l.foldl (· ||| ·) a).getLsbD i=(a.getLsbD i||l.any (·.getLsbD i)):=by
  intro l
  induction l with
  |nil=>grind
  |cons x l ih=>grind
 simp[join,key]
theorem jc(g:aj)(hl:g.Rows.length<9223372036854775808):G.jc g=some (TX g.N g.Rows):=by
 unfold G.jc Et TX;by_cases h1:0≤g.N
 ·by_cases h2:g.N≤64
  ·by_cases h3:(g.Rows.length:Int)=g.N
   ·have hs:Sh.shl 1#64 g.N=some (1#64<<<g.N.toNat):=by simp[Sh.shl,h1]
    simp only[h1,h2,h3,bt,aY,p6 _ hl,hs,bp,zF,true_and,Option.some.injEq];congr 1;apply propext;rw[VW];constructor
    ·intro h r hr i hi hN
     cases hb:r.getLsbD i with
     |false=>rfl
     |true=>
      have:=h i (by rw[Q7,aj8];exact⟨r,hr,hb⟩);rw[NQ _ (by omega) i hi] at this;have:=of_decide_eq_true this;omega
    grind [NQ,Q7]
   grind
  grind
 grind
@[simp] theorem D7{n:Nat}(hn:n≤64)(f:Nat→Nat→Bool):G.jc (gr n f)=some true:=by
 rw[jc _ (by simp;omega)];exact congrArg some (TY hn f)
theorem fK(n:Nat)(hn:n≤64):G.fK (n:Int)=some (⟨(n:Int),aeR n 0#64⟩,0):=by
 unfold G.fK CW;have h1:¬(n:Int)<0:=by omega
 have h2:¬(64:Int)<(n:Int):=by omega
 simp only[h1,h2,b7,dw,aR,NO (show 8*n≤140737488355328 by omega) (show n≤4611686018427387904 by omega),bp]
theorem CA(n:Nat):aeR n 0#64=rows n (fun _ _=>false):=by
 unfold rows;apply akT (by simp);intro x h1 h2;simp only[List.getElem_replicate,ajJ];have:∀m,row m (fun _=>false)=0#64:=fun m=>by
  induction m with
  |zero=>rfl
  |succ m ih=>simp[row,ih]
 rw[this]
theorem aeb{n:Nat}(hn:n≤64)(p:Nat→Bool){k:Nat}(hk:k<n):Bv.has (row n p) (k:Int)=p k:=by
 grind [OR,qH]
theorem RH{n:Nat}(hn:n≤64)(p:Nat→Bool){b:Int}(hb:b<0∨(n:Int)≤b):Bv.has (row n p) b=false:=by
 grind [Bv.has,qH]
def hasB(n:Nat)(f:Nat→Nat→Bool)(a b:Int):Bool:=decide (0≤a∧a<n∧0≤b∧b<n)&&f a.toNat b.toNat
theorem wJ{n:Nat}(hn:n≤64)(f:Nat→Nat→Bool)(a b:Int):G.wJ (gr n f) a b=some (hasB n f a b):=by
 unfold G.wJ hasB;simp only[D7 hn,bp,aY];by_cases h1:0≤a
 ·by_cases h2:a<n
  ·obtain⟨k,rfl⟩:∃k:Nat,a=k:=⟨a.toNat,by omega⟩
   have hk:k<n:=by omega
   simp only[h1,h2,bt,aY,rI hk,bp,xF];by_cases h3:0≤b∧b<n
   ·grind [aeb]
   grind [RH]
  grind
 grind
theorem RI{n:Nat}(hn:n≤64)(p:Nat→Bool){k:Nat}(hk:k<n):row n p|||Bv.bit (k:Int)=row n (fun i=>p i||decide (i=k)):=by
 apply Bv.ext;intro i hi;rw[qH hn,BitVec.getLsbD_or,qH hn];have hb:Bv.bit (k:Int)=1#64<<<k:=by unfold Bv.bit;grind
 grind
theorem Cp{n:Nat}(f:Nat→Nat→Bool){x:Nat}(_hx:x<n)(p:Nat→Bool):(rows n f).set x (row n p)=rows n (fun a=>if a=x then p else f a):=by
 apply akT (by simp);intro a h1 h2;rw[List.getElem_set,IC,IC];grind
def SE(f:Nat→Nat→Bool)(a b:Nat):Nat→Nat→Bool:=fun x y=>f x y||decide (x=a∧y=b)
theorem ot{n:Nat}(hn:n≤64)(f:Nat→Nat→Bool){a b:Nat}(ha:a<n)(hb:b<n):G.ot (gr n f) (a:Int) (b:Int)=some (gr n (SE f a b),0):=by
 unfold G.ot sn;have h1:¬(a:Int)<0:=by omega
 have h2:¬(n:Int)≤(a:Int):=by omega
 have h3:¬(b:Int)<0:=by omega
 have h4:¬(n:Int)≤(b:Int):=by omega
 simp only[D7 hn,bp,apS,dw,aR,h1,h2,h3,h4,b7,fK n hn,YB (show(rows n f).length=(aeR n 0#64).length by simp),rI ha,p7,RI hn _ hb,lZ,Cp f ha];grind [rows,SE,xX]
def O5(f h:Nat→Nat→Bool)(k:Nat):Nat→Nat→Bool:=fun x y=>if x<k then h x y else f x y
theorem Rh{n:Nat}(f h:Nat→Nat→Bool):rows n (O5 f h 0)=rows n f:=by
 rfl
theorem VA{n:Nat}(hn:n≤64)(f h:Nat→Nat→Bool):rows n (O5 f h n)=rows n h:=by
 grind [xX,O5]
theorem VB{n:Nat}(hn:n≤64)(f h:Nat→Nat→Bool){k:Nat}(hk:k<n):(rows n (O5 f h k)).set k (row n (h k))=rows n (O5 f h (k+1)):=by
 grind [Cp,xX,O5]
theorem TZ{n:Nat}(hn:n≤64)(p q:Nat→Bool):row n p|||row n q=row n (fun i=>p i||q i):=by
 apply Bv.ext;grind [qH]

def Ki(f h:Nat→Nat→Bool):Nat→Nat→Bool:=fun x y=>f x y||h x y
theorem Vu{n m:Nat}(hn:n≤64)(hm:m≤64)(f h:Nat→Nat→Bool):z6 (gr n f) (gr m h)=some (decide (n=m)):=by
 grind [z6,D7]
theorem lz{n:Nat}(hn:n≤64)(f h:Nat→Nat→Bool):G.lz (gr n f) (gr n h)=some (gr n (Ki f h),0):=by
 unfold G.lz;simp only[Vu hn hn,bt,bp,apS,dw,aR,fK n hn];refine count (fun k=>rows n (O5 (fun _ _=>false) (Ki f h) k)) n _ (aP (by omega)) (fun k hk=> ?_) ?_ (by rw[Rh,CA])
 ·simp only[zZ,kD,amI,dec_lt,hk,bt,aY,rI hk,bp,LJ,TZ hn,lZ,abo,aH (k:=k) (by omega)]
  have:=VB hn (fun _ _=>false) (Ki f h) hk;rw[←this];rfl
 simp_all [zZ,Es,uC,VA]
theorem Ib{s:BitVec 64}{k:Nat}(h:k<(Bv.list s).length):aaV (j0 s) (k:Int)=some (((Bv.list s)[k]:Nat):Int):=by
 grind [j0,aU]
theorem Ag{n:Nat}(hn:n≤64)(p:Nat→Bool){i:Nat}:i∈Bv.list (row n p)↔i<n∧p i=true:=by
 grind [Bv.Im,qH]
theorem JZ{n:Nat}(hn:n≤64)(p:Nat→Bool){k:Nat}(h:k<(Bv.list (row n p)).length):(Bv.list (row n p))[k]<n:=((Ag hn p).1 (acI h)).1
theorem Yh{l:List Nat}{k:Nat}(h:k<l.length)(q:Nat→Bool):(l.take (k+1)).any q=((l.take k).any q||q l[k]):=by
 grind [ao3]
def HP(n:Nat)(f h:Nat→Nat→Bool):Nat→Nat→Bool:=fun x y=>(aeD n).any fun z=>f x z&&h z y
theorem Yy{n:Nat}(hn:n≤64)(f h:Nat→Nat→Bool)(x:Nat):row n (fun y=>(Bv.list (row n (f x))).any fun z=>h z y)=row n (HP n f h x):=by
 rw[FI hn];intro y _;unfold HP;rw[apB,aj8,aj8];constructor
 ·grind [Ag]
 ·grind [Ag]
theorem SU{n:Nat}(hn:n≤64)(h:Nat→Nat→Bool)(F:Nat→Nat→Bool){x:Nat}(hx:x<n)(p:Nat→Bool)(hF:∀y,y<n→F x y=false):
  abt (fun(q:(List (BitVec 64))×Int)=>su (gr n h) (x:Int) (j0 (row n p)) q.1 q.2) (rows n F,0)=
   some (.inl ((rows n F).set x (row n (fun y=>(Bv.list (row n p)).any fun z=>h z y)),((x+1:Nat):Int))):=by
 refine count (fun k=>(rows n F).set x (row n (fun y=>((Bv.list (row n p)).take k).any fun z=>h z y))) (Bv.list (row n p)).length _ (aP (by grind [Bv.oC])) (fun k hk=> ?_) ?_ ?_
 ·have hz:=JZ hn p hk
  have hl:arA (j0 (row n p))=((Bv.list (row n p)).length:Int):=by simp[j0,arA]
  have hs:∀r:BitVec 64,aaV ((rows n F).set x r) (x:Int)=some r:=fun r=>by
   simp_all [aU]
  simp only[su,hl,dec_lt,hk,bt,aY,Ib hk,bp,hs,rI hz,LJ,TZ hn,lZ,aoQ,abo,aH (show k<9223372036854775807 by grind [Bv.oC])];grind [Yh]
 ·have hl:arA (j0 (row n p))=((Bv.list (row n p)).length:Int):=by simp[j0,arA]
  simp only[su,hl,aqg,b7,dw,aR,Cb,NP,uC,aoZ,aH (k:=x) (by omega)]
 ·rw[Cp _ hx,xX hn]
  intro a y _ hy;by_cases ha:a=x
  ·simp_all
  grind
theorem nK{n:Nat}(hn:n≤64)(f h:Nat→Nat→Bool):G.nK (gr n f) (gr n h)=some (gr n (HP n f h),0):=by
 unfold G.nK;simp only[Vu hn hn,bt,bp,apS,dw,aR,fK n hn];refine count (fun k=>rows n (O5 (fun _ _=>false) (HP n f h) k)) n _ (aP (by omega)) (fun k hk=> ?_) ?_ (by rw[Rh,CA])
 ·simp only[wI,kD,amI,dec_lt,hk,bt,aY,rI hk,bp,lB]
  simp_all [SU,O5,Yy,VB]
 simp_all [wI,Ca,uC,VA]
def AY(n:Nat)(f:Nat→Nat→Bool):List bn:=(aeD n).flatMap fun x=>(j0 (row n (f x))).map fun y=>⟨(x:Int),y⟩
theorem S0(n:Nat)(f:Nat→Nat→Bool)(k:Nat)(_h:k<n):((aeD (k+1)).flatMap fun x=>(j0 (row n (f x))).map fun y=>(⟨(x:Int),y⟩:bn))=((aeD k).flatMap fun x=>(j0 (row n (f x))).map fun y=>(⟨(x:Int),y⟩:bn))++(j0 (row n (f k))).map fun y=>⟨(k:Int),y⟩:=by
 grind [aoP]
theorem Nv(n:Nat)(f:Nat→Nat→Bool)(k:Nat):((aeD k).flatMap fun x=>(j0 (row n (f x))).map fun y=>(⟨(x:Int),y⟩:bn)).length≤64*k:=by
 induction k with
 |zero=>simp
 |succ k ih=>
  grind [aoP,NG]
theorem Qy(x:Nat)(hx:x<64)(s:BitVec 64)(acc:List bn)(hacc:acc.length≤4096):
  abt (fun(p:(List bn)×Int)=>u9 (x:Int) (j0 s) p.1 p.2) (acc,0)=some (.inl (acc++(j0 s).map (fun y=>⟨(x:Int),y⟩),((x+1:Nat):Int))):=by
 have hl:=NG s;refine count (fun k=>acc++((j0 s).take k).map (fun y=>⟨(x:Int),y⟩)) (j0 s).length _ (aP (by omega)) (fun k hk=> ?_) ?_ (by simp)
 ·simp only[u9,kD,dec_lt,hk,bt,aY,aU hk,bp]
  grind [cA,abo,aH,ao3]
 ·simp only[u9,kD,aqg,b7,dw,aR,Er,NP,uC,aoZ,aH (k:=x) (by omega)]
theorem q_{n:Nat}(hn:n≤64)(f:Nat→Nat→Bool):G.q_ (gr n f)=some (AY n f):=by
 unfold G.q_;simp only[D7 hn,bp,apS,dw,aR];refine count (fun k=>(aeD k).flatMap fun x=>(j0 (row n (f x))).map fun y=>⟨(x:Int),y⟩) n _ (aP (by omega)) (fun k hk=> ?_) ?_ (by simp)
 ·have hl:=Nv n f k
  simp only[zY,kD,RJ,dec_lt,hk,bt,aY,rI hk,bp,lB];rw[Qy k (by omega) _ _ (by omega),S0 n f k hk]
 ·simp only[zY,kD,RJ,aqg,b7,dw,aR,Ep,uC]
  rfl
theorem Jq{n:Nat}(hn:n≤64)(f:Nat→Nat→Bool){e:bn}:e∈AY n f↔∃x y:Nat,x<n∧y<n∧f x y=true∧e=⟨(x:Int),(y:Int)⟩:=by
 simp only[AY,aoB,agW,aoI,j0,Ag hn];constructor
 ·grind
 ·rintro⟨x,y,hx,hy,hf,rfl⟩
  exact⟨x,hx,_,⟨y,⟨hy,hf⟩,rfl⟩,rfl⟩
theorem YI{n:Nat}(hn:n≤64)(f:Nat→Nat→Bool):(AY n f).length≤4096:=by
 have:=Nv n f n;unfold AY;omega

def yS(f:Nat→Nat→Bool):Nat→Nat→Bool:=fun x y=>f y x
def Lr(l:List bn):Nat→Nat→Bool:=fun x y=>l.any fun e=>decide (e.B=(x:Int))&&decide (e.A=(y:Int))
theorem YX{n:Nat}(hn:n≤64)(l:List bn){x y:Nat}(hx:x<n)(hy:y<n):
  (rows n (Lr l)).set x (row n (Lr l x)|||Bv.bit (y:Int))=rows n (Lr (l++[⟨(y:Int),(x:Int)⟩])):=by
 rw[RI hn _ hy,Cp _ hx,xX hn];intro a b _ _;unfold Lr;by_cases ha:a=x
 ·subst ha
  grind
 ·have:¬x=a:=fun h=>ha h.symm
  simp_all [Int.ofNat_inj]
theorem ko{n:Nat}(hn:n≤64)(f:Nat→Nat→Bool):G.ko (gr n f)=some (gr n (yS f),0):=by
 unfold G.ko;simp only[D7 hn,bp,apS,dw,aR,fK n hn,q_ hn];have hl:=YI hn f;refine count (fun k=>rows n (Lr ((AY n f).take k))) (AY n f).length _ (aP (by omega)) (fun k hk=> ?_) ?_ ?_
 ·obtain⟨x,y,hx,hy,_,he⟩:=(Jq hn f).1 (acI hk)
  simp only[BF,kD,dec_lt,hk,bt,aY,aU hk,bp,he,rI hy,p7,lZ,YX hn _ hy hx,abo,aH (k:=k) (by omega)];rw[ao3 hk,he]
 ·simp only[BF,kD,aqg,b7,dw,aR,Gf,uC,aoZ]
  have:rows n (Lr (AY n f))=rows n (yS f):=by
   rw[xX hn];intro x y hx hy;unfold Lr yS;rw[apB,aj8];constructor
   ·rintro⟨e,h1,h2⟩
    obtain⟨a,b,_,_,h5,rfl⟩:=(Jq hn f).1 h1;grind
   ·intro h
    exact⟨⟨(y:Int),(x:Int)⟩,(Jq hn f).2 ⟨y,x,hy,hx,h,rfl⟩,by simp⟩
  rw[this]
 ·rw[CA];rfl
end Pl
end

section
namespace Pl
open Go Go.Av G
end Pl
namespace Pl
open Go Go.Av G
end Pl
end

section
namespace Pl
open Go Go.Av G
inductive Way (n:Nat) (f:Nat→Nat→Bool):Nat→Nat→Prop
 |yf {x y:Nat}:x<n→y<n→f x y=true→Way n f x y
 |cons {x y z:Nat}:x<n→y<n→f x y=true→Way n f y z→Way n f x z

theorem Way.trans{n:Nat}{f:Nat→Nat→Bool}{x y z:Nat}(h:Way n f x y)(k:Way n f y z):Way n f x z:=by
 induction h with
 |yf hx hy hf=>exact .cons hx hy hf k
 |cons hx hy hf _ ih=>exact .cons hx hy hf (ih k)
theorem Way.left{n:Nat}{f:Nat→Nat→Bool}{x y:Nat}(h:Way n f x y):x<n:=by cases h <;> assumption
theorem Way.right{n:Nat}{f:Nat→Nat→Bool}{x y:Nat}(h:Way n f x y):y<n:=by
 induction h with
 |yf _ hy _=>exact hy
 |cons _ _ _ _ ih=>exact ih
theorem Way.snoc{n:Nat}{f:Nat→Nat→Bool}{x y z:Nat}(h:Way n f x y)(hz:z<n)(hf:f y z=true):Way n f x z:=h.trans (.yf h.right hz hf)
theorem Way.mono{n:Nat}{f h:Nat→Nat→Bool}(hm:∀x y,x<n→y<n→f x y=true→Way n h x y){x y:Nat}(w:Way n f x y):Way n h x y:=by
 induction w with
 |yf hx hy hf=>grind
 |cons hx hy hf _ ih=>grind [trans]
theorem Way.last{n:Nat}{f:Nat→Nat→Bool}{x z:Nat}(h:Way n f x z):∃y,y<n∧f y z=true∧(y=x∨Way n f x y):=by
 induction h with
 |yf hx hy hf=>grind
 |cons hx hy hf _ ih=>
  obtain⟨y,h1,h2,h3⟩:=ih
  refine⟨y,h1,h2,.inr ?_⟩
  rcases h3 with rfl|h3
  ·exact .yf hx hy hf
  ·exact .cons hx hy hf h3

theorem acg(k i:Nat)(hk:k<64):(Bv.bit (k:Int)).getLsbD i=decide (i=k):=by
 have hb:Bv.bit (k:Int)=1#64<<<k:=by unfold Bv.bit;grind
 grind
noncomputable def arh(n:Nat)(f:Nat→Nat→Bool):Bool:= @decide (∃x,Way n f x x) (Classical.propDecidable _)


theorem sD{h:af}{x:Nat}:inr h (x:Int)=true↔x<h.aL.length:=by rw[jH];omega
theorem CY{h:af}{x:Nat}(hx:x<h.aL.length):aaV h.aL (x:Int)=some (tx h x):=z_ (sD.2 hx)
theorem IS{h:af}{x:Nat}(hx:x<h.aL.length):tx h x∈h.aL:=yE (sD.2 hx)
def soF(h:af)(x y:Nat):Bool:=decide (x<y)&&decide ((tx h x).aI=(tx h y).aI)
def wrF(h:af)(x y:Nat):Bool:=(tx h y).Reads.any (fun r=>decide (r.eu=(x:Int)))
def acX(h:af)(r:aO)(y:Nat):Bool:=decide (r.eu= -1)&&ku (tx h y) r.Key
def Tn(h:af)(x y:Nat):Bool:=decide (y≠x)&&(tx h x).Reads.any (fun r=>acX h r y)
def XP(l:List aa)(x y:Nat):Bool:=l.any (fun c=>decide (c.A=(x:Int))&&decide (c.B=(y:Int)))
def Xr(h:af)(c:aa)(x y:Nat):Bool:=decide (c.B=(y:Int))&&decide (x≠y)&&decide (JX h x c.Key=some c.A)
def PY(h:af)(l:List aa)(x y:Nat):Bool:=Tn h x y||l.any (fun c=>Xr h c x y)


theorem R4{α:Type}{l:List α}{k:Nat}(h:k<l.length)(q:α→Bool):(l.take (k+1)).any q=((l.take k).any q||q l[k]):=by
 rw[aoR,ab9 h,apj,List.any_append,List.any_cons,List.any_nil,Bool.or_false]
theorem acw{h:af}(hr:right h=true){t:Nat}(ht:t<h.aL.length){r:aO}(hm:r∈(tx h t).Reads)(h0:¬r.eu<0):∃x:Nat,r.eu=(x:Int)∧x<h.aL.length:=by
 have:=(acy hr (IS ht) hm h0).1;obtain⟨a,b⟩:=jH.1 this;exact⟨r.eu.toNat,by omega,by omega⟩
theorem VI{h:af}{c:aa}(h1:one h c=true):∃a b:Nat,c.A=(a:Int)∧c.B=(b:Int)∧a<h.aL.length∧b<h.aL.length∧a≠b∧ku (tx h a) c.Key=true∧ku (tx h b) c.Key=true:=by
 simp only[one,aiq,dI] at h1;obtain⟨⟨⟨⟨d,e⟩,f⟩,g⟩,k⟩:=h1;have e':=jH.1 e;have f':=jH.1 f;have ea:c.A=((c.A.toNat:Nat):Int):=by omega
 have eb:c.B=((c.B.toNat:Nat):Int):=by omega
 grind
def tY(h:af)(key frm:Int):List Nat:=(aeD h.aL.length).filter fun t:Nat=>decide (JX h t key=some frm)
theorem L8{h:af}{key frm:Int}{t:Nat}(ht:t∈tY h key frm):t<h.aL.length∧JX h t key=some frm:=by
 grind [tY]
theorem RB{h:af}{key frm:Int}:(tY h key frm).length≤h.aL.length:=by
 grind [tY]
def dF(h:af)(l:List aa):Nat→Nat→Bool:=Ki (Ki (soF h) (wrF h)) (XP l)
def q8(h:af)(lev:Int)(l:List aa):Nat→Nat→Bool:=
 Ki (dF h l) (if lev=1 then HP h.aL.length (dF h l) (PY h l) else PY h l)
noncomputable def ar0(h:af)(lev:Int)(l:List aa):Bool:= !arh h.aL.length (q8 h lev l)
theorem Jd{h:af}{s:List aa}{x y:Nat}(hd:direct h s x y=true):dF h s x y=true:=by
 unfold direct YD at hd
 simp only[aiq,ajm,dI,aj8] at hd
 unfold dF Ki
 simp only[ajm]
 rcases hd.2 with(h1|h1)|h1
 ·left;left
  unfold soF
  simp only[aiq,dI]
  exact⟨by omega,h1.2⟩
 ·left;right
  unfold wrF
  simp only[aj8,dI]
  exact h1
 ·right
  obtain⟨c,hc,hw⟩:=h1
  unfold isW at hw
  unfold XP
  simp only[aiq,dI] at hw
  simp only[aj8,aiq,dI]
  exact⟨c,hc,hw.1.1.1.1,hw.1.1.1.2⟩
theorem P9{h:af}{s:List aa}{x y:Nat}(hx:x<h.aL.length)(hd:GG h s x y=true):PY h s x y=true:=by
 unfold GG SG isO two at hd
 simp only[aiq,ajm,dI,aj8] at hd
 obtain⟨⟨⟨hr,_⟩,_⟩,hne,r,hm,hw,ho⟩:=hd
 unfold PY
 rw[ajm]
 rcases ho with h0|⟨_,c,hc,he⟩
 ·left
  have h1:=(YW hr (IS hx) hm).1 h0
  unfold Tn acX
  simp only[aiq,dI,aj8]
  exact⟨by omega,r,hm,h1,hw⟩
 ·right
  subst he
  simp only[aj8]
  refine⟨_,hc, ?_⟩
  unfold Xr
  simp only[aiq,dI]
  refine⟨⟨by simp,by omega⟩, ?_⟩
  rw[zv hr (sD.2 hx)]
  simp only[aj8,dI]
  exact⟨r,hm,rfl⟩
theorem WA{h:af}{lev:Int}{s:List aa}{x y:Nat}(hx:x<h.aL.length)(hd:yf h lev s x y=true):q8 h lev s x y=true:=by
 unfold yf at hd
 unfold q8 Ki
 rw[ajm]
 by_cases h0:lev=0
 ·subst h0
  simp only[aY,ajm] at hd
  rcases hd with hd|hd
  ·exact .inl (Jd hd)
  ·right
   simp only[show ¬((0:Int)=1) by omega,aR]
   exact P9 hx hd
 ·by_cases h1:lev=1
  ·subst h1
   simp only[show ¬((1:Int)=0) by omega,aR,aY,aj8,agW,aiq,ajm,dI] at hd
   obtain⟨m,hm,X2,H9⟩:=hd
   rcases H9 with H9|H9
   ·left
    have:m=y:=by omega
    subst this
    exact Jd X2
   ·right
    simp only[aY]
    unfold HP
    simp only[aj8,agW,aiq]
    exact⟨m,hm,Jd X2,P9 hm H9⟩
  ·simp[h0,h1] at hd
theorem U3{h:af}{lev:Int}{s:List aa}{x y:Int}(hd:yf h lev s x y=true):inr h x=true∧inr h y=true:=by
 unfold yf direct GG two at hd
 by_cases h0:lev=0
 ·simp only[h0,aY,ajm,aiq] at hd
  rcases hd with hd|hd <;> exact⟨hd.1.1.2,hd.1.2⟩
 ·by_cases h1:lev=1
  ·simp only[h0,h1,aR,aY,aj8,aiq,ajm,show ¬((1:Int)=0) by omega,dI] at hd
   obtain⟨m,hm,X2,H9⟩:=hd
   refine⟨X2.1.1.2, ?_⟩
   rcases H9 with H9|H9
   ·rw[←H9];exact X2.1.2
   ·exact H9.1.2
  ·simp[h0,h1] at hd
def eW(h:af)(key:Int):List Int:=if right h then((aeD h.aL.length).filter fun t:Nat=>ku (tx h t) key).map fun t:Nat=>(t:Int) else []
theorem Rx{h:af}(hf:Fits h)(hn:h.aL.length≤64)(key:Int):jQ h key=some (eW h key):=by
 unfold jQ eW;rw[aiu hf];cases hr:right h with
 |false=>
  rfl
 |true=>
  refine h_ (fun k=>((((aeD k).filter fun t:Nat=>ku (tx h t) key).map fun t:Nat=>(t:Int)),true,(k:Int))) h.aL.length _ (aP (by omega)) (fun k hk=> ?_) ?_ rfl
  ·have hle:((aeD k).filter fun t:Nat=>ku (tx h t) key).length≤k:=by
    grind
   simp only[ow,aY,j8,dec_lt,hk,bt,CY hk,bp,VR (hf.writes _ (IS hk))];rw[aoP,akY,amQ];cases hw:ku (tx h k) key with
   |false=>grind [j9,aH,abo]
   |true=>
    grind [cA,j9,aH,abo]
  simp_all [ow,j8,uH]
theorem rT{h:af}{key:Int}:(eW h key).length≤h.aL.length:=by
 grind [eW]
theorem xS{h:af}(hr:right h=true){key x:Int}:x∈eW h key↔inr h x=true∧ku (tx h x) key=true:=by
 unfold eW;rw[if_pos hr];simp only[aoI,aow,agW];constructor
 ·grind [sD]
 ·rintro⟨h1,h2⟩
  obtain⟨a,b⟩:=jH.1 h1;refine⟨x.toNat,⟨by omega, ?_⟩,by omega⟩;grind
theorem AL{h:af}{key:Int}:(eW h key).Pairwise (· < ·):=by
 unfold eW;split
 ·grind [aoN]
 ·exact .nil

def vo(key:Int)(ws:List Int)(i:Nat):List aa:=(ws.drop (i+1)).map fun w=>⟨key,ws.getD i 0,w⟩
def vp(key:Int)(ws:List Int):List aa:=(aeD ws.length).flatMap (vo key ws)
def bB(h:af):List aa:=(aeD 16).flatMap fun k:Nat=>vp k (eW h k)
theorem Ek{α:Type}(f:Nat→List α)(b:Nat)(hb:∀k,(f k).length≤b):∀n,((aeD n).flatMap f).length≤n*b:=by
 intro n
 induction n with
 |zero=>simp
 |succ n ih=>
  rw[aoP,List.flatMap_append,amB];grind
theorem G1(key:Int)(ws:List Int)(i:Nat):(vo key ws i).length≤ws.length:=by simp[vo]
theorem G2(key:Int)(ws:List Int):(vp key ws).length≤ws.length*ws.length:=Ek _ _ (G1 key ws) _
theorem B_{α:Type}(f:Nat→List α)(k:Nat):(aeD (k+1)).flatMap f=(aeD k).flatMap f++f k:=by
 grind [aoP]
theorem Xi{h:af}(hf:Fits h)(hn:h.aL.length≤64):o_ h=some (bB h):=by
 have hkk:∀k:Nat,(vp k (eW h k)).length≤4096:=fun k=>by
  have h1:=G2 (k:Int) (eW h k);have h2:(eW h (k:Int)).length≤64:=afp rT hn;exact afp h1 (apl h2 h2)
 refine cB (fun k=>(aeD k).flatMap fun k:Nat=>vp k (eW h k)) 16 _ (by decide) (fun k hk=> ?_) ?_ rfl
 ·have Lz:(k:Int)<16:=by omega
  have Vj:(eW h (k:Int)).length≤64:=afp rT hn;have hout:=Ek (fun k:Nat=>vp k (eW h k)) 4096 hkk k;simp only[we,Lz,bt,aY,Rx hf hn,bp];rw[B_];generalize ((aeD k).flatMap fun k:Nat=>vp k (eW h k))=out at hout;generalize eW h (k:Int)=ws at Vj;refine cB (fun i=>out++(aeD i).flatMap (vo k ws)) ws.length _ (aP (by omega)) (fun i hi=> ?_) ?_ (by simp)
  ·have ho3:=Ek (vo (k:Int) ws) 64 (fun i=>afp (G1 _ _ _) Vj) i
   simp only[qk,dec_lt,hi,bt,aY];rw[aH (by omega),B_,←aj9];have ho5:(out++(aeD i).flatMap (vo (k:Int) ws)).length≤100000:=by grind
   generalize out++(aeD i).flatMap (vo (k:Int) ws)=atl at ho5;refine h_ (fun j=>(atl++((ws.drop (i+1)).take j).map fun w=>⟨(k:Int),ws.getD i 0,w⟩,((i+1+j:Nat):Int))) (ws.length - (i+1)) _ (aP (by omega)) (fun j hj=> ?_) ?_ (by simp)
   ·have hb:i+1+j<ws.length:=by omega
    have hd:ws.getD i 0=ws[i]:=by grind
    have Sp:j<(ws.drop (i+1)).length:=by grind
    simp only[ql,dec_lt,hb,bt,aY,aU hi,aU hb,bp];rw[cA (by grind)];simp only[bp,aH (k:=i+1+j) (by omega),abo];grind [aoR]
   ·rw[show i+1+(ws.length - (i+1))=ws.length by omega]
    simp only[ql,dec_lt,afr,b7,dw,aR,wh,aH (k:=i) (by omega),abo];rw[aha (by simp)];rfl
  ·simp only[qk,dec_lt,afr,b7,dw,aR,wg,aH (k:=k) (by omega),abo]
   rfl
 rfl

theorem Jx{h:af}(hr:right h=true){c:aa}(hc:c∈bB h):one h c=true:=by
 unfold bB vp vo at hc;simp only[aoB,agW,aoI] at hc;obtain⟨k,hk,i,hi,w,hw,rfl⟩:=hc;have hd:(eW h (k:Int)).getD i 0=(eW h (k:Int))[i]:=by grind
 have m1:=(xS hr).1 (acI hi);have m2:=(xS hr).1 (List.mem_of_mem_drop hw);have hlt:(eW h (k:Int))[i]<w:=by
  have hs:=AL (h:=h) (key:=(k:Int));rw[aoM] at hs;obtain⟨j,hj,rfl⟩:=amt hw;rw[ams];simp only[amC] at hj;exact hs i (i+1+j) hi (by omega) (by omega)
 unfold one;grind
theorem Vd{h:af}(hr:right h=true){t:aJ}(ht:t∈h.aL){k:Int}(hw:ku t k=true):0≤k∧k<16:=by
 have key:∀(l:List aJ) (n:Nat),uK h n l=true→∀t∈l,rising (-1) t.bA=true:=by
  intro l
  induction l with
  |nil=>grind
  |cons x l ih=>
   intro n hn t ht;rw[show uK h n (x::l)=(J3 h (n:Nat) x&&uK h (n+1) l) from rfl,aiq] at hn;rcases List.mem_cons.1 ht with rfl|ht
   ·simp_all [J3]
   grind
 have hri:rising (-1) t.bA=true:=by
  simp only[right,aiq] at hr;grind
 have bd:∀(l:List Int) (last:Int),rising last l=true→∀x∈l,last<x∧x<16:=by
  intro l
  induction l with
  |nil=>grind
  |cons y l ih=>
   intro last hl x hx;rw[show rising last (y::l)=(decide (last<y)&&decide (y<16)&&rising y l) from rfl] at hl;grind
 unfold ku at hw;grind
theorem Xa{h:af}(hr:right h=true){c:aa}(hc:one h c=true):c∈bB h∨back c∈bB h:=by
 have mk:∀(K x y:Int),inr h x=true→inr h y=true→ku (tx h x) K=true→ku (tx h y) K=true→x<y→(⟨K,x,y⟩:aa)∈bB h:=by
  intro K x y hx hy wx wy hlt;obtain⟨k0,k1⟩:=Vd hr (yE hx) wx;have ek:K=((K.toNat:Nat):Int):=by omega
  generalize K.toNat=k at ek;subst ek;have mx:=(xS hr).2 ⟨hx,wx⟩;have my:=(xS hr).2 ⟨hy,wy⟩;obtain⟨i,hi,ei⟩:=amt mx;obtain⟨j,hj,ej⟩:=amt my;have hs:=AL (h:=h) (key:=(k:Int));rw[aoM] at hs;have hij:i<j:=by
   grind
  unfold bB vp vo;simp only[aoB,agW,aoI];refine⟨k,by omega,i,hi,y, ?_, ?_⟩
  ·rw[List.mem_iff_getElem]
   refine⟨j - (i+1),by grind, ?_⟩;grind
  grind
 simp only[one,aiq,dI] at hc;obtain⟨⟨⟨⟨d,e⟩,f⟩,g⟩,k⟩:=hc;by_cases hlt:c.A<c.B
 ·simp_all
 ·exact .inr (mk c.Key c.B c.A f e k g (by omega))

inductive Yc:List aa→List aa→Prop
 |nil:Yc [] []
 |so {x:aa} {r s:List aa}:Yc r s→Yc (x::r) (x::s)
 |not {x:aa} {r s:List aa}:Yc r s→Yc (x::r) (back x::s)
theorem Yc.len{r s:List aa}(h:Yc r s):s.length=r.length:=by induction h <;> simp_all
theorem Yc.mem{r s:List aa}(h:Yc r s):∀c∈r,c∈s∨back c∈s:=by
 induction h with
 |nil=>grind
 |so _ ih=>
  grind
 |not _ ih=>
  grind
theorem Yc.all{r s:List aa}(h:Yc r s){p:aa→Prop}(h1:∀c∈r,p c)(h2:∀c,p c→p (back c)):∀c∈s,p c:=by
 induction h with
 |nil=>omega
 |so _ ih=>
  grind
 |not _ ih=>
  grind
theorem LU{h:af}{c:aa}(h1:one h c=true):one h (back c)=true:=by
 simp only[one,back,aiq,dI] at*;grind
theorem UP:∀{a b:List Int},a.Pairwise (· < ·)→b.Pairwise (· < ·)→(∀x,x∈a↔x∈b)→a=b
 |[],[],_,_,_=>rfl
 |[],y::b,_,_,h=>absurd ((h y).2 (ad2 ..)) (by simp)
 |x::a,[],_,_,h=>absurd ((h x).1 (ad2 ..)) (by simp)
 |x::a,y::b,ha,hb,h=>by
  rw[List.pairwise_cons] at ha hb
  have hxy:x=y:=by
   rcases List.mem_cons.1 ((h x).1 (ad2 ..)) with e|e
   ·exact e
   ·rcases List.mem_cons.1 ((h y).2 (ad2 ..)) with e2|e2
    ·exact e2.symm
    ·have h1:=hb.1 x e
     have h2:=ha.1 y e2
     omega
  subst hxy
  have:a=b:=UP ha.2 hb.2 fun z=>⟨fun hz=>by
   rcases List.mem_cons.1 ((h z).1 (adU _ hz)) with e|e
   ·subst e;have:=ha.1 z hz;omega
   ·exact e,fun hz=>by
   rcases List.mem_cons.1 ((h z).2 (adU _ hz)) with e|e
   ·subst e;have:=hb.1 z hz;omega
   ·exact e⟩
  rw[this]

theorem Qu(l:List Int)(x:Int):x∈Lib.compact l↔x∈l:=by
 unfold Lib.compact Lib.compactUpTo
 simp only[aoI,aow,agW]
 constructor
 ·rintro⟨j,⟨hj,_⟩,rfl⟩
  simp[hj]
 ·intro hx
  obtain⟨i,hi,hix⟩:=amt hx
  have hex:∃i,i<l.length∧l.toArray[i]! =x:=⟨i,hi,by simp[hi,hix]⟩
  obtain⟨k,⟨hk,hkx⟩,hmin⟩:=exists_least _ hex
  refine⟨k,⟨hk, ?_⟩,hkx⟩
  unfold Lib.keeps
  rw[dI]
  by_cases h0:k=0
  ·exact .inl h0
  ·refine .inr fun he=> ?_
   have:=hmin (k - 1) ⟨by omega,by rw[←he];exact hkx⟩
   omega
theorem Ld(l:List Int)(hs:l.Pairwise (· ≤ ·)):(Lib.compact l).Pairwise (· < ·):=by
 unfold Lib.compact Lib.compactUpTo
 rw[aoO]
 refine List.Pairwise.imp_of_mem (R:=fun a b:Nat=>a<b) (fun{a b} ha hb hab=> ?_) (List.Pairwise.filter _ aoN)
 simp only[aow,agW] at ha hb
 have hk:=hb.2
 unfold Lib.keeps at hk
 rw[dI] at hk
 have Lz:=hk.resolve_left (by omega)
 have e1:l.toArray[a]! =l[a]:=by simp[ha.1]
 have e2:l.toArray[b]! =l[b]:=by simp[hb.1]
 have e3:l.toArray[b - 1]! =l[b - 1]'(by omega):=by simp[show b - 1<l.length by omega]
 rw[e2,e3] at Lz
 rw[e1,e2]
 have le:∀i j (hi:i<l.length) (hj:j<l.length),i≤j→l[i]≤l[j]:=fun i j hi hj hij=>by
  rcases aft i j with h|h
  ·exact List.pairwise_iff_getElem.1 hs i j hi hj h
  ·have:i=j:=by omega
   subst this;exact Int.le_refl _
 have h1:=le a (b - 1) (by omega) (by omega) (by omega)
 have h2:=le (b - 1) b (by omega) hb.1 (by omega)
 omega
theorem Py(l r:List Int)(hr:r.Pairwise (· < ·))(hm:∀x,x∈r↔x∈l):Lib.compact (l.mergeSort fun x y=>decide (x≤y))=r:=by
 refine UP (Ld _ ?_) hr fun x=> ?_
 ·have h:=List.pairwise_mergeSort (le:=fun x y:Int=>decide (x≤y)) (fun a b c h1 h2=>by simp at h1 h2 ⊢;omega) (fun a b=>by simp;omega) l
  exact h.imp fun{a b} hab=>by simpa using hab
 ·rw[Qu,List.mem_mergeSort,hm]
theorem aen{l:List Int}(h:l.length<4611686018427387904):Sh.sort l=some (l.mergeSort fun x y=>decide (x≤y)):=by rw[←Sh.Q6];exact if_pos h
theorem SV{l:List Int}(h:l.length<4611686018427387904):Sh.compact l=some (Lib.compact l):=if_pos h
theorem eP{h:af}(hr:right h=true):h.aL.length≤32:=by
 simp_all [right]
theorem N3{h:af}(hr:right h=true){t:aJ}(ht:t∈h.aL):∃n:Int,J3 h n t=true:=by
 simp only[right,aiq] at hr;have key:∀(l:List aJ) (n:Nat),uK h n l=true→∀t∈l,∃n:Int,J3 h n t=true:=by
  intro l
  induction l with
  |nil=>grind
  |cons x l ih=>
   intro n hn t ht;rw[show uK h n (x::l)=(J3 h (n:Nat) x&&uK h (n+1) l) from rfl,aiq] at hn;grind
 grind
theorem Mb:∀{l:List Int} {last:Int},rising last l=true→last≤15→(l.length:Int)≤15 - last
 |[],last,_,h=>by grind
 |x::l,last,hr,h=>by
  rw[show rising last (x::l)=(decide (last<x)&&decide (x<16)&&rising x l) from rfl] at hr;simp only[aiq,dI] at hr;have:=Mb hr.2 (by omega);grind
theorem Mc:∀{l:List Int} {last:Int},rising last l=true→∀x∈l,last<x∧x<16
 |[],_,_,x,hx=>by cases hx
 |y::l,last,hr,x,hx=>by
  rw[show rising last (y::l)=(decide (last<y)&&decide (y<16)&&rising y l) from rfl] at hr;simp only[aiq,dI] at hr;rcases List.mem_cons.1 hx with rfl|hx
  ·exact hr.1
  ·have:=Mc hr.2 x hx;omega
theorem Od{h:af}{n:Int}:∀{l:List aO} {last:Int},jW h n last l=true→last≤15→(l.length:Int)≤15 - last
 |[],last,_,h=>by grind
 |x::l,last,hr,h2=>by
  rw[show jW h n last (x::l)=(decide (last<x.Key)&&decide (x.Key<16)&&there h n x&&jW h n x.Key l) from rfl] at hr;simp only[aiq,dI] at hr;have:=Od hr.2 (by omega);grind
theorem Dq{h:af}(hr:right h=true){t:aJ}(ht:t∈h.aL):rising (-1) t.bA=true∧t.bA.length≤16:=by
 obtain⟨n,hn⟩:=N3 hr ht;simp only[J3,aiq] at hn;have:=Mb hn.1.1.1 (by omega);grind
theorem Bi{h:af}(hr:right h=true){t:aJ}(ht:t∈h.aL):∃n:Int,jW h n (-1) t.Reads=true∧t.Reads.length≤16:=by
 obtain⟨n,hn⟩:=N3 hr ht;simp only[J3,aiq] at hn;have:=Od hn.1.1.2 (by omega);grind

theorem Ro{h:af}(hf:Fits h)(key:Int):p_ h key=some (eW h key):=by
 unfold p_ eW;rw[uq hf];simp only[bp];cases hr:right h with
 |false=>rfl
 |true=>
  have hn:=eP hr;refine cB (fun k=>((aeD k).filter fun t:Nat=>ku (tx h t) key).map fun t:Nat=>(t:Int)) h.aL.length _ (aP (by omega)) (fun k hk=> ?_) ?_ rfl
  ·have hle:((aeD k).filter fun t:Nat=>ku (tx h t) key).length≤k:=by
    grind
   have hw:=hf.writes _ (IS hk);simp only[wO,dec_lt,hk,bt,aY,CY hk,bp];rw[LY (by omega),aoP,akY,amQ];have e:(tx h (k:Int)).bA.any (fun x=>decide (key=x))=ku (tx h (k:Int)) key:=rfl;cases hw:ku (tx h k) key with
   |false=>grind [sw,aH,abo]
   |true=>
    grind [cA,sw,aH,abo]
  simp_all [wO,Cd]

def Iz(h:af)(key frm:Int):List Int:=if right h then(tY h key frm).map fun t:Nat=>(t:Int) else []
theorem IP{h:af}{n:Int}(key frm:Int):∀{l:List aO} {last:Int},jW h n last l=true→
  l.filter (fun r=>decide (r.Key=key)&&decide (r.eu=frm))=if l.any (fun r=>decide (aO.mk key frm=r)) then [⟨key,frm⟩] else []
 |[],_,_=>by simp
 |x::l,last,hr=>by
  rw[show jW h n last (x::l)=(decide (last<x.Key)&&decide (x.Key<16)&&there h n x&&jW h n x.Key l) from rfl] at hr;simp only[aiq,dI] at hr;have ih:=IP key frm hr.2;by_cases hx:aO.mk key frm=x
  ·have hnone:l.filter (fun r=>decide (r.Key=key)&&decide (r.eu=frm))=[]:=by
    rw[List.filter_eq_nil_iff];intro r hrm;have:=IQ hr.2 r hrm;grind
   grind
  ·have hq:(decide (x.Key=key)&&decide (x.eu=frm))=false:=by
    rw[Bool.and_eq_false_iff,decide_eq_false_iff_not,decide_eq_false_iff_not];apply Classical.byContradiction;intro hno;simp only[not_or,Classical.not_not] at hno;apply hx;rw[←hno.1,←hno.2]
   grind
theorem L0{h:af}(hf:Fits h)(key frm:Int){t:Nat}(ht:t<h.aL.length)(c:List Int)(hc:c.length≤1000)(hl:(tx h t).Reads.length≤16):
  abt (fun(p:(List Int)×Int)=>fC key frm t (tx h t) p.1 p.2) (c,0)=some (.inl (c++((tx h t).Reads.filter (fun r=>decide (r.Key=key)&&decide (r.eu=frm))).map (fun _=>(t:Int)),((t+1:Nat):Int))):=by
 refine cB (fun i=>c++(((tx h t).Reads.take i).filter (fun r=>decide (r.Key=key)&&decide (r.eu=frm))).map (fun _=>(t:Int))) (tx h t).Reads.length _ (aP (by omega)) (fun i hi=> ?_) ?_ (by simp)
 ·have hle:(((tx h t).Reads.take i).filter (fun r=>decide (r.Key=key)&&decide (r.eu=frm))).length≤i:=by
   grind
  simp only[fC,dec_lt,hi,bt,aY,aU hi,bp,wM,sP,aH (k:=i) (by omega)];rw[aoR,ab9 hi,apj,akY,amQ,←aj9];by_cases h1:((tx h t).Reads[i]).Key=key
  ·by_cases h2:((tx h t).Reads[i]).eu=frm
   ·grind [cA,abo]
   grind [abo]
  ·simp[h1,abo]
 ·simp[fC,lJ,aH (show t<9223372036854775807 by have:=hf.aeB;omega),abo]
theorem aas{h:af}(hf:Fits h)(key frm:Int):th h key frm=some (Iz h key frm):=by
 unfold th A3 ji Iz;rw[uq hf];cases hr:right h with
 |false=>rfl
 |true=>
  have hn:=eP hr;have e:abt (fun(p:(List Int)×Int)=>fB key frm h p.1 p.2) ([],0)=some ((tY h key frm).map fun t:Nat=>(t:Int)):=by
   refine cB (fun k=>((aeD k).filter fun t:Nat=>decide (JX h t key=some frm)).map fun t:Nat=>(t:Int)) h.aL.length _ (aP (by omega)) (fun k hk=> ?_) ?_ rfl
   ·have hle:((aeD k).filter fun t:Nat=>decide (JX h t key=some frm)).length≤k:=by
     grind
    obtain⟨n,htk,hlen⟩:=Bi hr (IS hk);simp only[fB,dec_lt,hk,bt,aY,CY hk,bp];rw[L0 hf key frm hk _ (by grind) hlen,IP key frm htk,aoP,akY,amQ];have hiff:=zv (t:=(k:Int)) (key:=key) (v:=frm) hr (sD.2 hk);grind
   ·simp only[fB,dec_lt,afr,b7,dw,aR];rfl
  grind

def rB(h:af):List Nat:=(aeD 16).filter fun k:Nat=>h.aL.any fun t=>ku t k
def keys(h:af):List Int:=if right h then(rB h).map fun k:Nat=>(k:Int) else []
theorem sj{α β:Type}(f:α→List β)(b:Nat):∀(l:List α),(∀x∈l,(f x).length≤b)→(l.flatMap f).length≤l.length*b
 |[],_=>by simp
 |x::l,h=>by
  have h1:=h x (ad2 ..);have h2:=sj f b l fun y hy=>h y (adU _ hy);simp only[List.flatMap_cons,amB,acN,Nat.add_mul,Nat.one_mul];omega
theorem afH{h:af}(hf:Fits h):Aa h=some (keys h):=by
 unfold Aa keys;rw[uq hf];simp only[bp];cases hr:right h with
 |false=>rfl
 |true=>
  have hn:=eP hr;simp only[apS,dw,aR,aY];have hwl:∀t∈h.aL,t.bA.length≤16:=fun t ht=>(Dq hr ht).2;refine cB (fun k=>(h.aL.take k).flatMap (·.bA)) h.aL.length _ (aP (by omega)) (fun k hk=> ?_) ?_ rfl
  ·have hle:=sj (fun t:aJ=>t.bA) 16 (h.aL.take k) fun t ht=>hwl t (ajO ht)
   have hl3:(h.aL.take k).length≤32:=by grind
   simp only[BG,dec_lt,hk,bt,aY,aU hk,bp];grind [cA,aH,abo,aoR]
  ·simp only[BG,dec_lt,afr,b7,dw,aR,Gg,aoZ]
   have hle:=sj (fun t:aJ=>t.bA) 16 h.aL hwl;rw[aen (by omega)];simp only[bp];rw[SV (by grind [List.length_mergeSort])];simp only[bp];rw[Py _ ((rB h).map fun k:Nat=>(k:Int)) ?_ ?_]
   ·rw[aoO]
    exact List.Pairwise.imp (R:=fun a b:Nat=>a<b) (fun{a b} hab=>by omega) (List.Pairwise.filter _ aoN)
   ·intro x
    simp only[aoI,rB,aow,agW,aj8,aoB];constructor
    ·rintro⟨k,⟨h1,t,ht,hw⟩,rfl⟩
     refine⟨t,ht, ?_⟩;simp_all [ku]
    ·rintro⟨t,ht,hx⟩
     have:=Mc (Dq hr ht).1 x hx;refine⟨x.toNat,⟨by omega,t,ht, ?_⟩,by omega⟩;simp only[ku,aj8,dI];grind

theorem PU{h:af}(hr:right h=true){k:Nat}(hk:(h.aL.any fun t=>ku t k)=false):eW h (k:Int)=[]:=by
 simp_all [List.eq_nil_iff_forall_not_mem,xS,yE]
theorem GR{α:Type}(f:Nat→List α)(p:Nat→Bool)(l:List Nat)(h:∀k∈l,p k=false→f k=[]):(l.filter p).flatMap f=l.flatMap f:=by
 induction l with
 |nil=>rfl
 |cons x l ih=>
  grind
theorem TI{h:af}(hr:right h=true):(rB h).flatMap (fun k:Nat=>vp k (eW h k))=bB h:=by
 refine GR _ _ _ fun k _ hk=> ?_;rw[PU hr hk];rfl
theorem Pf(k:Int)(ws:List Int)(hw:ws.length≤64){i:Nat}(hi:i<ws.length)(acc:List aa)(hacc:acc.length≤100000):
  abt (fun(p:(List aa)×Int)=>vb k i ws[i] (ws.drop (i+1)) p.1 p.2) (acc,0)=some (.inl (acc++vo k ws i,((i+1:Nat):Int))):=by
 have hg:ws.getD i 0=ws[i]:=by grind
 refine cB (fun j=>acc++((ws.drop (i+1)).take j).map fun w=>(⟨k,ws[i],w⟩:aa)) (ws.drop (i+1)).length _ (aP (by grind)) (fun j hj=> ?_) ?_ (by simp)
 ·have Sp:j<ws.length:=by grind
  simp only[vb,dec_lt,hj,bt,aY,aU hj,bp];grind [cA,aH,abo,aoR]
 ·simp only[vb,dec_lt,afr,b7,dw,aR,Ex,aH (k:=i) (by omega),abo,aoZ]
  grind [vo]
theorem TF(k:Int)(ws:List Int)(hw:ws.length≤64)(v:Nat)(hv:v<64)(acc:List aa)(hacc:acc.length≤80000):
  abt (fun(p:(List aa)×Int)=>va v k ws p.1 p.2) (acc,0)=some (.inl (acc++vp k ws,((v+1:Nat):Int))):=by
 refine cB (fun i=>acc++(aeD i).flatMap (vo k ws)) ws.length _ (aP (by omega)) (fun i hi=> ?_) ?_ (by simp)
 ·have hl:=Ek (vo k ws) ws.length (G1 k ws) i
  have Zj:i*ws.length≤64*64:=apl (by omega) hw;simp only[va,dec_lt,hi,bt,aY,aU hi,bp,aH (k:=i) (by omega)];rw[show(arA ws)=((ws.length:Nat):Int) from rfl,sY (by omega) (afk _)];grind [aha,Pf,B_]
 ·simp only[va,dec_lt,afr,b7,dw,aR,Ew,aH (k:=v) (by omega),abo]
  rfl
theorem Xb{h:af}:(bB h).length≤16*(h.aL.length*h.aL.length):=
 Ek _ _ (fun _=>afp (G2 _ _) (apl rT rT)) 16
theorem aay{h:af}(hr:right h=false):bB h=[]:=by
 unfold bB;rw[List.flatMap_eq_nil_iff];intro k _;have:eW h (k:Int)=[]:=by simp_all [eW]
 rw[this];rfl
theorem LZ{h:af}(hf:Fits h):mZ h=some (bB h):=by
 unfold mZ;rw[afH hf];cases hr:right h with
 |false=>
  have e:keys h=[]:=by simp_all [keys]
  rw[e,aay hr];rfl
 |true=>
  have hn:=eP hr;have e:keys h=(rB h).map fun k:Nat=>(k:Int):=by simp_all [keys]
  have hkl:(rB h).length≤16:=by
   grind [rB]
  rw[e];refine cB (fun i=>((rB h).take i).flatMap fun k:Nat=>vp k (eW h k)) (rB h).length _ (aP (by omega)) (fun i hi=> ?_) ?_ rfl
  ·have hi2:i<((rB h).map fun k:Nat=>(k:Int)).length:=by grind
   have hwl:∀k:Nat,(vp (k:Int) (eW h k)).length≤1024:=fun _=>afp (G2 _ _) (apl (afp rT hn) (afp rT hn));have hacc:=sj (fun k:Nat=>vp k (eW h k)) 1024 ((rB h).take i) fun k _=>hwl k;have h3:((rB h).take i).length≤16:=by grind
   simp only[Ab,arA,ajM,dec_lt,hi,bt,aY,aU hi2,bp,ajJ,Ro hf];grind [TF,rT,aoR]
  ·simp only[Ab,arA,ajM,dec_lt,afr,b7,dw,aR,Ev,aoZ,TI hr]
theorem GU{n:Nat}(hn:n≤64){f g:Nat→Nat→Bool}(h:∀x y,x<n→y<n→f x y=g x y):gr n f=gr n g:=by
 simp_all [xX]
def rV(f:Nat→Nat→Bool)(l:List (Nat×Nat)):Nat→Nat→Bool:=fun x y=>f x y||l.any fun e=>decide (e.1≠e.2)&&decide (e.1=x)&&decide (e.2=y)
theorem Yg(f:Nat→Nat→Bool):rV f []=f:=by funext x y;simp[rV]
theorem Wd{n:Nat}(hn:n≤64)(f:Nat→Nat→Bool)(l:List (Nat×Nat)){a b:Nat}(hab:a≠b):gr n (SE (rV f l) a b)=gr n (rV f (l++[(a,b)])):=by
 unfold SE rV;grind
theorem Wc{n:Nat}(hn:n≤64)(f:Nat→Nat→Bool)(l:List (Nat×Nat))(a:Nat):gr n (rV f l)=gr n (rV f (l++[(a,a)])):=by
 grind [GU,rV]
theorem aaq{n:Nat}(hn:n≤64)(f:Nat→Nat→Bool)(l:List (Nat×Nat)){a b:Nat}(ha:a<n)(hb:b<n):jd a b (gr n (rV f l))=some (gr n (rV f (l++[(a,b)]))):=by
 unfold jd pz;have h0:(0:Int)≤(a:Int):=by omega
 simp only[h0,bt,aY];by_cases hab:a=b
 ·subst hab
  simp only[ne_eq,not_true_eq_false,b7,dw,aR];rw[←Wc hn]
 ·have h1:((a:Int)≠(b:Int)):=by omega
  simp_all [ot,Wd]
theorem W_{a b:Int}(g:aj)(h:a<0):jd a b g=some g:=by
 grind [jd,pz]
def J2:Nat→Nat→Bool:=fun _ _=>false
theorem OQ(n:Nat):(⟨(n:Int),aeR n 0#64⟩:aj)=gr n (rV J2 []):=by
 rw[Yg,CA];rfl
def g0:aj:=⟨0,[]⟩

def soL(h:af)(t:Nat):List (Nat×Nat):=((aeD t).filter fun j:Nat=>decide ((tx h j).aI=(tx h t).aI)).map fun j=>(j,t)
theorem abl{h:af}{t j:Nat}(ht:t<h.aL.length)(hj:j<t):aaV (h.aL.take t) (j:Int)=some (tx h j):=by
 have h1:j<(h.aL.take t).length:=by grind
 have h2:=CY (h:=h) (x:=j) (by omega);grind [aU]
theorem aau{h:af}(hn:h.aL.length≤32):lQ h (gr h.aL.length (rV J2 []))=some (gr h.aL.length (rV J2 ((aeD h.aL.length).flatMap (soL h)))):=by
 refine cB (fun k=>gr h.aL.length (rV J2 ((aeD k).flatMap (soL h)))) h.aL.length _ (aP (by omega)) (fun t ht=> ?_) ?_ rfl
 ·simp only[jR,dec_lt,ht,bt,aY,CY ht,bp]
  rw[show abH h.aL 0 (t:Int)=some (h.aL.take t) by have:=sY (l:=h.aL) (m:=0) (k:=t) (by omega) (by omega);grind];refine cB (fun i=>gr h.aL.length (rV J2 ((aeD t).flatMap (soL h)++(((aeD i).filter fun j:Nat=>decide ((tx h j).aI=(tx h t).aI)).map fun j=>(j,t))))) t _ (aP (by omega)) (fun j hj=> ?_) ?_ (by simp)
  ·have hl:(arA (h.aL.take t))=((t:Nat):Int):=by grind
   simp only[jS,hl,dec_lt,hj,bt,aY,abl ht hj,bp,jT,aH (k:=j) (by omega),abo];rw[aoP,akY,amQ,←aj9];by_cases hs:(tx h j).aI=(tx h t).aI
   ·simp only[hs,bt,aY,aaq (show h.aL.length≤64 by omega) _ _ (show j<h.aL.length by omega) ht,bp]
    simp[hs]
   grind
  ·have hl:(arA (h.aL.take t))=((t:Nat):Int):=by grind
   simp only[jS,hl,dec_lt,afr,b7,dw,aR,oO,aH (k:=t) (by omega),abo,B_];rfl
 simp_all [jR]
theorem ao4{h:af}(hn:h.aL.length≤64):gr h.aL.length (rV J2 ((aeD h.aL.length).flatMap (soL h)))=gr h.aL.length (soF h):=by
 refine GU hn fun x y hx hy=> ?_;unfold rV soF soL J2;rw[apC,apB];simp only[aj8,aoB,agW,aoI,aow,dI,aiq];constructor
 ·grind
 ·rintro⟨h1,h2⟩
  exact⟨(x,y),⟨y,hy,x,⟨h1,h2⟩,rfl⟩,⟨by omega,rfl⟩,rfl⟩
def soG(h:af):aj:=if right h then gr h.aL.length (soF h) else g0
theorem pSo{h:af}(hf:Fits h):Ic h=some (soG h):=by
 unfold Ic pE soG;rw[uq hf];cases hr:right h with
 |false=>rfl
 |true=>
  have hn:=eP hr;rw[show(arA h.aL)=((h.aL.length:Nat):Int) from rfl,fK _ (by omega)];grind [OQ,aau,ao4]

theorem Xp{h:af}(hr:right h=true){t:Nat}(ht:t<h.aL.length):J3 h (t:Int) (tx h t)=true:=by
 simp_all [right,FB,tx]
theorem WE{h:af}(hr:right h=true){t:Nat}(ht:t<h.aL.length){r:aO}(hm:r∈(tx h t).Reads):r.eu≠(t:Int):=by
 have h1:=Xp hr ht;simp only[J3,aiq] at h1;have h2:=Bq h1.1.1.2 r hm;simp only[there,ajm,aiq,dI] at h2;omega
def wrL(h:af)(t:Nat):List (Nat×Nat):=((tx h t).Reads.filter fun r=>decide (0≤r.eu)).map fun r=>(r.eu.toNat,t)
theorem W9{h:af}(hr:right h=true):lR h (gr h.aL.length (rV J2 []))=some (gr h.aL.length (rV J2 ((aeD h.aL.length).flatMap (wrL h)))):=by
 have hn:=eP hr;refine cB (fun k=>gr h.aL.length (rV J2 ((aeD k).flatMap (wrL h)))) h.aL.length _ (aP (by omega)) (fun t ht=> ?_) ?_ rfl
 ·simp only[jU,dec_lt,ht,bt,aY,CY ht,bp]
  obtain⟨_,_,hlen⟩:=Bi hr (IS ht);refine cB (fun i=>gr h.aL.length (rV J2 ((aeD t).flatMap (wrL h)++((((tx h t).Reads.take i).filter fun r=>decide (0≤r.eu)).map fun r=>(r.eu.toNat,t))))) (tx h t).Reads.length _ (aP (by omega)) (fun i hi=> ?_) ?_ (by simp)
  ·simp only[jV,dec_lt,hi,bt,aY,aU hi,bp,aH (k:=i) (by omega),abo]
   rw[aoR,ab9 hi,apj,akY,amQ,←aj9];grind [W_,acw,acI,aaq]
  ·simp only[jV,dec_lt,afr,b7,dw,aR,oP,aH (k:=t) (by omega),abo,B_,aoZ]
   rfl
 simp_all [jU]
theorem apo{h:af}(hr:right h=true):gr h.aL.length (rV J2 ((aeD h.aL.length).flatMap (wrL h)))=gr h.aL.length (wrF h):=by
 have hn:=eP hr;refine GU (by omega) fun x y hx hy=> ?_;unfold rV wrF wrL J2;rw[apC,apB];simp only[aj8,aoB,agW,aoI,aow,dI,aiq];constructor
 ·grind
 ·rintro⟨r,hm,h1⟩
  have:=WE hr hy hm;grind
def wrG(h:af):aj:=if right h then gr h.aL.length (wrF h) else g0
theorem atp{h:af}(hf:Fits h):Ie h=some (wrG h):=by
 unfold Ie pF wrG;rw[uq hf];cases hr:right h with
 |false=>rfl
 |true=>
  have hn:=eP hr;rw[show(arA h.aL)=((h.aL.length:Nat):Int) from rfl,fK _ (by omega)];grind [OQ,W9,apo]
def Rq(h:af):aj:=if right h then gr h.aL.length (Ki (soF h) (wrF h)) else g0
theorem abp:G.lz g0 g0=some (g0,0):=by
 rfl
theorem afK{h:af}(hf:Fits h):wS h=some (Rq h):=by
 unfold wS;rw[pSo hf,atp hf];unfold soG wrG Rq;cases hr:right h with
 |false=>simp_all [abp]
 |true=>
  have hn:=eP hr;grind [lz]

def wN(h:af)(key:Int):List Nat:=(aeD h.aL.length).filter fun t:Nat=>ku (tx h t) key
theorem Uw{h:af}(hr:right h=true)(key:Int):eW h key=(wN h key).map fun t:Nat=>(t:Int):=by
 simp_all [eW,wN]
theorem af4{h:af}{key:Int}{t:Nat}(ht:t∈wN h key):t<h.aL.length∧ku (tx h t) key=true:=by
 grind [wN]
theorem ai_{h:af}{key:Int}:(wN h key).length≤h.aL.length:=by
 grind [wN]
def Zq(h:af)(k:Nat):List (Nat×Nat):=(tY h k (-1)).flatMap fun a=>(wN h k).map fun b=>(a,b)
theorem O3{l:List Nat}{i:Nat}(h:i<l.length):aaV (l.map fun t:Nat=>(t:Int)) (i:Int)=some ((l[i]:Nat):Int):=by
 grind [aU]
theorem Ik(l:List Nat):arA (l.map fun t:Nat=>(t:Int))=((l.length:Nat):Int):=by grind
theorem aap{h:af}(hr:right h=true)(v a:Nat)(ha:a<h.aL.length)(hv:v<1000)(key:Int)(l:List (Nat×Nat)):
  abt (fun(p:aj×Int)=>gw v a (eW h key) p.1 p.2) (gr h.aL.length (rV J2 l),0)=some (.inl (gr h.aL.length (rV J2 (l++(wN h key).map fun b=>(a,b))),((v+1:Nat):Int))):=by
 have hn:=eP hr;have hw:=ai_ (h:=h) (key:=key);rw[Uw hr];refine cB (fun i=>gr h.aL.length (rV J2 (l++((wN h key).take i).map fun b=>(a,b)))) (wN h key).length _ (aP (by omega)) (fun i hi=> ?_) ?_ (by simp)
 ·have hb:=(af4 (acI hi)).1
  simp only[gw,Ik,dec_lt,hi,bt,aY,O3 hi,bp,aaq (show h.aL.length≤64 by omega) _ _ ha hb,aH (k:=i) (by omega),abo];grind [aoR]
 ·simp only[gw,Ik,dec_lt,afr,b7,dw,aR,nR,aH (k:=v) (by omega),abo,aoZ]
theorem W8{h:af}(hf:Fits h)(hr:right h=true)(v k:Nat)(hv:v<1000)(l:List (Nat×Nat)):
  abt (fun(p:aj×Int)=>gv h v k ((tY h k (-1)).map fun t:Nat=>(t:Int)) p.1 p.2) (gr h.aL.length (rV J2 l),0)=some (.inl (gr h.aL.length (rV J2 (l++Zq h k)),((v+1:Nat):Int))):=by
 have hn:=eP hr;have hrl:=RB (h:=h) (key:=(k:Int)) (frm:= -1);refine cB (fun i=>gr h.aL.length (rV J2 (l++((tY h k (-1)).take i).flatMap fun a=>(wN h k).map fun b=>(a,b)))) (tY h k (-1)).length _ (aP (by omega)) (fun i hi=> ?_) ?_ (by simp)
 ·have ha:=(L8 (acI hi)).1
  simp only[gv,Ik,dec_lt,hi,bt,aY,O3 hi,bp,Ro hf];grind [aap,aoR]
 ·simp only[gv,Ik,dec_lt,afr,b7,dw,aR,nQ,aH (k:=v) (by omega),abo,aoZ]
  rfl
theorem WQ(h:af):(rB h).length≤16:=by
 grind [rB]
theorem TE{h:af}(hf:Fits h)(hr:right h=true):ij h (gr h.aL.length (rV J2 []))=some (gr h.aL.length (rV J2 ((rB h).flatMap (Zq h)))):=by
 have hk:=WQ h;unfold ij;rw[afH hf];rw[show keys h=(rB h).map (fun k:Nat=>(k:Int)) by simp_all [keys]];refine cB (fun i=>gr h.aL.length (rV J2 (((rB h).take i).flatMap (Zq h)))) (rB h).length _ (aP (by omega)) (fun i hi=> ?_) ?_ (by simp)
 ·simp only[jj,Ik,dec_lt,hi,bt,aY,O3 hi,bp,aas hf]
  rw[show Iz h ((rB h)[i]:Nat) (-1)=(tY h ((rB h)[i]:Nat) (-1)).map (fun t:Nat=>(t:Int)) by simp_all [Iz]];grind [W8,aoR]
 simp_all [jj]
theorem WZ{h:af}(hr:right h=true){y:Nat}(hy:y<h.aL.length){k:Int}(hw:ku (tx h y) k=true):0≤k∧k.toNat∈rB h:=by
 obtain⟨h0,h1⟩:=Vd hr (IS hy) hw;grind [rB,IS]
theorem agY{h:af}(hr:right h=true):gr h.aL.length (rV J2 ((rB h).flatMap (Zq h)))=gr h.aL.length (Tn h):=by
 have hn:=eP hr;refine GU (by omega) fun x y hx hy=> ?_;unfold rV Tn Zq J2 acX;rw[apC,apB];simp only[aj8,aoB,aoI,dI,aiq];constructor
 ·rintro⟨e,⟨k,hk,a,ha,b,hb,rfl⟩,⟨h1,h2⟩,h3⟩
  subst h2 h3;obtain⟨_,hfr⟩:=L8 ha;have:=(zv hr (sD.2 hx)).1 hfr;simp only[aj8,dI] at this;obtain⟨r,hm,rfl⟩:=this;exact⟨fun he=>h1 he.symm,_,hm,rfl,(af4 hb).2⟩
 ·rintro⟨hne,r,hm,hf1,hw⟩
  obtain⟨h0,hk⟩:=WZ hr hy hw;have e:((r.Key.toNat:Nat):Int)=r.Key:=by omega
  refine⟨(x,y),⟨r.Key.toNat,hk,x, ?_,y, ?_,rfl⟩,⟨fun he=>hne he.symm,rfl⟩,rfl⟩
  ·unfold tY
   simp only[aow,agW,dI];refine⟨hx,(zv hr (sD.2 hx)).2 ?_⟩;simp only[aj8,dI];exact⟨r,hm,by rw[e,←hf1]⟩
  grind [wN]
def acY(h:af):aj:=if right h then gr h.aL.length (Tn h) else g0
theorem aoj{h:af}(hf:Fits h):C7 h=some (acY h):=by
 unfold C7 nM acY;rw[uq hf];cases hr:right h with
 |false=>rfl
 |true=>
  have hn:=eP hr;rw[show(arA h.aL)=((h.aL.length:Nat):Int) from rfl,fK _ (by omega)];grind [OQ,TE,agY]
def cr(h:af)(l:List aa):Bool:=right h&&l.all (one h)
theorem Ee{h:af}{l:List aa}:cr h l=true↔right h=true∧∀c∈l,one h c=true:=by simp[cr]
theorem aeL:XP []=J2:=by funext x y;simp[XP,J2]
def wwG(h:af)(l:List aa):aj:=if cr h l then gr h.aL.length (XP l) else g0
theorem pWw{h:af}(hf:Fits h){l:List aa}(hl:l.length≤20000):B7 h l=some (wwG h l):=by
 unfold B7 wwG
 rw[Iu hf hl]
 simp only[bp]
 cases hc:(right h&&l.all (one h)) with
 |false=>rw[show cr h l=false from hc];rfl
 |true=>
  rw[show cr h l=true from hc]
  obtain⟨hr,hone⟩:=Ee.1 hc
  have hn:=eP hr
  have Cc:h.aL.length≤64:=by omega
  simp only[apS,dw,aR,aY]
  rw[show(arA h.aL)=((h.aL.length:Nat):Int) from rfl,fK _ Cc]
  simp only[bp]
  refine h_ (fun i=>((h.aL.length:Int),rows h.aL.length (XP (l.take i)),(i:Int))) l.length _ (aP (by omega)) (fun i hi=> ?_) ?_ ?_
  ·obtain⟨a,b,ea,eb,ha,hb,_⟩:=VI (hone _ (acI hi))
   simp only[CM,dec_lt,hi,bt,aY,aU hi,bp,ea,eb]
   rw[show aj.mk (h.aL.length:Int) (rows h.aL.length (XP (l.take i)))=gr h.aL.length (XP (l.take i)) from rfl,ot Cc _ ha hb]
   simp only[bp,aH (k:=i) (by omega),abo]
   have e:rows h.aL.length (SE (XP (l.take i)) a b)=rows h.aL.length (XP (l.take (i+1))):=by
    rw[xX Cc]
    intro x y _ _
    unfold SE XP
    rw[R4 hi,ea,eb]
    congr 1
    rw[apB]
    simp only[dI,aiq]
    constructor
    ·rintro⟨rfl,rfl⟩;exact⟨rfl,rfl⟩
    ·rintro⟨h1,h2⟩;exact⟨by omega,by omega⟩
   simp only[e]
  ·simp only[CM,dec_lt,afr,b7,dw,aR,HO,aoZ]
  ·rw[aph,aeL,CA];rfl

def rwG(h:af)(l:List aa):aj:=if cr h l then gr h.aL.length (PY h l) else g0
theorem pRw{h:af}(hf:Fits h){l:List aa}(hl:l.length≤20000):Fu h l=some (rwG h l):=by
 unfold Fu rwG
 rw[Iu hf hl]
 simp only[bp]
 cases hc:(right h&&l.all (one h)) with
 |false=>rw[show cr h l=false from hc];rfl
 |true=>
  rw[show cr h l=true from hc]
  obtain⟨hr,hone⟩:=Ee.1 hc
  have hn:=eP hr
  have Cc:h.aL.length≤64:=by omega
  simp only[apS,dw,aR,aY]
  rw[aoj hf]
  simp only[bp]
  rw[show acY h=gr h.aL.length (Tn h) by unfold acY;rw[if_pos hr]]
  refine cB (fun i=>gr h.aL.length (PY h (l.take i))) l.length _ (aP (by omega)) (fun i hi=> ?_) ?_ (by congr 2;funext x y;simp[PY])
  ·obtain⟨a,b,ea,eb,ha,hb,_⟩:=VI (hone _ (acI hi))
   simp only[CJ,dec_lt,hi,bt,aY,aU hi,bp]
   refine cB (fun t=>gr h.aL.length (Ki (PY h (l.take i)) fun x y=>decide (x<t)&&Xr h l[i] x y)) h.aL.length _ (aP (by omega)) (fun t ht=> ?_) ?_ ?_
   ·obtain⟨_,_,hlen⟩:=Bi hr (IS ht)
    have step:∀q:Bool,q=Xr h l[i] t b→y5 l[i] (gr h.aL.length (Ki (PY h (l.take i)) fun x y=>decide (x<t)&&Xr h l[i] x y)) t q=some (.inl (gr h.aL.length (Ki (PY h (l.take i)) fun x y=>decide (x<t+1)&&Xr h l[i] x y),((t+1:Nat):Int))):=by
     intro q hq
     unfold y5 CL
     rw[eb]
     have key:∀x y,x<h.aL.length→y<h.aL.length→((Ki (PY h (l.take i)) fun x y=>decide (x<t+1)&&Xr h l[i] x y) x y=((Ki (PY h (l.take i)) fun x y=>decide (x<t)&&Xr h l[i] x y) x y||(decide (x=t∧y=b)&&q))):=by
      intro x y _ _
      unfold Ki
      rw[ap_]
      congr 1
      by_cases e1:x=t
      ·subst e1
       by_cases e2:y=b
       ·subst e2;simp[hq]
       ·have:Xr h l[i] x y=false:=by
         unfold Xr
         rw[eb]
         have:¬(b:Int)=(y:Int):=by omega
         simp[this]
        simp[this,e2]
      ·have:(x<t+1)↔(x<t):=by omega
       simp[e1,this]
     cases q with
     |true=>
      simp only[aY,ot Cc _ ht hb,bp,aH (k:=t) (by omega),abo]
      congr 3
      refine GU Cc fun x y hx hy=> ?_
      rw[key x y hx hy];simp[SE]
     |false=>
      simp only[dw,aR,aH (k:=t) (by omega),abo]
      congr 3
      refine GU Cc fun x y hx hy=> ?_
      rw[key x y hx hy];simp
    simp only[CK,dec_lt,ht,bt,aY,CY ht,bp]
    have e3:decide ((t:Int)≠l[i].B)=decide (t≠b):=by rw[eb];congr 1;exact propext (by omega)
    rw[e3,afG (by omega)]
    simp only[bp]
    have e4:(tx h (t:Int)).Reads.any (fun c=>decide (aO.mk l[i].Key l[i].A=c))=decide (JX h t l[i].Key=some l[i].A):=by
     have:=zv (t:=(t:Int)) (key:=l[i].Key) (v:=l[i].A) hr (sD.2 ht)
     rw[apB,dI,this]
    by_cases e5:t=b
    ·subst e5
     simp only[ne_eq,not_true_eq_false,b7,dw,aR]
     refine step false ?_
     unfold Xr;simp
    ·simp only[ne_eq,e5,not_false_eq_true,bt,aY]
     refine step _ ?_
     unfold Xr
     rw[e4,eb];simp[e5]
   ·simp only[CK,dec_lt,afr,b7,dw,aR,HN,aH (k:=i) (by omega),abo]
    congr 3
    refine congrArg (fun q=>(q,((i+1:Nat):Int))) (GU Cc fun x y hx _=> ?_)
    unfold PY Ki
    rw[R4 hi]
    simp[hx,ap_]
   ·congr 2
    funext x y;simp[Ki]
  ·simp only[CJ,dec_lt,afr,b7,dw,aR,HM,aoZ]

theorem afD{n:Nat}(hn:n≤64)(f g:Nat→Nat→Bool):zK (gr n f) [gr n g]=some (gr n (Ki f g)):=by
 unfold zK
 refine h_ (fun i=>if i=0 then((gr n f).N,(gr n f).Rows,0) else((n:Int),rows n (Ki f g),1)) 1 _ (by decide) (fun i hi=> ?_) ?_ rfl
 ·have:i=0:=by omega
  subst this
  simp only[aY,afQ,Bz,arA,acN,acR]
  rw[show aj.mk (gr n f).N (gr n f).Rows=gr n f from rfl]
  rw[show aaV [gr n g] 0=some (gr n g) from rfl]
  simp only[bp,lz hn]
  rfl
 ·simp only[Bz,F8]
  rfl
def MS(lev:Int):Bool:=decide (lev=0)||decide (lev=1)
def H7(h:af)(lev:Int)(l:List aa):aj×Int:=if cr h l&&MS lev then(gr h.aL.length (q8 h lev l),0) else(g0,1)
theorem NS{h:af}(hf:Fits h)(lev:Int){l:List aa}(hl:l.length≤20000):mQ h lev l=some (H7 h lev l):=by
 unfold mQ H7
 rw[Iu hf hl]
 simp only[bp]
 rw[show(right h&&l.all (one h))=cr h l from rfl]
 cases hc:cr h l with
 |false=>rfl
 |true=>
  obtain⟨hr,hone⟩:=Ee.1 hc
  have hn:=eP hr
  have Cc:h.aL.length≤64:=by omega
  have e1:Rq h=gr h.aL.length (Ki (soF h) (wrF h)):=by unfold Rq;rw[if_pos hr]
  have e2:wwG h l=gr h.aL.length (XP l):=by unfold wwG;rw[if_pos hc]
  have e3:rwG h l=gr h.aL.length (PY h l):=by unfold rwG;rw[if_pos hc]
  have body:om h lev l false=some (gr h.aL.length (Ki (dF h l) (if lev=1 then HP h.aL.length (dF h l) (PY h l) else PY h l)),0):=by
   unfold om zH
   simp only[dw,aR,afK hf,pWw hf hl,pRw hf hl,bp,e1,e2,e3,afD Cc]
   by_cases hv:lev=1
   ·simp only[hv,bt,aY,nK Cc,bp,afD Cc];rfl
   ·simp only[hv,b7,dw,aR]
    rfl
  simp only[apS,dw,aR,aqb]
  unfold MS
  by_cases h0:lev=0
  ·subst h0
   simp only[ne_eq,not_true_eq_false,b7,dw,aR,body,bt,Bool.true_or,aY]
   rfl
  ·by_cases h1:lev=1
   ·subst h1
    simp only[ne_eq,h0,not_false_eq_true,bt,aY,not_true_eq_false,b7,body,Bool.or_true]
    rfl
   ·simp[h0,h1,om,g0]
theorem Pd{l:List aa}(hl:l.length<9223372036854775807)(v:aa):bZ l v=some (l.any (fun c=>decide (v=c))):=by
 unfold bZ iB
 rw[p9 l (fun x=>decide (v=x)) (fun k=>(k:Int)) (some (-1)) (aP (by omega)) (fun k hk=> ?_) ?_,xU]
 ·rw[bp,iG]
 ·simp[gN,kg]
 ·simp only[gN,dec_lt,hk,bt,aY,aU hk,bp,aH (k:=k) (by omega)]
  rfl
def Mx(l:List aa)(p:aa):Bool:= !(l.any (fun c=>decide (p=c)))&& !(l.any (fun c=>decide (back p=c)))
def Z0(h:af)(l:List aa):Option aa:=if cr h l then(bB h).find? (Mx l) else none
def VL(h:af)(l:List aa):aa×Bool:=match Z0 h l with|some p=>(p,true)|none=>(⟨0,0,0⟩,false)
theorem Ny{α β:Type}(p:α→Bool)(d:α)(A:α→β)(X:β):∀l:List α,(l.findIdx? p).elim (some X) (fun k=>some (A (l.getD k d)))=some (match l.find? p with|some x=>A x|none=>X)
 |[]=>rfl
 |x::l=>by
  rw[alF,List.find?_cons]
  cases hp:p x with
  |true=>simp[alN]
  |false=>
   have ih:=Ny p d A X l
   simp only[dw,aR]
   rw[←ih]
   cases l.findIdx? p <;> simp[alN]
theorem aax{h:af}(hr:right h=true):(bB h).length≤20000:=by
 have hn:=eP hr
 have h1:=Xb (h:=h)
 have h2:h.aL.length*h.aL.length≤32*32:=apl hn hn
 omega
theorem afJ{h:af}(hf:Fits h){l:List aa}(hl:l.length≤20000):xG h l=some (VL h l):=by
 unfold xG VL Z0
 rw[Iu hf hl]
 simp only[bp]
 rw[show(right h&&l.all (one h))=cr h l from rfl]
 cases hc:cr h l with
 |false=>rfl
 |true=>
  obtain⟨hr,_⟩:=Ee.1 hc
  have hpl:=aax hr
  simp only[apS,dw,aR,aY,LZ hf,bp]
  rw[p9 (bB h) (Mx l) (fun k=>((bB h).getD k default,true)) (some (⟨0,0,0⟩,false)) (aP (by omega)) (fun k hk=> ?_) ?_]
  ·rw[Ny (Mx l) default (fun x=>(x,true)) (⟨0,0,0⟩,false) (bB h)]
   cases(bB h).find? (Mx l) <;> rfl
  ·simp only[zI,dec_lt,afr,b7,dw,aR,Ec]
  ·have h4:(bB h).getD k default=(bB h)[k]:=by simp[alN,ab9 hk]
   simp only[zI,dec_lt,hk,bt,aY,aU hk,bp,Pd (show l.length<9223372036854775807 by omega),zJ,aH (k:=k) (by omega),h4,aaN,abo,ajX]
   rw[show aa.mk ((bB h)[k]).Key ((bB h)[k]).B ((bB h)[k]).A=back ((bB h)[k]) from rfl]
   unfold Mx
   cases l.any (fun c=>decide ((bB h)[k]=c)) <;> cases l.any (fun c=>decide (back ((bB h)[k])=c)) <;> rfl

def plc(order:List Int)(n:Int):Int:=pos order (fun x=>decide (x=n))
theorem aoi{l:List Int}(hl:l.length<9223372036854775808)(v:Int):gJ l v=some (plc l v):=by
 rw[aoh hl]
 unfold plc
 congr 2
 funext x;congr 1;exact propext ⟨fun e=>e.symm,fun e=>e.symm⟩
theorem Ig{n:Nat}:∀{l:List Int},(∀a∈l,0≤a∧a<n)→l.Nodup→l.length≤n:=by
 induction n with
 |zero=>
  intro l h _
  cases l with
  |nil=>simp
  |cons a l=>have:=h a (by simp);omega
 |succ n ih=>
  intro l h hd
  by_cases hm:(n:Int)∈l
  ·have h1:=ih (l:=l.erase (n:Int)) (fun a ha=>by
    have ha':=(List.Nodup.mem_erase_iff hd).1 ha
    have:=h a ha'.2
    have hne:a≠(n:Int):=ha'.1
    omega) (hd.erase _)
   rw[List.length_erase_of_mem hm] at h1
   omega
  ·have:=ih (l:=l) (fun a ha=>by
    have:=h a ha
    have hne:a≠(n:Int):=fun e=>hm (e▸ha)
    omega) hd
   omega
structure Cyc (n:Nat) (f:Nat→Nat→Bool) (l:List Int):Prop where
 some:0<l.length
 nodes:∀a∈l,0≤a∧a<n
 nodup:l.Nodup
 yf:∀(i:Nat) (h:i<l.length),f l[i].toNat (l[(i+1) % l.length]'(afw _ (by omega))).toNat=true
noncomputable def cyB(n:Nat)(f:Nat→Nat→Bool)(l:List Int):Bool:= @decide (Cyc n f l) (Classical.propDecidable _)
theorem SY{n:Nat}{f:Nat→Nat→Bool}{l:List Int}:cyB n f l=true↔Cyc n f l:=by
 unfold cyB;exact @decide_eq_true_iff _ (Classical.propDecidable _)
theorem QV{n:Nat}{f:Nat→Nat→Bool}{a b:Int}:hasB n f a b=true↔(0≤a∧a<n∧0≤b∧b<n)∧f a.toNat b.toNat=true:=by
 unfold hasB;simp only[aiq,dI]

theorem agm{n:Nat}{f:Nat→Nat→Bool}{l:List Int}(c:Cyc n f l):l.length≤n:=Ig c.nodes c.nodup
def uI(q:Nat→Bool):Nat→Nat→Int
 |0,_=> -1
 |m+1,k=>if q k then(k:Int) else uI q m (k+1)
theorem EJ(q:Nat→Bool):∀(m k:Nat),(uI q m k= -1∧∀j,k≤j→j<k+m→q j=false)∨∃j,k≤j∧j<k+m∧uI q m k=(j:Int)∧q j=true∧∀i,k≤i→i<j→q i=false
 |0,k=>.inl ⟨rfl,fun j h1 h2=>by omega⟩
 |m+1,k=>by
  unfold uI;cases hq:q k with
  |true=>grind
  |false=>
   rcases EJ q m (k+1) with⟨h1,h2⟩|⟨j,h1,h2,h3,h4,h5⟩
   ·grind
   grind

def wk(n:Nat)(f:Nat→Nat→Bool)(v:Nat):Nat→Nat→Bool
 |0,x=>decide (x=v)
 |m+1,x=>(aeD n).any fun y=>f x y&&wk n f v m y
theorem PS{n:Nat}{f:Nat→Nat→Bool}{v m x:Nat}:wk n f v (m+1) x=true↔∃y,y<n∧f x y=true∧wk n f v m y=true:=by
 show((aeD n).any fun y=>f x y&&wk n f v m y)=true↔_;grind
theorem aby{n:Nat}{f:Nat→Nat→Bool}{v x:Nat}(hv:v<n):wk n f v 1 x=f x v:=by
 rw[apB,PS];simp_all [wk]
def dk(n:Nat)(f:Nat→Nat→Bool)(v:Nat):Nat→Nat→Nat
 |0,_=>0
 |k+1,x=>if dk n f v k x≠0 then dk n f v k x else if wk n f v (k+1) x then k+1 else 0
theorem CQ{n:Nat}{f:Nat→Nat→Bool}{v x:Nat}:∀k,dk n f v k x=0↔∀j,1≤j→j≤k→wk n f v j x=false:=by
 intro k
 induction k with
 |zero=>exact⟨fun _ j h1 h2=>by omega,fun _=>rfl⟩
 |succ k ih=>
  unfold dk;grind
theorem GN{n:Nat}{f:Nat→Nat→Bool}{v x:Nat}:∀k,dk n f v k x≠0→wk n f v (dk n f v k x) x=true∧dk n f v k x≤k∧∀i,1≤i→i<dk n f v k x→wk n f v i x=false:=by
 intro k
 induction k with
 |zero=>intro h;exact absurd rfl h
 |succ k ih=>
  intro h;by_cases h0:dk n f v k x=0
  ·have e:dk n f v (k+1) x=k+1:=by
    simp_all [dk]
   have hw:wk n f v (k+1) x=true:=by
    simp_all [dk]
   grind [CQ]
  ·have e:dk n f v (k+1) x=dk n f v k x:=by simp_all [dk]
   grind
theorem HV{n:Nat}{f:Nat→Nat→Bool}{v x k:Nat}:dk n f v (k+1) x=if dk n f v k x≠0 then dk n f v k x else if wk n f v (k+1) x then k+1 else 0:=rfl
theorem LQ{n:Nat}{f:Nat→Nat→Bool}{v m x:Nat}(hm:1≤m)(hw:wk n f v (m+1) x=true)(hf:∀i,1≤i→i<m+1→wk n f v i x=false):∃y,y<n∧f x y=true∧wk n f v m y=true∧∀i,1≤i→i<m→wk n f v i y=false:=by
 grind [wk]
theorem chain{n:Nat}{f:Nat→Nat→Bool}{v:Nat}:∀(m x:Nat),x<n→wk n f v (m+1) x=true→(∀i,1≤i→i<m+1→wk n f v i x=false)→
  ∃l:List Int,l.length=m+1∧(∀a∈l,0≤a∧a<n)∧l.Nodup∧∀a∈l,∃j,1≤j∧j≤m+1∧wk n f v j a.toNat=true:=by
 intro m
 induction m with
 |zero=>
  intro x hx hw _;refine⟨[(x:Int)],rfl,fun a ha=> ?_,by simp,fun a ha=> ?_⟩
  ·grind
  ·simp at ha;subst ha;exact⟨1,by omega,by omega,hw⟩
 |succ m ih=>
  intro x hx hw hf;obtain⟨y,hy,_,h2,h3⟩:=LQ (by omega) hw hf;obtain⟨l,g1,g2,g3,g4⟩:=ih y hy h2 h3;refine⟨(x:Int)::l,by simp[g1],fun a ha=> ?_,List.nodup_cons.2 ⟨fun Zo=> ?_,g3⟩,fun a ha=> ?_⟩
  ·grind
  ·grind
  ·rcases List.mem_cons.1 ha with rfl|ha
   ·exact⟨m+2,by omega,by omega,by grind⟩
   grind
theorem ZM{n:Nat}{f:Nat→Nat→Bool}{v m x:Nat}(hx:x<n)(hw:wk n f v (m+1) x=true)(hf:∀i,1≤i→i<m+1→wk n f v i x=false):m+1≤n:=by
 obtain⟨l,h1,h2,h3,_⟩:=chain m x hx hw hf;have:=Ig h2 h3;omega
theorem YE{n:Nat}{f:Nat→Nat→Bool}{v k x:Nat}(hx:x<n):dk n f v k x≤n:=by
 by_cases h:dk n f v k x=0
 ·omega
 ·obtain⟨h1,h2,h3⟩:=GN k h
  obtain⟨m,hm⟩:∃m,dk n f v k x=m+1:=⟨dk n f v k x - 1,by omega⟩;rw[hm] at h1 h3 ⊢;exact ZM hx h1 h3

def U8(n:Nat)(f:Nat→Nat→Bool)(v k:Nat):Nat→Bool:=fun x=>if k=0 then f x v else(aeD n).any fun y=>decide (dk n f v k y=k)&&f x y
theorem Fx{n:Nat}{f:Nat→Nat→Bool}{v k x:Nat}(hv:v<n)(h0:dk n f v k x=0):U8 n f v k x=wk n f v (k+1) x:=by
 rw[apB];unfold U8;by_cases hk:k=0
 ·simp_all [aby]
 ·rw[if_neg hk,aj8,PS]
  simp only[agW,aiq,dI];constructor
  ·grind [GN]
  ·rintro⟨y,hy,h1,h2⟩
   have hne:dk n f v k y≠0:=fun h=>by
    grind [CQ]
   obtain⟨g1,g2,g3⟩:=GN k hne;refine⟨y,hy, ?_,h1⟩;rcases aft (dk n f v k y) k with h|h
   ·grind [CQ,PS]
   ·omega
theorem aiE{n:Nat}{f:Nat→Nat→Bool}{v k:Nat}(hv:v<n)(he:∀x,x<n→U8 n f v k x=false):∀m,k≤m→∀x,x<n→dk n f v m x=dk n f v k x:=by
 have none:∀m,k<m→∀x,x<n→wk n f v m x=true→(∀i,1≤i→i<m→wk n f v i x=false)→False:=by
  intro m hm
  induction m with
  |zero=>omega
  |succ m ih=>
   grind [CQ,Fx,LQ]
 intro m hm
 induction m with
 |zero=>
  grind
 |succ m ih=>
  intro x hx;by_cases hkm:k=m+1
  ·grind
  ·have e:=ih (by omega) x hx
   rw[←e,HV];by_cases h0:dk n f v m x=0
   ·rw[if_neg (by omega)]
    grind [CQ]
   grind
theorem NC{n:Nat}{f:Nat→Nat→Bool}{v:Nat}:∀x,x<n→U8 n f v (n+1) x=false:=by
 unfold U8;grind [YE]

def CG(F:Nat→Int):List Int:=(aeD 64).map F
theorem KU{F G:Nat→Int}(h:∀x,x<64→F x=G x):CG F=CG G:=by
 grind [CG,anE]
theorem KV(F:Nat→Int){y:Nat}(h:y<64):Sh.Oo 64 (CG F) (y:Int)=some (F y):=by
 simp_all [Sh.Oo,aU,CG]
theorem agd(F:Nat→Int){y:Nat}(_h:y<64)(c:Int):Sh.set (CG F) (y:Int) c=CG fun x=>if x=y then c else F x:=by
 rw[lZ];apply List.ext_getElem? fun i=> ?_;grind [CG]
theorem KW(F:Nat→Int):Sh.whole 64 (CG F)=some (CG F):=by
 rfl

theorem ab6:aeR 64 (0:Int)=CG (fun _=>0):=by decide
def DW(n:Nat)(f:Nat→Nat→Bool)(v k:Nat):Nat→Int:=fun x=>if x<n then(dk n f v k x:Int) else 0
def inF(n:Nat)(f:Nat→Nat→Bool)(v k:Nat)(L:List Nat):Nat→Int:=fun x=>if x<n then(if dk n f v k x=0∧x∈L then((k+1:Nat):Int) else(dk n f v k x:Int)) else 0
def inN(n:Nat)(f:Nat→Nat→Bool)(v k:Nat)(L:List Nat):Nat→Bool:=fun x=>L.any fun y=>decide (dk n f v k y=0)&&f x y
theorem WC{n:Nat}(hn:n≤64)(f:Nat→Nat→Bool){v k:Nat}(hv:v<n)(hk:k≤n+1)(p:Nat→Bool):
  abt (fun(q:(List Int)×(BitVec 64)×Int)=>y7 (gr n (yS f)) ((k+1:Nat):Int) (j0 (row n p)) q.1 q.2.1 q.2.2) (CG (DW n f v k),0#64,0)=
   some (.inl (CG (inF n f v k (Bv.list (row n p))),row n (inN n f v k (Bv.list (row n p))),((k+2:Nat):Int))):=by
 have hlen:=Bv.oC (row n p);refine h_ (fun j=>(CG (inF n f v k ((Bv.list (row n p)).take j)),row n (inN n f v k ((Bv.list (row n p)).take j)),(j:Int))) (Bv.list (row n p)).length _ (aP (by omega)) (fun j hj=> ?_) ?_ ?_
 ·have hjl:j<(j0 (row n p)).length:=by simpa [j0] using hj
  have hy:=JZ hn p hj;have hjl':(j:Int)<((j0 (row n p)).length:Int):=by omega
  simp only[y7,kD,hjl',bt,aY,Ib hj,bp];generalize hye:(Bv.list (row n p))[j]=y at hy;have hnot:y∉(Bv.list (row n p)).take j:=fun hm=>by
   grind [amt,aoM,Bv.Ba]
  have hval:inF n f v k ((Bv.list (row n p)).take j) y=(dk n f v k y:Int):=by
   simp_all [inF]
  have htk:(Bv.list (row n p)).take (j+1)=(Bv.list (row n p)).take j++[y]:=by rw[ao3 hj,hye]
  rw[KV _ (by omega)];simp only[bp,hval];by_cases h0:dk n f v k y=0
  ·have h0':(dk n f v k y:Int)=0:=by omega
   simp only[h0',bt,aY,rI hy,bp,LJ,TZ hn,y8,abo,aH (k:=j) (by omega)];rw[agd _ (by omega),htk];congr 3
   ·grind [KU,inF]
   grind [FI,inN,yS]
  ·have h0':¬(dk n f v k y:Int)=0:=by omega
   simp only[h0',b7,dw,aR,y8,abo,aH (k:=j) (by omega)];congr 3
   ·grind [KU,inF]
   simp_all [FI,inN]
 ·have hjl:¬(((Bv.list (row n p)).length:Nat):Int)<((j0 (row n p)).length:Int):=by simp[j0]
  simp only[y7,kD,hjl,b7,dw,aR,aoZ,HS,HR,abo,aH (k:=k+1) (by omega)]
 ·simp only[aph]
  congr 2
  ·grind [DW,inF]
  ·have:row n (inN n f v k [])=0#64:=by
    have:row n (inN n f v k [])=row n (fun _=>false):=by
     rfl
    apply Bv.ext;grind [qH]
   rw[this]
theorem wG{n:Nat}(hn:n≤64)(f:Nat→Nat→Bool){v:Nat}(hv:v<n):G.wG (gr n (yS f)) (v:Int)=some (CG (DW n f v n)):=by
 unfold G.wG;simp only[rI hv,bp];obtain⟨K,hK,hmin⟩:=exists_least (fun k=>∀x,x<n→U8 n f v k x=false) ⟨n+1,NC⟩;have hKn:K≤n+1:=hmin _ NC;have hend:CG (DW n f v K)=CG (DW n f v n):=by
  apply KU;intro x _;unfold DW;by_cases hx:x<n
  ·rcases aft n K with h|h
   ·have e1:K=n+1:=by omega
    subst e1;have:dk n f v (n+1) x=dk n f v n x:=by
     rw[HV];by_cases h0:dk n f v n x=0
     ·rw[if_neg (by omega)]
      cases hw:wk n f v (n+1) x with
      |false=>simp[h0]
      |true=>
       have:=ZM hx hw (fun i h1 h2=>(CQ n).1 h0 i h1 (by omega));omega
     grind
    rw[this]
   grind [aiE]
  omega
 refine h_ (fun k=>(CG (DW n f v k),row n (U8 n f v k),((k+1:Nat):Int))) K _ (aP (by omega)) (fun k hk=> ?_) ?_ ?_
 ·have hne:¬row n (U8 n f v k)=0#64:=fun h=>by
   have:∀x,x<n→U8 n f v k x=false:=fun x hx=>by
    have h2:(row n (U8 n f v k)).getLsbD x=false:=by grind
    grind [qH]
   have:=hmin k this;omega
  simp only[CN,ne_eq,hne,not_false_eq_true,bt,aY,lB,bp];rw[WC hn f hv (by omega)];have hmem:∀x,x∈Bv.list (row n (U8 n f v k))↔x<n∧U8 n f v k x=true:=fun x=>Ag hn _;congr 3
  ·apply KU
   intro x _;unfold inF DW;by_cases hx:x<n
   ·rw[if_pos hx,if_pos hx,HV]
    by_cases h0:dk n f v k x=0
    ·have hi:=Fx hv h0
     grind
    grind
   omega
  ·congr 1
   rw[FI hn];intro x _;rw[apB];unfold inN
   conv=>rhs;unfold U8
   rw[if_neg (by omega),aj8,aj8];simp only[aiq,dI,agW];constructor
   ·rintro⟨y,h1,h2,h3⟩
    obtain⟨hy,h4⟩:=(hmem y).1 h1;refine⟨y,hy, ?_,h3⟩;simp_all [HV,Fx]
   ·rintro⟨y,hy,h2,h3⟩
    have h0:dk n f v k y=0:=Classical.byContradiction fun h=>by
     grind [GN]
    refine⟨y,(hmem y).2 ⟨hy, ?_⟩,h0,h3⟩;simp_all [Fx,HV]
 ·have hz:row n (U8 n f v K)=0#64:=by
   apply Bv.ext;grind [qH]
  simp_all [CN,HQ,KW]
 ·congr 1
  grind [ab6,KU,DW,dk]


theorem YF{n:Nat}{f:Nat→Nat→Bool}{v x L:Nat}(hL:1≤L)(hx:x<n)(h:dk n f v n x=L+1):∃y,y<n∧f x y=true∧dk n f v n y=L:=by
 have hx0:dk n f v n x≠0:=by omega
 obtain⟨h1,h2,h3⟩:=GN n hx0
 rw[h] at h1 h2 h3
 obtain⟨y,hy,g1,g2,g3⟩:=LQ hL h1 h3
 refine⟨y,hy,g1, ?_⟩
 have hne:dk n f v n y≠0:=fun e=>by
  have:=(CQ n).1 e L hL (by omega)
  rw[g2] at this;cases this
 obtain⟨k1,k2,k3⟩:=GN n hne
 rcases Nat.lt_trichotomy (dk n f v n y) L with h|h|h
 ·have:=g3 _ (by omega) h
  rw[k1] at this;cases this
 ·exact h
 ·have:=k3 L hL h
  rw[g2] at this;cases this

def nq(n:Nat)(f:Nat→Nat→Bool)(v x L:Nat):Nat→Bool:=fun y=>f x y&&decide (dk n f v n y=L)
def sq(n:Nat)(f:Nat→Nat→Bool)(v L:Nat):Nat→Nat×List Int
 |0=>(v,[(v:Int)])
 |j+1=>((uI (nq n f v (sq n f v L j).1 (L - j)) n 0).toNat,(sq n f v L j).2++[uI (nq n f v (sq n f v L j).1 (L - j)) n 0])
theorem PB{n:Nat}{f:Nat→Nat→Bool}{v x L:Nat}(hL:1≤L)(hx:x<n)(h:dk n f v n x=L+1):∃y:Nat,y<n∧uI (nq n f v x L) n 0=(y:Int)∧f x y=true∧dk n f v n y=L∧∀i,i<y→¬(f x i=true∧dk n f v n i=L):=by
 obtain⟨z,hz,g1,g2⟩:=YF hL hx h
 have hq:nq n f v x L z=true:=by simp[nq,g1,g2]
 rcases EJ (nq n f v x L) n 0 with⟨_,h2⟩|⟨y,_,h2,h3,h4,h5⟩
 ·rw[h2 z (by omega) (by omega)] at hq;cases hq
 ·simp only[nq,aiq,dI] at h4
  refine⟨y,by omega,h3,h4.1,h4.2,fun i hi hc=> ?_⟩
  have:=h5 i (by omega) hi
  simp[nq,hc.1,hc.2] at this
theorem PA{n:Nat}{f:Nat→Nat→Bool}{v L:Nat}(hv:v<n)(hD:dk n f v n v=L+1):∀j,j≤L→(sq n f v L j).1<n∧dk n f v n (sq n f v L j).1=L - j+1∧(sq n f v L j).2.length=j+1∧(sq n f v L j).2[j]? =some ((sq n f v L j).1:Int)∧(sq n f v L j).2[0]? =some (v:Int):=by
 intro j
 induction j with
 |zero=>intro _;exact⟨hv,hD,rfl,rfl,rfl⟩
 |succ j ih=>
  intro hj
  obtain⟨h1,h2,h3,h4,h5⟩:=ih (by omega)
  obtain⟨y,hy,e,g1,g2,_⟩:=PB (L:=L - j) (by omega) h1 h2
  refine⟨?_, ?_, ?_, ?_, ?_⟩
  ·simp only[sq,e,aqh];exact hy
  ·simp only[sq,e,aqh];omega
  ·simp only[sq,amB,h3,List.length_singleton]
  ·simp only[sq,e,aqh]
   rw[List.getElem?_append_right (by omega),h3];simp
  ·simp only[sq]
   rw[List.getElem?_append_left (by omega)];exact h5
theorem VU{n:Nat}{f:Nat→Nat→Bool}{v L j y:Nat}(e:uI (nq n f v (sq n f v L j).1 (L - j)) n 0=(y:Int)):sq n f v L (j+1)=(y,(sq n f v L j).2++[(y:Int)]):=by
 simp only[sq,e,aqh]

theorem Xe{n:Nat}(hn:n≤64)(f:Nat→Nat→Bool){v L j:Nat}(hv:v<n)(hD:dk n f v n v=L+1)(hj:j<L):
  xe (gr n f) (CG (DW n f v n)) (sq n f v L j).2 ((L - j:Nat):Int)=some (.inl ((sq n f v L (j+1)).2,((L - (j+1):Nat):Int))):=by
 obtain⟨h1,h2,h3,h4,_⟩:=PA hv hD j (by omega)
 have hLn:L+1≤n:=by rw[←hD];exact YE hv
 obtain⟨y,hy,e,g1,g2,g3⟩:=PB (L:=L - j) (by omega) h1 h2
 have hnx:=VU e
 generalize sq n f v L (j+1)=s2 at hnx
 subst hnx
 generalize sq n f v L j=s at h1 h2 h3 h4 e g1 g2 g3
 obtain⟨x,out⟩:=s
 simp only at h1 h2 h3 h4 e g1 g2 g3 ⊢
 have hpos:(0:Int)<((L - j:Nat):Int):=by omega
 have hlast:bM ((out.length:Int) - 1)=(j:Int):=by rw[dM (by omega) (by omega)];omega
 have hjo:j<out.length:=by omega
 have hoj:out[j]=(x:Int):=by rw[ab9 hjo] at h4;exact Option.some.inj h4
 simp only[xe,hpos,bt,aY,kD,hlast,aU hjo,bp,hoj,rI h1,lB]
 have hmem:y∈Bv.list (row n (f x)):=(Ag hn _).2 ⟨hy,g1⟩
 obtain⟨i,hi,hiy⟩:=amt hmem
 have hll:=Bv.oC (row n (f x))
 refine h_ (fun q=>(q:Int)) i _ (aP (by omega)) (fun q hq=> ?_) ?_ rfl
 ·have hql:q<(Bv.list (row n (f x))).length:=by omega
  have hlt:=List.pairwise_iff_getElem.1 (Bv.Ba (row n (f x))) q i hql hi hq
  have hm:=(Ag hn (f x)).1 (acI hql)
  have hqi:(q:Int)<((j0 (row n (f x))).length:Int):=by simp[j0];exact hql
  simp only[BA,kD,hqi,bt,aY,Ib hql,bp]
  rw[KV _ (by omega)]
  have hd:¬DW n f v n (Bv.list (row n (f x)))[q]=((L - j:Nat):Int):=fun he=>by
   unfold DW at he
   rw[if_pos hm.1] at he
   exact g3 _ (by omega) ⟨hm.2,by omega⟩
  simp only[bp,hd,b7,dw,aR,abo,aH (k:=q) (by omega)]
 ·have hqi:(i:Int)<((j0 (row n (f x))).length:Int):=by simp[j0];exact hi
  simp only[BA,kD,hqi,bt,aY,Ib hi,bp,hiy]
  rw[KV _ (by omega)]
  have hd:DW n f v n y=((L - j:Nat):Int):=by unfold DW;rw[if_pos hy];omega
  simp only[bp,hd,bt,aY]
  rw[cA (by simp;omega)]
  have e2:bM (((L - j:Nat):Int) - 1)=((L - (j+1):Nat):Int):=by rw[dM (by omega) (by omega)];omega
  simp only[bp,BB,e2]
  rfl
def pw(n:Nat)(f:Nat→Nat→Bool):Nat→Nat→Nat→Bool
 |0=>f
 |k+1=>HP n (pw n f k) f
theorem Jb{h:af}{s:List aa}(hr:right h=true)(hs:∀c∈s,one h c=true){x y:Nat}(hx:x<h.aL.length)(hy:y<h.aL.length)(hd:dF h s x y=true):direct h s x y=true:=by
 unfold direct YD two;simp only[aiq,ajm,dI,aj8];refine⟨⟨⟨hr,sD.2 hx⟩,sD.2 hy⟩, ?_⟩;unfold dF Ki at hd;simp only[ajm] at hd;rcases hd with(h1|h1)|h1
 ·simp_all [soF]
 ·simp_all [wrF]
 ·right
  unfold XP at h1;simp only[aj8,aiq,dI] at h1;obtain⟨c,hc,ha,hb⟩:=h1;have ho:=hs c hc;unfold one at ho;refine⟨c,hc, ?_⟩;simp_all [isW]
theorem RM{h:af}{s:List aa}(hr:right h=true)(hs:∀c∈s,one h c=true){x y:Nat}(hx:x<h.aL.length)(hy:y<h.aL.length)(hd:PY h s x y=true):GG h s x y=true:=by
 unfold GG SG two;simp only[aiq,dI,aj8];refine⟨⟨⟨hr,sD.2 hx⟩,sD.2 hy⟩, ?_⟩;unfold PY at hd;rw[ajm] at hd;rcases hd with h1|h1
 ·unfold Tn acX at h1
  simp only[aiq,dI,aj8] at h1;obtain⟨h2,r,hm,h3,h4⟩:=h1;refine⟨by omega,r,hm, ?_⟩;simp_all [isO]
 ·simp only[aj8] at h1
  obtain⟨c,hc,h2⟩:=h1;unfold Xr at h2;simp only[aiq,dI] at h2;obtain⟨⟨h3,h4⟩,h5⟩:=h2;rw[zv hr (sD.2 hx)] at h5;simp only[aj8,dI] at h5;obtain⟨r,hm,h6⟩:=h5;have ho:=hs c hc;unfold one at ho;simp only[aiq,dI] at ho;refine⟨by omega,r,hm, ?_⟩;unfold isO;subst h6;simp only[aiq,ajm,dI,aj8];refine⟨by grind,.inr ⟨by omega,c,hc, ?_⟩⟩;cases c;grind
theorem WG{h:af}{lev:Int}{s:List aa}(hr:right h=true)(hs:∀c∈s,one h c=true)(hl:MS lev=true){x y:Nat}(hx:x<h.aL.length)(hy:y<h.aL.length):yf h lev s x y=q8 h lev s x y:=by
 rw[apB];refine⟨WA hx,fun hd=> ?_⟩;unfold MS at hl;simp only[ajm,dI] at hl;unfold q8 Ki at hd;rw[ajm] at hd;unfold yf;rcases hl with rfl|rfl
 ·grind [Jb,RM]
 ·simp only[show ¬((1:Int)=0) by omega,aR,aY,aj8,agW,aiq,ajm,dI]
  rcases hd with hd|hd
  ·exact⟨y,hy,Jb hr hs hx hy hd,.inl rfl⟩
  ·unfold HP at hd
   grind [Jb,RM]
theorem Qx{h:af}{lev:Int}{s:List aa}(hr:right h=true)(hs:∀c∈s,one h c=true)(hl:MS lev=true)(x y:Int):yf h lev s x y=hasB h.aL.length (q8 h lev s) x y:=by
 unfold hasB;by_cases hin:inr h x=true∧inr h y=true
 ·have hx:=jH.1 hin.1
  have hy:=jH.1 hin.2;have:=WG hr hs hl (x:=x.toNat) (y:=y.toNat) (by omega) (by omega);grind
 grind [U3,jH]
theorem YS{n:Nat}{f:Nat→Nat→Bool}{v L:Nat}(hv:v<n)(hD:dk n f v n v=L+1):Cyc n f (sq n f v L L).2:=by
 -- the nodes one by one
 have at_:∀j,j≤L→∀i,i≤j→∃y:Nat,(sq n f v L j).2[i]? =some (y:Int)∧y<n∧dk n f v n y=L - i+1∧(i=j→y=(sq n f v L j).1)∧(∀(z:Nat),(sq n f v L j).2[i+1]? =some (z:Int)→f y z=true):=by
  intro j
  induction j with
  |zero=>
   intro _ i hi;have:i=0:=by omega
   subst this;exact⟨v,rfl,hv,hD,fun _=>rfl,fun z hz=>by simp[sq] at hz⟩
  |succ j ih=>
   intro hj i hi;obtain⟨h1,h2,h3,h4,h5⟩:=PA hv hD j (by omega);obtain⟨y,hy,e,g1,g2,_⟩:=PB (L:=L - j) (by omega) h1 h2;have hnx:=VU e;by_cases hij:i≤j
   ·obtain⟨u,q1,q2,q3,q4,q5⟩:=ih (by omega) i hij
    refine⟨u, ?_,q2,q3,fun h=>by omega,fun z hz=> ?_⟩
    ·grind
    grind
   grind
 obtain⟨_,_,hlen,_,h0⟩:=PA hv hD L (afk _);have el:∀i (hi:i<(sq n f v L L).2.length),∃y:Nat,(sq n f v L L).2[i]=(y:Int)∧y<n∧dk n f v n y=L - i+1∧(∀z:Nat,(sq n f v L L).2[i+1]? =some (z:Int)→f y z=true):=fun i hi=>by
  obtain⟨y,q1,q2,q3,_,q5⟩:=at_ L (afk _) i (by omega);grind
 refine⟨by omega,fun a ha=> ?_, ?_,fun i hi=> ?_⟩
 ·obtain⟨i,hi,rfl⟩:=amt ha
  grind
 ·rw[aoL,aoM]
  intro i j hi hj hij he;obtain⟨y,q1,_,q3,_⟩:=el i hi;obtain⟨z,r1,_,r3,_⟩:=el j hj;have:y=z:=by omega
  grind
 ·by_cases hl:i+1<(sq n f v L L).2.length
  ·grind [Nat.mod_eq_of_lt,aqh]
  grind [Nat.mod_self,aqh,GN,aby]
theorem afF{n:Nat}(hn:n≤64)(f:Nat→Nat→Bool):∃r:List Int,lE (gr n f)=some r∧r.length≤64∧((r=[]∧∀v,v<n→dk n f v n v=0)∨Cyc n f r):=by
 unfold lE;simp only[ko hn,bp,ne_eq,not_true_eq_false,b7,dw,aR];have pskip:∀v,v<n→dk n f v n v=0→tc (gr n f) (gr n (yS f),0) (v:Int)=some (.inl ((v+1:Nat):Int)):=fun v hv h0=>by
  have hvn:(v:Int)<(n:Int):=by omega
  simp only[tc,hvn,bt,aY,wG hn f hv,bp];rw[show Sh.whole 64 (aeR 64 0)=some (aeR 64 0) by rfl,bp,KW,bp,KV _ (by omega)];have:DW n f v n v=0:=by simp_all [DW]
  simp only[bp,this,bt,aY,F_,abo,aH (k:=v) (by omega)]
 by_cases hex:∃v,v<n∧dk n f v n v≠0
 ·obtain⟨v,⟨hv,hne⟩,hmin⟩:=exists_least _ hex
  have before:∀i,i<v→dk n f i n i=0:=fun i hi=>Classical.byContradiction fun h=>by
   grind
  obtain⟨L,hL⟩:∃L,dk n f v n v=L+1:=⟨dk n f v n v - 1,by omega⟩;have hLn:L+1≤n:=by grind [YE]
  obtain⟨_,_,i3,_,i5⟩:=PA hv hL L (by omega);have hvn:(v:Int)<(n:Int):=by omega
  have aso:¬((L+1:Nat):Int)=0:=by omega
  have hw:bM (((L+1:Nat):Int) - 1)=((L - 0:Nat):Int):=by grind [dM]
  refine⟨(sq n f v L L).2, ?_,by omega,.inr (YS hv hL)⟩;refine h_ (fun i=>(i:Int)) v _ (aP (by omega)) (fun i hi=>pskip i (by omega) (before i hi)) ?_ rfl;have hd:DW n f v n v=((L+1:Nat):Int):=by simp_all [DW]
  simp only[tc,hvn,bt,aY,wG hn f hv,bp];rw[show Sh.whole 64 (aeR 64 0)=some (aeR 64 0) by rfl,bp,KW,bp,KV _ (by omega)];simp only[bp,hd,aso,b7,dw,aR];simp only[hw];refine h_ (fun j=>((sq n f v L j).2,((L - j:Nat):Int))) L _ (aP (by omega)) (fun j hj=>Xe hn f hv hL hj) ?_ rfl;simp_all [xe,Ga]
 ·have before:∀i,i<n→dk n f i n i=0:=fun i hi=>Classical.byContradiction fun h=>hex ⟨i,hi,h⟩
  refine⟨[], ?_,by simp,.inl ⟨rfl,before⟩⟩;refine h_ (fun i=>(i:Int)) n _ (aP (by omega)) (fun i hi=>pskip i hi (before i hi)) ?_ rfl;simp_all [tc,F9]
theorem RG{h:af}{lev:Int}{s:List aa}(hr:right h=true)(hs:∀c∈s,one h c=true)(hl:MS lev=true)(row:List Int):ring h lev s row=cyB h.aL.length (q8 h lev s) row:=by
 rw[apB,SY]
 unfold ring
 simp only[aiq,dI,agP,agW,Bool.not_eq_true',aj4]
 constructor
 ·rintro⟨h0,hall⟩
  have nodes:∀i (hi:i<row.length),0≤row[i]∧row[i]<h.aL.length:=fun i hi=>by
   have:=(U3 (hall i hi).2).1
   grind [jH]
  refine⟨h0,fun a ha=> ?_, ?_,fun i hi=> ?_⟩
  ·obtain⟨i,hi,rfl⟩:=amt ha
   grind
  ·rw[aoL,aoM]
   intro i j hi hj hij he
   have:=(hall j hj).1 row[i] (List.mem_take_iff_getElem.2 ⟨i,by omega,rfl⟩)
   grind
  grind [afw,Qx,QV]
 ·rintro⟨h0,hnodes,hnd,he⟩
  refine⟨h0,fun i hi=>⟨fun x hx=> ?_, ?_⟩⟩
  ·obtain⟨j,hj,rfl⟩:=List.mem_take_iff_getElem.1 hx
   grind [aoM]
  grind [Qx,QV]


inductive Tree where
 |leaf (x:ai)
 |br (x:ai) (a b:Tree)
namespace Tree
def flat:Tree→List ai
 |leaf x=>[x]
 |br x a b=>x::(a.flat++b.flat)
def ok:Tree→Bool
 |leaf x=>decide (0<x.eH.length)
 |br x a b=>decide (x.eH.length=0)&&a.ok&&b.ok
def leaves:Tree→Nat
 |leaf _=>1
 |br _ a b=>a.leaves+b.leaves
def deep:Tree→Nat
 |leaf _=>0
 |br _ a b=>1+max a.deep b.deep
theorem Fy:∀t:Tree,t.leaves≤t.flat.length
 |leaf _=>by simp[flat,leaves]
 |br _ a b=>by simp only[flat,leaves,acN,amB];have:=Fy a;have:=Fy b;omega
theorem HU:∀t:Tree,t.deep<t.flat.length
 |leaf _=>by simp[flat,deep]
 |br _ a b=>by simp only[flat,deep,acN,amB];have:=HU a;have:=HU b;omega
end Tree

def parse:Nat→List ai→Option (Tree×List ai)
 |0,_=>none
 |_+1,[]=>none
 |n+1,x::l=>
  if 0<x.eH.length then some (.leaf x,l)
  else match parse n l with
   |none=>none
   |some (a,l1)=>match parse n l1 with
    |none=>none
    |some (b,l2)=>some (.br x a b,l2)
theorem wV:∀(n:Nat) {l r:List ai} {t:Tree},parse n l=some (t,r)→t.ok=true∧l=t.flat++r
 |0,_,_,_,h=>by cases h
 |_+1,[],_,_,h=>by cases h
 |n+1,x::l,r,t,h=>by
  simp only[parse] at h;split at h
  ·grind [Tree.ok,Tree.flat]
  ·cases h1:parse n l with
   |none=>grind
   |some p=>
    obtain⟨a,l1⟩:=p;cases h2:parse n l1 with
    |none=>grind
    |some q=>
     obtain⟨a1,a2⟩:=wV n h1;obtain⟨b1,b2⟩:=wV n h2;grind [Tree.ok,Tree.flat]
theorem Iv:∀(t:Tree) (n:Nat) (r:List ai),t.ok=true→t.flat.length≤n→parse n (t.flat++r)=some (t,r)
 |.leaf x,n,r,h,hn=>by
  obtain⟨n,rfl⟩:∃m,n=m+1:=⟨n - 1,by grind [Tree.flat]⟩;simp_all [Tree.ok,Tree.flat,parse]
 |.br x a b,n,r,h,hn=>by
  obtain⟨n,rfl⟩:∃m,n=m+1:=⟨n - 1,by grind [Tree.flat]⟩;simp only[Tree.ok,aiq,dI] at h;simp only[Tree.flat,acN,amB] at hn;have h0:¬0<x.eH.length:=by omega
  simp only[Tree.flat,ajF,aj9,parse,if_neg h0];rw[Iv a n _ h.1.2 (by omega)]
  dsimp only
  rw[Iv b n _ h.2 (by omega)]
theorem aaz{n m:Nat}{l:List ai}(hn:l.length≤n)(hm:l.length≤m):parse n l=parse m l:=by
 have key:∀{n m:Nat},l.length≤n→l.length≤m→∀p,parse n l=some p→parse m l=some p:=fun{n m} hn hm p hp=>by
  obtain⟨t,r⟩:=p;obtain⟨h1,h2⟩:=wV n hp;have hl:t.flat.length≤m:=by grind
  grind [Iv]
 cases h1:parse n l with
 |some p=>grind
 |none=>
  cases h2:parse m l with
  |none=>rfl
  |some p=>grind
def whole(l:List ai):Option Tree:=
 match parse l.length l with
 |some (t,[])=>some t
 |_=>none
theorem Se{t:Tree}(h:t.ok=true):whole t.flat=some t:=by
 have:=Iv t t.flat.length [] h (afk _);grind [whole]
theorem Hg{l:List ai}{t:Tree}(h:whole l=some t):t.ok=true∧l=t.flat:=by
 unfold whole at h;split at h
 ·rename_i t' hp
  have:=wV _ hp;grind
 ·cases h

theorem gt0{α:Type}(l:List α):decide ((0:Int)<arA l)=decide (0<l.length):=by
 grind
theorem aar(x:ai)(l:List ai):cL ⟨x::l⟩=some (x,⟨l⟩):=by
 unfold cL;have h0:¬(arA (x::l))=0:=by grind
 have h1:aaV (x::l) 0=some x:=by rfl
 have h2:abH (x::l) 1 (arA (x::l))=some l:=by
  simp[abH,arA];omega
 grind
theorem Ph:∀(n:Nat) (l:List ai),l.length≤4611686018427387904→bG n ⟨l⟩=(parse n l).map fun p=>(⟨p.2⟩,(p.1.leaves:Int),(p.1.deep:Int))
 |0,_,_=>rfl
 |n+1,[],_=>by rfl
 |n+1,x::l,hl=>by
  simp only[acN] at hl;simp only[bG,eU,aar,bp,parse,gt0];by_cases hx:0<x.eH.length
  ·simp[hx,Tree.leaves,Tree.deep]
  ·simp only[hx,b7,dw,aR]
   rw[Ph n l (by omega)];cases h1:parse n l with
   |none=>rfl
   |some p=>
    obtain⟨a,l1⟩:=p;obtain⟨a1,a2⟩:=wV n h1;have e1:=congrArg ajL a2;simp only[amB] at e1;simp only[ajX,bp];rw[Ph n l1 (by omega)];cases h2:parse n l1 with
    |none=>rfl
    |some q=>
     obtain⟨b,l2⟩:=q;obtain⟨b1,b2⟩:=wV n h2;have:=a.Fy;have:=b.Fy;have:=a.HU;have:=b.HU;simp only[ajX,bp,Tree.leaves,Tree.deep];have w1:bM ((a.leaves:Int)+(b.leaves:Int))=((a.leaves+b.leaves:Nat):Int):=by grind [dM]
     have w2:bM (1+abN (a.deep:Int) (b.deep:Int))=((1+max a.deep b.deep:Nat):Int):=by
      grind [abN,dM]
     grind
def shapeOf(l:List ai):Int×Int×Bool:=match whole l with|some t=>((t.leaves:Int),(t.deep:Int),true)|none=>(0,0,false)
theorem T7{l:List ai}(h:whole l=none):shapeOf l=(0,0,false):=by unfold shapeOf;rw[h]
theorem T8{l:List ai}{t:Tree}(h:whole l=some t):shapeOf l=((t.leaves:Int),(t.deep:Int),true):=by unfold shapeOf;rw[h]
theorem ahS{l:List ai}(hl:l.length≤1000000):sG l=some (shapeOf l):=by
 unfold sG;rw[Ph _ _ (by omega),aaz (n:=l.length+1) (m:=l.length) (by omega) (afk _)];unfold shapeOf whole;cases h:parse l.length l with
 |none=>rfl
 |some p=>
  obtain⟨t,r⟩:=p;cases r with
  |nil=>rfl
  |cons y r=>
   grind
def Tree.held(h:af)(lev:Int):Tree→List aa→Bool
 |.leaf x,l=>decide (x.C=⟨0,0,0⟩)&&ring h lev l x.eH
 |.br x a b,l=>a.held h lev (l++[x.C])&&b.held h lev (l++[back x.C])&&one h x.C
def KN(t:Tree):Prop:=∀x∈t.flat,x.eH.length<9223372036854775808
theorem KN.br{x:ai}{a b:Tree}(h:KN (.br x a b)):KN a∧KN b:=
 ⟨fun y hy=>h y (by simp[Tree.flat,hy]),fun y hy=>h y (by simp[Tree.flat,hy])⟩

theorem afL{h:af}(hf:Fits h)(x:Int)(c:aa):lV x h c=some (inr h x&&ku (tx h x) c.Key):=by
 unfold lV
 by_cases hx:inr h x=true
 ·obtain⟨a,b⟩:=jH.1 hx
  have:=hf.writes _ (yE hx)
  rw[if_pos (by simpa using a),if_pos (by simpa [arA] using b),z_ hx,bp,LY (by omega),bp,hx]
  rfl
 ·have h1:inr h x=false:=by simpa using hx
  rw[h1]
  unfold inr at h1
  by_cases a:0≤x <;> by_cases b:x<(h.aL.length:Int) <;> simp[a,b,arA] at h1 ⊢
theorem ahQ{h:af}(hf:Fits h)(c:aa):xw h c=some (one h c):=by
 unfold xw one
 rw[afL hf,afL hf]
 simp only[bp]
 by_cases a:c.A=c.B
 ·simp[a]
 ·simp only[a,ne_eq,not_false_eq_true,bt,aY,aqb]
  cases inr h c.A <;> cases ku (tx h c.A) c.Key <;> cases inr h c.B <;> cases ku (tx h c.B) c.Key <;> rfl
theorem VP(l:List aa):cg l=some l:=by
 simp[cg,abH,arA]
theorem TD{h:af}(hf:Fits h)(lev:Int):∀(t:Tree) (n:Nat) (l:List aa) (r:List ai),t.ok=true→t.flat.length≤n→l.length+t.deep≤1000000→KN t→
  gd n h lev l ⟨t.flat++r⟩=some (⟨r⟩,t.held h lev l)
 |.leaf x,n,l,r,hok,hn,hl,hs=>by
  obtain⟨n,rfl⟩:∃m,n=m+1:=⟨n - 1,by simp[Tree.flat] at hn;omega⟩
  simp only[Tree.ok] at hok
  have hx:=hs x (by simp[Tree.flat])
  simp only[Tree.deep] at hl
  simp only[Tree.flat,List.singleton_append,gd,lW,aar,bp,gt0,hok,aY,Tree.held]
  rw[aao hf (show l.length<9223372036854775807 by omega) lev hx]
  by_cases hc:x.C=⟨0,0,0⟩ <;> simp[hc]
 |.br x a b,n,l,r,hok,hn,hl,hs=>by
  obtain⟨n,rfl⟩:∃m,n=m+1:=⟨n - 1,by simp[Tree.flat] at hn;omega⟩
  simp only[Tree.ok,aiq,dI] at hok
  simp only[Tree.flat,acN,amB] at hn
  simp only[Tree.deep] at hl
  have h0:decide (0<x.eH.length)=false:=by simp[hok.1.1]
  have i1:=TD hf lev a n (l++[x.C]) (b.flat++r) hok.1.2 (by omega) (by simp;omega) hs.br.1
  have i2:=TD hf lev b n (l++[back x.C]) r hok.2 (by omega) (by simp;omega) hs.br.2
  have e1:abz 24 l [x.C]=some (l++[x.C]):=cA (by simp;omega)
  have e2:abz 24 l [back x.C]=some (l++[back x.C]):=cA (by simp;omega)
  simp only[Tree.flat,ajF,aj9,gd,lW,aar,bp,gt0,h0,dw,aR,VP,e1,i1,EZ,show aa.mk x.C.Key x.C.B x.C.A=back x.C from rfl,e2,i2,ahQ hf,Tree.held]
  cases a.held h lev (l++[x.C]) <;> cases b.held h lev (l++[back x.C]) <;> simp
def check(h:af)(lev:Int)(l:List aa)(tree:List ai):Bool:=
 match whole tree with
 |some t=>may h lev&&t.held h lev l
 |none=>false
def Wb(tree:List ai):Prop:=tree.length≤1000∧∀x∈tree,x.eH.length<9223372036854775808
theorem ahN{h:af}(hf:Fits h)(lev:Int){l:List aa}(hl:l.length≤1000){tree:List ai}(ht:Wb tree):vr h lev l tree=some (check h lev l tree):=by
 unfold vr check
 rw[ahS (by have:=ht.1;omega),uq hf]
 simp only[bp]
 cases hw:whole tree with
 |none=>simp[iq,T7 hw]
 |some t=>
  rw[T8 hw]
  obtain⟨h1,h2⟩:=Hg hw
  have hd:=t.HU
  have hlen:=congrArg ajL h2
  have key:qt h lev l ⟨tree⟩=some (⟨[]⟩,t.held h lev l):=by
   have:=TD hf lev t Sh.s5 l [] h1 (Nat.le_of_lt (aP (by have:=ht.1;omega))) (by have:=ht.1;omega) (fun x hx=>ht.2 x (by rw[h2];exact hx))
   rw[List.append_nil,←h2] at this
   exact this
  simp only[apS,dw,aR,may]
  cases right h with
  |false=>simp[iq]
  |true=>
   by_cases a:lev=0
   ·simp[a,iq] at key ⊢
    rw[key];rfl
   ·by_cases b:lev=1
    ·simp[b,iq] at key ⊢
     rw[key];rfl
    ·simp[a,b,iq]
theorem Lx{h:af}{lev:Int}:∀(t:Tree) {l m:List aa},(∀c∈l,c∈m)→t.held h lev l=true→t.held h lev m=true
 |.leaf x,l,m,hs,hh=>by
  simp only[Tree.held,aiq] at hh ⊢
  exact⟨hh.1,aaT hs hh.2⟩
 |.br x a b,l,m,hs,hh=>by
  simp only[Tree.held,aiq] at hh ⊢
  have key:∀c:aa,∀d∈l++[c],d∈m++[c]:=fun c d hd=>by
   rcases List.mem_append.1 hd with h|h
   ·exact List.mem_append_left _ (hs d h)
   ·exact List.mem_append_right _ h
  exact⟨⟨Lx a (key _) hh.1.1,Lx b (key _) hh.1.2⟩,hh.2⟩
theorem Wy{h:af}{lev:Int}{l m:List aa}(hs:∀c∈l,c∈m){tree:List ai}(hh:check h lev l tree=true):check h lev m tree=true:=by
 unfold check at hh ⊢
 cases hw:whole tree with
 |none=>rw[hw] at hh;cases hh
 |some t=>
  rw[hw] at hh
  simp only[aiq] at hh ⊢
  exact⟨hh.1,Lx t hs hh.2⟩
theorem nH{h:af}{lev:Int}{l:List au}(hr:replay h lev l=true):right h=true∧MS lev=true∧∀f∈l,one h f.C=true:=by
 unfold replay at hr
 simp only[aiq,dI] at hr
 obtain⟨hm,hall⟩:=hr
 unfold may at hm
 simp only[aiq] at hm
 refine⟨hm.1,hm.2,fun f hf=> ?_⟩
 obtain⟨k,hk,rfl⟩:=amt hf
 have:=hall k hk
 unfold BM holds at this
 simp only[alN,ab9 hk,api,aiq] at this
 exact this.1.1.2
def Me(l:List au)(i:Nat):List aa:=(l.take i).map (·.C)++[back (l.getD i default).C]
noncomputable def U7(n:Nat)(f:Nat→Nat→Bool):List Int:=if hn:n≤64 then Classical.choose (afF hn f) else []
theorem El{n:Nat}(hn:n≤64)(f:Nat→Nat→Bool):lE (gr n f)=some (U7 n f)∧(U7 n f).length≤64∧(U7 n f=[]∨Cyc n f (U7 n f)):=by
 unfold U7
 rw[dif_pos hn]
 have:=Classical.choose_spec (afF hn f)
 exact⟨this.1,this.2.1,this.2.2.imp (·.1) id⟩
def c0:aa:=⟨0,0,0⟩
noncomputable def cyc(h:af)(lev:Int)(l:List au)(i:Nat):ai:=⟨c0,U7 h.aL.length (q8 h lev (Me l i))⟩
noncomputable def under(h:af)(lev:Int)(l:List au)(tree:List ai):List ai×Int:=
 if replay h lev l then((l.map fun f=>(⟨f.C,[]⟩:ai))++tree++(aeD l.length).map (fun k=>cyc h lev l (l.length - 1 - k)),0) else([],17)
theorem aaU{h:af}{lev:Int}{l:List au}(hr:replay h lev l=true){i:Nat}(hi:i<l.length):cr h (Me l i)=true:=by
 obtain⟨h1,_,h3⟩:=nH hr
 refine Ee.2 ⟨h1,fun c hc=> ?_⟩
 unfold Me at hc
 rcases List.mem_append.1 hc with h4|h4
 ·obtain⟨f,hf,rfl⟩:=List.mem_map.1 h4
  exact h3 f (ajO hf)
 ·rw[List.mem_singleton.1 h4,alN,ab9 hi]
  exact LU (h3 _ (acI hi))

theorem TG{h:af}(hf:Fits h)(lev:Int){l:List au}{tree:List ai}(hl:l.length≤20)(ht:tree.length≤1000)(hlc:∀f∈l,f.eH.length≤1000)(htc:∀f∈tree,f.eH.length≤1000):
  qZ h lev l tree=some (under h lev l tree):=by
 have hslim:Yd l:=⟨by omega,fun f hf=>by have:=hlc f hf;omega⟩
 unfold qZ under
 rw[dg (show ¬(20000:Int)≤arA l by simp only[arA];omega)]
 simp only[dw,aR,Pg hf lev hslim,bp]
 cases hr:replay h lev l with
 |false=>rfl
 |true=>
  obtain⟨hright,hlev,hones⟩:=nH hr
  have hn:=eP hright
  have Cc:h.aL.length≤64:=by omega
  have Vi:bM (2*arA l)=2*(l.length:Int):=by rw[dM (by simp only[arA];omega) (by simp only[arA];omega)]
  have Vj:bM (arA tree+2*(l.length:Int))=((tree.length+2*l.length:Nat):Int):=by rw[dM (by simp only[arA];omega) (by simp only[arA];omega)];simp only[arA];omega
  have hmk:Sh.mk 48 0 ((tree.length+2*l.length:Nat):Int) (ai.mk (aa.mk 0 0 0) [])=some []:=by
   unfold Sh.mk
   rw[if_pos ⟨by omega,by omega,by omega,by omega⟩]
   rfl
  simp only[apS,dw,aR,aY,Vi,Vj,hmk,bp]
  refine cB (fun k=>(l.take k).map fun f=>(⟨f.C,[]⟩:ai)) l.length _ (aP (by omega)) (fun k hk=> ?_) ?_ rfl
  ·simp only[zW,dec_lt,hk,bt,aY,aU hk,bp]
   rw[cA (by simp;omega)]
   simp only[bp,aH (k:=k) (by omega),abo]
   rw[aoR,ab9 hk,apj,amQ]
   rfl
  ·simp only[zW,dec_lt,afr,b7,dw,aR,aoZ,Em]
   congr 1
   refine cB (fun k=>(l.map fun f=>(⟨f.C,[]⟩:ai))++tree.take k) tree.length _ (aP (by omega)) (fun k hk=> ?_) ?_ (by simp)
   ·have hc:=htc _ (acI hk)
    simp only[zV,dec_lt,hk,bt,aY,aU hk,bp]
    rw[cA (by simp;omega)]
    simp only[bp,aoK]
    rw[cA (by simp;omega)]
    simp only[bp,aH (k:=k) (by omega),abo]
    rw[aoR,ab9 hk,apj,aj9]
   ·simp only[zV,dec_lt,afr,b7,dw,aR,aoZ,En]
    congr 1
    refine cB (fun k=>(l.map fun f=>(⟨f.C,[]⟩:ai))++tree++(aeD k).map (fun k=>cyc h lev l (l.length - 1 - k))) l.length _ (aP (by omega)) (fun k hk=> ?_) ?_ (by simp)
    ·obtain⟨i,hi⟩:∃i,i=l.length - 1 - k:=⟨_,rfl⟩
     have hil:i<l.length:=by omega
     have e1:bM (bM (arA l - 1) - (k:Int))=(i:Int):=by
      rw[dM (n:=arA l - 1) (by simp only[arA];omega) (by simp only[arA];omega),dM (by simp only[arA];omega) (by simp only[arA];omega)]
      simp only[arA];omega
     have hchl:((l.take (i+1)).map (·.C)).length=i+1:=by simp;omega
     have asg:i<((l.take (i+1)).map (·.C)).length:=by omega
     have hgi:((l.take (i+1)).map (·.C))[i]=(l[i]).C:=by simp
     have hset:∀c:aa,((l.take (i+1)).map (·.C)).set i c=(l.take i).map (·.C)++[c]:=fun c=>by
      rw[aoR,ab9 hil,apj,amQ,List.set_append_right _ _ (by simp;omega)]
      have:i - ((l.take i).map (·.C)).length=0:=by simp;omega
      rw[this];rfl
     simp only[zU,dec_lt,hk,bt,aY,e1,aH (k:=i) (by omega)]
     rw[show abH l 0 ((i+1:Nat):Int)=some (l.take (i+1)) by have:=sY (l:=l) (m:=0) (k:=i+1) (by omega) (by omega);simpa using this]
     simp only[bp,xT (show(l.take (i+1)).length≤1000000 by simp;omega),aU asg,hgi,lZ]
     have hl3:i<(((l.take (i+1)).map (·.C)).set i (aa.mk ((l[i]).C).Key ((l[i]).C).B ((l[i]).C).B)).length:=by simp;omega
     rw[aU hl3]
     simp only[bp,List.getElem_set_self,aoQ]
     rw[hset,show(l.take i).map (·.C)++[aa.mk ((l[i]).C).Key ((l[i]).C).B ((l[i]).C).A]=Me l i by
      unfold Me;rw[alN,ab9 hil];rfl]
     have hrl:(Me l i).length≤20000:=by unfold Me;simp;omega
     rw[NS hf lev hrl]
     have hcr:=aaU hr hil
     unfold H7
     rw[hcr,hlev]
     obtain⟨f1,f3,_⟩:=El Cc (q8 h lev (Me l i))
     simp only[bp,apy,aY,f1]
     rw[cA (by simp;omega)]
     simp only[bp,aH (k:=k) (by omega),abo]
     rw[aoP,amQ,←aj9]
     rw[show(List.map (fun k=>cyc h lev l (l.length - 1 - k)) [k])=[ai.mk (aa.mk 0 0 0) (U7 h.aL.length (q8 h lev (Me l i)))] by rw[hi];rfl]
    ·simp only[zU,dec_lt,afr,b7,dw,aR,Eo]
def FX(l:List Int):BitVec 64:=l.foldl (fun s i=>s|||Bv.bit i) 0#64
theorem W6(l:List Int)(i:Int):FX (l++[i])=FX l|||Bv.bit i:=by simp[FX]
theorem LS{n:Nat}(hn:n≤64):∀(l:List Int),(∀a∈l,0≤a∧a<n)→∀i:Nat,(FX l).getLsbD i=decide ((i:Int)∈l):=by
 have key:∀(l:List Int) (s:BitVec 64),(∀a∈l,0≤a∧a<n)→∀i:Nat,(l.foldl (fun s i=>s|||Bv.bit i) s).getLsbD i=(s.getLsbD i||decide ((i:Int)∈l)):=by
  intro l
  induction l with
  |nil=>grind
  |cons a l ih=>
   intro s h i;have ha:=h a (by simp);obtain⟨k,rfl⟩:∃k:Nat,a=k:=⟨a.toNat,by omega⟩;grind [acg]
 grind [FX]
theorem ZX{n:Nat}(hn:n≤64){l:List Int}(h:∀a∈l,0≤a∧a<n)(a:Int)(ha:0≤a∧a<n):Bv.has (FX l) a=decide (a∈l):=by
 obtain⟨k,rfl⟩:∃k:Nat,a=k:=⟨a.toNat,by omega⟩;grind [OR,LS]

def NB(n:Nat)(f:Nat→Nat→Bool)(l:List Int)(k:Nat):Bool:= !decide ((k:Int)∈l)&&(aeD n).all fun x=> !f x k||decide ((x:Int)∈l)
def ze(q:Nat→Bool):Nat→Nat→Int
 |0,_=> -1
 |m+1,k=>if q k then(k:Int) else ze q m (k+1)
def yl(n:Nat)(f:Nat→Nat→Bool)(l:List Int):Int:=ze (NB n f l) n 0
theorem Ij(q:Nat→Bool):∀(m k:Nat),(ze q m k= -1∧∀j,k≤j→j<k+m→q j=false)∨∃j,k≤j∧j<k+m∧ze q m k=(j:Int)∧q j=true∧∀i,k≤i→i<j→q i=false
 |0,k=>.inl ⟨rfl,fun j h1 h2=>by omega⟩
 |m+1,k=>by
  unfold ze;cases hq:q k with
  |true=>grind
  |false=>
   rcases Ij q m (k+1) with⟨h1,h2⟩|⟨j,h1,h2,h3,h4,h5⟩
   ·grind
   grind
def Eu(n:Nat)(f:Nat→Nat→Bool):Nat→List Int→Option (List Int)
 |0,l=>some l
 |m+1,l=>if yl n f l<0 then none else Eu n f m (l++[yl n f l])
def toldOf(n:Nat)(f:Nat→Nat→Bool):List Int×Bool:=match Eu n f n [] with|some l=>(l,true)|none=>([],false)

theorem OK{n:Nat}{f:Nat→Nat→Bool}{l:List Int}(h:¬yl n f l<0):0≤yl n f l∧yl n f l<n:=by
 grind [Ij,yl]

theorem down{n:Nat}(hn:n≤64)(f:Nat→Nat→Bool){l:List Int}(hnodes:∀a∈l,0≤a∧a<n)(v:Int):
  abt (fun(p:Int×Int)=>xz (gr n (yS f),0) l (FX l) v p.1 p.2) ((-1),bM ((n:Int) - 1))=qc l (FX l) v (yl n f l):=by
 refine h_ (fun i=>(ze (NB n f l) i (n - i),(n:Int) - 1 - (i:Int))) n _ (aP (by omega)) (fun i hi=> ?_) ?_ ?_
 ·obtain⟨k,hk⟩:∃k:Nat,k=n - 1 - i:=⟨_,rfl⟩
  have e1:(n:Int) - 1 - (i:Int)=(k:Int):=by omega
  have e2:n - (i+1)=k:=by omega
  have e3:n - i=k+1:=by omega
  have e4:bM ((k:Int) - 1)=(n:Int) - 1 - ((i+1:Nat):Int):=by grind [dM]
  have hkn:k<n:=by omega
  have h0:(0:Int)≤(k:Int):=by omega
  have hsub:decide (row n (yS f k)&&& ~~~FX l=0#64)=(aeD n).all fun x=> !f x k||decide ((x:Int)∈l):=by
   rw[apB,dI,VW,agP]
   constructor
   ·intro h x hx
    have hx:x<n:=by grind
    have:=h x
    grind [qH,LS,yS]
   ·intro h x hx
    rw[qH hn] at hx
    simp only[aiq,dI] at hx
    have:=h x (by grind)
    rw[LS hn l hnodes]
    have hf:f x k=true:=hx.2
    grind
  have hfree:NB n f l k=(!decide ((k:Int)∈l)&&decide (row n (yS f k)&&& ~~~FX l=0#64)):=by rw[hsub];rfl
  simp only[e1,e2,e3,xz,h0,bt,aY,xF,ZX hn hnodes (k:Int) ⟨h0,by omega⟩,bp,rI hkn,zF,BT,BS,abo,e4]
  have e5:ze (NB n f l) (i+1) k=if NB n f l k then(k:Int) else ze (NB n f l) i (k+1):=rfl
  grind
 ·have:¬(0:Int)≤(n:Int) - 1 - (n:Int):=by omega
  simp only[xz,this,b7,dw,aR,Nat.sub_self]
  rfl
 grind [dM,ze]
theorem TB{n:Nat}(hn:n≤64)(f:Nat→Nat→Bool):∀(m v:Nat) (l:List Int) (q:Nat),m<q→v+m=n→l.length=v→(∀a∈l,0≤a∧a<n)→
  Sh.iter (fun(p:(List Int)×(BitVec 64)×Int)=>qb (gr n f) (gr n (yS f),0) p.1 p.2.1 p.2.2) q (l,FX l,(v:Int))=some (match Eu n f m l with|some l=>(l,true)|none=>([],false)):=by
 intro m
 induction m with
 |zero=>
  intro v l q hq hv hl hnodes;obtain⟨q,rfl⟩:∃p,q=p+1:=⟨q - 1,by omega⟩;have hb:qb (gr n f) (gr n (yS f),0) l (FX l) (v:Int)=some (.inr (l,true)):=by
   simp_all [qb,Gy,uC]
  grind [Sh.iter,Eu]
 |succ m ih=>
  intro v l q hq hv hl hnodes;obtain⟨q,rfl⟩:∃p,q=p+1:=⟨q - 1,by omega⟩;have hlt:((v:Int)<(n:Int)):=by omega
  have hb:qb (gr n f) (gr n (yS f),0) l (FX l) (v:Int)=qc l (FX l) (v:Int) (yl n f l):=by
   simp_all [qb,down]
  unfold Eu;by_cases hf:yl n f l<0
  ·simp_all [qc,uC,Sh.iter]
  ·have hr:=OK hf
   have:qc l (FX l) (v:Int) (yl n f l)=some (.inl (l++[yl n f l],FX (l++[yl n f l]),((v+1:Nat):Int))):=by
    simp only[qc,hf,b7,dw,aR,Gz,p7,bp];rw[cA (by grind)];grind [abo,aH,W6]
   simp only[Sh.iter,hb,this,hf,aR];refine ih (v+1) _ q (by omega) (by omega) (by simp[hl]) (fun a ha=> ?_);grind
theorem kF{n:Nat}(hn:n≤64)(f:Nat→Nat→Bool):G.kF (gr n f)=some (toldOf n f):=by
 unfold G.kF;have hm:Sh.mk 8 0 (n:Int) (0:Int)=some []:=by
  unfold Sh.mk;grind
 simp only[ko hn,bp,ne_eq,not_true_eq_false,b7,dw,aR,hm];exact TB hn f n 0 [] Sh.s5 (aP (by omega)) (by omega) rfl (fun a ha=>by simp at ha)
def Sl(t:List ai):Prop:=t.length≤1000∧∀x∈t,x.eH.length≤1000
def GL(m:aA):aa:=if m.yJ then back m.C else m.C
theorem adB(c:aa):xy c=some (back c):=rfl
theorem VO(m:aA):lY m=some (GL m):=by
 unfold lY GL;cases m.yJ <;> rfl
theorem adz{l:List ai}(hl:Sl l):zk l=some l:=by
 have h1:=hl.1;refine cB (fun k=>l.take k) l.length _ (aP (by omega)) (fun k hk=> ?_) ?_ (by simp)
 ·have hc:=hl.2 _ (acI hk)
  simp only[yC,dec_lt,hk,bt,aY,aU hk,bp,bO];rw[cA (by grind)];simp only[bp,aoK];rw[cA (by grind)];simp only[bp,aH (k:=k) (by omega),abo];rw[aoR,ab9 hk,apj]
 ·simp[yC,DQ]
theorem atq{path:List aA}(hp:path.length≤1000)(hs:∀m∈path,Sl m.gy):Ay path=some path:=by
 have e0:bP path=some path:=by grind [bP,cA]
 unfold Ay;rw[e0,bp];refine cB (fun _=>path) path.length _ (aP (by omega)) (fun k hk=> ?_) ?_ rfl
 ·simp only[BO,dec_lt,hk,bt,aY,aU hk,bp,adz (hs _ (acI hk)),aH (k:=k) (by omega),abo,lZ]
  have e:path.set k (aA.mk (aa.mk path[k].C.Key path[k].C.A path[k].C.B) path[k].yJ path[k].gy)=path:=List.set_getElem_self hk;rw[e]
 simp_all [BO,Gq]
theorem W7{path:List aA}(hp:path.length≤1000):vA path=some (path.map GL):=by
 refine cB (fun k=>(path.take k).map GL) path.length _ (aP (by omega)) (fun k hk=> ?_) ?_ (by simp)
 ·simp only[vB,dec_lt,hk,bt,aY,aU hk,bp,VO]
  grind [cA,aH,abo,aoR]
 ·simp[vB,Bk]

theorem Rp{h:af}{c:aa}(hc:c∈bB h):c.A<c.B:=by
 unfold bB vp vo at hc;simp only[aoB,agW,aoI] at hc;obtain⟨k,hk,i,hi,w,hw,rfl⟩:=hc;have hd:(eW h (k:Int)).getD i 0=(eW h (k:Int))[i]:=by grind
 have hs:=AL (h:=h) (key:=(k:Int));rw[aoM] at hs;obtain⟨j,hj,rfl⟩:=amt hw;rw[ams,hd];simp only[amC] at hj;exact hs i (i+1+j) hi (by omega) (by omega)
theorem Jt{α:Type}:∀{l m:List α},l.Nodup→(∀x∈l,x∈m)→l.length≤m.length
 |[],_,_,_=>afR _
 |x::l,m,hn,hs=>by
  obtain⟨a,b,rfl⟩:=List.append_of_mem (hs x (by simp));have hn':=List.nodup_cons.1 hn;have:=Jt (m:=a++b) hn'.2 (fun y hy=>by
   grind)
  grind

def S:Nat→Nat
 |0=>1
 |j+1=>2*S j+1
theorem UD(j:Nat):0<S j:=by cases j <;> simp[S]
structure aj6 (h:af) (lev:Int) (k d:Nat) (row:List aa) (m:aA):Prop where
 pair:m.C∈bB h
 sl:∀x∈m.gy,x.eH.length≤1000
 sz:m.gy.length≤S (k - (d+1))
 no:m.yJ=false→m.gy=[]
 yes:m.yJ=true→check h lev (row++[m.C]) m.gy=true
def kP(h:af)(lev:Int)(k:Nat):Nat→List aa→List aA→Prop
 |_,_,[]=>True
 |d,row,m::r=>aj6 h lev k d row m∧kP h lev k (d+1) (row++[GL m]) r
theorem kP.app{h:af}{lev:Int}{k:Nat}:∀{p q:List aA} {d:Nat} {row:List aa},kP h lev k d row (p++q)↔kP h lev k d row p∧kP h lev k (d+p.length) (row++p.map GL) q
 |[],q,d,row=>by simp_all [kP]
 |m::p,q,d,row=>by
  simp only[ajF,aoK,kP,kP.app (p:=p),and_assoc,acN,List.map_cons,aj9];grind
theorem kP.at{h:af}{lev:Int}{k i:Nat}{path:List aA}{d:Nat}{row:List aa}(hp:kP h lev k d row path)(hi:i<path.length):aj6 h lev k (d+i) (row++(path.take i).map GL) path[i]:=by
 have e:path=path.take i++path[i]::path.drop (i+1):=by simp_all
 rw[e] at hp;have:=(kP.app.1 hp).2.1;grind
theorem kP.mem{h:af}{lev:Int}{k:Nat}{path:List aA}{d:Nat}{row:List aa}(hp:kP h lev k d row path){m:aA}(hm:m∈path):m.C∈bB h∧∀x∈m.gy,x.eH.length≤1000:=by
 obtain⟨i,hi,rfl⟩:=amt hm;exact⟨(hp.at hi).pair,(hp.at hi).sl⟩
theorem kP.more{h:af}{lev:Int}{k:Nat}:∀{path:List aA} {d:Nat} {row row':List aa},(∀c∈row,c∈row')→kP h lev k d row path→kP h lev k d row' path
 |[],_,_,_,_,_=>trivial
 |m::r,d,row,row',hs,hp=>by
  have key:∀c:aa,∀x∈row++[c],x∈row'++[c]:=fun c x hx=>by
   grind
  exact⟨⟨hp.1.pair,hp.1.sl,hp.1.sz,hp.1.no,fun hr=>Wy (key _) (hp.1.yes hr)⟩,kP.more (key _) hp.2⟩
def pre(k:Nat):Nat→List aA→Nat
 |_,[]=>0
 |d,m::r=>(if m.yJ then 0 else S (k - (d+1)))+pre k (d+1) r
theorem KG{k:Nat}:∀{p q:List aA} {d:Nat},pre k d (p++q)=pre k d p+pre k (d+p.length) q
 |[],q,d=>by simp[pre]
 |m::p,q,d=>by
  simp only[ajF,pre,KG (p:=p),acN];grind
def cost(k:Nat)(path:List aA):Nat:=pre k 0 path+S (k - path.length)

theorem Cg{κ β:Type} [DecidableEq κ] (k k':κ)(b:β):∀L:List (κ×β),Sh.cD k (Sh.nC k' b L)=if k=k' then some b else Sh.cD k L
 |[]=>by rfl
 |e::L=>by
  simp only[Sh.nC];by_cases h1:k'=e.1
  ·simp_all [Sh.cD]
  ·rw[if_neg h1]
   simp only[Sh.cD,Cg k k' b L];grind
def kn(l:List aA):List (aa×Bool):=l.foldl (fun a m=>Sh.nC (back m.C) true (Sh.nC m.C true a)) []
theorem ada(l:List aA)(m:aA):kn (l++[m])=Sh.nC (back m.C) true (Sh.nC m.C true (kn l)):=by simp[kn]
theorem Vq{c:aa}:∀(l:List aA) (a:List (aa×Bool)),Sh.cD c a=none→(∀m∈l,c≠m.C∧c≠back m.C)→Sh.cD c (l.foldl (fun a m=>Sh.nC (back m.C) true (Sh.nC m.C true a)) a)=none
 |[],a,h,_=>h
 |m::l,a,h,hs=>by
  refine Vq l _ ?_ (fun x hx=>hs x (by simp[hx]));simp_all [Cg]
theorem aav{h:af}(hf:Fits h){lev:Int}{l:List au}{path:List aA}{k:Nat}(hr:replay h lev l=true)(hsl:Yd l)(hl:l.length≤500)(hk:k≤3)(hp:kP h lev k 0 (l.map (·.C)) path)(hnd:(path.map (·.C)).Nodup)(hpl:path.length≤100):zj h lev l path=some true:=by
 have hS:∀j,S (k - j)≤15:=fun j=>by
  have:k - j≤3:=by omega
  revert this;generalize k - j=x;intro hx
  rcases x with _|_|_|_|x <;> simp[S];omega
 obtain⟨hright,hlev,hones⟩:=nH hr;unfold zj;rw[dM (by grind) (by grind),dg (show ¬(20000:Int)≤arA l+arA path by grind)];simp only[dw,aR,Pg hf lev hsl,bp,hr,apS,yA,xT (show l.length≤1000000 by omega)];refine h_ (fun i=>(l.map (·.C)++(path.take i).map GL,kn (path.take i),(i:Int))) path.length _ (aP (by omega)) (fun i hi=> ?_) ?_ (by simp[kn])
 ·have hm:=hp.at hi
  rw[afQ] at hm;have hno:Sh.cD path[i].C (kn (path.take i))=none:=by
   refine Vq _ _ rfl (fun m hm2=> ?_);obtain⟨j,hj,rfl⟩:=List.mem_take_iff_getElem.1 hm2;have hjl:j<path.length:=by omega
   constructor
   ·grind [aoM]
   ·have a:=Rp hm.pair
    have b:=Rp (hp.at hjl).pair;grind [back]
  have hnext:kE (l.map (·.C)++(path.take i).map GL) (kn (path.take i)) (i:Int) path[i] false=some (.inl (l.map (·.C)++(path.take (i+1)).map GL,kn (path.take (i+1)),((i+1:Nat):Int))):=by
   simp only[kE,dw,aR,VP,VO,adB,bp];grind [cA,aH,abo,aoR,ada]
  simp only[yz,dec_lt,hi,bt,aY,aU hi,bp,hno,Option.getD_none,dw,aR];rw[Iu hf (by simp)];simp only[bp,hright,List.all_cons,List.all_nil,Jx hright hm.pair,apy,apS,yB,dw,aR];cases hx:path[i].yJ with
  |false=>
   have h0:=hm.no hx;grind
  |true=>
   have hd:=hm.yes hx;have hsz:=hm.sz;have:=hS (i+1);simp only[apS,dw,aR,aY,VP,bp];rw[cA (by grind)];simp only[bp];rw[ahN hf lev (by grind) ⟨by omega,fun x hx=>by have:=hm.sl x hx;omega⟩];grind
 simp_all [yz,DP]
theorem adv{a b c:List ai}(h:a.length+b.length+c.length≤100000):eV [a,b,c]=some (a++b++c):=by
 have hw:∀n:Nat,n≤1000000→bM (n:Int)=(n:Int):=fun n hn=>dM (by omega) (by omega);refine h_ (fun i=>match i with|0=>((0:Int),(0:Int))|1=>((a.length:Int),1)|2=>(((a.length+b.length:Nat):Int),2)|_=>(((a.length+b.length+c.length:Nat):Int),3)) 3 _ (by decide) (fun i hi=> ?_) ?_ rfl
 ·have h1:bM ((0:Int)+(a.length:Int))=(a.length:Int):=by grind
  have h2:bM ((a.length:Int)+(b.length:Int))=((a.length+b.length:Nat):Int):=by exact hw _ (by omega)
  have h3:bM (((a.length+b.length:Nat):Int)+(c.length:Int))=((a.length+b.length+c.length:Nat):Int):=by exact hw _ (by omega)
  match i,hi with
  |0,_=>
   simp only[c6];rw[show aaV [a,b,c] 0=some a from rfl];simp only[bp,arA,h1,show ¬((a.length:Int)<0) by omega,b7,dw,aR];rfl
  |1,_=>
   simp only[c6];rw[show aaV [a,b,c] 1=some b from rfl];simp only[bp,arA,h2,show ¬(((a.length+b.length:Nat):Int)<0) by omega,b7,dw,aR];rfl
  |2,_=>
   simp only[c6];rw[show aaV [a,b,c] 2=some c from rfl];simp only[bp,arA,h3,show ¬(((a.length+b.length+c.length:Nat):Int)<0) by omega,b7,dw,aR];rfl
 ·simp only[c6]
  have hg:bU ((a.length+b.length+c.length:Nat):Int)=some []:=by
   unfold bU cV;rw[show(((a.length+b.length+c.length:Nat):Int) - 0)=((a.length+b.length+c.length:Nat):Int) by omega,hw _ (by omega),dg (show ¬(((a.length+b.length+c.length:Nat):Int)<0) by omega)];by_cases h0:(0:Int)<((a.length+b.length+c.length:Nat):Int)
   ·rw[eD h0,NO (by omega) (by omega)]
    rfl
   grind
  rw[show decide ((3:Int)<arA [a,b,c])=false from rfl];simp only[dw,aR,jA,hg,bp];congr 1;refine h_ (fun i=>match i with|0=>(([]:List ai),(0:Int))|1=>(a,1)|2=>(a++b,2)|_=>(a++b++c,3)) 3 _ (by decide) (fun i hi=> ?_) ?_ rfl
  ·match i,hi with
   |0,_=>
    simp only[eF];rw[show aaV [a,b,c] 0=some a from rfl,bp,cA (by grind)];rfl
   |1,_=>
    simp only[eF];rw[show aaV [a,b,c] 1=some b from rfl,bp,cA (by omega)];rfl
   |2,_=>
    simp only[eF];rw[show aaV [a,b,c] 2=some c from rfl,bp,cA (by grind)];rfl
  ·rfl

structure B0 (h:af) (lev:Int) (k:Nat) (row:List aa) (path:List aA) (r:List aA×Int×List ai):Prop where
 no:r.2.1=2∨r.2.1=0
 tl:Sl r.2.2
 ok:r.2.1=0→kP h lev k 0 row r.1∧cost k r.1=pre k 0 path∧r.1.length≤path.length∧r.1.map (·.C)=(path.map (·.C)).take r.1.length
theorem Yx{h:af}{lev:Int}{l:List aa}{c:aa}{a b:List ai}(hc:one h c=true)(ha:check h lev (l++[c]) a=true)(hb:check h lev (l++[back c]) b=true):check h lev l ([⟨c,[]⟩]++a++b)=true:=by
 unfold check at*;cases h1:whole a with
 |none=>grind
 |some ta=>
  cases h2:whole b with
  |none=>grind
  |some tb=>
   obtain⟨a1,a2⟩:=Hg h1;obtain⟨b1,b2⟩:=Hg h2;have hw:whole ([⟨c,[]⟩]++a++b)=some (.br ⟨c,[]⟩ ta tb):=by
    have:=Se (t:=.br ⟨c,[]⟩ ta tb) (by simp[Tree.ok,a1,b1]);rw[←this,a2,b2];rfl
   simp_all [Tree.held]
theorem aga{k:Nat}(hk:k≤3)(j:Nat):S (k - j)≤15:=by
 have:k - j≤3:=by omega
 revert this;generalize k - j=x;intro hx
 rcases x with _|_|_|_|x <;> simp[S];omega
theorem Yb{k d:Nat}(h:d<k):S (k - d)=2*S (k - (d+1))+1:=by
 rw[show k - d=(k - (d+1))+1 by omega];rfl
theorem aan{h:af}(hf:Fits h){lev:Int}{l:List au}{k:Nat}(hr:replay h lev l=true)(hl:l.length≤20)(hlc:∀f∈l,f.eH.length≤1000)(hk:k≤3):∀(n:Nat) (path:List aA) (T:List ai),path.length<n→path.length≤k→kP h lev k 0 (l.map (·.C)) path→
  (∀x∈T,x.eH.length≤1000)→T.length≤S (k - path.length)→check h lev (l.map (·.C)++path.map GL) T=true→
  ∃r,Sh.iter (fun(p:(List aA)×(List ai))=>kf h lev l p.1 p.2) n (path,T)=some r∧B0 h lev k (l.map (·.C)) path r
 |0,path,T,hn,_,_,_,_,_=>by omega
 |n+1,path,T,hn,hpk,hp,hT,hTl,hc=>by
  obtain⟨hright,hlev,hones⟩:=nH hr;rcases List.eq_nil_or_concat path with rfl|⟨p,m,e⟩
  ·have hS:=aga hk 0
   simp only[acR] at hTl;have hu:=TG hf lev (l:=l) (tree:=T) hl (by omega) hlc hT;refine⟨([],2,(under h lev l T).1), ?_, ?_⟩
   ·refine(Fz (X:=some ([],2,(under h lev l T).1)) ?_)
    simp_all [kf,Bl]
   ·refine⟨.inl rfl, ?_,fun h2=>by simp at h2⟩
    unfold under;rw[if_pos hr];constructor
    ·grind
    ·intro x hx
     simp only[aqj,aoI] at hx;rcases hx with(⟨f,_,rfl⟩|hx)|⟨i,_,rfl⟩
     ·simp
     ·grind
     ·have:=(El (show h.aL.length≤64 by grind [eP]) (q8 h lev (Me l (l.length - 1 - i)))).2.1
      simp only[cyc];omega
  ·rw[List.concat_eq_append] at e
   subst e;obtain⟨hp1,hm,_⟩:=kP.app.1 hp;have hlen:(p++[m]).length=p.length+1:=by simp
   have hw:bM (arA (p++[m]) - 1)=(p.length:Int):=by
    rw[dM (by grind) (by grind)];grind
   have hix:aaV (p++[m]) (p.length:Int)=some m:=by grind [aU]
   have hset:∀x,(p++[m]).set p.length x=p++[x]:=fun x=>by grind
   have aw6:∀x y,(p++[x]).set p.length y=p++[y]:=fun x y=>by grind
   have hpos:decide ((0:Int)<arA (p++[m]))=true:=eD (by grind);rw[hlen] at hpk hTl hn;cases hmr:m.yJ with
   |false=>
    refine⟨(p++[⟨m.C,true,T⟩],0,[]), ?_, ?_⟩
    ·refine Fz (X:=some ((p++[⟨m.C,true,T⟩],(0:Int),([]:List ai)))) ?_
     simp_all [kf,lZ]
    ·refine⟨.inr rfl,⟨by simp,fun x hx=>by cases hx⟩,fun _=>⟨kP.app.2 ⟨hp1, ?_,trivial⟩, ?_,by simp,by grind⟩⟩
     ·rw[afQ]
      refine⟨hm.pair,hT,hTl,fun h2=>by simp at h2,fun _=> ?_⟩;grind [GL]
     ·simp only[cost,KG,pre,hmr,amB,acN,acR,aY,dw,aR,afQ,afg]
   |true=>
    have hS1:=aga hk (p.length+1);have hsz:=hm.sz;have hcc:=adv (a:=[(ai.mk (aa.mk m.C.Key m.C.A m.C.B) [])]) (b:=m.gy) (c:=T) (by grind);have hsub:abH (p++[m]) 0 (p.length:Int)=some p:=by
     grind [sY]
    have hstep:(fun(p:(List aA)×(List ai))=>kf h lev l p.1 p.2) (p++[m],T)=some (.inl (p,[⟨m.C,[]⟩]++m.gy++T)):=by
     simp_all [kf,abo]
    obtain⟨r,h1,h2⟩:=aan hf hr hl hlc hk n p ([⟨m.C,[]⟩]++m.gy++T) (by omega) (by omega) hp1 (fun x hx=>by
      simp only[aqj,List.mem_singleton] at hx;rcases hx with(rfl|hx)|hx
      ·simp
      ·exact hm.sl x hx
      grind) (by
      grind [Yb]) (by
      refine Yx (Jx hright hm.pair) (hm.yes hmr) ?_;grind [GL])
    refine⟨r, ?_,h2.no,h2.tl,fun h3=> ?_⟩
    ·rw[Jp hstep,h1]
    ·obtain⟨a,b,c,d⟩:=h2.ok h3
     grind [KG,pre]
structure POk (h:af) (lev:Int) (k:Nat) (row:List aa) (path:List aA):Prop where
 ok:kP h lev k 0 row path
 nd:(path.map (·.C)).Nodup
theorem POk.le{h:af}{lev:Int}{row:List aa}{path:List aA}(hp:POk h lev (bB h).length row path):path.length≤(bB h).length:=by
 have:=Jt hp.nd (m:=bB h) (fun x hx=>by
  obtain⟨m,hm,rfl⟩:=List.mem_map.1 hx;exact(hp.ok.mem hm).1)
 grind
theorem ZZ{h:af}{m:aA}(h1:one h m.C=true):one h (GL m)=true:=by
 grind [GL,LU]
theorem Lt{n:Nat}{f:Nat→Nat→Bool}:∀(k:Nat) (l r:List Int),Eu n f k l=some r→r.length=l.length+k
 |0,l,r,h=>by grind [Eu]
 |k+1,l,r,h=>by
  simp only[Eu] at h;split at h
  ·cases h
  ·have:=Lt k _ r h
   grind
theorem R8{n:Nat}{f:Nat→Nat→Bool}:(toldOf n f).1.length≤n:=by
 unfold toldOf;split
 ·rename_i l hl
  have:=Lt _ _ _ hl;grind
 ·simp
theorem aov{h:af}(hf:Fits h){lev:Int}{l:List au}{path:List aA}(hr:replay h lev l=true)(hl:l.length≤20)(hlc:∀f∈l,f.eH.length≤1000)(hk:(bB h).length≤3)(hp:POk h lev (bB h).length (l.map (·.C)) path):
  ∃r,xZ h lev l path=some r∧r.2.fh=[]∧((r.2.gL=1∧r.2.Order.length≤64∧r.2.Tree=[])∨(r.2.gL=2∧r.2.Order=[]∧Sl r.2.Tree)∨(r.2.gL=0∧POk h lev (bB h).length (l.map (·.C)) r.1∧cost (bB h).length r.1<cost (bB h).length path)):=by
 obtain⟨hright,hlev,hones⟩:=nH hr;have hpl:=hp.le;have hsl:Yd l:=⟨by omega,fun f hf=>by grind⟩;have Cc:h.aL.length≤64:=by grind [eP]
 have hmay:may h lev=true:=by simp_all [replay]
 have hcr:cr h (l.map (·.C)++path.map GL)=true:=Ee.2 ⟨hright,fun c hc=>by
  rcases List.mem_append.1 hc with h4|h4
  ·grind
  ·obtain⟨m,hm,rfl⟩:=List.mem_map.1 h4
   exact ZZ (Jx hright (hp.ok.mem hm).1)⟩
 have hrow:(l.map (·.C)++path.map GL).length≤20000:=by grind
 unfold xZ;rw[atq (by omega) (fun m hm=>by
  obtain⟨i,hi,rfl⟩:=amt hm;have h1:=(hp.ok.at hi).sz;have h2:=aga hk (0+i+1);exact⟨by omega,(hp.ok.at hi).sl⟩),bp,aav hf hr hsl (by omega) hk hp.ok hp.nd (by omega),bp]
 simp only[apS,dw,aR];rw[xT (by omega),bp,W7 (by omega),bp,cA (by grind),bp,NS hf lev hrow,bp];have hfg:H7 h lev (l.map (·.C)++path.map GL)=(gr h.aL.length (q8 h lev (l.map (·.C)++path.map GL)),0):=by
  grind [H7]
 rw[hfg];obtain⟨f1,f2,f3⟩:=El Cc (q8 h lev (l.map (·.C)++path.map GL));simp only[f1,bp];by_cases h0:(0:Int)<arA (U7 h.aL.length (q8 h lev (l.map (·.C)++path.map GL)))
 ·rw[eD h0]
  have hc:Cyc h.aL.length (q8 h lev (l.map (·.C)++path.map GL)) (U7 h.aL.length (q8 h lev (l.map (·.C)++path.map GL))):=by
   grind
  have hring:=RG hright (Ee.1 hcr).2 hlev (U7 h.aL.length (q8 h lev (l.map (·.C)++path.map GL)));rw[SY.2 hc] at hring;have hw:whole [⟨⟨0,0,0⟩,U7 h.aL.length (q8 h lev (l.map (·.C)++path.map GL))⟩]=some (.leaf ⟨⟨0,0,0⟩,U7 h.aL.length (q8 h lev (l.map (·.C)++path.map GL))⟩):=
   Se (t:=.leaf ⟨⟨0,0,0⟩,U7 h.aL.length (q8 h lev (l.map (·.C)++path.map GL))⟩) (by simp_all [Tree.ok])
  have hchk:check h lev (l.map (·.C)++path.map GL) [⟨⟨0,0,0⟩,U7 h.aL.length (q8 h lev (l.map (·.C)++path.map GL))⟩]=true:=by
   grind [check,Tree.held]
  obtain⟨r,h1,h2⟩:=aan hf hr hl hlc hk Sh.s5 path _ (aP (by omega)) hpl hp.ok (fun x hx=>by grind) (by grind [UD]) hchk;unfold Ax abt;rw[h1];refine⟨_,rfl,rfl, ?_⟩;rcases h2.no with h3|h3
  ·exact .inr (.inl ⟨h3,rfl,h2.tl⟩)
  ·refine .inr (.inr ⟨h3, ?_, ?_⟩)
   ·obtain⟨a,b,c,d⟩:=h2.ok h3
    exact⟨a,by rw[d];exact hp.nd.sublist (List.take_sublist _ _)⟩
   ·obtain⟨a,b,c,d⟩:=h2.ok h3
    grind [cost,UD]
 ·rw[dg h0]
  rw[afJ hf hrow,bp];unfold VL Z0;rw[hcr];cases ho:(bB h).find? (Mx (l.map (·.C)++path.map GL)) with
  |none=>
   simp only[aqv,aY,kF Cc,bp];grind [R8]
  |some c=>
   rw[cA (by grind),bp];have hcm:=List.mem_of_find?_eq_some ho;have hcu:=List.find?_some ho;have hnew:∀m∈path,m.C≠c:=fun m hm e=>by
    unfold Mx at hcu;grind [GL]
   have hok:POk h lev (bB h).length (l.map (·.C)) (path++[⟨c,false,[]⟩]):=
    ⟨kP.app.2 ⟨hp.ok,⟨hcm,(fun x hx=>by cases hx),afR _,fun _=>rfl,fun h2=>by simp at h2⟩,trivial⟩,by
     rw[amQ,List.nodup_append];refine⟨hp.nd,by simp,fun a ha b hb=> ?_⟩;grind⟩
   refine⟨_,rfl,rfl,.inr (.inr ⟨rfl,hok, ?_⟩)⟩;have hle:=hok.le;simp only[amB,acN,acR] at hle;have:=Yb (k:=(bB h).length) (d:=path.length) (by omega);simp only[cost,KG,pre,amB,acN,acR,dw,aR,afQ,afg];omega
end Pl
end
