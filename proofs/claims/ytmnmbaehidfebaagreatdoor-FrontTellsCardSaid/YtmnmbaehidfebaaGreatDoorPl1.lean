/- What the plain functions answer. -/
import Derived.Test.YtmnmbaehidfebaaGreatDoorPl
import Derived.Test.YtmnmbaehidfebaaGreatDoorSh
import Derived.KernelRfl
set_option linter.unusedSimpArgs false
set_option linter.unusedVariables false
section
/- What the reference tells of distances; which cycle is found. -/
namespace Pl
open Go Go.Av

def lr(n:Nat)(F:Nat→Int):List Int:=(List.range n).map F
theorem S0(n:Nat)(F:Nat→Int):(lr n F).length=n:=by simp[lr]
theorem JE{n:Nat}{F G:Nat→Int}(h:∀x,x<n→F x=G x):lr n F=lr n G:=by
 unfold lr
 exact List.map_congr_left fun x hx=>h x (List.mem_range.1 hx)
theorem vJ{n:Nat}(F:Nat→Int){y:Nat}(h:y<n):Sh.idx (lr n F) (y:Int)=some (F y):=by
 rw[cI (by rw[S0];exact h)]
 simp[lr]
theorem Y_{n:Nat}(F:Nat→Int){y:Nat}(c:Int):Sh.set (lr n F) (y:Int) c=lr n fun x=>if x=y then c else F x:=by
 rw[vS]
 apply List.ext_getElem? fun i=> ?_
 unfold lr
 rw[List.getElem?_set]
 by_cases hi:i<n
 ·by_cases e:y=i
  ·subst e;simp[hi]
  ·have e':¬i=y:=fun h=>e h.symm
   simp[e,e',hi]
 ·rw[List.getElem?_eq_none (by simp;omega)]
  by_cases e:y=i
  ·simp[e,hi]
  ·simp[e,hi]
theorem U3(n:Nat)(F:Nat→Int):lr (n+1) F=lr n F++[F n]:=by
 unfold lr;rw[List.range_succ,List.map_append];rfl

def dL(n:Nat)(f:Nat→Nat→Bool)(v k:Nat):Nat→Int:=fun x=>(dk n f v k x:Int)
def uN(n:Nat)(f:Nat→Nat→Bool)(v k x:Nat):Nat→Int:=fun y=>if y<x then(dk n f v (k+1) y:Int) else(dk n f v k y:Int)
theorem Nc{n:Nat}{f:Nat→Nat→Bool}{v k x y:Nat}(hk:1≤k)(hxy:y≠x∨dk n f v k x=0):(uN n f v k x y=(k:Int))↔dk n f v k y=k:=by
 unfold uN
 by_cases h:y<x
 ·rw[if_pos h,sZ]
  by_cases h0:dk n f v k y=0
  ·rw[if_neg (by simpa using h0)]
   cases wk n f v (k+1) y <;> simp <;> omega
  ·rw[if_pos h0];omega
 ·rw[if_neg h];omega
theorem XN{n:Nat}(hn:n≤64)(f:Nat→Nat→Bool){v k x:Nat}(hv:v<n)(hk:1≤k)(hkn:k<n)(hx:x<n):
  G.gW (rg n f) (k:Int) (lr n (uN n f v k x)) (x:Int)=some (.inl (lr n (uN n f v k (x+1)),((x+1:Nat):Int))):=by
 have hxx:uN n f v k x x=(dk n f v k x:Int):=by unfold uN;rw[if_neg (by omega)]
 have hxi:(x:Int)<(n:Int):=by omega
 simp only[G.gW,hxi,decide_true,if_true]
 by_cases h0:dk n f v k x=0
 · -- the first that is told in the round before
  have hfr:=xB hv h0
  have hne:¬k=0:=by omega
  by_cases hex:∃y,y<n∧f x y=true∧dk n f v k y=k
  ·obtain⟨y,⟨hy,h1,h2⟩,hmin⟩:=exists_least _ hex
   have hw:wk n f v (k+1) x=true:=by
    rw[←hfr];unfold Mo;rw[if_neg hne,List.any_eq_true]
    exact⟨y,List.mem_range.2 hy,by simp[h1,h2]⟩
   have hnew:lr n (fun z=>if z=x then((k+1:Nat):Int) else uN n f v k x z)=lr n (uN n f v k (x+1)):=by
    apply JE
    intro z _
    unfold uN
    by_cases e:z=x
    ·subst e
     rw[if_pos rfl,if_pos (by omega),sZ,if_neg (by simpa using h0),if_pos hw]
    ·rw[if_neg e]
     by_cases hlt:z<x
     ·rw[if_pos hlt,if_pos (by omega)]
     ·rw[if_neg hlt,if_neg (by omega)]
   refine gB (fun j=>if j≤y then(lr n (uN n f v k x),(j:Int)) else(lr n (uN n f v k (x+1)),(j:Int))) (y+1) _ (bD (by omega)) (fun j hj=> ?_) ?_ (by simp)
   ·have hjy:j≤y:=by omega
    have hjn:(j:Int)<(n:Int):=by omega
    have UD:j<n:=by omega
    simp only[hjy,if_true,G.eU,hjn,decide_true,vJ _ hx,Option.bind_some,hxx,h0,G.dH,Int.natCast_zero]
    rw[wJ hn f hx UD]
    simp only[Option.bind_some]
    by_cases hjj:j=y
    ·subst hjj
     have hm:=(Nc (x:=x) hk (.inr h0)).2 h2
     simp only[h1,if_true,vJ _ UD,Option.bind_some,hm,decide_true,G.ej,vJ _ hx,Y_,G.ei,Sh.next,bf (show k<9223372036854775807 by omega),bf (show j<9223372036854775807 by omega),hnew]
     rw[if_neg (by omega)]
    ·have hno:¬(f x j=true∧dk n f v k j=k):=fun h=>by have:=hmin j ⟨UD,h⟩;omega
     have hj1:j+1≤y:=by omega
     simp only[hj1,if_true]
     cases hf:f x j with
     |false=>simp only[Bool.false_eq_true,if_false,G.ej,G.ei,Sh.next,bf (show j<9223372036854775807 by omega)]
     |true=>
      have hm:¬uN n f v k x j=(k:Int):=fun h=>hno ⟨hf,(Nc (x:=x) hk (.inr h0)).1 h⟩
      simp only[if_true,vJ _ UD,Option.bind_some,hm,decide_false,Bool.false_eq_true,if_false,G.ej,G.ei,Sh.next,bf (show j<9223372036854775807 by omega)]
   ·have hlast:uN n f v k (x+1) x=((k+1:Nat):Int):=by
     unfold uN
     rw[if_pos (by omega),sZ,if_neg (by simpa using h0),if_pos hw]
    have UJ:¬((k+1:Nat):Int)=0:=by omega
    rw[if_neg (by omega)]
    simp only[G.eU]
    by_cases hyn:((y+1:Nat):Int)<(n:Int)
    ·simp only[hyn,decide_true,if_true,vJ _ hx,Option.bind_some,hlast,UJ,decide_false,G.dH,Bool.false_eq_true,if_false,G.fJ,Sh.next,bf (show x<9223372036854775807 by omega)]
    ·simp only[hyn,decide_false,Bool.false_eq_true,if_false,G.dH,G.fJ,Sh.next,bf (show x<9223372036854775807 by omega)]
  ·have hw:wk n f v (k+1) x=false:=by
    rw[←hfr];unfold Mo;rw[if_neg hne,List.any_eq_false]
    intro y hy
    simp only[Bool.and_eq_true,decide_eq_true_eq,not_and]
    exact fun h1 h2=>hex ⟨y,List.mem_range.1 hy,h2,h1⟩
   have hnew:lr n (uN n f v k x)=lr n (uN n f v k (x+1)):=by
    apply JE
    intro z _
    unfold uN
    by_cases e:z=x
    ·subst e
     rw[if_neg (by omega),if_pos (by omega),sZ,if_neg (by simpa using h0),hw,h0];rfl
    ·by_cases hlt:z<x
     ·rw[if_pos hlt,if_pos (by omega)]
     ·rw[if_neg hlt,if_neg (by omega)]
   refine gB (fun j=>(lr n (uN n f v k x),(j:Int))) n _ (bD (by omega)) (fun j hj=> ?_) ?_ rfl
   ·have hjn:(j:Int)<(n:Int):=by omega
    simp only[G.eU,hjn,decide_true,if_true,vJ _ hx,Option.bind_some,hxx,h0,G.dH,Int.natCast_zero]
    rw[wJ hn f hx hj]
    simp only[Option.bind_some]
    cases hf:f x j with
    |false=>simp only[Bool.false_eq_true,if_false,G.ej,G.ei,Sh.next,bf (show j<9223372036854775807 by omega)]
    |true=>
     have hm:¬uN n f v k x j=(k:Int):=fun h=>hex ⟨j,hj,hf,(Nc (x:=x) hk (.inr h0)).1 h⟩
     simp only[if_true,vJ _ hj,Option.bind_some,hm,decide_false,Bool.false_eq_true,if_false,G.ej,G.ei,Sh.next,bf (show j<9223372036854775807 by omega)]
   ·simp only[G.eU,Int.lt_irrefl,decide_false,Bool.false_eq_true,if_false,G.dH,G.fJ,Sh.next,bf (show x<9223372036854775807 by omega),hnew]
 ·have hnew:lr n (uN n f v k x)=lr n (uN n f v k (x+1)):=by
   apply JE
   intro z _
   unfold uN
   by_cases e:z=x
   ·subst e
    rw[if_neg (by omega),if_pos (by omega),NS h0]
   ·by_cases hlt:z<x
    ·rw[if_pos hlt,if_pos (by omega)]
    ·rw[if_neg hlt,if_neg (by omega)]
  have h0':¬(dk n f v k x:Int)=0:=by omega
  refine gB (fun j=>(lr n (uN n f v k x),(j:Int))) 0 _ (bD (by omega)) (fun j hj=>by omega) ?_ rfl
  have Ua:((0:Nat):Int)<(n:Int):=by omega
  simp only[G.eU,Ua,decide_true,if_true,vJ _ hx,Option.bind_some,hxx,h0',decide_false,G.dH,Bool.false_eq_true,if_false,G.fJ,Sh.next,bf (show x<9223372036854775807 by omega)]
  rw[hnew]
theorem Od{n:Nat}(hn:n≤64)(f:Nat→Nat→Bool){v:Nat}(hv:v<n):G.nD (rg n f) (v:Int)=some (lr n (dL n f v n)):=by
 unfold G.nD
 refine gB (fun j=>(lr j (dL n f v 1),(j:Int))) n _ (bD (by omega)) (fun j hj=> ?_) ?_ rfl
 ·have hjn:(j:Int)<(n:Int):=by omega
  have hd:dL n f v 1 j=if f j v then 1 else 0:=by
   unfold dL
   rw[sZ,TT hv]
   simp only[dk,ne_eq,not_true_eq_false,if_false]
   cases f j v <;> rfl
  simp only[G.ke,hjn,decide_true,if_true]
  rw[wJ hn f hj hv]
  simp only[Option.bind_some,G.kf,U3,hd]
  cases f j v <;> simp only[Bool.false_eq_true,if_true,if_false] <;> rw[m7 (by rw[S0];simp;omega)] <;> simp only[Option.bind_some,Sh.next,bf (show j<9223372036854775807 by omega)]
 ·simp only[G.ke,Int.lt_irrefl,decide_false,Bool.false_eq_true,if_false,G.mX]
  congr 1
  refine gB (fun j=>(lr n (dL n f v (j+1)),((j+1:Nat):Int))) (n - 1) _ (bD (by omega)) (fun j hj=> ?_) ?_ rfl
  ·have hjn:((j+1:Nat):Int)<(n:Int):=by omega
   simp only[G.j_,hjn,decide_true,if_true]
   refine gB (fun x=>(lr n (uN n f v (j+1) x),(x:Int))) n _ (bD (by omega)) (fun x hx=>XN hn f hv (by omega) (by omega) hx) ?_ ?_
   ·simp only[G.gW,Int.lt_irrefl,decide_false,Bool.false_eq_true,if_false,G.mZ,Sh.next,bf (show j+1<9223372036854775807 by omega)]
    congr 4
    apply JE
    intro x hx
    unfold uN dL
    rw[if_pos hx]
   ·congr 1
  ·have e:n - 1+1=n:=by omega
   simp only[e,G.j_,Int.lt_irrefl,decide_false,Bool.false_eq_true,if_false,G.mY]
end Pl
end

section
/- A cycle begins anywhere. -/

namespace Pl
open Go Go.Av

end Pl
end

section
/- Which cycle is found; the statements on cycles. -/
namespace Pl
open Go Go.Av

theorem QF{n:Nat}{f:Nat→Nat→Bool}{v x L:Nat}(hL:1≤L)(hx:x<n)(h:dk n f v n x=L+1):∃y,y<n∧f x y=true∧dk n f v n y=L:=by
 have hx0:dk n f v n x≠0:=by omega
 obtain⟨h1,h2,h3⟩:=Du n hx0
 rw[h] at h1 h2 h3
 obtain⟨y,hy,g1,g2,g3⟩:=Gy hL h1 h3
 refine⟨y,hy,g1, ?_⟩
 have hne:dk n f v n y≠0:=fun e=>by
  have:=(yb n).1 e L hL (by omega)
  rw[g2] at this;cases this
 obtain⟨k1,k2,k3⟩:=Du n hne
 rcases Nat.lt_trichotomy (dk n f v n y) L with h|h|h
 ·have:=g3 _ (by omega) h
  rw[k1] at this;cases this
 ·exact h
 ·have:=k3 L hL h
  rw[g2] at this;cases this

def nq(n:Nat)(f:Nat→Nat→Bool)(v x L:Nat):Nat→Bool:=fun y=>f x y&&decide (dk n f v n y=L)
def sq(n:Nat)(f:Nat→Nat→Bool)(v L:Nat):Nat→Nat×List Int
 |0=>(v,[(v:Int)])
 |j+1=>((nE (nq n f v (sq n f v L j).1 (L - j)) n 0).toNat,(sq n f v L j).2++[nE (nq n f v (sq n f v L j).1 (L - j)) n 0])
theorem JZ{n:Nat}{f:Nat→Nat→Bool}{v x L:Nat}(hL:1≤L)(hx:x<n)(h:dk n f v n x=L+1):∃y:Nat,y<n∧nE (nq n f v x L) n 0=(y:Int)∧f x y=true∧dk n f v n y=L∧∀i,i<y→¬(f x i=true∧dk n f v n i=L):=by
 obtain⟨z,hz,g1,g2⟩:=QF hL hx h
 have hq:nq n f v x L z=true:=by simp[nq,g1,g2]
 rcases Ax (nq n f v x L) n 0 with⟨_,h2⟩|⟨y,_,h2,h3,h4,h5⟩
 ·rw[h2 z (by omega) (by omega)] at hq;cases hq
 ·simp only[nq,Bool.and_eq_true,decide_eq_true_eq] at h4
  refine⟨y,by omega,h3,h4.1,h4.2,fun i hi hc=> ?_⟩
  have:=h5 i (by omega) hi
  simp[nq,hc.1,hc.2] at this
theorem Nv{n:Nat}{f:Nat→Nat→Bool}{v L:Nat}(hv:v<n)(hD:dk n f v n v=L+1):∀j,j≤L→(sq n f v L j).1<n∧dk n f v n (sq n f v L j).1=L - j+1∧(sq n f v L j).2.length=j+1∧(sq n f v L j).2[j]? =some ((sq n f v L j).1:Int)∧(sq n f v L j).2[0]? =some (v:Int):=by
 intro j
 induction j with
 |zero=>intro _;exact⟨hv,hD,rfl,rfl,rfl⟩
 |succ j ih=>
  intro hj
  obtain⟨h1,h2,h3,h4,h5⟩:=ih (by omega)
  obtain⟨y,hy,e,g1,g2,_⟩:=JZ (L:=L - j) (by omega) h1 h2
  refine⟨?_, ?_, ?_, ?_, ?_⟩
  ·simp only[sq,e,Int.toNat_natCast];exact hy
  ·simp only[sq,e,Int.toNat_natCast];omega
  ·simp only[sq,List.length_append,h3,List.length_singleton]
  ·simp only[sq,e,Int.toNat_natCast]
   rw[List.getElem?_append_right (by omega),h3];simp
  ·simp only[sq]
   rw[List.getElem?_append_left (by omega)];exact h5
theorem Oi{n:Nat}{f:Nat→Nat→Bool}{v L j y:Nat}(e:nE (nq n f v (sq n f v L j).1 (L - j)) n 0=(y:Int)):sq n f v L (j+1)=(y,(sq n f v L j).2++[(y:Int)]):=by
 simp only[sq,e,Int.toNat_natCast]

theorem Pj{n:Nat}(hn:n≤64)(f:Nat→Nat→Bool){v L j:Nat}(hv:v<n)(hD:dk n f v n v=L+1)(hj:j<L):
  G.oJ (gr n f) (wR (zn n f v n)) (sq n f v L j).2 ((L - j:Nat):Int)=some (.inl ((sq n f v L (j+1)).2,((L - (j+1):Nat):Int))):=by
 obtain⟨h1,h2,h3,h4,_⟩:=Nv hv hD j (by omega)
 have hLn:L+1≤n:=by rw[←hD];exact NT hv
 obtain⟨y,hy,e,g1,g2,g3⟩:=JZ (L:=L - j) (by omega) h1 h2
 have hnx:=Oi e
 generalize sq n f v L (j+1)=s2 at hnx
 subst hnx
 generalize sq n f v L j=s at h1 h2 h3 h4 e g1 g2 g3
 obtain⟨x,out⟩:=s
 simp only at h1 h2 h3 h4 e g1 g2 g3 ⊢
 have hpos:(0:Int)<((L - j:Nat):Int):=by omega
 have hlast:fL ((out.length:Int) - 1)=(j:Int):=by rw[sC (by omega) (by omega)];omega
 have hjo:j<out.length:=by omega
 have hoj:out[j]=(x:Int):=by rw[List.getElem?_eq_getElem hjo] at h4;exact Option.some.inj h4
 simp only[G.oJ,hpos,decide_true,if_true,m_,hlast,cI hjo,Option.bind_some,hoj,mo h1,mz]
 have hmem:y∈Bv.list (row n (f x)):=(vI hn _).2 ⟨hy,g1⟩
 obtain⟨i,hi,hiy⟩:=List.getElem_of_mem hmem
 have hll:=Bv.o8 (row n (f x))
 refine gB (fun q=>(q:Int)) i _ (bD (by omega)) (fun q hq=> ?_) ?_ rfl
 ·have hql:q<(Bv.list (row n (f x))).length:=by omega
  have hlt:=List.pairwise_iff_getElem.1 (Bv.wH (row n (f x))) q i hql hi hq
  have hm:=(vI hn (f x)).1 (List.getElem_mem hql)
  have hqi:(q:Int)<((lJ (row n (f x))).length:Int):=by simp[lJ];exact hql
  simp only[G.p8,m_,hqi,decide_true,if_true,CN hql,Option.bind_some]
  rw[Fk _ (by omega)]
  have hd:¬zn n f v n (Bv.list (row n (f x)))[q]=((L - j:Nat):Int):=fun he=>by
   unfold zn at he
   rw[if_pos hm.1] at he
   exact g3 _ (by omega) ⟨hm.2,by omega⟩
  simp only[Option.bind_some,hd,decide_false,Bool.false_eq_true,if_false,Sh.next,bf (show q<9223372036854775807 by omega)]
 ·have hqi:(i:Int)<((lJ (row n (f x))).length:Int):=by simp[lJ];exact hi
  simp only[G.p8,m_,hqi,decide_true,if_true,CN hi,Option.bind_some,hiy]
  rw[Fk _ (by omega)]
  have hd:zn n f v n y=((L - j:Nat):Int):=by unfold zn;rw[if_pos hy];omega
  simp only[Option.bind_some,hd,decide_true,if_true]
  rw[m7 (by simp;omega)]
  have e2:fL (((L - j:Nat):Int) - 1)=((L - (j+1):Nat):Int):=by rw[sC (by omega) (by omega)];omega
  simp only[Option.bind_some,G.p9,e2]
  rfl
theorem Ty{n:Nat}(hn:n≤64)(f:Nat→Nat→Bool){v L j:Nat}(hv:v<n)(hD:dk n f v n v=L+1)(hj:j<L):
  G.gv (rg n f) (lr n (dL n f v n)) (sq n f v L j).2 ((sq n f v L j).1:Int) ((L - j:Nat):Int)=some (.inl ((sq n f v L (j+1)).2,((sq n f v L (j+1)).1:Int),((L - (j+1):Nat):Int))):=by
 obtain⟨h1,h2,h3,h4,_⟩:=Nv hv hD j (by omega)
 have hLn:L+1≤n:=by rw[←hD];exact NT hv
 obtain⟨y,hy,e,g1,g2,g3⟩:=JZ (L:=L - j) (by omega) h1 h2
 have hnx:=Oi e
 generalize sq n f v L (j+1)=s2 at hnx
 subst hnx
 generalize sq n f v L j=s at h1 h2 h3 h4 e g1 g2 g3
 obtain⟨x,out⟩:=s
 simp only at h1 h2 h3 h4 e g1 g2 g3 ⊢
 have hpos:(0:Int)<((L - j:Nat):Int):=by omega
 have e2:fL (((L - j:Nat):Int) - 1)=((L - (j+1):Nat):Int):=by rw[sC (by omega) (by omega)];omega
 simp only[G.gv,hpos,decide_true,if_true]
 refine gB (fun i=>(nE (nq n f v x (L - j)) i (n - i),(n:Int) - i - 1)) n _ (bD (by omega)) (fun i hi=> ?_) ?_ ?_
 ·have hz:(n:Int) - i - 1=((n - (i+1):Nat):Int):=by omega
  have hz0:(0:Int)≤((n - (i+1):Nat):Int):=by omega
  have hzn:n - (i+1)<n:=by omega
  have hw:fL (((n - (i+1):Nat):Int) - 1)=(n:Int) - ((i+1:Nat):Int) - 1:=by rw[sC (by omega) (by omega)];omega
  have hlf:nE (nq n f v x (L - j)) (i+1) (n - (i+1))=if nq n f v x (L - j) (n - (i+1)) then((n - (i+1):Nat):Int) else nE (nq n f v x (L - j)) i (n - i):=by
   conv=>lhs;unfold nE
   rw[show n - (i+1)+1=n - i by omega]
  simp only[hz,G.iX,hz0,decide_true,if_true,hlf]
  rw[wJ hn f h1 hzn]
  simp only[Option.bind_some]
  cases hf:f x (n - (i+1)) with
  |false=>simp only[Bool.false_eq_true,if_false,G.gw,G.fe,Sh.next,hw,nq,hf,Bool.false_and]
  |true=>
   simp only[if_true,vJ _ hzn,Option.bind_some,G.gw,dL,nq,hf,Bool.true_and,Int.ofNat_inj]
   by_cases hd:dk n f v n (n - (i+1))=L - j
   ·simp only[hd,decide_true,if_true,G.fe,Sh.next,hw]
   ·simp only[hd,decide_false,Bool.false_eq_true,if_false,G.fe,Sh.next,hw]
 ·have hneg:¬(0:Int)≤(n:Int) - (n:Nat) - 1:=by omega
  simp only[G.iX,hneg,decide_false,Bool.false_eq_true,if_false,Nat.sub_self,e,G.l_]
  rw[m7 (by simp;omega)]
  simp only[Option.bind_some,G.l9,e2]
  rfl
 ·have:fL ((n:Int) - 1)=(n:Int) - ((0:Nat):Int) - 1:=by rw[sC (by omega) (by omega)];omega
  rw[←this]
  simp only[nE]

theorem Ie{n:Nat}(hn:n≤64)(f:Nat→Nat→Bool):∃r:List Int,G.r5 (gr n f)=some r∧G.jL (rg n f)=some r∧r.length≤64∧
  (r=[]∨∃v L:Nat,v<n∧dk n f v n v=L+1∧r.length=L+1∧r[0]? =some (v:Int)):=by
 have hr:G.iF (rg n f)=some true:=by
  rw[Pn _ (by simp;omega)];exact congrArg some (GN hn f)
 unfold G.r5 G.jL
 simp only[qG hn,Option.bind_some,ne_eq,not_true_eq_false,decide_false,Bool.false_eq_true,if_false,hr,Bool.not_true]
 have pskip:∀v,v<n→dk n f v n v=0→G.ni (gr n f) (gr n (GX f),0) (v:Int)=some (.inl ((v+1:Nat):Int)):=fun v hv h0=>by
  have hvn:(v:Int)<(n:Int):=by omega
  simp only[G.ni,hvn,decide_true,if_true,qS hn f hv,Option.bind_some]
  rw[show Sh.whole 64 (List.replicate 64 0)=some (List.replicate 64 0) by simp[Sh.whole],Option.bind_some,Fl,Option.bind_some,Fk _ (by omega)]
  have:zn n f v n v=0:=by unfold zn;rw[if_pos hv,h0];rfl
  simp only[Option.bind_some,this,decide_true,if_true,G.rK,Sh.next,bf (show v<9223372036854775807 by omega)]
 have rskip:∀v,v<n→dk n f v n v=0→G.fc (rg n f) (v:Int)=some (.inl ((v+1:Nat):Int)):=fun v hv h0=>by
  have hvn:(v:Int)<(n:Int):=by omega
  simp only[G.fc,hvn,decide_true,if_true,Od hn f hv,Option.bind_some,vJ _ hv]
  have:dL n f v n v=0:=by unfold dL;rw[h0];rfl
  simp only[this,decide_true,if_true,G.l6,Sh.next,bf (show v<9223372036854775807 by omega)]
 by_cases hex:∃v,v<n∧dk n f v n v≠0
 ·obtain⟨v,⟨hv,hne⟩,hmin⟩:=exists_least _ hex
  have before:∀i,i<v→dk n f i n i=0:=fun i hi=>Classical.byContradiction fun h=>by
   have:=hmin i ⟨by omega,h⟩;omega
  obtain⟨L,hL⟩:∃L,dk n f v n v=L+1:=⟨dk n f v n v - 1,by omega⟩
  have hLn:L+1≤n:=by rw[←hL];exact NT hv
  obtain⟨_,_,i3,_,i5⟩:=Nv hv hL L (by omega)
  have hvn:(v:Int)<(n:Int):=by omega
  have UJ:¬((L+1:Nat):Int)=0:=by omega
  have hw:fL (((L+1:Nat):Int) - 1)=((L - 0:Nat):Int):=by rw[sC (by omega) (by omega)];omega
  refine⟨(sq n f v L L).2, ?_, ?_,by omega,.inr ⟨v,L,hv,hL,i3,i5⟩⟩
  ·refine gB (fun i=>(i:Int)) v _ (bD (by omega)) (fun i hi=>pskip i (by omega) (before i hi)) ?_ rfl
   have hd:zn n f v n v=((L+1:Nat):Int):=by unfold zn;rw[if_pos hv,hL]
   simp only[G.ni,hvn,decide_true,if_true,qS hn f hv,Option.bind_some]
   rw[show Sh.whole 64 (List.replicate 64 0)=some (List.replicate 64 0) by simp[Sh.whole],Option.bind_some,Fl,Option.bind_some,Fk _ (by omega)]
   simp only[Option.bind_some,hd,UJ,decide_false,Bool.false_eq_true,if_false]
   simp only[hw]
   refine gB (fun j=>((sq n f v L j).2,((L - j:Nat):Int))) L _ (bD (by omega)) (fun j hj=>Pj hn f hv hL hj) ?_ rfl
   simp only[Nat.sub_self,G.oJ,Int.natCast_zero,Int.lt_irrefl,decide_false,Bool.false_eq_true,if_false,G.rL]
  ·refine gB (fun i=>(i:Int)) v _ (bD (by omega)) (fun i hi=>rskip i (by omega) (before i hi)) ?_ rfl
   have hd:dL n f v n v=((L+1:Nat):Int):=by unfold dL;rw[hL]
   simp only[G.fc,hvn,decide_true,if_true,Od hn f hv,Option.bind_some,vJ _ hv,hd,UJ,decide_false,Bool.false_eq_true,if_false,hw]
   refine gB (fun j=>((sq n f v L j).2,((sq n f v L j).1:Int),((L - j:Nat):Int))) L _ (bD (by omega)) (fun j hj=>Ty hn f hv hL hj) ?_ rfl
   simp only[Nat.sub_self,G.gv,Int.natCast_zero,Int.lt_irrefl,decide_false,Bool.false_eq_true,if_false,G.l7]
 ·have before:∀i,i<n→dk n f i n i=0:=fun i hi=>Classical.byContradiction fun h=>hex ⟨i,hi,h⟩
  refine⟨[], ?_, ?_,by simp,.inl rfl⟩
  ·refine gB (fun i=>(i:Int)) n _ (bD (by omega)) (fun i hi=>pskip i hi (before i hi)) ?_ rfl
   simp only[G.ni,Int.lt_irrefl,decide_false,Bool.false_eq_true,if_false,G.rJ]
  ·refine gB (fun i=>(i:Int)) n _ (bD (by omega)) (fun i hi=>rskip i hi (before i hi)) ?_ rfl
   simp only[G.fc,Int.lt_irrefl,decide_false,Bool.false_eq_true,if_false,G.l5]
end Pl
end

section
/- Law 25: a tree under facts. -/
namespace Pl
open Go Go.Av

theorem wL{h:G.ah}{lev:Int}{l:List G.az}(hr:replay h lev l=true):right h=true∧Y8 lev=true∧∀f∈l,one h f.C=true:=by
 unfold replay at hr
 simp only[Bool.and_eq_true,decide_eq_true_eq] at hr
 obtain⟨hm,hall⟩:=hr
 unfold may at hm
 simp only[Bool.and_eq_true] at hm
 refine⟨hm.1,hm.2,fun f hf=> ?_⟩
 obtain⟨k,hk,rfl⟩:=List.getElem_of_mem hf
 have:=hall k hk
 unfold AB holds at this
 simp only[List.getD,List.getElem?_eq_getElem hk,Option.getD_some,Bool.and_eq_true] at this
 exact this.1.1.2
def AP(l:List G.az)(i:Nat):List G.aa:=(l.take i).map (·.C)++[back (l.getD i default).C]
noncomputable def ML(n:Nat)(f:Nat→Nat→Bool):List Int:=if hn:n≤64 then Classical.choose (Ie hn f) else []
theorem FJ{n:Nat}(hn:n≤64)(f:Nat→Nat→Bool):G.r5 (gr n f)=some (ML n f)∧G.jL (rg n f)=some (ML n f)∧(ML n f).length≤64:=by
 unfold ML
 rw[dif_pos hn]
 have:=Classical.choose_spec (Ie hn f)
 exact⟨this.1,this.2.1,this.2.2.1⟩
def nd(x:G.aB):G.aq:=⟨x.C,x.bI⟩
def c0:G.aa:=⟨0,0,0⟩
noncomputable def Wu(h:G.ah)(lev:Int)(l:List G.az)(i:Nat):G.aB:=⟨c0,ML h.au.length (CH h lev (AP l i))⟩
noncomputable def under(h:G.ah)(lev:Int)(l:List G.az)(tree:List G.aB):List G.aB×Int:=
 if replay h lev l then((l.map fun f=>(⟨f.C,[]⟩:G.aB))++tree++(List.range l.length).map (fun k=>Wu h lev l (l.length - 1 - k)),0) else([],17)
theorem L4{h:G.ah}{lev:Int}{l:List G.az}(hr:replay h lev l=true){i:Nat}(hi:i<l.length):cr h (AP l i)=true:=by
 obtain⟨h1,_,h3⟩:=wL hr
 refine Fx.2 ⟨h1,fun c hc=> ?_⟩
 unfold AP at hc
 rcases List.mem_append.1 hc with h4|h4
 ·obtain⟨f,hf,rfl⟩:=List.mem_map.1 h4
  exact h3 f (List.mem_of_mem_take hf)
 ·rw[List.mem_singleton.1 h4,List.getD,List.getElem?_eq_getElem hi]
  exact S7 (h3 _ (List.getElem_mem hi))

theorem Zi{h:G.ah}(hf:Fits h)(lev:Int){l:List G.az}{tree:List G.aB}(hl:l.length≤20)(ht:tree.length≤60)(hlc:∀f∈l,f.bI.length≤40)(htc:∀f∈tree,f.bI.length≤40):
  G.pq h lev l tree=some (under h lev l tree):=by
 have hslim:Ue l:=⟨by omega,fun f hf=>by have:=hlc f hf;omega⟩
 unfold G.pq under
 rw[decide_eq_false (show ¬(20000:Int)≤Sh.len l by simp only[Sh.len];omega)]
 simp only[Bool.false_eq_true,if_false,U9 hf lev hslim,Option.bind_some]
 cases hr:replay h lev l with
 |false=>rfl
 |true=>
  obtain⟨hright,hlev,hones⟩:=wL hr
  have hn:=jV hright
  have Bu:h.au.length≤64:=by omega
  have hw1:fL (2*Sh.len l)=2*(l.length:Int):=by rw[sC (by simp only[Sh.len];omega) (by simp only[Sh.len];omega)]
  have hw2:fL (Sh.len tree+2*(l.length:Int))=((tree.length+2*l.length:Nat):Int):=by rw[sC (by simp only[Sh.len];omega) (by simp only[Sh.len];omega)];simp only[Sh.len];omega
  have hmk:Sh.mk 48 0 ((tree.length+2*l.length:Nat):Int) (G.aB.mk (G.aa.mk 0 0 0) [])=some []:=by
   unfold Sh.mk
   rw[if_pos ⟨by omega,by omega,by omega,by omega⟩]
   rfl
  simp only[Bool.not_true,Bool.false_eq_true,if_false,if_true,hw1,hw2,hmk,Option.bind_some]
  refine cT (fun k=>(l.take k).map fun f=>(⟨f.C,[]⟩:G.aB)) l.length _ (bD (by omega)) (fun k hk=> ?_) ?_ rfl
  ·simp only[G.oW,dec_lt,hk,decide_true,if_true,cI hk,Option.bind_some]
   rw[m7 (by simp;omega)]
   simp only[Option.bind_some,bf (show k<9223372036854775807 by omega),Sh.next]
   rw[List.take_add_one,List.getElem?_eq_getElem hk,Option.toList_some,List.map_append]
   rfl
  ·simp only[G.oW,dec_lt,Nat.lt_irrefl,decide_false,Bool.false_eq_true,if_false,List.take_length,G.qA]
   congr 1
   refine cT (fun k=>(l.map fun f=>(⟨f.C,[]⟩:G.aB))++tree.take k) tree.length _ (bD (by omega)) (fun k hk=> ?_) ?_ (by simp)
   ·have hc:=htc _ (List.getElem_mem hk)
    simp only[G.oV,dec_lt,hk,decide_true,if_true,cI hk,Option.bind_some]
    rw[m7 (by simp;omega)]
    simp only[Option.bind_some,List.nil_append]
    rw[m7 (by simp;omega)]
    simp only[Option.bind_some,bf (show k<9223372036854775807 by omega),Sh.next]
    rw[List.take_add_one,List.getElem?_eq_getElem hk,Option.toList_some,List.append_assoc]
   ·simp only[G.oV,dec_lt,Nat.lt_irrefl,decide_false,Bool.false_eq_true,if_false,List.take_length,G.qB]
    congr 1
    refine cT (fun k=>(l.map fun f=>(⟨f.C,[]⟩:G.aB))++tree++(List.range k).map (fun k=>Wu h lev l (l.length - 1 - k))) l.length _ (bD (by omega)) (fun k hk=> ?_) ?_ (by simp)
    ·obtain⟨i,hi⟩:∃i,i=l.length - 1 - k:=⟨_,rfl⟩
     have hil:i<l.length:=by omega
     have e1:fL (fL (Sh.len l - 1) - (k:Int))=(i:Int):=by
      rw[sC (n:=Sh.len l - 1) (by simp only[Sh.len];omega) (by simp only[Sh.len];omega),sC (by simp only[Sh.len];omega) (by simp only[Sh.len];omega)]
      simp only[Sh.len];omega
     have hchl:((l.take (i+1)).map (·.C)).length=i+1:=by simp;omega
     have ajs:i<((l.take (i+1)).map (·.C)).length:=by omega
     have hgi:((l.take (i+1)).map (·.C))[i]=(l[i]).C:=by simp
     have hset:∀c:G.aa,((l.take (i+1)).map (·.C)).set i c=(l.take i).map (·.C)++[c]:=fun c=>by
      rw[List.take_add_one,List.getElem?_eq_getElem hil,Option.toList_some,List.map_append,List.set_append_right _ _ (by simp;omega)]
      have:i - ((l.take i).map (·.C)).length=0:=by simp;omega
      rw[this];rfl
     simp only[G.oU,dec_lt,hk,decide_true,if_true,e1,bf (show i<9223372036854775807 by omega)]
     rw[show Sh.sub l 0 ((i+1:Nat):Int)=some (l.take (i+1)) by have:=D2 (l:=l) (m:=0) (k:=i+1) (by omega) (by omega);simpa using this]
     simp only[Option.bind_some,LU (show(l.take (i+1)).length≤1000000 by simp;omega),cI ajs,hgi,vS]
     have hl3:i<(((l.take (i+1)).map (·.C)).set i (G.aa.mk ((l[i]).C).Key ((l[i]).C).B ((l[i]).C).B)).length:=by simp;omega
     rw[cI hl3]
     simp only[Option.bind_some,List.getElem_set_self,List.set_set]
     rw[hset,show(l.take i).map (·.C)++[G.aa.mk ((l[i]).C).Key ((l[i]).C).B ((l[i]).C).A]=AP l i by
      unfold AP;rw[List.getD,List.getElem?_eq_getElem hil];rfl]
     have hrl:(AP l i).length≤20000:=by unfold AP;simp;omega
     rw[ahu hf lev hrl]
     have hcr:=L4 hr hil
     unfold QZ
     rw[hcr,hlev]
     obtain⟨f1,_,f3⟩:=FJ Bu (CH h lev (AP l i))
     simp only[Option.bind_some,Bool.and_self,if_true,f1]
     rw[m7 (by simp;omega)]
     simp only[Option.bind_some,bf (show k<9223372036854775807 by omega),Sh.next]
     rw[List.range_succ,List.map_append,←List.append_assoc]
     rw[show(List.map (fun k=>Wu h lev l (l.length - 1 - k)) [k])=[G.aB.mk (G.aa.mk 0 0 0) (ML h.au.length (CH h lev (AP l i)))] by rw[hi];rfl]
    ·simp only[G.oU,dec_lt,Nat.lt_irrefl,decide_false,Bool.false_eq_true,if_false,G.qC]
theorem Zw{h:G.ah}(hf:Fits h)(lev:Int){l:List G.az}{tree:List G.aB}(hl:l.length≤20)(ht:tree.length≤60)(hlc:∀f∈l,f.bI.length≤40):
  G.lD h lev (l.map pl) (tree.map nd)=some ((under h lev l tree).1.map nd,(under h lev l tree).2):=by
 have hslim:Ue l:=⟨by omega,fun f hf=>by have:=hlc f hf;omega⟩
 unfold G.lD under
 rw[decide_eq_false (show ¬(20000:Int)≤Sh.len (l.map pl) by simp only[Sh.len,List.length_map];omega)]
 simp only[Bool.false_eq_true,if_false,Vy hf lev hslim,Option.bind_some]
 cases hr:replay h lev l with
 |false=>rfl
 |true=>
  obtain⟨hright,hlev,hones⟩:=wL hr
  have hn:=jV hright
  have Bu:h.au.length≤64:=by omega
  simp only[Bool.not_true,Bool.false_eq_true,if_false,if_true]
  have hlm:(l.map pl).length=l.length:=by simp
  refine cT (fun k=>((l.take k).map fun f=>(⟨f.C,[]⟩:G.aB)).map nd) l.length _ (bD (by omega)) (fun k hk=> ?_) ?_ rfl
  ·have G9:k<(l.map pl).length:=by omega
   simp only[G.iq,Sh.len,List.length_map,dec_lt,hk,decide_true,if_true,cI G9,Option.bind_some,List.getElem_map]
   rw[m7 (by simp;omega)]
   simp only[Option.bind_some,bf (show k<9223372036854775807 by omega),Sh.next]
   rw[List.take_add_one,List.getElem?_eq_getElem hk,Option.toList_some,List.map_append,List.map_append]
   rfl
  ·simp only[G.iq,Sh.len,List.length_map,dec_lt,Nat.lt_irrefl,decide_false,Bool.false_eq_true,if_false,List.take_length,G.kO]
   rw[m7 (by simp;omega)]
   simp only[Option.bind_some]
   congr 1
   have e0:fL ((l.length:Int) - 1)=(l.length:Int) - 1:=sC (by omega) (by omega)
   rw[e0]
   refine gB (fun k=>((((l.map fun f=>(⟨f.C,[]⟩:G.aB))++tree++(List.range k).map (fun k=>Wu h lev l (l.length - 1 - k))).map nd),(l.length:Int) - 1 - (k:Int))) l.length _ (bD (by omega)) (fun k hk=> ?_) ?_ (by simp)
   ·obtain⟨i,hi⟩:∃i,i=l.length - 1 - k:=⟨_,rfl⟩
    have hil:i<l.length:=by omega
    have UA:i<(l.map pl).length:=by omega
    have e1:(l.length:Int) - 1 - (k:Int)=(i:Int):=by omega
    have hp:(0:Int)≤(i:Int):=by omega
    simp only[G.ij,e1,hp,decide_true,if_true]
    rw[show Sh.sub (l.map pl) 0 (i:Int)=some ((l.take i).map pl) by have:=D2 (l:=l.map pl) (m:=0) (k:=i) (by omega) (by omega);simpa [List.map_take] using this]
    simp only[Option.bind_some,L0 (show(l.take i).length≤1000000 by simp;omega),cI UA,List.getElem_map]
    rw[show G.jM (pl l[i]).C=some (back (l[i]).C) from rfl]
    simp only[Option.bind_some]
    rw[m7 (by simp;omega),show(l.take i).map (·.C)++[back (l[i]).C]=AP l i by
     unfold AP;rw[List.getD,List.getElem?_eq_getElem hil];rfl]
    have hrl:(AP l i).length≤20000:=by unfold AP;simp;omega
    have hcr:=L4 hr hil
    simp only[Option.bind_some]
    rw[Tp hf hright lev (show(AP l i).length<9223372036854775807 by omega) (Fx.1 hcr).2]
    obtain⟨_,f2,f3⟩:=FJ Bu (CH h lev (AP l i))
    simp only[Option.bind_some,f2]
    rw[m7 (by simp;omega)]
    have e2:fL ((i:Int) - 1)=(l.length:Int) - 1 - ((k+1:Nat):Int):=by rw[sC (by omega) (by omega)];omega
    simp only[Option.bind_some,e2,Sh.next]
    have e3:((l.map fun f=>(⟨f.C,[]⟩:G.aB))++tree++(List.range (k+1)).map (fun k=>Wu h lev l (l.length - 1 - k))).map nd=((l.map fun f=>(⟨f.C,[]⟩:G.aB))++tree++(List.range k).map (fun k=>Wu h lev l (l.length - 1 - k))).map nd++[G.aq.mk (G.aa.mk 0 0 0) (ML h.au.length (CH h lev (AP l i)))]:=by
     rw[List.range_succ,List.map_append (l₂:=[k]),←List.append_assoc,List.map_append (l₂:=List.map (fun k=>Wu h lev l (l.length - 1 - k)) [k]),hi]
     rfl
    rw[e3]
   ·have hneg:¬(0:Int)≤(l.length:Int) - 1 - (l.length:Int):=by omega
    simp only[G.ij,hneg,decide_false,Bool.false_eq_true,if_false,G.kP]
theorem Tb{l:List G.aB}(hl:l.length≤1000):G.gp l=some (l.map nd):=by
 unfold G.gp
 refine cT (fun k=>(l.take k).map nd) l.length _ (bD (by omega)) (fun k hk=> ?_) ?_ rfl
 ·simp only[G.gZ,dec_lt,hk,decide_true,if_true,cI hk,Option.bind_some]
  rw[m7 (by simp;omega)]
  simp only[Option.bind_some,bf (show k<9223372036854775807 by omega),Sh.next]
  rw[List.take_add_one,List.getElem?_eq_getElem hk,Option.toList_some,List.map_append]
  rfl
 ·simp only[G.gZ,dec_lt,Nat.lt_irrefl,decide_false,Bool.false_eq_true,if_false,List.take_length,G.kF]
theorem Zd{l:List G.az}(hl:l.length≤1000):G.kW l=some (l.map pl):=by
 unfold G.kW
 refine cT (fun k=>(l.take k).map pl) l.length _ (bD (by omega)) (fun k hk=> ?_) ?_ rfl
 ·simp only[G.gY,dec_lt,hk,decide_true,if_true,cI hk,Option.bind_some]
  rw[m7 (by simp;omega)]
  simp only[Option.bind_some,bf (show k<9223372036854775807 by omega),Sh.next]
  rw[List.take_add_one,List.getElem?_eq_getElem hk,Option.toList_some,List.map_append]
  rfl
 ·simp only[G.gY,dec_lt,Nat.lt_irrefl,decide_false,Bool.false_eq_true,if_false,List.take_length,G.kE]
theorem Tq{a:List G.aq}(hl:a.length≤1000000)(hc:∀x∈a,x.bI.length≤1000000):G.jR a a=some true:=by
 unfold G.jR
 simp only[ne_eq,not_true,decide_false,Bool.false_eq_true,if_false]
 refine gB (fun i=>(i:Int)) a.length _ (bD (by omega)) (fun i hi=> ?_) ?_ rfl
 ·have:=hc _ (List.getElem_mem hi)
  simp only[G.jf,dec_lt,hi,decide_true,if_true,cI hi,Option.bind_some,Bool.not_true,Bool.false_eq_true,if_false,ne_eq,not_true,decide_false,G.jh]
  refine gB (fun k=>(k:Int)) (a[i]).bI.length _ (bD (by omega)) (fun k hk=> ?_) ?_ rfl
  ·simp only[G.jg,cI hi,Option.bind_some,dec_lt,hk,decide_true,if_true,cI hk,ne_eq,not_true,decide_false,Bool.false_eq_true,if_false,bf (show k<9223372036854775807 by omega),Sh.next]
  ·simp only[G.jg,cI hi,Option.bind_some,dec_lt,Nat.lt_irrefl,decide_false,Bool.false_eq_true,if_false,G.mj,bf (show i<9223372036854775807 by omega),Sh.next]
 ·simp[G.jf,G.mh,Sh.exit]
theorem Ul:G.nN=some true:=by kernel_rfl
def Fa(x:G.bz):Bool:=few x.H 8&&decide (x.L.length≤20)&&decide (x.Tree.length≤60)&& !(x.L.any fun f=>decide (40<f.bI.length))&& !(x.Tree.any fun f=>decide (40<f.bI.length))
theorem Ze(x:G.bz):G.nA x 8=some (Fa x):=by
 unfold G.nA Fa
 rw[alo (by omega)]
 simp only[Option.bind_some]
 cases hF:few x.H 8 with
 |false=>rfl
 |true=>
  simp only[Bool.not_true,Bool.false_eq_true,if_false,Bool.true_and]
  by_cases h1:(20:Int)<Sh.len x.L
  ·have:¬x.L.length≤20:=by simp only[Sh.len] at h1;omega
   rw[decide_eq_true h1,decide_eq_false this];rfl
  have h1':x.L.length≤20:=by simp only[Sh.len] at h1;omega
  rw[decide_eq_false h1,decide_eq_true h1']
  by_cases h2:(60:Int)<Sh.len x.Tree
  ·have:¬x.Tree.length≤60:=by simp only[Sh.len] at h2;omega
   rw[decide_eq_true h2,decide_eq_false this];rfl
  have h2':x.Tree.length≤60:=by simp only[Sh.len] at h2;omega
  rw[decide_eq_false h2,decide_eq_true h2']
  have dg:∀l:List Int,decide ((40:Int)<Sh.len l)=decide (40<l.length):=fun l=>by simp only[Sh.len];congr 1;exact propext (by omega)
  simp only[Bool.false_eq_true,if_false,G.gT,Bool.true_and]
  have tr:Sh.loop (fun(p:Int)=>G.gR x p) 0=some (!(x.Tree.any fun f=>decide (40<f.bI.length))):=by
   rw[qv x.Tree (fun f=>decide (40<f.bI.length)) false (some true) (bD (by omega)) (fun k hk=> ?_) ?_]
   ·cases x.Tree.any (fun f=>decide (40<f.bI.length)) <;> rfl
   ·simp[G.gR,G.mT]
   ·simp only[G.gR,dec_lt,hk,decide_true,if_true,cI hk,Option.bind_some,dg,bf (show k<9223372036854775807 by omega)]
    rfl
  rw[qv x.L (fun f=>decide (40<f.bI.length)) false (some (!(x.Tree.any fun f=>decide (40<f.bI.length)))) (bD (by omega)) (fun k hk=> ?_) ?_]
  ·cases x.L.any (fun f=>decide (40<f.bI.length)) <;> rfl
  ·simp only[G.j0,dec_lt,Nat.lt_irrefl,decide_false,Bool.false_eq_true,if_false,G.mR,tr]
  ·simp only[G.j0,dec_lt,hk,decide_true,if_true,cI hk,Option.bind_some,dg,bf (show k<9223372036854775807 by omega)]
   rfl
theorem Mt(x:G.bz):G.iN x=some true:=by
 unfold G.iN
 rw[Ul,Ze]
 simp only[Option.bind_some,Bool.not_true,Bool.false_eq_true,if_false]
 cases hs:Fa x with
 |false=>rfl
 |true=>
  unfold Fa at hs
  simp only[Bool.and_eq_true,decide_eq_true_eq,Bool.not_eq_true',List.any_eq_false] at hs
  obtain⟨⟨⟨⟨h1,h2⟩,h3⟩,h4⟩,h5⟩:=hs
  have hf:=QV (by omega) h1
  have hlc:∀f∈x.L,f.bI.length≤40:=fun f hm=>by have:=h4 f hm;omega
  have htc:∀f∈x.Tree,f.bI.length≤40:=fun f hm=>by have:=h5 f hm;omega
  have hul:(under x.H x.Level x.L x.Tree).1.length≤1000∧∀n∈(under x.H x.Level x.L x.Tree).1,n.bI.length≤1000:=by
   unfold under
   split
   ·rename_i hr
    obtain⟨hright,_,_⟩:=wL hr
    have hn:=jV hright
    refine⟨by simp;omega,fun n hn2=> ?_⟩
    simp only[List.mem_append,List.mem_map] at hn2
    rcases hn2 with(⟨f,_,rfl⟩|hn2)|⟨k,_,rfl⟩
    ·simp
    ·have:=htc n hn2;omega
    ·have:=(FJ (show x.H.au.length≤64 by omega) (CH x.H x.Level (AP x.L (x.L.length - 1 - k)))).2.2
     unfold Wu;simp only;omega
   ·exact⟨by simp,fun n hn=>by cases hn⟩
  simp only[Bool.not_true,Bool.false_eq_true,if_false,Zi hf x.Level h2 h3 hlc htc,Zd (show x.L.length≤1000 by omega),Tb (show x.Tree.length≤1000 by omega),Zw hf x.Level h2 h3 hlc,Tb hul.1,Option.bind_some]
  rw[Tq (by simp;omega) (fun n hn=>by
   obtain⟨m,hm,rfl⟩:=List.mem_map.1 hn
   have:=hul.2 m hm
   simp only[nd];omega)]
  simp
end Pl
end
