/- What a proof sees of a run, and the rules by which it goes through a text. -/
import Derived.Test.YtmnmbaehidfebaaGreatDoorBase
import Derived.RangeFuncRecord
import Derived.ScopeJumps
import Derived.Laws.StructEq
import Derived.KernelRfl
import Derived.Sort.Grow
import Derived.Lib.SlicesCompact
set_option linter.unusedSimpArgs false
set_option linter.unusedVariables false
section
/- Loops by their own rounds; functions that hand back what is their own. -/
namespace Go.Av
open Go.RowKit (Below)

section
variable {P:Program} {W0:dU} {N:Nat} {st:St} {Q:Exit→St→Prop}

theorem bu{c:Code}{σ α:Type}(b:σ→Option (σ⊕α))(S:σ→St){s0:σ}{r:α}(h:Sh.loop b s0=some r)(hw:an W0 N st (S s0))
  (round:∀s o,b s=some o→(∀x,o=.inr x→x=r)→aZ P W0 N c (S s) (Er (fun s1=>∃s',o=.inl s'∧an W0 N s1 (S s')) Q)):aZ P W0 N (.loop c) st Q:=by
 refine OG (σ:=σ×Nat) (fun p=>S p.1) (fun p=>Sh.iter b p.2 p.1=some r) (fun p=>p.2) (s0,Sh.x6) h hw ?_
 rintro⟨s,n⟩ hn
 cases n with
 |zero=>cases hn
 |succ n=>
  simp only[Sh.iter] at hn
  cases hb:b s with
  |none=>simp[hb] at hn
  |some o=>
   rw[hb] at hn
   refine(round s o hb (fun x hx=> ?_)).mono fun e s1 h1=> ?_
   ·subst hx;simpa using hn
   ·cases e with
    |normal=>
     obtain⟨s',rfl,h2⟩:=h1
     exact⟨(s',n),hn,Nat.lt_succ_self n,h2⟩
    |_=>exact h1


inductive n6 (ok:AV→Prop) (n:Nat):AV→AV→Prop
 |same (x:AV):ok x→n6 ok n x x
 |view (id off len:Nat):n6 ok n (.view id off len) (.view (n+id) off len)
 |ref (id i j:Nat):n6 ok n (.ref id i j) (.ref (n+id) i j)
 |agg (cs cs':List AV):cs.length=cs'.length→(∀(k:Nat) (x x':AV),cs[k]? =some x→cs'[k]? =some x'→n6 ok n x x')→n6 ok n (.agg cs) (.agg cs')
 |tuple (cs cs':List AV):cs.length=cs'.length→(∀(k:Nat) (x x':AV),cs[k]? =some x→cs'[k]? =some x'→n6 ok n x x')→n6 ok n (.tuple cs) (.tuple cs')
 |bX (fn:Fn) (cs cs':List AV):cs.length=cs'.length→(∀(k:Nat) (x x':AV),cs[k]? =some x→cs'[k]? =some x'→n6 ok n x x')→n6 ok n (.bX fn cs) (.bX fn cs')
 |ifc (t:TypeId) (x x':AV):n6 ok n x x'→n6 ok n (.ifc t x) (.ifc t x')

structure Dq (ok:AV→Prop) (n:Nat) (es es':List AV):Prop where
 len:es.length=es'.length
 see:∀(k:Nat) (e e':AV),es[k]? =some e→es'[k]? =some e'→e.flat.length=e'.flat.length∧∀(j:Nat) (x x':AV),e.flat[j]? =some x→e'.flat[j]? =some x'→n6 ok n x x'

def Joined(ok:AV→Prop)(n:Nat):List (Nat×(Nat×List AV))→List (Nat×(Nat×List AV))→Prop
 |[],[]=>True
 |(i,(s,es))::l,(j,(s',es'))::l'=>j=n+i∧s=s'∧Dq ok n es es'∧Joined ok n l l'
 |_,_=>False

theorem Dq.same{ok:AV→Prop}{n:Nat}{es:List AV}(h:∀e∈es,∀x∈e.flat,ok x):Dq ok n es es:=
 ⟨rfl,fun k e e' h1 h2=>by
  rw[h1] at h2;cases h2
  exact⟨rfl,fun j x x' h3 h4=>by rw[h3] at h4;cases h4;exact .same x (h e (List.mem_of_getElem? h1) x (List.mem_of_getElem? h3))⟩⟩

theorem Joined.at{ok:AV→Prop}{n:Nat}:∀{l l':List (Nat×(Nat×List AV))},Joined ok n l l'→∀{k s:Nat} {es':List AV},lk l' k=some (s,es')→∃i es,k=n+i∧lk l i=some (s,es)∧Dq ok n es es'
 |[],[],_,_,_,_,h=>by cases h
 |(i,(s,es))::l,(j,(s',es'))::l',h,k,q,Us,hk=>by
  obtain⟨rfl,rfl,h1,h2⟩:=h
  simp only[lk] at hk
  split at hk
  ·rename_i e;subst e;cases hk
   exact⟨i,es,rfl,by simp[lk],h1⟩
  ·rename_i e
   obtain⟨i',es3,rfl,h3,h4⟩:=Joined.at h2 hk
   refine⟨i',es3,rfl, ?_,h4⟩
   simp only[lk]
   rw[if_neg (by omega)];exact h3
 |[],_::_,h,_,_,_,_=>h.elim
 |_::_,[],h,_,_,_,_=>h.elim

theorem tQ{α:Type}(l1 l2:List (Nat×α))(k:Nat):lk (l1++l2) k=match lk l1 k with|some x=>some x|none=>lk l2 k:=by
 induction l1 with
 |nil=>rfl
 |cons p l ih=>
  obtain⟨s,u⟩:=p
  simp only[List.cons_append,lk]
  split <;> simp[*]

structure cN (P:Program) (W0:World) (f:FuncId) (xs:List AV) (r:AV) (Hr:aX):Prop where
 call:oR P f
 runs:∀(C:Ctx) (vals:Array Value),Inv (.of W0) C→C.H=.empty→C.mI=[]→vals.size=xs.length→(∀(k:Nat) (x:AV),xs[k]? =some x→dO C x (vals.getD k undef))→
  Calls P f vals C.w (fun e w'=>∃v C',e=.returned v∧C'.w=w'∧Ext C C'∧Inv (.of W0) C'∧C'.H=Hr∧dO C' r v)

variable {C C1:Ctx}

def Ctx.join(C C1:Ctx)(objs':List (Nat×(Nat×List AV))):Ctx:=
 {w:=C1.w,H:={next:=C.H.next+C1.H.next,ef:=C.H.ef++objs',e8:=C.H.e8},pl:=fun k=>if k<C.H.next then C.pl k else C1.pl (k - C.H.next),dm:=C.dm,mI:=C.mI,tn:=C.tn}

theorem Gu{ok:AV→Prop}{pr:Nat→Prop}{objs':List (Nat×(Nat×List AV))}(hI:Inv W0 C)(MM:Inv (.of W0.w) C1)(hE:Ext (C.bare pr) C1)(hpr:∀b,C.dm b→pr b)(hJ:Joined ok C.H.next C1.H.ef objs')
  (hok:∀x v,ok x→dO C1 x v→(∀b,b<C1.w.heap.size→¬C1.bad b→¬(C.join C1 objs').bad b∨∀C':Ctx,dO C' x v)→dO (C.join C1 objs') x v)(hbad:(∀b,C.own b→pr b)∨∀x,ok x→BP x):
  Ext C (C.join C1 objs')∧Inv W0 (C.join C1 objs')∧∀x x' v,n6 ok C.H.next x x'→dO C1 x v→dO (C.join C1 objs') x' v:=by
 have hkeep:∀b,b<C.w.heap.size→C1.w.heap[b]? =C.w.heap[b]? :=fun b hb=>hE.keep b hb (xp _ b)
 have hnew:∀b,C1.own b→C.w.heap.size≤b:=fun b hb=>by
  rcases Nat.lt_or_ge b C.w.heap.size with h|h
  ·exact absurd (hE.own b h hb) (xp _ b)
  ·exact h
 have M5:C1.dm=pr:=hE.dm
 have hold:∀{k:Nat} {p:Nat×List AV},lk C.H.ef k=some p→k<C.H.next:=fun{k p} h=>hI.fresh k p.2 (by simp[aX.get,h])
 -- an object of the joined heap
 have getJ:∀{k s:Nat} {es':List AV},lk (C.H.ef++objs') k=some (s,es')→(lk C.H.ef k=some (s,es')∧k<C.H.next)∨∃i es,k=C.H.next+i∧lk C1.H.ef i=some (s,es)∧Dq ok C.H.next es es':=fun{k s es'} h=>by
  rw[tQ] at h
  cases hk:lk C.H.ef k with
  |some p=>rw[hk] at h;simp only[Option.some.injEq] at h;subst h;exact .inl ⟨rfl,hold hk⟩
  |none=>rw[hk] at h;exact .inr (hJ.at h)
 have plO:∀{k:Nat},k<C.H.next→(C.join C1 objs').pl k=C.pl k:=fun{k} h=>by simp[Ctx.join,h]
 have plN:∀i,(C.join C1 objs').pl (C.H.next+i)=C1.pl i:=fun i=>by
  have h1:¬C.H.next+i<C.H.next:=by omega
  have h2:C.H.next+i - C.H.next=i:=by omega
  show(if C.H.next+i<C.H.next then _ else _)=_
  rw[if_neg h1,h2]
 have getG:∀{k:Nat} {es':List AV},(C.join C1 objs').H.get k=some es'→∃s,lk (C.H.ef++objs') k=some (s,es'):=fun{k es'} h=>by
  simp only[Ctx.join,aX.get,Option.map_eq_some_iff] at h
  obtain⟨⟨s,e⟩,h1,rfl⟩:=h
  exact⟨s,h1⟩
 have ownJ:∀b,(C.join C1 objs').own b→C.own b∨C1.own b:=by
  rintro b (⟨k,es',h1,h2,h3⟩|h)
  ·obtain⟨s,h4⟩:=getG h1
   rcases getJ h4 with⟨h5,h6⟩|⟨i,es,rfl,h5,_⟩
   ·rw[plO h6] at h2 h3;exact .inl (.inl ⟨k,es',by simp[aX.get,h5],h2,h3⟩)
   ·rw[plN] at h2 h3;exact .inr (.inl ⟨i,es,by simp[aX.get,h5],h2,h3⟩)
  ·exact .inl (.inr h)
 have ext:Ext C (C.join C1 objs'):={
  below:=hE.below
  keep:=fun b hb _=>hkeep b hb
  own:=fun b hb h=>by
   rcases ownJ b h with h|h
   ·exact h
   ·have:=hnew b h;omega
  next:=Nat.le_add_right _ _
  id:=fun k es' hk h=>by
   obtain⟨s,h4⟩:=getG h
   rcases getJ h4 with⟨h5,h6⟩|⟨i,es,rfl,_,_⟩
   ·exact⟨⟨es',by simp[aX.get,h5]⟩,plO h6⟩
   ·omega
  dm:=rfl
  mI:=rfl
  tn:=rfl}
 have badJ:∀b,b<C1.w.heap.size→¬C1.bad b→∀(x:AV) (v:Value),ok x→dO C1 x v→¬(C.join C1 objs').bad b∨∀C':Ctx,dO C' x v:=fun b _ hb x v hx hr=>by
  rcases hbad with h|h
  ·left
   rintro(h1|h1)
   ·rcases ownJ b h1 with h2|h2
    ·exact hb (.inr (by rw[M5];exact h b h2))
    ·exact hb (.inl h2)
   ·exact hb (.inr (by rw[M5];exact hpr b h1))
  ·right;intro C';exact(h x hx).rep hr
 have repJ:∀x x' v,n6 ok C.H.next x x'→dO C1 x v→dO (C.join C1 objs') x' v:=by
  intro x x' v hs
  induction hs generalizing v with
  |same x hx=>intro h;exact hok x v hx h (fun b hb hn=>badJ b hb hn x v hx h)
  |view id off len=>
   intro h
   match h with
   |.view _ _ _ _ h1 h2 h3=>
   refine .view _ _ _ _ (by show C.H.next+id<C.H.next+C1.H.next;omega) (fun es' he=> ?_) h3
   obtain⟨s,h4⟩:=getG he
   rw[plN]
   rcases getJ h4 with⟨h5,h6⟩|⟨i,es,h5,h6,_⟩
   ·omega
   ·have:i=id:=by omega
    subst this;exact h2 es (by simp[aX.get,h6])
  |ref id i j=>
   intro h
   match h with
   |.ref _ _ _ _ h1 h2 h3=>
   refine .ref _ _ _ _ (by show C.H.next+id<C.H.next+C1.H.next;omega) (fun es' he=> ?_) h3
   obtain⟨s,h4⟩:=getG he
   rw[plN]
   rcases getJ h4 with⟨h5,h6⟩|⟨i,es,h5,h6,_⟩
   ·omega
   ·have:i=id:=by omega
    subst this;exact h2 es (by simp[aX.get,h6])
  |agg cs cs' hl _ ih=>
   intro h
   match h with
   |.agg _ vs h1 h2 h3=>
   refine .agg cs' vs (h1.trans hl) h2 (fun k x' hx'=> ?_)
   have hk:k<cs.length:=by rw[hl];exact(List.getElem?_eq_some_iff.1 hx').1
   exact ih k cs[k] x' (List.getElem?_eq_getElem hk) hx' _ (h3 k _ (List.getElem?_eq_getElem hk))
  |tuple cs cs' hl _ ih=>
   intro h
   match h with
   |.tuple _ vs h1 h3=>
   refine .tuple cs' vs (h1.trans hl) (fun k x' hx'=> ?_)
   have hk:k<cs.length:=by rw[hl];exact(List.getElem?_eq_some_iff.1 hx').1
   exact ih k cs[k] x' (List.getElem?_eq_getElem hk) hx' _ (h3 k _ (List.getElem?_eq_getElem hk))
  |bX fn cs cs' hl _ ih=>
   intro h
   match h with
   |.bX _ _ vs h1 h3=>
   refine .bX fn cs' vs (h1.trans hl) (fun k x' hx'=> ?_)
   have hk:k<cs.length:=by rw[hl];exact(List.getElem?_eq_some_iff.1 hx').1
   exact ih k cs[k] x' (List.getElem?_eq_getElem hk) hx' _ (h3 k _ (List.getElem?_eq_getElem hk))
  |ifc t x x' _ ih=>
   intro h
   match h with
   |.ifc _ _ v h1=>exact .ifc t x' v (ih v h1)
 refine⟨ext, ?_,repJ⟩
 have alg:∀{i s:Nat} {es es':List AV},lk C1.H.ef i=some (s,es)→Dq ok C.H.next es es'→(C1.pl i).nil=false→Fb (C.join C1 objs') (C1.pl i) es':=fun{i s es es'} h hS hn=>by
  have hO:=MM.obj i es (by simp[aX.get,h]) hn
  have back:∀{q:Nat} {e':AV},es'[q]? =some e'→∃e,es[q]? =some e∧e.flat.length=e'.flat.length∧∀(j:Nat) (x x':AV),e.flat[j]? =some x→e'.flat[j]? =some x'→n6 ok C.H.next x x':=fun{q e'} hq=>by
   have hk:q<es.length:=by rw[hS.len];exact(List.getElem?_eq_some_iff.1 hq).1
   exact⟨es[q],List.getElem?_eq_getElem hk,hS.see q _ e' (List.getElem?_eq_getElem hk) hq⟩
  refine⟨hO.n.trans hS.len,hO.cap,hO.gN,hO.one,fun q e' he'=> ?_,fun q j e' x' v he' hx' hv=> ?_⟩
  ·obtain⟨e,h1,h2,_⟩:=back he'
   rw[←h2];exact hO.flat q e h1
  ·obtain⟨e,h1,h2,h3⟩:=back he'
   have hj:j<e.flat.length:=by rw[h2];exact(List.getElem?_eq_some_iff.1 hx').1
   exact repJ _ _ _ (h3 j _ x' (List.getElem?_eq_getElem hj) hx') (hO.cell q j e _ v h1 (List.getElem?_eq_getElem hj) hv)
 exact{
  fresh:=fun k es' h=>by
   obtain⟨s,h4⟩:=getG h
   show k<C.H.next+C1.H.next
   rcases getJ h4 with⟨h5,h6⟩|⟨i,es,rfl,h5,_⟩
   ·omega
   ·have:=MM.fresh i es (by simp[aX.get,h5]);omega
  nil:=fun k es' h hn=>by
   obtain⟨s,h4⟩:=getG h
   rcases getJ h4 with⟨h5,h6⟩|⟨i,es,rfl,h5,h6⟩
   ·rw[plO h6] at hn;exact hI.nil k es' (by simp[aX.get,h5]) hn
   ·rw[plN] at hn
    have:=MM.nil i es (by simp[aX.get,h5]) hn
    subst this
    exact List.eq_nil_of_length_eq_zero h6.len.symm
  obj:=fun k es' h hn=>by
   obtain⟨s,h4⟩:=getG h
   rcases getJ h4 with⟨h5,h6⟩|⟨i,es,rfl,h5,h6⟩
   ·rw[plO h6] at hn ⊢
    have hg:C.H.get k=some es':=by simp[aX.get,h5]
    exact(hI.obj k es' hg hn).ext ext (hkeep _ (hI.lt hg hn))
   ·rw[plN] at hn ⊢;exact alg h5 h6 hn
  sep:=fun k1 k2 e1 e2 h1 h2 n1 n2 hb=>by
   obtain⟨s1,g1⟩:=getG h1
   obtain⟨s2,g2⟩:=getG h2
   rcases getJ g1 with⟨a1,a2⟩|⟨i1,es1,rfl,a1,_⟩ <;> rcases getJ g2 with⟨b1,b2⟩|⟨i2,Us,rfl,b1,_⟩
   ·rw[plO a2] at n1 hb;rw[plO b2] at n2 hb
    exact hI.sep k1 k2 e1 e2 (by simp[aX.get,a1]) (by simp[aX.get,b1]) n1 n2 hb
   ·rw[plO a2] at n1 hb;rw[plN] at n2 hb
    have h3:=hI.lt (id:=k1) (es:=e1) (by simp[aX.get,a1]) n1
    have h4:=hnew (C1.pl i2).gN (.inl ⟨i2,Us,by simp[aX.get,b1],n2,rfl⟩)
    omega
   ·rw[plN] at n1 hb;rw[plO b2] at n2 hb
    have h3:=hI.lt (id:=k2) (es:=e2) (by simp[aX.get,b1]) n2
    have h4:=hnew (C1.pl i1).gN (.inl ⟨i1,es1,by simp[aX.get,a1],n1,rfl⟩)
    omega
   ·rw[plN] at n1 n2 hb;rw[plN] at hb
    have:=MM.sep i1 i2 es1 Us (by simp[aX.get,a1]) (by simp[aX.get,b1]) n1 n2 hb
    omega
  dm:=fun k es' h hn=>by
   obtain⟨s,h4⟩:=getG h
   rcases getJ h4 with⟨h5,h6⟩|⟨i,es,rfl,h5,h6⟩
   ·rw[plO h6] at hn ⊢;exact hI.dm k es' (by simp[aX.get,h5]) hn
   ·rw[plN] at hn ⊢
    have:=MM.dm i es (by simp[aX.get,h5]) hn
    rw[M5] at this
    exact fun hp=>this (hpr _ hp)
  oM:=fun k s h hn=>by
   simp only[Ctx.join,aX.sz,Option.map_eq_some_iff] at h
   obtain⟨⟨s',es'⟩,h1,rfl⟩:=h
   rcases getJ h1 with⟨h5,h6⟩|⟨i,es,rfl,h5,_⟩
   ·rw[plO h6] at hn ⊢;exact hI.oM k _ (by simp[aX.sz,h5]) hn
   ·rw[plN] at hn ⊢;exact MM.oM i _ (by simp[aX.sz,h5]) hn
  eE:=fun b hb=>Nat.lt_of_lt_of_le (hI.eE b hb) hE.below.size
  eZ:=hI.eZ
  size:=MM.size
  iK:=fun b hb=>⟨(MM.iK b hb).1,fun ho=>by
   rcases ownJ b ho with h|h
   ·exact(hI.iK b hb).2 h
   ·exact(MM.iK b hb).2 h⟩
  e8:=fun l r h=>by
   have h1:=hI.e8 l r h
   rw[←h1];exact hkeep l (Array.getElem?_eq_some_iff.1 h1).1
  mI:=fun d h=>by
   have h1:=hI.mI d h
   rw[←h1];exact hkeep d (Array.getElem?_eq_some_iff.1 h1).1
  y7:=hI.y7
  zM:=hI.zM
  fD:=hI.fD
  pP:=hI.pP
  fZ:=Nat.le_trans hI.fZ (Nat.le_add_right _ _)
  gh:=W0.st C _ ext.mem hI.fZ hI.gh}

variable {fr:Fr} {a:Act} {H:aX} {o:Oper}

theorem n6.mono{ok ok':AV→Prop}{n:Nat}{x x':AV}(h:n6 ok n x x')(hk:∀x,ok x→ok' x):n6 ok' n x x':=by
 induction h with
 |same x hx=>exact .same x (hk x hx)
 |view id off len=>exact .view id off len
 |ref id i j=>exact .ref id i j
 |agg cs cs' hl _ ih=>exact .agg cs cs' hl ih
 |tuple cs cs' hl _ ih=>exact .tuple cs cs' hl ih
 |bX fn cs cs' hl _ ih=>exact .bX fn cs cs' hl ih
 |ifc t x x' _ ih=>exact .ifc t x x' ih

theorem CA{args:Array Operand}{ys:List AV}(hop:∀y∈args.toList,vm C fr a y)(hys:args.toList.mapM (bA fr)=some ys):(args.map a.eval).size=ys.length∧∀t x,lk (cO 0 ys) t=some x→dO C x ((args.map a.eval).getD t undef):=by
 obtain⟨m1,m2⟩:=Bb args.toList ys hys
 refine⟨by simpa using m1.symm,fun t x hx=> ?_⟩
 obtain⟨_,h2⟩:=tR ys 0 t x hx
 rw[Nat.sub_zero] at h2
 obtain⟨y,g1,g2⟩:=m2 t x h2
 have hy:args[t]? =some y:=by simpa using g1
 have hlt:t<(args.map a.eval).size:=by have:=(Array.getElem?_eq_some_iff.1 hy).1;simpa using this
 have e:(args.map a.eval).getD t undef=a.eval y:=by
  have:=pM hlt
  rw[Array.getElem?_map,hy] at this
  exact(Option.some.inj this).symm
 rw[e]
 exact b6 (hop y (List.mem_of_getElem? g1)) g2

theorem dO.sub{C':Ctx}{x:AV}{v:Value}(h:dO C x v)(hw:C'.w=C.w)(hn:C.H.next≤C'.H.next)(hg:∀id es,id<C.H.next→C'.H.get id=some es→∃yd,C.H.get id=some yd)(hpl:∀id,id<C.H.next→C'.pl id=C.pl id)(hb:∀b,C'.bad b→C.bad b):dO C' x v:=by
 induction h with
 |any v=>exact .any v
 |imm v hv=>exact .imm v hv
 |slNil a cap=>exact .slNil a cap
 |sl es b off sz cap c hlt hbad hc hf hcell _ ih=>exact .sl es b off sz cap c (by rw[hw];exact hlt) (fun h=>hbad (hb b h)) hc hf (fun i j e x he hx=>by rw[hw];exact hcell i j e x he hx) ih
 |clipNil a=>exact .clipNil a
 |clip es b off sz c hlt hbad hf hcell _ ih=>exact .clip es b off sz c (by rw[hw];exact hlt) (fun h=>hbad (hb b h)) hf (fun i j e x he hx=>by rw[hw];exact hcell i j e x he hx) ih
 |view id off len v hid hs h1=>
  refine .view id off len v (by omega) (fun es he=> ?_) h1
  obtain⟨yd,h0⟩:=hg id es hid he
  rw[hpl id hid];exact hs yd h0
 |ref id i j v hid hs h1=>
  refine .ref id i j v (by omega) (fun es he=> ?_) h1
  obtain⟨yd,h0⟩:=hg id es hid he
  rw[hpl id hid];exact hs yd h0
 |pp fl j b off c hlt hbad hcell _ ih=>exact .pp fl j b off c (by rw[hw];exact hlt) (fun h=>hbad (hb b h)) (fun k x hx=>by rw[hw];exact hcell k x hx) ih
 |agg cs vs hs h1 _ ih=>exact .agg cs vs hs h1 ih
 |tuple cs vs hs _ ih=>exact .tuple cs vs hs ih
 |ifc t x v _ ih=>exact .ifc t x v ih
 |bX fn caps vs hs _ ih=>exact .bX fn caps vs hs ih

def Ctx.plain(C:Ctx):Ctx:={C with H:={C.H with e8:=[]},mI:=[],tn:=0}

theorem Iy{b:Nat}(h:C.plain.own b):C.own b:=by
 rcases h with⟨id,es,h1,h2,h3⟩|⟨r,h⟩|h
 ·exact .inl ⟨id,es,h1,h2,h3⟩
 ·simp[Ctx.plain,lk] at h
 ·simp[Ctx.plain] at h

theorem dO.plain{x:AV}{v:Value}(h:dO C x v):dO C.plain x v:=
 h.sub rfl (Nat.le_refl _) (fun id es _ h=>⟨es,h⟩) (fun _ _=>rfl) (fun b h=>h.imp Iy id)

theorem Inv.plain(hI:Inv W0 C):Inv (.of W0.w) C.plain where
 fresh:=hI.fresh
 nil:=hI.nil
 obj id es h hn:=by
  have hO:=hI.obj id es h hn
  exact⟨hO.n,hO.cap,hO.gN,hO.one,hO.flat,fun i j e x v h1 h2 h3=>(hO.cell i j e x v h1 h2 h3).plain⟩
 sep:=hI.sep
 dm:=hI.dm
 oM:=hI.oM
 eE:=hI.eE
 eZ:=hI.eZ
 size:=hI.size
 iK b h:=⟨(hI.iK b h).1,fun ho=>(hI.iK b h).2 (Iy ho)⟩
 e8 l r h:=by simp[Ctx.plain,lk] at h
 mI d h:=by simp[Ctx.plain] at h
 y7:=.nil
 zM:=fun _ _=>rfl
 fD b h:=by
  rcases h with⟨r,h⟩|h
  ·simp[Ctx.plain,lk] at h
  ·simp[Ctx.plain] at h
 pP:=rfl
 fZ:=Nat.zero_le _
 gh:=trivial

theorem AM{vals:Array Value}{xs:List AV}{n:Nat}{H:aX}(h:Rel W0 n (lk (cO 0 xs)) H C {tmps:=vals,defers:=[]}):∀(k:Nat) (x:AV),xs[k]? =some x→dO C x (vals.getD k undef):=by
 have key:∀(xs:List AV) (q k:Nat) (x:AV),xs[k]? =some x→lk (cO q xs) (q+k)=some x:=by
  intro xs
  induction xs with
  |nil=>intro q k x h;simp at h
  |cons y ys ih=>
   intro q k x hk
   cases k with
   |zero=>simp at hk;subst hk;simp[cO,lk]
   |succ k=>
    simp at hk
    simp only[cO,lk]
    rw[if_neg (by omega)]
    have:=ih (q+1) k x hk
    rwa [show q+1+k=q+(k+1) by omega] at this
 intro k x hx
 have:=key xs 0 k x hx
 rw[Nat.zero_add] at this
 exact h.rep k x this

theorem L1{vals:Array Value}{ys:List AV}{pr:Nat→Prop}(hsz:vals.size=ys.length)(h:∀t x,lk (cO 0 ys) t=some x→dO C x (vals.getD t undef))(hno:∀y∈ys,dn y)(MM:Inv (.of W0.w) (C.bare pr))(hp:∀b,¬C.bad b→¬pr b):Rel (.of W0.w) ys.length (lk (cO 0 ys)) .empty (C.bare pr) {tmps:=vals,defers:=[]}:=
 ⟨rfl,MM,hsz,rfl,fun t x hx=>by
  obtain⟨_,h2⟩:=tR ys 0 t x hx
  exact(h t x hx).bare (hno x (List.mem_of_getElem? h2)) hp⟩
theorem Pv{vals:Array Value}{ys:List AV}(hI:Inv W0 C)(hsz:vals.size=ys.length)(h:∀t x,lk (cO 0 ys) t=some x→dO C x (vals.getD t undef)):Rel (.of W0.w) ys.length (lk (cO 0 ys)) {C.H with e8:=[]} C.plain {tmps:=vals,defers:=[]}:=
 ⟨rfl,hI.plain,hsz,rfl,fun t x hx=>(h t x hx).plain⟩

theorem tW{n:Nat}{f:Fr}{vals:Array Value}(h:Rel W0 n f H C {tmps:=vals,defers:=W0.dx}):C.mI=[]:=by
 have:=congrArg List.length h.defers
 simp only[List.length_append,List.length_map] at this
 exact List.eq_nil_of_length_eq_zero (by omega)

theorem Qv{f:FuncId}{args:Array Operand}{tys:Array TypeId}(ho:o.op=.call {callee:=.value (.func f),args:=args,argTypes:=tys})(hop:∀x∈o.op.operands,vm C fr a x):∀y∈args.toList,vm C fr a y:=fun y hy=>
 hop y (by rw[ho];simp[Op.operands,Call.operands];exact .inr (by simpa using hy))

def Enters(P:Program)(o:Oper)(fr:Fr)(f:FuncId)(ys:List AV):Prop:=
 ∀(C:Ctx) (a:Act),(∀x∈o.op.operands,vm C fr a x)→∃vals:Array Value,(∀w,(execOp a.eval o).run P w=.ok (.enter f vals) w)∧vals.size=ys.length∧∀t x,lk (cO 0 ys) t=some x→dO C x (vals.getD t undef)

theorem Enters.func{f:FuncId}{args:Array Operand}{tys:Array TypeId}{ys:List AV}(ho:o.op=.call {callee:=.value (.func f),args:=args,argTypes:=tys})(hys:args.toList.mapM (bA fr)=some ys)(hc:oR P f):Enters P o fr f ys:=fun C a hop=>
 ⟨args.map a.eval,fun w=>vb ho hc w,CA (Qv ho hop) hys⟩

theorem Im(hI:Inv W0 C):Inv (.of W0.w) (C.bare (fun b=>C.dm b∨C.own b)):=hI.bare (fun b hb=>by
  rcases hb with h|h
  ·exact hI.eE b h
  ·exact hI.GG h) (fun b hb=>by
  rcases hb with h|h
  ·exact hI.eZ b h
  ·exact hI.Nk h)

theorem eC{f:FuncId}{ys xs:List AV}{r:AV}(he:Enters P o fr f ys)(hw:an (.of W0.w) ys.length ⟨cO 0 ys,.empty⟩ ⟨cO 0 xs,.empty⟩)(hl:xs.length=ys.length)(hno:∀y∈ys,dn y)
  (hf:bJ P W0.w f xs r):gD P W0 o fr H r H:=by
 intro C a hI hH hop K Q hK
 obtain⟨vals,hrun,LA⟩:=he C a hop
 unfold Oper.wp
 rw[hrun,Oper.upon_enter]
 have Yv:=L1 (pr:=fun b=>C.dm b∨C.own b) LA.1 LA.2 hno (Im hI) (fun b hb h=>hb (h.elim .inr .inl))
 obtain⟨C0,q1,q2,q3⟩:=hw _ _ Yv
 have Xa:C0.w=C.w:=q1
 have hsz:vals.size=xs.length:=by rw[hl];exact q3.size
 have:=hf.runs C0 vals q3.inv q3.heap (tW q3) hsz (AM q3)
 rw[Xa] at this
 refine this.mono ?_
 rintro e w' ⟨v,C1,rfl,rfl,hE,hI',hr⟩
 have Ua:∀b,¬C0.own b:=CX q3.heap (tW q3)
 have hB':RowKit.Below C.w.heap.size C.w C1.w:=by have:=x8 hE Ua;rwa [Xa] at this
 have hp1:C1.dm=fun b=>C.dm b∨C.own b:=by rw[hE.dm];exact q2.dm
 refine hK v (C.xE C1.w) (lP hB') (hI.xE hB') hH (hr.move hf.wm (Nat.le_refl _) (fun b hb hn=>⟨rfl,fun h=>hn ?_⟩))
 refine .inr ?_
 rw[hp1]
 rcases h with h|h
 ·exact .inr h
 ·exact .inl h
theorem jY{f:FuncId}{args:Array Operand}{tys:Array TypeId}{ys xs:List AV}{r:AV}(ho:o.op=.call {callee:=.value (.func f),args:=args,argTypes:=tys})(hys:args.toList.mapM (bA fr)=some ys)(hw:an (.of W0.w) ys.length ⟨cO 0 ys,.empty⟩ ⟨cO 0 xs,.empty⟩)(hl:xs.length=ys.length)(hno:∀y∈ys,dn y)
  (hf:bJ P W0.w f xs r):gD P W0 o fr H r H:=
 eC (.func ho hys hf.call) hw hl hno hf

def xl(ok:AV→Prop)(n:Nat):List AV→List AV→Prop
 |[],[]=>True
 |x::l,y::m=>n6 ok n x y∧xl ok n l m
 |_,_=>False

theorem xl.spec{ok:AV→Prop}{n:Nat}:∀{l m:List AV},xl ok n l m→l.length=m.length∧∀(k:Nat) (x x':AV),l[k]? =some x→m[k]? =some x'→n6 ok n x x'
 |[],[],_=>⟨rfl,fun k x x' h=>by simp at h⟩
 |x::l,y::m,h=>by
  obtain⟨h1,h2⟩:=xl.spec h.2
  refine⟨by simp[h1],fun k u v hu hv=> ?_⟩
  cases k with
  |zero=>simp at hu hv;subst hu hv;exact h.1
  |succ k=>simp at hu hv;exact h2 k u v hu hv
 |[],_::_,h=>h.elim
 |_::_,[],h=>h.elim
theorem n6.ag{ok:AV→Prop}{n:Nat}{cs cs':List AV}(h:xl ok n cs cs'):n6 ok n (.agg cs) (.agg cs'):=.agg cs cs' h.spec.1 h.spec.2
theorem n6.tp{ok:AV→Prop}{n:Nat}{cs cs':List AV}(h:xl ok n cs cs'):n6 ok n (.tuple cs) (.tuple cs'):=.tuple cs cs' h.spec.1 h.spec.2

theorem KC{C0:Ctx}{pr:Nat→Prop}(hw:C0.w=C.w)(hp:C0.dm=pr)(hd0:C0.mI=[])(hp0:C0.tn=0)(Ua:∀b,¬C0.own b)(hE:Ext C0 C1):Ext (C.bare pr) C1 where
 below:=by have:=hE.below;rw[hw] at this;exact this
 keep b hb _:=by have:=hE.keep b (by rw[hw];exact hb) (Ua b);rw[this,hw];rfl
 own b hb h:=absurd (hE.own b (by rw[hw];exact hb) h) (Ua b)
 next:=Nat.zero_le _
 id i es hi _:=absurd hi (Nat.not_lt_zero _)
 dm:=hE.dm.trans hp
 mI:=hE.mI.trans hd0
 tn:=hE.tn.trans hp0

theorem Kj{f:FuncId}{ys xs:List AV}{r:AV}{Hr:aX}(r':AV)(objs':List (Nat×(Nat×List AV)))(he:Enters P o fr f ys)(hw:an (.of W0.w) ys.length ⟨cO 0 ys,.empty⟩ ⟨cO 0 xs,.empty⟩)(hl:xs.length=ys.length)(hno:∀y∈ys,dn y)
  (hf:cN P W0.w f xs r Hr)(hr:n6 dn H.next r r')(hJ:Joined dn H.next Hr.ef objs'):gD P W0 o fr H r' {next:=H.next+Hr.next,ef:=H.ef++objs',e8:=H.e8}:=by
 intro C a hI hH hop K Q hK
 subst hH
 obtain⟨vals,hrun,LA⟩:=he C a hop
 unfold Oper.wp
 rw[hrun,Oper.upon_enter]
 have Yv:=L1 (pr:=fun b=>C.dm b∨C.own b) LA.1 LA.2 hno (Im hI) (fun b hb h=>hb (h.elim .inr .inl))
 obtain⟨C0,q1,q2,q3⟩:=hw _ _ Yv
 have Xa:C0.w=C.w:=q1
 have hsz:vals.size=xs.length:=by rw[hl];exact q3.size
 have:=hf.runs C0 vals q3.inv q3.heap (tW q3) hsz (AM q3)
 rw[Xa] at this
 refine this.mono ?_
 rintro e w' ⟨v,C1,rfl,rfl,hE0,hI',hH1,Yv⟩
 subst hH1
 have Ua:∀b,¬C0.own b:=CX q3.heap (tW q3)
 have hE:=KC (C:=C) (pr:=fun b=>C.dm b∨C.own b) Xa q2.dm (tW q3) q3.inv.pP Ua hE0
 obtain⟨h1,h2,h3⟩:=Gu (ok:=dn) (pr:=fun b=>C.dm b∨C.own b) hI hI' hE (fun b h=>.inl h) hJ (fun x v hx hrx hb=>by
  by_cases hd:∃b,b<C1.w.heap.size∧¬C1.bad b∧(C.join C1 objs').bad b
  ·obtain⟨b,q1,q2,q3⟩:=hd
   rcases hb b q1 q2 with h|h
   ·exact absurd q3 h
   ·exact h _
  ·exact hrx.move hx (Nat.le_refl _) (fun b q1 q2=>⟨rfl,fun q3=>hd ⟨b,q1,q2,q3⟩⟩)) (.inl fun b h=>.inr h)
 exact hK v (C.join C1 objs') h1 h2 rfl (h3 r r' v hr Yv)
theorem fy{f:FuncId}{args:Array Operand}{tys:Array TypeId}{ys xs:List AV}{r:AV}{Hr:aX}(r':AV)(objs':List (Nat×(Nat×List AV)))(ho:o.op=.call {callee:=.value (.func f),args:=args,argTypes:=tys})(hys:args.toList.mapM (bA fr)=some ys)(hw:an (.of W0.w) ys.length ⟨cO 0 ys,.empty⟩ ⟨cO 0 xs,.empty⟩)(hl:xs.length=ys.length)(hno:∀y∈ys,dn y)
  (hf:cN P W0.w f xs r Hr)(hr:n6 dn H.next r r')(hJ:Joined dn H.next Hr.ef objs'):gD P W0 o fr H r' {next:=H.next+Hr.next,ef:=H.ef++objs',e8:=H.e8}:=
 Kj r' objs' (.func ho hys hf.call) hw hl hno hf hr hJ

theorem Ki{f:FuncId}{ys xs:List AV}{r:AV}{Hr:aX}(r':AV)(objs':List (Nat×(Nat×List AV)))(he:Enters P o fr f ys)(hw:an (.of W0.w) ys.length ⟨cO 0 ys,{H with e8:=[]}⟩ ⟨cO 0 xs,.empty⟩)(hl:xs.length=ys.length)
  (hf:cN P W0.w f xs r Hr)(hr:n6 BP H.next r r')(hJ:Joined BP H.next Hr.ef objs'):gD P W0 o fr H r' {next:=H.next+Hr.next,ef:=H.ef++objs',e8:=H.e8}:=by
 intro C a hI hH hop K Q hK
 subst hH
 obtain⟨vals,hrun,LA⟩:=he C a hop
 unfold Oper.wp
 rw[hrun,Oper.upon_enter]
 obtain⟨C0,q1,q2,q3⟩:=hw _ _ (Pv hI LA.1 LA.2)
 have Xa:C0.w=C.w:=q1
 have hsz:vals.size=xs.length:=by rw[hl];exact q3.size
 have:=hf.runs C0 vals q3.inv q3.heap (tW q3) hsz (AM q3)
 rw[Xa] at this
 refine this.mono ?_
 rintro e w' ⟨v,C1,rfl,rfl,hE0,hI',hH1,Yv⟩
 subst hH1
 have Ua:∀b,¬C0.own b:=CX q3.heap (tW q3)
 have hE:=KC (C:=C) (pr:=C.dm) Xa q2.dm (tW q3) q3.inv.pP Ua hE0
 obtain⟨h1,h2,h3⟩:=Gu (ok:=BP) (pr:=C.dm) hI hI' hE (fun b h=>h) hJ (fun x v hx hrx _=>hx.rep hrx) (.inr fun x h=>h)
 exact hK v (C.join C1 objs') h1 h2 rfl (h3 r r' v hr Yv)
theorem Mw{f:FuncId}{args:Array Operand}{tys:Array TypeId}{ys xs:List AV}{r:AV}{Hr:aX}(r':AV)(objs':List (Nat×(Nat×List AV)))(ho:o.op=.call {callee:=.value (.func f),args:=args,argTypes:=tys})(hys:args.toList.mapM (bA fr)=some ys)(hw:an (.of W0.w) ys.length ⟨cO 0 ys,{H with e8:=[]}⟩ ⟨cO 0 xs,.empty⟩)(hl:xs.length=ys.length)
  (hf:cN P W0.w f xs r Hr)(hr:n6 BP H.next r r')(hJ:Joined BP H.next Hr.ef objs'):gD P W0 o fr H r' {next:=H.next+Hr.next,ef:=H.ef++objs',e8:=H.e8}:=
 Ki r' objs' (.func ho hys hf.call) hw hl hf hr hJ


theorem Of{W0:dU}{C:Ctx}{q:AV}{v:Value}(hI:Inv W0 C)(hd:C.mI=[])(h:dO C q v):Rel W0 1 (lk [(0,q)]) C.H C {tmps:= #[v],defers:=W0.dx}:=
 ⟨rfl,hI,rfl,by simp[hd],fun t x hx=>by
  simp only[lk] at hx
  split at hx
  ·rename_i ht;subst ht;cases hx;exact h
  ·cases hx⟩

theorem Pw{W0:dU}{C:Ctx}{fn:Func}{xs:List AV}{vals:Array Value}{H:aX}{N:Nat}(hI:Inv W0 C)(hH:C.H=H)(hd:C.mI=[])(hN:fn.ntmps=N)(hxN:xs.length≤N)(hsz:vals.size=xs.length)(hrep:∀(k:Nat) (x:AV),xs[k]? =some x→dO C x (vals.getD k undef))(hdx:W0.dx=[]):
  Rel W0 N (lk (cO 0 xs)) H C {tmps:=vals++Array.replicate (fn.ntmps - vals.size) undef,defers:=[]}:=by
 refine⟨hH,hI,by simp[hN];omega,by simp[hd,hdx],fun t x hx=> ?_⟩
 obtain⟨_,h2⟩:=tR xs 0 t x hx
 have hlt:t<vals.size:=by rw[hsz];exact(List.getElem?_eq_some_iff.1 h2).1
 have:=hrep t x h2
 have e:(vals++Array.replicate (fn.ntmps - vals.size) undef).getD t undef=vals.getD t undef:=by
  rw[Array.getD_eq_getD_getElem?,Array.getElem?_append_left hlt,←Array.getD_eq_getD_getElem?]
 rw[e];exact this

theorem drain{W0:dU}{fn:Func}{tmps:Array Value}{R:Ending→World→Prop}{H:aX}{Q:Ctx→Prop}{u:FrameMode}(hu:u≠.run){ds:List Deferred}(hQ:∀C2,Q C2→C2.mI=[]→LeavesInM Fence.wide 0 P fn tmps R ds u C2.w):
  ∀(l:List Nat) (C:Ctx),C.mI=l→Inv W0 C→C.H=H→(∀C2,C2.H=C.H→C2.pl=C.pl→Mem C C2→Inv W0 C2→C2.mI=[]→(∀x v,dO C x v→dO C2 x v)→Q C2)→
   LeavesInM Fence.wide 0 P fn tmps R ((l.map fun d=>{target:=.collected d,args:= #[]})++ds) u C.w
 |[],C,hl,hI,hH,hq=>hQ C (hq C rfl rfl (.refl C) hI hl (fun _ _ h=>h)) hl
 |d::l,C,hl,hI,hH,hq=>by
  have hd:C.w.heap[d]? =some (.deferred (some [])):=hI.mI d (by rw[hl];exact List.mem_cons_self ..)
  have hdlt:d<C.w.heap.size:=(Array.getElem?_eq_some_iff.1 hd).1
  have hnd:d∉l:=by have:=hI.y7;rw[hl] at this;exact(List.nodup_cons.1 this).1
  refine⟨hu,.inl ⟨d,C.w.putObj d (.deferred none),rfl,run_takeDeferred hd, ?_⟩⟩
  -- the context behind it
  let C1:Ctx:={C with w:=C.w.putObj d (.deferred none),mI:=l}
  have hne:∀b,b≠d→C1.w.heap[b]? =C.w.heap[b]? :=fun b hb=>World.putObj_heap_other hb
  have hcell:∀{b:Nat} {arr:Array Value} {el:TypeId} {fz:Nat×Nat},C.w.heap[b]? =some (.cells arr el fz)→b≠d:=fun{b arr el fz} h hb=>by
   subst hb;rw[hd] at h;cases h
  have hown:∀b,C1.own b→C.own b:=by
   rintro b (⟨id,es,h1,h2,h3⟩|h|h)
   ·exact .inl ⟨id,es,h1,h2,h3⟩
   ·exact .inr (.inl h)
   ·exact .inr (.inr (by rw[hl];exact List.mem_cons_of_mem _ h))
  have hM:Mem C C1:=⟨⟨rfl,rfl,rfl,by simp[C1],fun k hk=>absurd hk (Nat.not_lt_zero k)⟩,fun b _ hb=>hne b (fun h=>hb (.inr (.inr (by rw[h,hl];exact List.mem_cons_self ..)))),fun b _ h=>hown b h,rfl,rfl,fun hp=>⟨hp,fun k es' _ hg=>⟨⟨es',hg⟩,rfl⟩⟩⟩
  have hholds:∀{b o:Nat} {v:Value},Holds C.w b o v→Holds C1.w b o v:=fun{b o v} h=>by
   refine⟨?_,h.2⟩
   have hb:b≠d:=fun hb=>by
    subst hb
    have:=h.1
    simp[World.cell?,hd] at this
   rw[World.cell?_of_block (w:=C.w) (a:=⟨b,o,none⟩) (hne b hb)]
   exact h.1
  have hrep:∀x v,dO C x v→dO C1 x v:=by
   intro x v h
   induction h with
   |any v=>exact .any v
   |imm v hv=>exact .imm v hv
   |slNil a cap=>exact .slNil a cap
   |sl es b off sz cap c hlt hbad hc hf hcell _ ih=>exact .sl es b off sz cap c (by simpa [C1] using hlt) (fun h=>hbad (h.imp (hown b) id)) hc hf (fun i j e x he hx=>hholds (hcell i j e x he hx)) ih
   |clipNil a=>exact .clipNil a
   |clip es b off sz c hlt hbad hf hcell _ ih=>exact .clip es b off sz c (by simpa [C1] using hlt) (fun h=>hbad (h.imp (hown b) id)) hf (fun i j e x he hx=>hholds (hcell i j e x he hx)) ih
   |view id off len v hid hs h1=>exact .view id off len v hid hs h1
   |ref id i j v hid hs h1=>exact .ref id i j v hid hs h1
   |pp fl j b off c hlt hbad hcell _ ih=>exact .pp fl j b off c (by simpa [C1] using hlt) (fun h=>hbad (h.imp (hown b) id)) (fun k x hx=>hholds (hcell k x hx)) ih
   |agg cs vs hs h1 _ ih=>exact .agg cs vs hs h1 ih
   |tuple cs vs hs _ ih=>exact .tuple cs vs hs ih
   |ifc t x v _ ih=>exact .ifc t x v ih
   |bX fn caps vs hs _ ih=>exact .bX fn caps vs hs ih
  have MM:Inv W0 C1:={
   fresh:=hI.fresh
   nil:=hI.nil
   obj:=fun id es h hn=>by
    have hO:=hI.obj id es h hn
    obtain⟨arr,el,h1,h2⟩:=hO.gN
    have hb:=hcell h1
    have hc:∀o,C1.w.cell? ⟨(C.pl id).gN,o,none⟩=C.w.cell? ⟨(C.pl id).gN,o,none⟩:=fun o=>World.cell?_of_block (w:=C.w) (a:=⟨_,o,none⟩) (hne _ hb)
    exact⟨hO.n,hO.cap,⟨arr,el,by rw[←h1];exact hne _ hb,h2⟩,fun o v hv=>hO.one o v (by rw[←hc o];exact hv),hO.flat,fun i j e x v h1 h2 h3=>hrep _ _ (hO.cell i j e x v h1 h2 (by rw[←hc];exact h3))⟩
   sep:=hI.sep
   dm:=hI.dm
   oM:=hI.oM
   eE:=fun b h=>by simpa [C1] using hI.eE b h
   eZ:=hI.eZ
   size:=by simpa [C1] using hI.size
   iK:=fun b h=>⟨by
    rw[←(hI.iK b h).1]
    exact hne b (fun hb=>(hI.iK b h).2 (.inr (.inr (by rw[hb,hl];exact List.mem_cons_self ..)))),fun ho=>(hI.iK b h).2 (hown b ho)⟩
   e8:=fun q r h=>by
    rw[←hI.e8 q r h]
    refine hne q (fun hq=> ?_)
    have:=hI.e8 q r h
    rw[hq,hd] at this;cases this
   mI:=fun q h=>by
    rw[←hI.mI q (by rw[hl];exact List.mem_cons_of_mem _ h)]
    exact hne q (fun hq=>hnd (hq▸h))
   y7:=by have:=hI.y7;rw[hl] at this;exact(List.nodup_cons.1 this).2
   zM:=fun q h=>by have:=hI.zM q h;rw[hl] at this;cases this
   fD:=fun b h=>hI.fD b (by
    rcases h with h|h
    ·exact .inl h
    ·exact .inr (by rw[hl];exact List.mem_cons_of_mem _ h))
   pP:=hI.pP
   fZ:=hI.fZ
   gh:=W0.st C C1 hM hI.fZ hI.gh}
  exact drain hu hQ l C1 rfl MM hH (fun C2 h1 h2 h3 h4 h5 h6=>hq C2 h1 h2 (hM.trans h3) h4 h5 (fun x v h=>h6 x v (hrep x v h)))

theorem CC{W0:dU}{N:Nat}{f:FuncId}{fn:Func}{c:Code}{xs:List AV}{r:AV}{Hin Hr:aX}(hf:P.funcs[f]? =some fn)(hb:fn.body=some c)(hN:fn.ntmps=N)(hxN:xs.length≤N)(hro:W0.ro=none)
  (h:aZ P W0 N c ⟨cO 0 xs,Hin⟩ (fun e s=>(e=.normal∨e=.ret)∧∃q,Nr P fn.results.toList s=some q∧an W0 1 ⟨[(0,q)],s.H⟩ ⟨[(0,r)],Hr⟩))
  (C:Ctx)(vals:Array Value)(hI:Inv W0 C)(hH:C.H=Hin)(hd:C.mI=[])(hsz:vals.size=xs.length)(hrep:∀(k:Nat) (x:AV),xs[k]? =some x→dO C x (vals.getD k undef))(hdx:W0.dx=[]:=by rfl):
  Calls P f vals C.w (fun e w'=>∃v C',e=.returned v∧C'.w=w'∧Mem C C'∧Inv W0 C'∧C'.H=Hr∧C'.mI=[]∧dO C' r v):=by
 refine(callsIn_wide (n:=0)).1 (callsIn_of_wp_marks hf hb trivial ?_)
 have hrel:=Pw (W0:=W0) hI hH hd hN hxN hsz hrep hdx
 have key:=h C _ hrel
 rw[hro,EU] at key
 refine wpIn_mono key fun e a' w' ⟨s,C',g1,g2,g3,g4,q,g5,g6⟩=> ?_
 subst g1
 have main:LeavesInM Fence.wide 0 P fn a'.tmps (fun e w'=>∃v C',e=.returned v∧C'.w=w'∧Mem C C'∧Inv W0 C'∧C'.H=Hr∧C'.mI=[]∧dO C' r v) a'.defers .returning C'.w:=by
  rw[g3.defers,hdx]
  refine drain (W0:=W0) (u:=.returning) (by simp) (ds:=[]) (Q:=fun C2=>Rel W0 N (lk s.fr) s.H C2 {tmps:=a'.tmps,defers:=[]}∧Mem C C2) (fun C2 hq hd2=> ?_) C'.mI C' rfl g3.inv g3.heap (fun C2 h1 h2 h3 h4 h5 h6=>⟨⟨h1.trans g3.heap,h4,g3.size,by simp[h5,hdx],fun t x hx=>h6 x _ (g3.rep t x hx)⟩,g2.trans h3⟩)
  obtain⟨hq,hm⟩:=hq
  obtain⟨v,g7,g8⟩:=L6 hq g5
  have g9:=Of hq.inv hd2 g8
  rw[hq.heap] at g9
  obtain⟨C3,q1,q2,q3⟩:=g6 C2 _ g9
  exact⟨v,g7,v,C3,rfl,q1,hm.trans q2,q3.inv,q3.heap,tW q3,q3.rep 0 r rfl⟩
 rcases g4 with rfl|rfl
 ·exact main
 ·exact main

theorem aM{W0:World}{N:Nat}{f:FuncId}{fn:Func}{c:Code}{xs:List AV}{r:AV}{Hr:aX}(hf:P.funcs[f]? =some fn)(hb:fn.body=some c)(hname:(fn.name== "runtime.NumGoroutine")=false)(hN:fn.ntmps=N)(hxN:xs.length≤N)
  (h:aZ P (.of W0) N c ⟨cO 0 xs,.empty⟩ (fun e s=>(e=.normal∨e=.ret)∧∃q,Nr P fn.results.toList s=some q∧an (.of W0) 1 ⟨[(0,q)],s.H⟩ ⟨[(0,r)],Hr⟩)):cN P W0 f xs r Hr where
 call:=sF hf hname hb
 runs C vals hI hH hd hsz hrep:=(CC hf hb hN hxN rfl h C vals hI hH hd hsz hrep).mono fun e w' ⟨v,C',h1,h2,h3,h4,h5,h6,h7⟩=>
  ⟨v,C',h1,h2,⟨h3.below,h3.keep,h3.own,by rw[hH];exact Nat.zero_le _,fun id es hi _=>by rw[hH] at hi;exact absurd hi (Nat.not_lt_zero _),h3.dm,h6.trans hd.symm,h3.tn⟩,h4,h5,h7⟩

theorem cN.uj{W0:World}{f:FuncId}{xs:List AV}{r r':AV}{Hr:aX}(h:cN P W0 f xs r Hr)(hw:an (.of W0) 1 ⟨[(0,r)],Hr⟩ ⟨[(0,r')],.empty⟩)(hn:dn r'):bJ P W0 f xs r' where
 call:=h.call
 wm:=hn
 runs C vals hI hH hd hsz hrep:=(h.runs C vals hI hH hd hsz hrep).mono fun e w' ⟨v,C',h1,h2,h3,h4,h5,h6⟩=>by
  have g:=Of h4 (h3.mI.trans hd) h6
  rw[h5] at g
  obtain⟨C2,q1,q2,q3⟩:=hw C' _ g
  refine⟨v,C2,h1,q1.trans h2, ?_,q3.inv,q3.rep 0 r' rfl⟩
  have hm:=h3.mem.trans q2
  refine⟨hm.below,hm.keep,hm.own,by rw[hH];exact Nat.zero_le _,fun id es hi _=> ?_,hm.dm,(tW q3).trans hd.symm,hm.tn⟩
  rw[hH] at hi;exact absurd hi (Nat.not_lt_zero _)

theorem bJ.two{W0:World}{f:FuncId}{xs:List AV}{r:AV}(h:cN P W0 f xs r .empty)(hn:dn r):bJ P W0 f xs r:=h.uj (an.refl _) hn
end
end Go.Av
end

section
/- Sets of numbers as bits: plain facts on 64 bits. -/
namespace Bv

theorem S6:∀x:Nat,0<x→∃k m,x=2 ^ k*(2*m+1):=by
 intro x
 induction x using Nat.strongRecOn with
 |_ x ih=>
  intro hx
  rcases Nat.mod_two_eq_zero_or_one x with h|h
  ·obtain⟨k,m,hk⟩:=ih (x / 2) (by omega) (by omega)
   refine⟨k+1,m, ?_⟩
   rw[Nat.pow_succ,Nat.mul_assoc,Nat.mul_comm 2,←Nat.mul_assoc,←hk];omega
  ·exact⟨0,x / 2,by simp;omega⟩

theorem tb(k a b i:Nat)(hb:b<2 ^ k):(2 ^ k*a+b).testBit i=if i<k then b.testBit i else a.testBit (i - k):=Nat.testBit_two_pow_mul_add a hb i

theorem J4(k m i:Nat):(2 ^ k*(2*m+1)).testBit i=if i<k then false else if i=k then true else m.testBit (i - k - 1):=by
 have h:=tb k (2*m+1) 0 i (Nat.two_pow_pos k)
 rw[Nat.add_zero] at h
 rw[h]
 by_cases h1:i<k
 ·simp[h1]
 ·rw[if_neg h1,if_neg h1]
  by_cases h2:i=k
  ·subst h2;simp
  ·rw[if_neg h2]
   have h3:=tb 1 m 1 (i - k) (by decide)
   rw[Nat.pow_one] at h3
   rw[h3,if_neg (by omega)]

theorem low(x:Nat)(hx:0<x)(hlt:x<2 ^ 64):∃k,k<64∧x.testBit k=true∧(∀i,i<k→x.testBit i=false)∧(∀i,(x&&&(x - 1)).testBit i=(x.testBit i&&decide (i≠k)))∧x&&&(2 ^ 64 - x)=2 ^ k:=by
 obtain⟨k,m,rfl⟩:=S6 x hx
 have hk:k<64:=by
  rcases Nat.lt_or_ge k 64 with h|h
  ·exact h
  ·have:2 ^ 64≤2 ^ k:=Nat.pow_le_pow_right (by decide) h
   have:2 ^ k*1≤2 ^ k*(2*m+1):=Nat.mul_le_mul_left _ (by omega)
   omega
 refine⟨k,hk,by rw[J4];simp,fun i hi=>by rw[J4,if_pos hi],fun i=> ?_, ?_⟩
 ·have h1:2 ^ k*(2*m+1) - 1=2 ^ k*(2*m)+(2 ^ k - 1):=by
   have:=Nat.two_pow_pos k
   rw[Nat.mul_add,Nat.mul_one];omega
  rw[Nat.testBit_and,h1,tb k (2*m) (2 ^ k - 1) i (by have:=Nat.two_pow_pos k;omega),J4]
  by_cases h2:i<k
  ·simp[h2]
  ·rw[if_neg h2,if_neg h2]
   by_cases h3:i=k
   ·subst h3;simp
   ·rw[if_neg h3]
    have h4:=tb 1 m 0 (i - k) (by decide)
    rw[Nat.pow_one,Nat.add_zero] at h4
    rw[h4,if_neg (by omega)]
    simp[h3]
 ·have hle:2*m+1≤2 ^ (64 - k):=by
   rcases Nat.lt_or_ge (2 ^ (64 - k)) (2*m+1) with h|h
   ·have h5:2 ^ k*2 ^ (64 - k)<2 ^ k*(2*m+1):=Nat.mul_lt_mul_of_pos_left h (Nat.two_pow_pos k)
    rw[←Nat.pow_add,show k+(64 - k)=64 by omega] at h5
    omega
   ·exact h
  have h1:2 ^ 64 - 2 ^ k*(2*m+1)=2 ^ k*(2 ^ (64 - k) - (2*m+1)):=by
   rw[Nat.mul_sub,←Nat.pow_add,show k+(64 - k)=64 by omega]
  rw[h1]
  apply Nat.eq_of_testBit_eq
  intro i
  rw[Nat.testBit_and,J4,Nat.testBit_two_pow]
  have h2:=tb k (2 ^ (64 - k) - (2*m+1)) 0 i (Nat.two_pow_pos k)
  rw[Nat.add_zero] at h2
  rw[h2]
  by_cases h3:i<k
  ·rw[if_pos h3,if_pos h3];simp;omega
  ·rw[if_neg h3,if_neg h3]
   have h4:(2 ^ (64 - k) - (2*m+1)).testBit (i - k)=(decide (i - k<64 - k)&& !(2*m).testBit (i - k)):=Nat.testBit_two_pow_sub_succ (by omega) _
   rw[h4]
   by_cases h5:i=k
   ·subst h5
    simp
    omega
   ·rw[if_neg h5]
    have h6:=tb 1 m 0 (i - k) (by decide)
    rw[Nat.pow_one,Nat.add_zero] at h6
    rw[h6,if_neg (by omega)]
    have:¬k=i:=fun h=>h5 h.symm
    simp[this]
    exact fun h _=>h

def list(s:BitVec 64):List Nat:=(List.range 64).filter fun i=>s.getLsbD i

def has(s:BitVec 64)(i:Int):Bool:=decide (0≤i)&&decide (i<64)&&s.getLsbD i.toNat
def bit(i:Int):BitVec 64:=if 0≤i∧i<64 then 1#64<<<i.toNat else 0#64
def least(s:BitVec 64):Int:=match list s with|[]=> -1|i::_=>i
def ctz(s:BitVec 64):Nat:=match list s with|[]=>64|i::_=>i

theorem CS{s:BitVec 64}{i:Nat}:i∈list s↔s.getLsbD i=true:=by
 simp only[list,List.mem_filter,List.mem_range]
 constructor
 ·exact fun h=>h.2
 ·intro h
  refine⟨?_,h⟩
  rcases Nat.lt_or_ge i 64 with h1|h1
  ·exact h1
  ·rw[BitVec.getLsbD_of_ge _ _ h1] at h;cases h

theorem wH(s:BitVec 64):(list s).Pairwise (· < ·):=(List.pairwise_lt_range).filter _

theorem O4:list 0#64=[]:=by decide

theorem GS:∀{l m:List Nat},l.Pairwise (· < ·)→m.Pairwise (· < ·)→(∀i,i∈l↔i∈m)→l=m
 |[],[],_,_,_=>rfl
 |[],y::m,_,_,h=>by have:=(h y).2 (List.mem_cons_self ..);cases this
 |x::l,[],_,_,h=>by have:=(h x).1 (List.mem_cons_self ..);cases this
 |x::l,y::m,hl,hm,h=>by
  rw[List.pairwise_cons] at hl hm
  have hxy:x=y:=by
   have h1:=(h x).1 (List.mem_cons_self ..)
   have h2:=(h y).2 (List.mem_cons_self ..)
   rcases List.mem_cons.1 h1 with h1|h1
   ·exact h1
   ·rcases List.mem_cons.1 h2 with h2|h2
    ·exact h2.symm
    ·have:=hl.1 y h2;have:=hm.1 x h1;omega
  subst hxy
  rw[GS hl.2 hm.2 (fun i=> ?_)]
  constructor
  ·intro hi
   rcases List.mem_cons.1 ((h i).1 (List.mem_cons_of_mem _ hi)) with rfl|h1
   ·exact absurd (hl.1 i hi) (Nat.lt_irrefl _)
   ·exact h1
  ·intro hi
   rcases List.mem_cons.1 ((h i).2 (List.mem_cons_of_mem _ hi)) with rfl|h1
   ·exact absurd (hm.1 i hi) (Nat.lt_irrefl _)
   ·exact h1

theorem Y9(s:BitVec 64)(h:s≠0#64):∃k,k<64∧s.getLsbD k=true∧(∀i,i<k→s.getLsbD i=false)∧(∀i,(s&&&(s - 1#64)).getLsbD i=(s.getLsbD i&&decide (i≠k)))∧s&&& -s=1#64<<<k:=by
 have hx:0<s.toNat:=by
  rcases Nat.eq_zero_or_pos s.toNat with h1|h1
  ·exact absurd (BitVec.eq_of_toNat_eq (by simpa using h1)) h
  ·exact h1
 obtain⟨k,h1,h2,h3,h4,h5⟩:=low s.toNat hx s.isLt
 have e1:(s - 1#64).toNat=s.toNat - 1:=by
  rw[BitVec.toNat_sub]
  have:=s.isLt
  simp
  omega
 refine⟨k,h1,by rw[←BitVec.testBit_toNat];exact h2,fun i hi=>by rw[←BitVec.testBit_toNat];exact h3 i hi,fun i=> ?_, ?_⟩
 ·rw[←BitVec.testBit_toNat,BitVec.toNat_and,e1,h4,BitVec.testBit_toNat]
 ·apply BitVec.eq_of_toNat_eq
  have e2:(-s).toNat=2 ^ 64 - s.toNat:=by
   rw[BitVec.toNat_neg,Nat.mod_eq_of_lt (by omega)]
  rw[BitVec.toNat_and,e2,h5]
  have:2 ^ k<2 ^ 64:=Nat.pow_lt_pow_right (by decide) h1
  simp[Nat.shiftLeft_eq]
  omega

theorem Io(s:BitVec 64)(h:s≠0#64):list s=ctz s::list (s&&&(s - 1#64))∧ctz s<64∧s&&& -s=1#64<<<ctz s:=by
 obtain⟨k,h1,h2,h3,h4,h5⟩:=Y9 s h
 have key:list s=k::list (s&&&(s - 1#64)):=by
  refine GS (wH s) ?_ (fun i=> ?_)
  ·rw[List.pairwise_cons]
   refine⟨fun i hi=> ?_,wH _⟩
   rw[CS,h4] at hi
   simp only[Bool.and_eq_true,decide_eq_true_eq] at hi
   rcases Nat.lt_or_ge i k with h6|h6
   ·rw[h3 i h6] at hi;cases hi.1
   ·omega
  ·rw[CS,List.mem_cons,CS,h4]
   simp only[Bool.and_eq_true,decide_eq_true_eq]
   constructor
   ·intro hi
    by_cases hik:i=k
    ·exact .inl hik
    ·exact .inr ⟨hi,hik⟩
   ·rintro(rfl|hi)
    ·exact h2
    ·exact hi.1
 have hc:ctz s=k:=by simp[ctz,key]
 exact⟨by rw[hc];exact key,by rw[hc];exact h1,by rw[hc];exact h5⟩

theorem o8(s:BitVec 64):(list s).length≤64:=by
 have:=List.length_filter_le (fun i=>s.getLsbD i) (List.range 64)
 simpa [list] using this

theorem ext{s t:BitVec 64}(h:∀i,i<64→s.getLsbD i=t.getLsbD i):s=t:=BitVec.eq_of_getLsbD_eq (fun i hi=>h i hi)

def dB:BitVec 64:=0x03f79d71b4ca8b09#64
def TJ:List Nat:=[0,1,56,2,57,49,28,3,61,58,42,50,38,29,17,4,62,47,59,36,45,43,51,22,53,39,33,30,24,18,12,5,63,55,48,27,60,41,37,16,46,35,44,21,52,32,23,11,54,26,40,15,34,20,31,10,25,14,19,9,13,8,7,6]
theorem ZH:∀k:Fin 64,TJ[(((1#64<<<k.val)*dB)>>>58).toNat]? =some k.val:=by decide

end Bv
end

section
/- The table of math/bits, as numbers. -/
namespace Go.Sh
def Nw:List Int:=Bv.TJ.map fun(k:Nat)=>(k:Int)
end Go.Sh
end

section
/- The rules once more, over lists of plain data. -/
namespace Go.Av
abbrev fL(n:Int):Int:=IntKind.i64.wrap n
abbrev kA(k:IntKind)(n:Int):AV:=.imm (.int k n)
abbrev HY{α:Type}(enc:α→AV)(l:List α):AV:=.agg (l.map enc)
section
variable {P:Program} {W0:dU} {fr:Fr} {H:aX} {o:Oper} {α:Type} {enc:α→AV} {l:List α} {i:Int} {x:α} {ki:IntKind}

theorem getM{k:Nat}(h:l[k]? =some x):(l.map enc)[k]? =some (enc x):=by simp[h]

theorem aN{t e:TypeId}{s by':Nat}{xo io:Operand}{k:Nat}(enc:α→AV)(l:List α)(hi:i=k)(hl:l[k]? =some x)(ho:o.op=.indexAddr t xo io)(hx:bA fr xo=some (.sl (l.map enc)))(hio:bA fr io=some (.imm (.int ki i)))
  (ht:yc P t=some (e,s,by'))(hs:(enc x).flat.length=s):gD P W0 o fr H (.pp (enc x).flat 0) H:=
 m6 ho hx (.inl rfl) hio ht hi (getM hl) hs
theorem cz{t e:TypeId}{s by' id n:Nat}{xo io:Operand}{k:Nat}(enc:α→AV)(l:List α)(hi:i=k)(hl:l[k]? =some x)(hn:n=(l.map enc).length)(ho:o.op=.indexAddr t xo io)(hx:bA fr xo=some (.view id 0 n))(hid:H.get id=some (l.map enc))(hio:bA fr io=some (.imm (.int ki i)))
  (ht:yc P t=some (e,s,by'))(hs:(enc x).flat.length=s):gD P W0 o fr H (.ref id k 0) H:=by
 subst hn
 have hk:k<(l.map enc).length:=by have:=(List.getElem?_eq_some_iff.1 hl).1;simpa using this
 have:=Ff (P:=P) (W0:=W0) (o:=o) (fr:=fr) (H:=H) ho hx hid hio ht hi hk (el:=enc x) (by rw[Nat.zero_add];exact getM hl) hs
 rwa [Nat.zero_add] at this
theorem lI{t:TypeId}{xo:Operand}{id k j n:Nat}{g:Bool}{r:AV}(enc:α→AV)(l:List α)(hl:l[k]? =some x)(ho:o.op=.load t xo)(hx:bA fr xo=some (.ref id k j))(hid:H.get id=some (l.map enc))
  (ht:vU P t=some (n,g))(hr:uv (enc x).flat j n g=some r):gD P W0 o fr H r H:=bq ho hx hid (getM hl) ht hr
theorem jX{t:TypeId}{xo yo:Operand}{id k j n:Nat}{g:Bool}{ay:AV}(enc:α→AV)(l:List α)(x':α)(hi:i=k)(hl:l[k]? =some x)(ho:o.op=.store t xo yo)(hx:bA fr xo=some (.ref id k j))(hy:bA fr yo=some ay)(hsol:ay.dw=true)
  (hid:H.get id=some (l.map enc))(ht:vU P t=some (n,g))(hn:ay.flat.length=n)(hj:j+n≤(enc x).flat.length)(he':(enc x').flat=(enc x).flat.take j++ay.flat++(enc x).flat.drop (j+n)):
  gD P W0 o fr H .any (H.set id ((Sh.set l i x').map enc)):=by
 have:=aS (P:=P) (W0:=W0) (o:=o) (fr:=fr) (H:=H) ho hx hy hsol hid (getM hl) ht hn hj he'
 have e:(Sh.set l i x').map enc=(l.map enc).set k (enc x'):=by subst hi;simp[Sh.set,List.map_set]
 rw[e];exact this

theorem aW{t e:TypeId}{s by':Nat}{xo:Operand}(enc:α→AV)(l:List α)(ho:o.op=.call {callee:=.builtin .len,args:= #[xo],argTypes:= #[t]})(hx:bA fr xo=some (.sl (l.map enc)))(ht:yc P t=some (e,s,by')):gD P W0 o fr H (i64 (Sh.len l)) H:=
 (ET ho hx rfl ht).conv (by simp[Sh.len])
theorem Co{t e:TypeId}{s by' id off n:Nat}{es:List AV}{xo:Operand}(enc:α→AV)(l:List α)(hn:n=(l.map enc).length)(ho:o.op=.call {callee:=.builtin .len,args:= #[xo],argTypes:= #[t]})(hx:bA fr xo=some (.view id off n))(hid:H.get id=some es)(ht:yc P t=some (e,s,by')):gD P W0 o fr H (i64 (Sh.len l)) H:=by
 subst hn
 exact(IU ho hx hid ht).conv (by simp[Sh.len])

theorem zY{s:Nat}(h:∀x:α,(enc x).flat.length=s)(l:List α):∀y∈l.map enc,y.flat.length=s:=fun y hy=>by
 obtain⟨x,_,rfl⟩:=List.mem_map.1 hy;exact h x
theorem PD{t ty e:TypeId}{s by':Nat}{z:Value}{xo yo:Operand}{ay:AV}(enc:α→AV)(m L:List α)(hL:Sh.app by' [] m=some L)(hT:Ow P t e s by' z)(hfl:∀x:α,(enc x).flat.length=s)(ho:o.op=.call {callee:=.builtin .append,args:= #[xo,yo],argTypes:= #[t,t]})(hty:o.type=ty)
  (hx:bA fr xo=some bw)(hy:bA fr yo=some ay)(hys:ay.elems H=some (m.map enc)):gD P W0 o fr H (.view H.next 0 (L.map enc).length) (H.push s (L.map enc)):=by
 obtain⟨h1,rfl⟩:=Sh.Kl hL
 have:=Fc (P:=P) (W0:=W0) (o:=o) (fr:=fr) (H:=H) hT ho hty hx (.inl rfl) hy hys (zY hfl _) (by simpa using h1)
 simpa using this
theorem dW{t ty e:TypeId}{s by' id n:Nat}{z:Value}{xo yo:Operand}{ay:AV}(enc:α→AV)(l m L:List α)(hL:Sh.app by' l m=some L)(hn:n=(l.map enc).length)(hT:Ow P t e s by' z)(hfl:∀x:α,(enc x).flat.length=s)(ho:o.op=.call {callee:=.builtin .append,args:= #[xo,yo],argTypes:= #[t,t]})(hty:o.type=ty)
  (hx:bA fr xo=some (.view id 0 n))(hid:H.get id=some (l.map enc))(hs:H.sz id=some s)(hy:bA fr yo=some ay)(hys:ay.elems H=some (m.map enc)):gD P W0 o fr H (.view H.next 0 (L.map enc).length) ((H.del id).push s (L.map enc)):=by
 subst hn
 obtain⟨h1,rfl⟩:=Sh.Kl hL
 have:=Et (P:=P) (W0:=W0) (o:=o) (fr:=fr) (H:=H) hT ho hty hx hid hs hy hys (zY hfl l) (zY hfl m) (by simpa using h1)
 simpa using this
theorem ZB{t e ty':TypeId}{s by' id n:Nat}{xo yo:Operand}{ay:AV}(enc:α→AV)(l m L:List α)(hL:Sh.XH l m=some L)(hn:n=(l.map enc).length)(hfl:∀x:α,(enc x).flat.length=s)(ho:o.op=.call {callee:=.builtin .copy,args:= #[xo,yo],argTypes:= #[t,ty']})(hx:bA fr xo=some (.view id 0 n))
  (hid:H.get id=some (l.map enc))(hs:H.sz id=some s)(hy:bA fr yo=some ay)(hys:ay.elems H=some (m.map enc))(ht:yc P t=some (e,s,by')):gD P W0 o fr H .any (H.set id (L.map enc)):=by
 subst hn
 obtain⟨h1,rfl⟩:=Sh.Kv hL
 have:=Ql (P:=P) (W0:=W0) (o:=o) (fr:=fr) (H:=H) ho hx hid hs hy hys ht (zY hfl L) (by simpa using h1)
 have e:((l.map enc).take 0++L.map enc++(l.map enc).drop (0+(L.map enc).length))=L.map enc:=by
  have:(l.map enc).drop (0+(L.map enc).length)=[]:=List.drop_eq_nil_of_le (by simp[h1])
  rw[this];simp
 rw[e] at this
 intro C a hI hH hop K Q hK
 exact this C a hI hH hop K Q (fun v C' h1 h2 h3 _=>hK v C' h1 h2 h3 (.any v))
theorem ZC{t e:TypeId}{s by':Nat}{xo yo:Operand}{kl kc:IntKind}{nl nc:Int}{z:Value}(enc:α→AV)(zx:α)(L:List α)(hL:Sh.mk by' nl nc zx=some L)(ho:o.op=.makeSlice t xo yo)(hx:bA fr xo=some (.imm (.int kl nl)))(hy:bA fr yo=some (.imm (.int kc nc)))
  (ht:yc P t=some (e,s,by'))(hz:wP P e=some z)(hk:z.Xd=true)(hs:(AV.Is z).flat.length=s)(hzx:enc zx=AV.Is z):gD P W0 o fr H (.view H.next 0 (L.map enc).length) (H.push s (L.map enc)):=by
 obtain⟨m,c,h1,h2,h3,h4,h5,rfl⟩:=Sh.N8 hL
 have:=BR (P:=P) (W0:=W0) (o:=o) (fr:=fr) (H:=H) ho hx hy h1 h2 h3 ht h4 h5 hz hk hs
 simpa [hzx] using this

theorem IJ{t e:TypeId}{s by':Nat}{xo:Operand}{lo hi:Option Operand}{ax:AV}{a b:Int}(enc:α→AV)(l L:List α)(hL:Sh.sub l a b=some L)(hfl:∀x:α,(enc x).flat.length=s)(ho:o.op=.slice t xo lo hi none)(hx:bA fr xo=some ax)(hax:ax=.sl (l.map enc)∨ax=.clip (l.map enc))
  (hlo:(lo=none∧a=0)∨∃y k,lo=some y∧bA fr y=some (.imm (.int k a)))(hhi:(hi=none∧b=Sh.len l)∨∃y k,hi=some y∧bA fr y=some (.imm (.int k b)))(ht:yc P t=some (e,s,by')):gD P W0 o fr H (.sl (L.map enc)) H:=by
 obtain⟨m,k,rfl,rfl,h1,h2,rfl⟩:=Sh.TH hL
 have g1:∀d,(hlo':(lo=none∧((m:Int))=0)∨∃y k,lo=some y∧bA fr y=some (.imm (.int k (m:Int))))→d=0→n7 fr lo d=some m:=fun d hlo' hd=>by
  rcases hlo' with⟨rfl,h⟩|⟨y,q,rfl,h⟩
  ·have:m=0:=by omega
   subst this;subst hd;rfl
  ·simp[n7,h]
 have g2:n7 fr hi (l.map enc).length=some k:=by
  rcases hhi with⟨rfl,h⟩|⟨y,q,rfl,h⟩
  ·simp only[Sh.len] at h
   have:k=l.length:=by omega
   subst this;simp[n7]
  ·simp[n7,h]
 have:=IX (P:=P) (W0:=W0) (o:=o) (fr:=fr) (H:=H) ho hx hax ht (g1 0 hlo rfl) g2 h1 (by simpa using h2) (zY hfl l)
 rwa [←List.map_drop,←List.map_take] at this

theorem Xo{t t':TypeId}{x y:Operand}{a r:BitVec 64}{k':IntKind}{n:Int}(h:Sh.shl a n=some r)(ho:o.op=.binOp .shl t x y t')(hx:bA fr x=some (u64 a))(hy:bA fr y=some (.imm (.int k' n))):gD P W0 o fr H (u64 r) H:=by
 obtain⟨h0,rfl⟩:=Sh.TE h
 rcases Int.lt_or_le n 64 with XQ|XQ
 ·exact OE ho hx hy h0 XQ
 ·have e:a<<<n.toNat=0#64:=BitVec.shiftLeft_eq_zero (by omega)
  rw[e]
  exact A1 ho hx hy (fun w=>by
   have hn:¬n<0:=by omega
   have hm:min n.toNat 64=64:=by omega
   simp only[binOp,Op.shift,hn,if_false,IntKind.bits,hm,IN]
   show Result.ok _ w=Result.ok _ w
   congr 4
   apply BitVec.eq_of_toNat_eq
   rw[BitVec.toNat_ofInt]
   simp) rfl

theorem ahZ{t t':TypeId}{x y:Operand}{a r:BitVec 64}{k':IntKind}{n:Int}(h:Sh.shr a n=some r)(ho:o.op=.binOp .shr t x y t')(hx:bA fr x=some (u64 a))(hy:bA fr y=some (.imm (.int k' n))):gD P W0 o fr H (u64 r) H:=by
 obtain⟨h0,rfl⟩:=Sh.TF h
 rcases Int.lt_or_le n 64 with XQ|XQ
 ·exact OF ho hx hy h0 XQ
 ·have e:a>>>n.toNat=0#64:=BitVec.ushiftRight_eq_zero (by omega)
  rw[e]
  exact A1 ho hx hy (fun w=>by
   have hn:¬n<0:=by omega
   have hm:min n.toNat 64=64:=by omega
   simp only[binOp,Op.shift,hn,if_false,IntKind.bits,hm]
   show Result.ok _ w=Result.ok _ w
   have h2:(a.toNat:Int).fdiv (2 ^ 64)=0:=by
    have:=a.isLt
    rw[Int.fdiv_eq_ediv_of_nonneg _ (by decide)]
    omega
   rw[h2];rfl) rfl
end

def Wr(W0:World)(g:Nat):Prop:=∀(j:Nat) (v:Value),(Bv.TJ.map fun(k:Nat)=>Value.int .u8 (k:Int))[j]? =some v→W0.cell? ⟨g,j,none⟩=some v∧v.oneCell'=true
theorem J2{P:Program}{W0:dU}{fr:Fr}{H:aX}{o:Oper}{t:TypeId}{gl k:Nat}{io:Operand}{ki:IntKind}{i x:Int}(hi:i=k)(hl:(Sh.Nw)[k]? =some x)(ho:o.op=.indexAddr t (.global gl) io)(hio:bA fr io=some (.imm (.int ki i)))(ht:Uh P t=some (64,1))(hT:Wr W0.w gl):
  gD P W0 o fr H (.pp ((Bv.TJ.map fun(k:Nat)=>Value.int .u8 (k:Int)).map .imm) k) H:=
 Fe ho hio ht hi (by have:=Sh.XP hl;simpa [Sh.Nw,Bv.TJ] using this) rfl hT (by decide)
theorem VK{k:Nat}{x:Int}(h:Sh.Nw[k]? =some x):uv ((Bv.TJ.map fun(k:Nat)=>Value.int .u8 (k:Int)).map .imm) k 1 false=some (kA .u8 x):=by
 show((Bv.TJ.map _).map _)[k]? =_
 simp only[Sh.Nw,List.getElem?_map,Option.map_eq_some_iff] at h
 obtain⟨q,h1,rfl⟩:=h
 simp[h1]
theorem ZD{P:Program}{W0:dU}{fr:Fr}{H:aX}{o:Oper}{t t':TypeId}{x y:Operand}{a b r:BitVec 64}(h:Sh.udiv a b=some r)(ho:o.op=.binOp .quo t x y t')(hx:bA fr x=some (u64 a))(hy:bA fr y=some (u64 b)):gD P W0 o fr H (u64 r) H:=by
 obtain⟨h1,rfl⟩:=Sh.PF h;exact OC ho hx hy h1
theorem ZE{P:Program}{W0:dU}{fr:Fr}{H:aX}{o:Oper}{t t':TypeId}{x y:Operand}{a b r:BitVec 64}(h:Sh.umod a b=some r)(ho:o.op=.binOp .rem t x y t')(hx:bA fr x=some (u64 a))(hy:bA fr y=some (u64 b)):gD P W0 o fr H (u64 r) H:=by
 obtain⟨h1,rfl⟩:=Sh.PG h;exact OD ho hx hy h1

section
variable {W0:dU} {N:Nat} {H:aX} {g:List (Nat×Nat)} {nw:List Nat}

def B4(H:aX)(g:List (Nat×Nat))(nw:List Nat):List AV→List AV→Prop
 |[],[]=>True
 |x::l,y::m=>vn H g nw x y∧B4 H g nw l m
 |_,_=>False

theorem B4.spec:∀{l m:List AV},B4 H g nw l m→l.length=m.length∧∀(k:Nat) (x x':AV),l[k]? =some x→m[k]? =some x'→vn H g nw x x'
 |[],[],_=>⟨rfl,fun k x x' h=>by simp at h⟩
 |x::l,y::m,h=>by
  obtain⟨h1,h2⟩:=B4.spec h.2
  refine⟨by simp[h1],fun k u v hu hv=> ?_⟩
  cases k with
  |zero=>simp at hu hv;subst hu hv;exact h.1
  |succ k=>simp at hu hv;exact h2 k u v hu hv
 |[],_::_,h=>h.elim
 |_::_,[],h=>h.elim

theorem vn.ag{cs cs':List AV}(h:B4 H g nw cs cs'):vn H g nw (.agg cs) (.agg cs'):=.agg cs cs' h.spec.1 h.spec.2
theorem vn.tp{cs cs':List AV}(h:B4 H g nw cs cs'):vn H g nw (.tuple cs) (.tuple cs'):=.tuple cs cs' h.spec.1 h.spec.2
theorem vn.eV{id:Nat}{es:List AV}(h1:H.get id=some es)(h2:g.all (fun p=>p.2 !=id)=true)(h3:∀e∈es,dn e):vn H g nw (.view id 0 es.length) (.sl es):=
 .lend h1 (fun p hp=>by have:=List.all_eq_true.1 h2 p hp;simpa using this) (by simp) h3
theorem vn.ahk{id n:Nat}{es:List AV}(h1:H.get id=some es)(h2:g.all (fun p=>p.2 !=id)=true)(hn:n=es.length)(h3:∀e∈es,dn e):vn H g nw (.view id 0 n) (.sl es):=by
 subst hn;exact .eV h1 h2 h3
theorem Hf.one{x x':AV}(h:vn H g nw x x')(hl:x.flat.length=x'.flat.length):Hf H g nw [x] [x']:=
 ⟨rfl,fun k e e' h1 h2=>by
  cases k with
  |zero=>simp at h1 h2;subst h1 h2;exact⟨h,hl⟩
  |succ k=>simp at h1⟩
theorem rZ.cons{n old s next:Nat}{es es':List AV}{r:List (Nat×(Nat×List AV))}(h1:lk g n=some old)(h2:lk H.ef old=some (s,es))(h3:Hf H g nw es es')(h4:n<next)(h5:rZ H g nw next r):rZ H g nw next ((n,(s,es'))::r):=
 ⟨.inl ⟨old,es,h1,h2,h3⟩,h4,h5⟩
theorem rZ.fresh{n s next:Nat}{r:List (Nat×(Nat×List AV))}(h1:n∈nw)(h4:n<next)(h5:rZ H g nw next r):rZ H g nw next ((n,(s,[]))::r):=
 ⟨.inr ⟨h1,rfl⟩,h4,h5⟩
end

section
variable {P:Program} {W0:dU} {N:Nat} {st:St} {Q:Exit→St→Prop}

theorem aP{x y:Code}{ι:Type}(S:ι→St)(ok:ι→Prop)(hJ:∀i,ok i→aZ P W0 N y (S i) Q)(h:∀K:St→Prop,(∀i s,ok i→an W0 N s (S i)→K s)→aZ P W0 N x st (Er K Q)):aZ P W0 N (.seq x y) st Q:=
 IY (h _ fun i _ hi hw=>aZ.aQ hw (hJ i hi))

end
end Go.Av
end

section
/- Regions in whatever order is drawn: what writes stands where it must; what only computes may stand elsewhere. -/
namespace Go.Av
open Go.RowKit (Below)

abbrev Flags:=List (Bool×Bool)
def Flags.calm(fs:Flags)(i:Nat):Bool:=(fs.getD i (false,true)).1&& !(fs.getD i (false,true)).2
def Flags.kn(fs:Flags)(i:Nat):Bool:=(fs.getD i (false,true)).2

def NP(md:Region.Mode)(ops:Array Oper)(fs:Flags)(listed:Array Bool)(i:Nat):Bool:=
 (List.range ops.size).all fun j=>j==i||listed.getD j true||match ops[j]? with
  |some oj=>oj.after.any (fun e=>Region.binds md e&&e.on==i)||((!fs.kn j||fs.calm i)&&(!fs.kn i||fs.calm j))
  |none=>true

def lN(md:Region.Mode)(ops:Array Oper)(i:Nat):Nat→List Bool
 |0=>[]
 |k+1=>(lN md ops i k)++[match ops[k]? with
  |some o=>o.after.any fun e=>Region.binds md e&&(e.on==i||(lN md ops i k).getD e.on false)
  |none=>false]
def NQ(md:Region.Mode)(ops:Array Oper)(fs:Flags)(listed:Array Bool)(i:Nat):Bool:=
 (fun B:List Bool=>(List.range ops.size).all fun j=>j==i||(if listed.getD j true then !B.getD j false else B.getD j false||((!fs.kn j||fs.calm i)&&(!fs.kn i||fs.calm j)))) (lN md ops i ops.size)

def O2(md:Region.Mode)(ops:Array Oper)(fs:Flags)(stop:Option Nat):Nat→Nat→Array Bool→Bool
 |0,_,listed=>(Region.ready md ops listed).isEmpty
 |f+1,k,listed=>stop==some k||((match ops[k]? with
   |some _=>decide (Region.ready md ops listed=[k])||((Region.ready md ops listed).contains k&&Region.free md ops listed k&&(NP md ops fs listed k||NQ md ops fs listed k))
   |none=>false)&&O2 md ops fs stop f (k+1) (listed.setIfInBounds k true))

def QG(fs:Flags)(stop:Option Nat)(ops:Array Oper):Bool:=O2 .any ops fs stop ops.size 0 (Array.replicate ops.size false)
def S1(n:Nat):Nat→Array Bool
 |0=>Array.replicate n false
 |k+1=>(S1 n k).setIfInBounds k true

section
variable {P:Program} {W0:dU} {N:Nat} {C:Ctx} {fr:Fr} {a:Act} {H:aX} {ops:Array Oper} {md:Region.Mode} {fs:Flags}

def jA(P:Program)(W0:dU)(ops:Array Oper)(fs:Flags)(i:Nat)(o:Oper)(r:AV)(H1:aX)(fr:Fr)(H:aX):Prop:=
 (lM ops fr o=some true∧gD P W0 o fr H r H1∧(fs.kn i=false→H1=H)∧(fs.calm i=true→∀H',gD P W0 o fr H' r H'))∨(lM ops fr o=some false∧r=.tuple []∧H1=H)

theorem jA.quiet{i:Nat}{o:Oper}{r:AV}{H1:aX}(h:jA P W0 ops fs i o r H1 fr H)(hq:fs.kn i=false):H1=H:=by
 rcases h with⟨_,_,h,_⟩|⟨_,_,h⟩
 ·exact h hq
 ·exact h

theorem Fp{i:Nat}(h:fs.calm i=true):fs.kn i=false:=by
 simp only[Flags.calm,Bool.and_eq_true,Bool.not_eq_true'] at h
 exact h.2

theorem jA.dQ{i:Nat}{o:Oper}{r:AV}{H1:aX}(h:jA P W0 ops fs i o r H1 fr H)(hd:fs.calm i=true)(H':aX):jA P W0 ops fs i o r H' fr H':=by
 rcases h with⟨h1,_,_,h2⟩|⟨h1,h2,_⟩
 ·exact .inl ⟨h1,h2 hd H',fun _=>rfl,h2⟩
 ·exact .inr ⟨h1,h2,rfl⟩

theorem NM{o:Oper}{r:AV}{H1:aX}{dst:Option Nat}{s:AV}(hd:∀d,dst=some d→d∉o.looksAt ops):gD P W0 o (fr.put dst s) H r H1↔gD P W0 o fr H r H1:=by
 have hR:∀C (a:Act) (x:Operand),x∈o.op.operands→(vm C (fr.put dst s) a x↔vm C fr a x):=fun C a x hx=>by
  unfold vm
  constructor
  ·intro h t ht av hav
   subst ht
   exact h t rfl av (by rw[Fr.DZ (fun he=>hd t he (zc hx))];exact hav)
  ·intro h t ht av hav
   subst ht
   rw[Fr.DZ (fun he=>hd t he (zc hx))] at hav
   exact h t rfl av hav
 unfold gD
 constructor
 ·exact fun h2 C a hI hH hx=>h2 C a hI hH (fun x hm=>(hR C a x hm).2 (hx x hm))
 ·exact fun h2 C a hI hH hx=>h2 C a hI hH (fun x hm=>(hR C a x hm).1 (hx x hm))

theorem PN{o:Oper}{dst:Option Nat}{s:AV}(hd:∀d,dst=some d→d∉o.looksAt ops):lM ops (fr.put dst s) o=lM ops fr o:=by
 unfold lM
 cases hg:o.guard with
 |none=>rfl
 |some p=>
  obtain⟨j,b⟩:=p
  simp only
  cases hj:(ops[j]?).bind (·.dst) with
  |none=>rfl
  |some d=>
   simp only
   rw[Fr.DZ]
   intro he
   exact hd d he (by unfold Oper.looksAt;exact List.mem_append_right _ (by simp[hg,hj]))

theorem jA.put{i:Nat}{o:Oper}{r:AV}{H1:aX}{dst:Option Nat}{s:AV}(hd:∀d,dst=some d→d∉o.looksAt ops):jA P W0 ops fs i o r H1 (fr.put dst s) H↔jA P W0 ops fs i o r H1 fr H:=by
 unfold jA
 rw[PN hd,NM hd]
 have:(∀H',gD P W0 o (fr.put dst s) H' r H')↔∀H',gD P W0 o fr H' r H':=forall_congr' fun H'=>NM hd
 rw[this]

def Kf(P:Program)(W0:dU)(ops:Array Oper)(fs:Flags)(i:Nat)(K:Fr→aX→Prop)(fr:Fr)(H:aX):Prop:=
 match ops[i]? with
 |none=>K fr H
 |some o=>∃r H1,jA P W0 ops fs i o r H1 fr H∧K (fr.put o.dst r) H1

theorem Kf.of{i:Nat}{o:Oper}{r:AV}{H1:aX}{K:Fr→aX→Prop}(hi:ops[i]? =some o)(hy:jA P W0 ops fs i o r H1 fr H)(h:K (fr.put o.dst r) H1):Kf P W0 ops fs i K fr H:=by
 unfold Kf
 simp only[hi]
 exact⟨r,H1,hy,h⟩

def vk(P:Program)(W0:dU)(md:Region.Mode)(ops:Array Oper)(fs:Flags)(L:Fr→aX→Prop):Nat→Array Bool→Fr→aX→Prop
 |0,listed,fr,H=>Region.ready md ops listed=[]∧L fr H
 |f+1,listed,fr,H=>Region.ready md ops listed≠[]∧∀i∈Region.ready md ops listed,Kf P W0 ops fs i (vk P W0 md ops fs L f (listed.setIfInBounds i true)) fr H

theorem GZ{o:Oper}{Cv:Fr}{b:Bool}(hk:∀t x,Cv t=some x→fr t=some x)(h:lM ops Cv o=some b):lM ops fr o=some b:=by
 unfold lM at*
 split at h
 ·assumption
 ·split at h
  ·split at h
   ·rename_i hc;simp only[hk _ _ hc];exact h
   ·rename_i hc;simp only[hk _ _ hc];exact h
   ·cases h
  ·cases h

theorem gD.mono{o:Oper}{Cv:Fr}{r:AV}{H1:aX}(hk:∀t x,Cv t=some x→fr t=some x)(h:gD P W0 o Cv H r H1):gD P W0 o fr H r H1:=
 fun C a hI hH hx=>h C a hI hH (fun x hm t ht av hav=>hx x hm t ht av (hk t av hav))

theorem jA.mono{i:Nat}{o:Oper}{Cv:Fr}{r:AV}{H1:aX}(hk:∀t x,Cv t=some x→fr t=some x)(h:jA P W0 ops fs i o r H1 Cv H):jA P W0 ops fs i o r H1 fr H:=by
 rcases h with⟨h1,h2,h3,h4⟩|⟨h1,h2⟩
 ·exact .inl ⟨GZ hk h1,h2.mono hk,h3,fun hd H'=>(h4 hd H').mono hk⟩
 ·exact .inr ⟨GZ hk h1,h2⟩

theorem Ti{Cv:Fr}{dst:Option Nat}{r:AV}(hk:∀t x,Cv t=some x→fr t=some x):∀t x,Cv.put dst r t=some x→fr.put dst r t=some x:=by
 cases dst with
 |none=>exact hk
 |some d=>
  intro t x h
  simp only[Fr.put] at*
  split at h
  ·rename_i ht;rw[if_pos ht];exact h
  ·rename_i ht;rw[if_neg ht];exact hk t x h

theorem vk.mono{L:Fr→aX→Prop}(hL:∀Cv fr H,(∀t x,Cv t=some x→fr t=some x)→L Cv H→L fr H):∀(f:Nat) (listed:Array Bool) (Cv fr:Fr) (H:aX),(∀t x,Cv t=some x→fr t=some x)→vk P W0 md ops fs L f listed Cv H→vk P W0 md ops fs L f listed fr H
 |0,_,_,_,_,hk,h=>⟨h.1,hL _ _ _ hk h.2⟩
 |f+1,listed,Cv,fr,H,hk,h=>⟨h.1,fun i hi=>by
  have h1:=h.2 i hi
  unfold Kf at*
  split
  ·rename_i ho;simp only[ho] at h1;exact vk.mono hL f _ _ _ _ hk h1
  ·rename_i o ho
   simp only[ho] at h1
   obtain⟨r,H1,hy,hK⟩:=h1
   exact⟨r,H1,hy.mono hk,vk.mono hL f _ _ _ _ (Ti hk) hK⟩⟩

theorem wz{i:Nat}{oi:Oper}{v:AV}{L:Fr→aX→Prop}(B B':Nat→Bool)(hBB:∀j,B' j=true→B j=true)
  (hB:∀j oj,ops[j]? =some oj→B j=true→∃e∈oj.after,Region.binds md e=true∧(e.on=i∨B' e.on=true))(hi:ops[i]? =some oi):
  ∀(f:Nat) (listed:Array Bool) (fr:Fr) (H H1:aX),(∀j,B' j=true→listed.getD j true=false)→
   (∀j oj,ops[j]? =some oj→j≠i→listed.getD j true=false→B j=false→oi.apart ops oj=true∧(fs.kn j=true→fs.calm i=true)∧(fs.kn i=true→fs.calm j=true))→
   i∈Region.ready md ops listed→jA P W0 ops fs i oi v H1 fr H→
   vk P W0 md ops fs L f (listed.setIfInBounds i true) (fr.put oi.dst v) H1→vk P W0 md ops fs L (f+1) listed fr H:=by
 intro f
 induction f with
 |zero=>
  intro listed fr H H1 _ _ hr hy HL
  refine⟨fun h=>(by rw[h] at hr;cases hr),fun j hjr=> ?_⟩
  by_cases hji:j=i
  ·subst hji;exact .of hi hy HL
  ·have h1:=ready_mono hjr hji
   rw[HL.1] at h1;cases h1
 |succ f ih=>
  intro listed fr H H1 hBl hfree hr hy HL
  have hun:=(mem_ready.1 hr).1
  refine⟨fun h=>(by rw[h] at hr;cases hr),fun j hjr=> ?_⟩
  by_cases hji:j=i
  ·subst hji;exact .of hi hy HL
  ·have h1:=HL.2 j (ready_mono hjr hji)
   obtain⟨hjun,oj,hoj,hall⟩:=mem_ready.1 hjr
   have hnot:B j=false:=by
    cases hbj:B j with
    |false=>rfl
    |true=>
     obtain⟨e,he,hb,heq⟩:=hB j oj hoj hbj
     have h2:=hall e he hb
     rcases heq with heq|heq
     ·rw[heq,getD_both hun] at h2
      cases h2
     ·rw[getD_both (hBl _ heq)] at h2
      cases h2
   have abc:∀k,B' k=true→(listed.setIfInBounds j true).getD k true=false:=fun k hk=>by
    have hjk:j≠k:=fun e=>by subst e;rw[hBB _ hk] at hnot;cases hnot
    rw[getD_set_ne true hjk];exact hBl k hk
   obtain⟨hap,hdr,aiX⟩:=hfree j oj hoj hji hjun hnot
   obtain⟨a1,a2,a3⟩:=Oper.apart_spec hap
   unfold Kf at h1
   simp only[hoj] at h1
   obtain⟨s,H2,hs,hK⟩:=h1
   rw[jA.put a1] at hs
   have rest:∀k ok,ops[k]? =some ok→k≠i→(listed.setIfInBounds j true).getD k true=false→B k=false→oi.apart ops ok=true∧(fs.kn k=true→fs.calm i=true)∧(fs.kn i=true→fs.calm k=true):=fun k ok hk hki hku hno=>by
    refine hfree k ok hk hki ?_ hno
    by_cases hjk:j=k
    ·subst hjk;exact hjun
    ·rw[getD_set_ne true hjk] at hku;exact hku
   cases hli:fs.kn i with
   |true=>
    -- what turns the heap stays where it is; the other one does the same in any heap
    have hcj:=aiX hli
    have Q3:=hs.quiet (Fp hcj)
    subst Q3
    refine .of hoj (hs.dQ hcj H) (ih (listed.setIfInBounds j true) (fr.put oj.dst s) H H2 abc rest (ready_mono hr (Ne.symm hji)) ((jA.put a3).2 hy) ?_)
    rw[Array.setIfInBounds_comm _ _ hji,←Fr.put_comm fr v s a2]
    exact hK
   |false=>
    have hH1:=hy.quiet hli
    subst hH1
    have hy':jA P W0 ops fs i oi v H2 fr H2:=by
     cases hl:fs.kn j with
     |true=>exact hy.dQ (hdr hl) H2
     |false=>rw[hs.quiet hl];exact hy
    refine .of hoj hs (ih (listed.setIfInBounds j true) (fr.put oj.dst s) H2 H2 abc rest (ready_mono hr (Ne.symm hji)) ((jA.put a3).2 hy') ?_)
    rw[Array.setIfInBounds_comm _ _ hji,←Fr.put_comm fr v s a2]
    exact hK

inductive yZ (P:Program) (W0:dU) (ops:Array Oper) (fs:Flags) (stop:Option Nat) (L:Fr→aX→Prop):Nat→List Oper→Fr→aX→Prop
 |nil (k:Nat) (fr:Fr) (H:aX):L fr H→yZ P W0 ops fs stop L k [] fr H
 |op {k:Nat} {o:Oper} {rest:List Oper} {fr:Fr} {H H1:aX} {r:AV}:(stop==some k)=false→jA P W0 ops fs k o r H1 fr H→yZ P W0 ops fs stop L (k+1) rest (fr.put o.dst r) H1→yZ P W0 ops fs stop L k (o::rest) fr H
 |drop {k:Nat} {l:List Oper} {fr Cv:Fr} {H:aX}:(∀t x,Cv t=some x→fr t=some x)→yZ P W0 ops fs stop L k l Cv H→yZ P W0 ops fs stop L k l fr H
 |fork {k:Nat} {l:List Oper} {fr:Fr} {H:aX}:vk P W0 .any ops fs L l.length (S1 ops.size k) fr H→yZ P W0 ops fs stop L k l fr H

theorem H8{i:Nat}{listed:Array Bool}(h:NP md ops fs listed i=true)(j:Nat)(oj:Oper)
  (hj:ops[j]? =some oj)(hne:j≠i)(hun:listed.getD j true=false)(hno:∀e∈oj.after,Region.binds md e=true→e.on≠i):(fs.kn j=true→fs.calm i=true)∧(fs.kn i=true→fs.calm j=true):=by
 simp only[NP,List.all_eq_true,List.mem_range] at h
 have h1:=h j (Array.getElem?_eq_some_iff.1 hj).1
 simp only[hj,Bool.or_eq_true,beq_iff_eq,hne,false_or,hun,Bool.false_eq_true] at h1
 rcases h1 with h1|h1
 ·obtain⟨e,he,hb⟩:=Array.any_eq_true'.1 h1
  simp only[Bool.and_eq_true,beq_iff_eq] at hb
  exact absurd hb.2 (hno e he hb.1)
 ·simp only[Bool.and_eq_true,Bool.or_eq_true,Bool.not_eq_true'] at h1
  refine⟨fun h=> ?_,fun h=> ?_⟩
  ·rcases h1.1 with h2|h2
   ·rw[h] at h2;cases h2
   ·exact h2
  ·rcases h1.2 with h2|h2
   ·rw[h] at h2;cases h2
   ·exact h2

def direct(md:Region.Mode)(ops:Array Oper)(i j:Nat):Bool:=match ops[j]? with
 |some oj=>oj.after.any fun e=>Region.binds md e&&e.on==i
 |none=>false
theorem A4{i j:Nat}{oj:Oper}(hj:ops[j]? =some oj)(h:direct md ops i j=false):∀e∈oj.after,Region.binds md e=true→e.on≠i:=by
 unfold direct at h
 simp only[hj] at h
 intro e he hb heq
 have:(oj.after.any fun e=>Region.binds md e&&e.on==i)=true:=Array.any_eq_true'.2 ⟨e,he,by simp[hb,heq]⟩
 rw[h] at this;cases this
theorem Ia{i j:Nat}{oj:Oper}(hj:ops[j]? =some oj)(h:direct md ops i j=true):∃e∈oj.after,Region.binds md e=true∧e.on=i:=by
 unfold direct at h
 simp only[hj] at h
 obtain⟨e,he,hb⟩:=Array.any_eq_true'.1 h
 simp only[Bool.and_eq_true,beq_iff_eq] at hb
 exact⟨e,he,hb.1,hb.2⟩
theorem vp(i:Nat):∀k,(lN md ops i k).length=k
 |0=>rfl
 |k+1=>by simp[lN,vp i k]
theorem A3(i:Nat):∀k j,j<k→(lN md ops i k).getD j false=(lN md ops i (j+1)).getD j false:=by
 intro k
 induction k with
 |zero=>intro j h;omega
 |succ k ih=>
  intro j h
  by_cases hj:j=k
  ·subst hj;rfl
  ·rw[←ih j (by omega)]
   have hl:=vp (md:=md) (ops:=ops) i k
   simp only[lN,List.getD]
   rw[List.getElem?_append_left (by omega)]
theorem D5(i j:Nat){oj:Oper}(hj:ops[j]? =some oj):(lN md ops i (j+1)).getD j false=oj.after.any fun e=>Region.binds md e&&(e.on==i||(lN md ops i j).getD e.on false):=by
 have hl:=vp (md:=md) (ops:=ops) i j
 simp only[lN,hj,List.getD]
 rw[List.getElem?_append_right (by omega),hl]
 simp
theorem H7{i j:Nat}{oj:Oper}(hj:ops[j]? =some oj)(h:(lN md ops i ops.size).getD j false=true):∃e∈oj.after,Region.binds md e=true∧(e.on=i∨(lN md ops i ops.size).getD e.on false=true):=by
 have hlt:j<ops.size:=(Array.getElem?_eq_some_iff.1 hj).1
 rw[A3 i _ j hlt,D5 i j hj] at h
 obtain⟨e,he,hb⟩:=Array.any_eq_true'.1 h
 simp only[Bool.and_eq_true,Bool.or_eq_true,beq_iff_eq] at hb
 refine⟨e,he,hb.1,hb.2.imp id fun h2=> ?_⟩
 have hej:e.on<j:=by
  rcases Nat.lt_or_ge e.on j with h3|h3
  ·exact h3
  ·have hl:=vp (md:=md) (ops:=ops) i j
   simp only[List.getD] at h2
   rw[List.getElem?_eq_none (by omega)] at h2
   cases h2
 rw[A3 i _ _ hej] at h2
 rw[A3 i _ _ (show e.on<ops.size by omega)]
 exact h2
theorem BS{i j:Nat}{oj:Oper}(hj:ops[j]? =some oj)(h:(lN md ops i ops.size).getD j false=false):∀e∈oj.after,Region.binds md e=true→e.on≠i:=by
 have hlt:j<ops.size:=(Array.getElem?_eq_some_iff.1 hj).1
 rw[A3 i _ j hlt,D5 i j hj] at h
 intro e he hb heq
 have:(oj.after.any fun e=>Region.binds md e&&(e.on==i||(lN md ops i j).getD e.on false))=true:=Array.any_eq_true'.2 ⟨e,he,by simp[hb,heq]⟩
 rw[h] at this;cases this
theorem Fo{i:Nat}{listed:Array Bool}(h:NQ md ops fs listed i=true):(∀j,(lN md ops i ops.size).getD j false=true→j=i∨listed.getD j true=false)∧
  ∀j oj,ops[j]? =some oj→j≠i→listed.getD j true=false→(lN md ops i ops.size).getD j false=false→(fs.kn j=true→fs.calm i=true)∧(fs.kn i=true→fs.calm j=true):=by
 simp only[NQ,List.all_eq_true,List.mem_range] at h
 constructor
 ·intro j hj
  have hlt:j<ops.size:=by
   rcases Nat.lt_or_ge j ops.size with h3|h3
   ·exact h3
   ·have hl:=vp (md:=md) (ops:=ops) i ops.size
    simp only[List.getD] at hj
    rw[List.getElem?_eq_none (by omega)] at hj
    cases hj
  have h1:=h j hlt
  rw[hj] at h1
  simp only[Bool.or_eq_true,beq_iff_eq] at h1
  rcases h1 with h1|h1
  ·exact .inl h1
  ·right
   cases hl:listed.getD j true with
   |false=>rfl
   |true=>rw[hl] at h1;simp at h1
 ·intro j oj hj hne hl hb
  have h1:=h j (Array.getElem?_eq_some_iff.1 hj).1
  rw[hl,hb] at h1
  simp only[Bool.or_eq_true,beq_iff_eq,hne,false_or,Bool.false_eq_true,if_false,Bool.and_eq_true,Bool.not_eq_true'] at h1
  refine⟨fun h=> ?_,fun h=> ?_⟩
  ·rcases h1.1 with h2|h2
   ·rw[h] at h2;cases h2
   ·exact h2
  ·rcases h1.2 with h2|h2
   ·rw[h] at h2;cases h2
   ·exact h2

theorem Ov{L:Fr→aX→Prop}{stop:Option Nat}(hL:∀Cv fr H,(∀t x,Cv t=some x→fr t=some x)→L Cv H→L fr H){k:Nat}{l:List Oper}{fr:Fr}{H:aX}(h:yZ P W0 ops fs stop L k l fr H):(∀j,j<l.length→l[j]? =ops[k+j]?)→O2 .any ops fs stop l.length k (S1 ops.size k)=true→
   vk P W0 .any ops fs L l.length (S1 ops.size k) fr H:=by
 induction h with
 |nil k fr H hQ=>intro _ hc;exact⟨by simpa [O2] using hc,hQ⟩
 |drop hk _ ih=>intro hl hc;exact vk.mono hL _ _ _ _ _ hk (ih hl hc)
 |fork h=>intro _ _;exact h
 | @op k o l fr H H1 r hs hy h' ih=>
  intro hl hc
  have h0:ops[k]? =some o:=by simpa using (hl 0 (by simp)).symm
  simp only[List.length_cons,O2,h0,hs,Bool.false_or,Bool.and_eq_true] at hc
  obtain⟨hc1,hc2⟩:=hc
  have rest:=ih (fun j hjl=>by have:=hl (j+1) (by simp;omega);simpa [Nat.add_assoc,Nat.add_comm 1 j] using this) hc2
  simp only[Bool.or_eq_true,decide_eq_true_eq,Bool.and_eq_true] at hc1
  rcases hc1 with hc1|⟨⟨g1,g2⟩,g3⟩
  ·refine⟨fun he=>(by rw[hc1] at he;cases he),fun j hj=> ?_⟩
   rw[hc1] at hj
   have:j=k:=by simpa using hj
   subst this
   exact .of h0 hy rest
  ·have hr:k∈Region.ready .any ops (S1 ops.size k):=by simpa using g1
   have hun:=(mem_ready.1 hr).1
   rcases g3 with g3|g3
   ·exact wz (direct .any ops k) (fun _=>false) (fun _ h=>by cases h) (fun j oj hj h=>by
     obtain⟨e,h1,h2,h3⟩:=Ia hj h
     exact⟨e,h1,h2,.inl h3⟩) h0 l.length (S1 ops.size k) fr _ _ (fun _ h=>by cases h) (fun j oj hj hne hun hno=>⟨Region.free_spec h0 g2 j oj hj hne hun (A4 hj hno),H8 g3 j oj hj hne hun (A4 hj hno)⟩) hr hy rest
   ·obtain⟨c1,c2⟩:=Fo g3
    exact wz (fun j=>(lN .any ops k ops.size).getD j false) (fun j=>(lN .any ops k ops.size).getD j false) (fun _ h=>h) (fun j oj hj h=>H7 hj h) h0 l.length (S1 ops.size k) fr _ _ (fun j h=>(c1 j h).elim (fun e=>by rw[e];exact hun) id) (fun j oj hj hne hun hno=>⟨Region.free_spec h0 g2 j oj hj hne hun (BS hj hno),c2 j oj hj hne hun hno⟩) hr hy rest

theorem vZ{L:Fr→aX→Prop}{Q:Exit→Act→World→Prop}(hN:∀o∈ops,s4 N o=true):
  ∀(f:Nat) (listed:Array Bool) (fr:Fr) (H:aX) (C:Ctx) (a:Act),Rel W0 N fr H C a→
   (∀fr H C' a',Ext C C'→Rel W0 N fr H C' a'→L fr H→Q .normal a' C'.w)→vk P W0 md ops fs L f listed fr H→wpAny P md ops Q f listed a C.w
 |0,listed,fr,H,C,a,hr,hL,h=>⟨h.1,hL _ _ C a (.refl C) hr h.2⟩
 |f+1,listed,fr,H,C,a,hr,hL,h=>by
  refine⟨fun h0=>absurd h0 h.1,fun i hi=> ?_⟩
  have h1:=h.2 i hi
  obtain⟨_,o,ho,_⟩:=mem_ready.1 hi
  unfold Kf at h1
  simp only[ho] at h1
  obtain⟨r,H1,hy,hK⟩:=h1
  have hd:∀d,o.dst=some d→d<N:=s4.lt (hN o (Array.mem_of_getElem? ho))
  unfold wpOp
  simp only[ho]
  rcases hy with⟨hw,hop,_,_⟩|⟨hw,rfl,rfl⟩
  ·rw[vX hr.rep hw]
   simp only[if_true]
   refine .inl (hop C a hr.inv hr.heap (fun x _ t _ av hav=>hr.rep t av hav) _ _ (fun v C' he hi' hH hv=> ?_))
   exact vZ hN f _ _ _ C' _ (hr.put he hi' hH hv hd) (fun f2 H2 C2 a2 h2=>hL f2 H2 C2 a2 (he.trans h2)) hK
  ·rw[vX hr.rep hw]
   simp only[Bool.false_eq_true,if_false]
   exact vZ hN f _ _ _ C _ (hr.put (.refl C) hr.inv hr.heap L3 hd) hL hK

def LK(K:List (Nat×AV)→aX→Prop)(f:Fr)(g:aX):Prop:=∃frl,(∀t x,lk frl t=some x→f t=some x)∧K frl g
theorem LK.mono{K:List (Nat×AV)→aX→Prop}(Cv fr:Fr)(H:aX)(hk:∀t x,Cv t=some x→fr t=some x)(h:LK K Cv H):LK K fr H:=by
 obtain⟨frl,h1,h2⟩:=h
 exact⟨frl,fun t x h=>hk t x (h1 t x h),h2⟩

def aD(P:Program)(W0:dU)(ops:Array Oper)(fs:Flags)(stop:Option Nat)(k:Nat)(l:List Oper)(fr:List (Nat×AV))(H:aX)(K:List (Nat×AV)→aX→Prop):Prop:=
 yZ P W0 ops fs stop (LK K) k l (lk fr) H

variable {Q:Exit→St→Prop} {frl:List (Nat×AV)} {K:List (Nat×AV)→aX→Prop} {o:Oper} {rest:List Oper} {k:Nat} {stop:Option Nat}

theorem aD.nil(h:K frl H):aD P W0 ops fs stop k [] frl H K:=yZ.nil _ _ _ ⟨frl,fun _ _ h=>h,h⟩
theorem aD.drop{l:List Oper}{frx:List (Nat×AV)}(h:vl frl frx)(h2:aD P W0 ops fs stop k l frx H K):aD P W0 ops fs stop k l frl H K:=yZ.drop (vl.lk h) h2
theorem aD.keep(ts:List Nat){l:List Oper}{frx:List (Nat×AV)}(h:pick frl ts=some frx)(h2:aD P W0 ops fs stop k l frx H K):aD P W0 ops fs stop k l frl H K:=aD.drop (vN h) h2
theorem aD.step{r:AV}{H1:aX}(h:jA P W0 ops fs k o r H1 (lk frl) H)(h2:aD P W0 ops fs stop (k+1) rest (tg frl o.dst r) H1 K)(hs:(stop==some k)=false:=by rfl):aD P W0 ops fs stop k (o::rest) frl H K:=by
 unfold aD at h2
 rw[A_] at h2
 exact yZ.op hs h h2
theorem aD.skip(hw:lM ops (lk frl) o=some false)(h2:aD P W0 ops fs stop (k+1) rest (tg frl o.dst (.tuple [])) H K)(hs:(stop==some k)=false:=by rfl):aD P W0 ops fs stop k (o::rest) frl H K:=.step (.inr ⟨hw,rfl,rfl⟩) h2 hs
theorem aD.dQ{r:AV}(hw:lM ops (lk frl) o=some true)(h:∀H',gD P W0 o (lk frl) H' r H')(h2:aD P W0 ops fs stop (k+1) rest (tg frl o.dst r) H K)(hs:(stop==some k)=false:=by rfl):aD P W0 ops fs stop k (o::rest) frl H K:=
 .step (.inl ⟨hw,h H,fun _=>rfl,fun _=>h⟩) h2 hs
theorem aD.op{r:AV}(hw:lM ops (lk frl) o=some true)(hd:fs.calm k=false)(h:gD P W0 o (lk frl) H r H)(h2:aD P W0 ops fs stop (k+1) rest (tg frl o.dst r) H K)(hs:(stop==some k)=false:=by rfl):aD P W0 ops fs stop k (o::rest) frl H K:=
 .step (.inl ⟨hw,h,fun _=>rfl,fun he=>by rw[hd] at he;cases he⟩) h2 hs
theorem En{r:AV}{H1:aX}(hw:lM ops (lk frl) o=some true)(hl:fs.kn k=true)(h:gD P W0 o (lk frl) H r H1):jA P W0 ops fs k o r H1 (lk frl) H:=
 .inl ⟨hw,h,(fun he=>by rw[hl] at he;cases he),(fun he=>by have:=Fp he;rw[hl] at this;cases this)⟩
theorem aD.kn{r:AV}{H1:aX}(hw:lM ops (lk frl) o=some true)(hl:fs.kn k=true)(h:gD P W0 o (lk frl) H r H1)(h2:aD P W0 ops fs stop (k+1) rest (tg frl o.dst r) H1 K)(hs:(stop==some k)=false:=by rfl):aD P W0 ops fs stop k (o::rest) frl H K:=
 .step (En hw hl h) h2 hs

def AF(P:Program)(W0:dU)(ops:Array Oper)(fs:Flags)(f:Nat)(listed:Array Bool)(fr:List (Nat×AV))(H:aX)(K:List (Nat×AV)→aX→Prop):Prop:=
 vk P W0 .any ops fs (LK K) f listed (lk fr) H
def P5(P:Program)(W0:dU)(ops:Array Oper)(fs:Flags)(f:Nat)(listed:Array Bool)(fr:List (Nat×AV))(H:aX)(K:List (Nat×AV)→aX→Prop)(i:Nat):Prop:=
 Kf P W0 ops fs i (vk P W0 .any ops fs (LK K) f (listed.setIfInBounds i true)) (lk fr) H
def AFs(P:Program)(W0:dU)(ops:Array Oper)(fs:Flags)(f:Nat)(listed:Array Bool)(fr:List (Nat×AV))(H:aX)(K:List (Nat×AV)→aX→Prop):List Nat→Prop
 |[]=>True
 |i::l=>P5 P W0 ops fs f listed fr H K i∧AFs P W0 ops fs f listed fr H K l
theorem AFs.spec{f:Nat}{listed:Array Bool}:∀{l:List Nat},AFs P W0 ops fs f listed frl H K l→∀i∈l,P5 P W0 ops fs f listed frl H K i
 |i::l,h,j,hj=>by
  rcases List.mem_cons.1 hj with rfl|hj
  ·exact h.1
  ·exact AFs.spec h.2 j hj
theorem aD.fork{l:List Oper}(h:AF P W0 ops fs l.length (S1 ops.size k) frl H K):aD P W0 ops fs stop k l frl H K:=yZ.fork h
theorem AF.done{listed:Array Bool}(hr:(Region.ready .any ops listed).isEmpty=true)(h:K frl H):AF P W0 ops fs 0 listed frl H K:=⟨by simpa using hr,frl,fun _ _ h=>h,h⟩
theorem AF.many{f:Nat}{listed:Array Bool}(i:Nat)(is:List Nat)(hr:Region.ready .any ops listed=i::is)(h:AFs P W0 ops fs f listed frl H K (i::is)):AF P W0 ops fs (f+1) listed frl H K:=
 ⟨by rw[hr];simp,fun j hj=>by rw[hr] at hj;exact AFs.spec h j hj⟩
theorem P5.kn{f i:Nat}{listed:Array Bool}{r:AV}{H1:aX}(o:Oper)(ho:ops[i]? =some o)(hw:lM ops (lk frl) o=some true)(hl:fs.kn i=true)(h:gD P W0 o (lk frl) H r H1)(h2:AF P W0 ops fs f (listed.setIfInBounds i true) (tg frl o.dst r) H1 K):P5 P W0 ops fs f listed frl H K i:=by
 refine .of ho (En hw hl h) ?_
 unfold AF at h2
 rw[A_] at h2
 exact h2

theorem AF.keep(ts:List Nat){f:Nat}{listed:Array Bool}{frx:List (Nat×AV)}(h:pick frl ts=some frx)(h2:AF P W0 ops fs f listed frx H K):AF P W0 ops fs f listed frl H K:=vk.mono LK.mono _ _ _ _ _ (vl.lk (vN h)) h2
theorem AF.dQ{f:Nat}{listed:Array Bool}{r:AV}(i:Nat){o:Oper}(ho:ops[i]? =some o)(hc:((Region.ready .any ops listed).contains i&&Region.free .any ops listed i&&(fs.calm i&&(NP .any ops fs listed i||NQ .any ops fs listed i)))=true)(hw:lM ops (lk frl) o=some true)(h:∀H',gD P W0 o (lk frl) H' r H')
  (h2:AF P W0 ops fs f (listed.setIfInBounds i true) (tg frl o.dst r) H K):AF P W0 ops fs (f+1) listed frl H K:=by
 simp only[Bool.and_eq_true,Bool.or_eq_true] at hc
 obtain⟨⟨g1,g2⟩,_,g3⟩:=hc
 have hr:i∈Region.ready .any ops listed:=by simpa using g1
 have hun:=(mem_ready.1 hr).1
 unfold AF at h2
 rw[A_] at h2
 have hy:jA P W0 ops fs i o r H (lk frl) H:=.inl ⟨hw,h H,fun _=>rfl,fun _=>h⟩
 rcases g3 with g3|g3
 ·exact wz (direct .any ops i) (fun _=>false) (fun _ h=>by cases h) (fun j oj hj h=>by
   obtain⟨e,h1,h2,h3⟩:=Ia hj h
   exact⟨e,h1,h2,.inl h3⟩) ho f listed (lk frl) _ _ (fun _ h=>by cases h) (fun j oj hj hne hun hno=>⟨Region.free_spec ho g2 j oj hj hne hun (A4 hj hno),H8 g3 j oj hj hne hun (A4 hj hno)⟩) hr hy h2
 ·obtain⟨c1,c2⟩:=Fo g3
  exact wz (fun j=>(lN .any ops i ops.size).getD j false) (fun j=>(lN .any ops i ops.size).getD j false) (fun _ h=>h) (fun j oj hj h=>H7 hj h) ho f listed (lk frl) _ _ (fun j h=>(c1 j h).elim (fun e=>by rw[e];exact hun) id) (fun j oj hj hne hun hno=>⟨Region.free_spec ho g2 j oj hj hne hun (BS hj hno),c2 j oj hj hne hun hno⟩) hr hy h2

theorem Kn(fs:Flags)(stop:Option Nat){id:Nat}{l:List Oper}(hm:P.follows .mixedOrders=true)(hB:QG fs stop l.toArray=true)(hN:l.all (s4 N)=true)(h:aD P W0 l.toArray fs stop 0 l frl H (fun f g=>Q .normal ⟨f,g⟩))(hro:W0.ro=none:=by rfl):aZ P W0 N (.region id l.toArray true) ⟨frl,H⟩ Q:=fun C a hr=>by
 obtain⟨hE,hR⟩:=Tz hr
 rw[hro,EU]
 refine wpIn_wide.2 (wp_region_any hm ?_)
 have hB':O2 .any l.toArray fs stop l.length 0 (S1 l.toArray.size 0)=true:=by simpa [QG,S1] using hB
 have key:=Ov (P:=P) (W0:=W0) (ops:=l.toArray) LK.mono h (fun j _=>by simp) hB'
 have:=vZ (P:=P) (Q:=Xz W0 N C Q) (fun o ho=>List.all_eq_true.1 hN o (by simpa using ho)) _ _ _ _ _ _ hR (fun f g C' a' he hrel hL=>by
  obtain⟨fr',hk,hq⟩:=hL
  exact⟨⟨fr',g⟩,C',rfl,(hE.trans he).mem,⟨hrel.heap,hrel.inv,hrel.size,hrel.defers,fun t x hx=>hrel.rep t x (hk t x hx)⟩,hq⟩) key
 simpa [Ctx.xE,S1] using this
theorem cZ(fs:Flags){id:Nat}{l:List Oper}(hm:P.follows .mixedOrders=true)(hB:QG fs none l.toArray=true)(hN:l.all (s4 N)=true)(h:aD P W0 l.toArray fs none 0 l frl H (fun f g=>Q .normal ⟨f,g⟩))(hro:W0.ro=none:=by rfl):aZ P W0 N (.region id l.toArray true) ⟨frl,H⟩ Q:=Kn fs none hm hB hN h hro

theorem OH{x y:Code}{st:St}(h:∀K:St→Prop,(∀s s',an W0 N s s'→K s'→K s)→(∀s,aZ P W0 N y s Q→K s)→aZ P W0 N x st (Er K Q)):aZ P W0 N (.seq x y) st Q:=
 IY (h _ (fun _ _ hw h=>aZ.aQ hw h) fun _ h=>h)
end
end Go.Av
end

section
/- Structs of numbers, held against each other. -/
namespace Go.Av
open Go

def Ik(P:Program)(t:TypeId)(n:Nat):Bool:=
 (match P.underlying t with
  |some (.struct fs)=>decide (fs.size=n)&&(fs.toList.zipIdx.all fun p=>p.1.offset==p.2&&p.1.name != "_" &&(match P.underlying p.1.type with|some (.int .i64)=>true|_=>false))
  |_=>false)&& !P.stoodInHeld t&& !P.eqGuardType P.depth t

section
variable {P:Program} {W0:dU} {fr:Fr} {H:aX} {o:Oper}

theorem LV{t:TypeId}{cs:Array Value}{off:Nat}{v:Value}(ht:P.underlying t=some (.int .i64))(hv:cs[off]? =some v)(w:World):(part t cs off).run P w=.ok v w:=by
 have h:(isAgg t).run P w=.ok false w:=by
  simp only[isAgg,Sem.run_bind,run_underlying ht,Result.andThen_ok]
  rfl
 unfold part
 rw[Sem.run_bind,h]
 simp[hv]

theorem Da(d:Nat)(w:World)(xW bs:List Int)(hl:xW.length=bs.length):∀(fs:List Field) (k:Nat),(fs.zipIdx k).all (fun p=>p.1.offset==p.2&&p.1.name != "_" &&(match P.underlying p.1.type with|some (.int .i64)=>true|_=>false))=true→k+fs.length=xW.length→
  (Op.eqFields (d+1) (xW.map fun n=>Value.int .i64 n).toArray (bs.map fun n=>Value.int .i64 n).toArray fs).run P w=.ok (decide (xW.drop k=bs.drop k)) w
 |[],k,_,hk=>by
  have h1:xW.drop k=[]:=List.drop_eq_nil_of_le (by simp at hk;omega)
  have h2:bs.drop k=[]:=List.drop_eq_nil_of_le (by simp at hk;omega)
  simp[Op.eqFields,h1,h2]
 |f::fs,k,h,hk=>by
  simp only[List.zipIdx_cons,List.all_cons,Bool.and_eq_true,beq_iff_eq,bne_iff_ne] at h
  obtain⟨⟨⟨h1,h2⟩,h3⟩,h4⟩:=h
  have hu:P.underlying f.type=some (.int .i64):=by
   split at h3
   ·assumption
   ·cases h3
  simp only[List.length_cons] at hk
  have hka:k<xW.length:=by omega
  have hkb:k<bs.length:=by omega
  have ga:(xW.map fun n=>Value.int .i64 n).toArray[f.offset]? =some (.int .i64 xW[k]):=by simp[h1,hka]
  have gb:(bs.map fun n=>Value.int .i64 n).toArray[f.offset]? =some (.int .i64 bs[k]):=by simp[h1,hkb]
  have ih:=Da d w xW bs hl fs (k+1) h4 (by omega)
  rw[List.drop_eq_getElem_cons hka,List.drop_eq_getElem_cons hkb]
  unfold Op.eqFields
  rw[if_pos h2,Sem.run_bind,LV hu ga]
  simp only[Result.andThen_ok]
  rw[Sem.run_bind,LV hu gb]
  simp only[Result.andThen_ok]
  rw[Sem.run_bind,run_equalIn_int w d f.type .i64 .i64 xW[k] bs[k] hu]
  simp only[Result.andThen_ok]
  generalize xW.drop (k+1)=A at ih ⊢
  generalize bs.drop (k+1)=B at ih ⊢
  generalize xW[k]=x
  generalize bs[k]=y
  by_cases he:x=y
  ·simp[he,ih]
  ·simp[he]

theorem Ek{t:TypeId}{n:Nat}(ht:Ik P t n=true)(xW bs:List Int)(ha:xW.length=n)(hb:bs.length=n)(w:World):
  (Op.equalIn 10000 t (.agg (xW.map fun n=>Value.int .i64 n).toArray) (.agg (bs.map fun n=>Value.int .i64 n).toArray)).run P w=.ok (decide (xW=bs)) w∧P.eqGuardType P.depth t=false:=by
 simp only[Ik,Bool.and_eq_true,Bool.not_eq_true'] at ht
 obtain⟨⟨h1,h2⟩,h3⟩:=ht
 refine⟨?_,h3⟩
 split at h1
 ·rename_i fs hu
  simp only[Bool.and_eq_true,decide_eq_true_eq] at h1
  obtain⟨h4,h5⟩:=h1
  have hf:P.fieldsOf t=fs:=by simp[Program.fieldsOf,hu]
  have h6:=run_equalIn_struct (P:=P) w 9999 t (xW.map fun n=>Value.int .i64 n).toArray (bs.map fun n=>Value.int .i64 n).toArray (by rw[hf];exact hu) h2
  rw[h6,hf]
  have:=Da (P:=P) 9998 w xW bs (by omega) fs.toList 0 h5 (by simp;omega)
  simpa using this
 ·cases h1

theorem C7{C:Ctx}{l:List Int}{v:Value}(h:dO C (.agg (l.map i64)) v):v=.agg (l.map fun n=>Value.int .i64 n).toArray:=by
 refine gM (x:=.agg (l.map i64)) ?_ h
 have:Nx (l.map i64)=some (l.map fun n=>Value.int .i64 n):=by
  clear h
  induction l with
  |nil=>rfl
  |cons a l ih=>simp[Nx,ih]
 simp[AV.toV,this]

theorem II{t t':TypeId}{n:Nat}{x y:Operand}(xW bs:List Int)(ht:Ik P t n=true)(ha:xW.length=n)(hb:bs.length=n)(ho:o.op=.binOp .eql t x y t')(hx:bA fr x=some (.agg (xW.map i64)))(hy:bA fr y=some (.agg (bs.map i64))):gD P W0 o fr H (bl (decide (xW=bs))) H:=
 .iA fun C a _ _ hr=>by
  have e1:=C7 (b6 (hr x (by simp[ho,Op.operands])) hx)
  have e2:=C7 (b6 (hr y (by simp[ho,Op.operands])) hy)
  obtain⟨h1,h2⟩:=Ek (P:=P) ht xW bs ha hb C.w
  refine⟨.bool (decide (xW=bs)), ?_,.imm _ rfl⟩
  simp only[execOp,ho,e1,e2,Sem.run_bind,run_eqGuard_agg _ _ _ _ _ _ _ h2,Result.andThen_ok,run_eql_struct,h1]
  rfl
theorem PE{t t':TypeId}{n:Nat}{x y:Operand}(xW bs:List Int)(ht:Ik P t n=true)(ha:xW.length=n)(hb:bs.length=n)(ho:o.op=.binOp .neq t x y t')(hx:bA fr x=some (.agg (xW.map i64)))(hy:bA fr y=some (.agg (bs.map i64))):gD P W0 o fr H (bl (!decide (xW=bs))) H:=
 .iA fun C a _ _ hr=>by
  have e1:=C7 (b6 (hr x (by simp[ho,Op.operands])) hx)
  have e2:=C7 (b6 (hr y (by simp[ho,Op.operands])) hy)
  obtain⟨h1,h2⟩:=Ek (P:=P) ht xW bs ha hb C.w
  refine⟨.bool (!decide (xW=bs)), ?_,.imm _ rfl⟩
  simp only[execOp,ho,e1,e2,Sem.run_bind,run_eqGuard_agg _ _ _ _ _ _ _ h2,Result.andThen_ok,run_neq_struct,h1]
  rfl
end
end Go.Av
end

section
/- Arrays of things of one cell: as values of one element of the proof's own; literals of the proof's own. -/
namespace Go.Av
open Go.RowKit (Below)
section
variable {P:Program} {W0:dU} {C:Ctx} {fr:Fr} {a:Act} {H:aX} {o:Oper}

theorem Eu{t e:TypeId}{s by' len:Nat}{parts:Array (Nat×Operand)}{xo:List Operand}{xs:List AV}(ho:o.op=.buildSlice t len parts)(hp:parts.toList=xo.zipIdx.map fun p=>(p.2,p.1))(hlen:len=xo.length)
  (hxs:xo.mapM (bA fr)=some xs)(hsol:∀x∈xs,x.dw=true)(hfl:∀x∈xs,x.flat.length=s)(ht:yc P t=some (e,s,by'))(hz:(wP P e).isSome=true)(hsmall:len*s≤16777216):
  gD P W0 o fr H (.view H.next 0 xs.length) (H.push s xs):=
 .AA fun C a hI hH hop=>by
  obtain⟨hu,i,hi,hs,_⟩:=qx ht
  unfold wP at hz
  rw[hi] at hz
  obtain⟨z,hz⟩:=Option.isSome_iff_exists.1 hz
  simp only[Option.bind_some] at hz
  obtain⟨m1,m2⟩:=Bb xo xs hxs
  have hops:o.op.operands=(parts.toList.map (·.2)).toArray:=by simp[ho,Op.operands]
  have hrep:∀(k:Nat) (x:AV),xs[k]? =some x→∃y,xo[k]? =some y∧dO C x (a.eval y):=fun k x hk=>by
   obtain⟨y,g1,g2⟩:=m2 k x hk
   refine⟨y,g1,b6 (hop y ?_) g2⟩
   rw[hops,hp]
   simp only[List.mem_toArray,List.map_map,List.mem_map]
   exact⟨(y,k),by rw[List.mem_zipIdx_iff_getElem?];exact g1,rfl⟩
  let vs:=xo.map a.eval
  have hv1:∀v∈vs,v.cells.size=s:=fun v hv=>by
   obtain⟨k,hk⟩:=List.getElem?_of_mem hv
   simp only[vs,List.getElem?_map,Option.map_eq_some_iff] at hk
   obtain⟨y,g1,rfl⟩:=hk
   have hlt:k<xs.length:=by rw[m1];exact(List.getElem?_eq_some_iff.1 g1).1
   obtain⟨y',g2,g3⟩:=hrep k _ (List.getElem?_eq_getElem hlt)
   rw[g1] at g2;cases g2
   rw[(qf g3 (hsol _ (List.getElem_mem hlt))).1]
   exact hfl _ (List.getElem_mem hlt)
  have SJ:∀n,((Array.range (len*s)).map (fun q=>(n:Array Value)[q % n.size]!)).size=len*s:=fun n=>by simp
  obtain⟨cells',f1,f2,f3,f4⟩:=KG s vs 0 ((Array.range (len*s)).map (fun q=>((if len*s=0 then #[] else z.cells:Array Value))[q % (if len*s=0 then #[] else z.cells:Array Value).size]!)) hv1
   (by rw[SJ,hlen];simp[vs])
  have hcells:cells'.size=len*s:=by rw[f2,SJ]
  have hget:∀(k j:Nat) (x y:AV),xs[k]? =some x→x.flat[j]? =some y→∃v,cells'[k*s+j]? =some v∧dO C y v:=fun k j x y hk hj=>by
   obtain⟨yo,g1,g2⟩:=hrep k x hk
   have hm:=List.mem_of_getElem? hk
   obtain⟨c1,c2,c3⟩:=qf g2 (hsol x hm)
   obtain⟨u,g3,g4⟩:=c3 j y hj
   have hjs:j<s:=by rw[←hfl x hm];exact(List.getElem?_eq_some_iff.1 hj).1
   have:=f4 k (a.eval yo) (by simp only[vs,List.getElem?_map,g1];rfl) j hjs
   rw[Nat.zero_add] at this
   exact⟨u,by rw[this];exact g3,g4⟩
  have hone:∀u∈cells',u.oneCell'=true:=fun u hu=>by
   obtain⟨q,hq⟩:=Array.getElem?_of_mem hu
   have hqlt:q<len*s:=by rw[←hcells];exact(Array.getElem?_eq_some_iff.1 hq).1
   have hs0:0<s:=by
    rcases Nat.eq_zero_or_pos s with h|h
    ·subst h;simp at hqlt
    ·exact h
   have hk:q / s<len:=Nat.div_lt_of_lt_mul (by rwa [Nat.mul_comm] at hqlt)
   have hkx:q / s<xs.length:=by rw[m1,←hlen];exact hk
   obtain⟨yo,g1,g2⟩:=hrep (q / s) _ (List.getElem?_eq_getElem hkx)
   obtain⟨c1,c2,c3⟩:=qf g2 (hsol _ (List.getElem_mem hkx))
   have:=f4 (q / s) (a.eval yo) (by simp only[vs,List.getElem?_map,g1];rfl) (q % s) (Nat.mod_lt _ hs0)
   rw[Nat.zero_add,show q / s*s+q % s=q by rw[Nat.mul_comm];exact Nat.div_add_mod q s,hq] at this
   exact c2 _ u this.symm
  have UF:xs.length=len:=by rw[m1,hlen]
  have hn:=vK hI cells' e xs s len (by rw[hcells];exact Nat.le_refl _) (by omega) hone (fun k x hk=>hfl x (List.mem_of_getElem? hk)) (fun k j x y v hk hj hv=>by
   obtain⟨v',g1,g2⟩:=hget k j x y hk hj
   rw[g1] at hv;cases hv;exact g2)
  subst hH
  refine⟨.slice (some ⟨C.w.heap.size,0,none⟩) len len,_, ?_,hn.1,hn.2,rfl, ?_⟩
  rotate_left
  ·refine .view _ 0 xs.length _ (Nat.lt_succ_self _) (fun es he=> ?_) rfl
   have hp:((C.xE (C.w.alloc (.cells cells' e (0,0)))).push ⟨C.w.heap.size,s,xs.length,len,false⟩ xs).pl C.H.next=⟨C.w.heap.size,s,xs.length,len,false⟩:=Ctx.qL (C:=C.xE _) _ _
   rw[hp]
   unfold oO
   rw[if_neg (by simp)]
   refine⟨⟨C.w.heap.size,0,none⟩,len,by rw[UF],by simp,by simp,by omega,.inr (by simp)⟩
  have hmap:(parts.toList.map fun(p:Nat×Operand)=>(p.1,a.eval p.2))=(vs.zipIdx 0).map fun p=>(p.2,p.1):=by
   rw[hp]
   simp only[vs,List.zipIdx_map,List.map_map]
   rfl
  have hlit:¬(16777216<len*s):=by omega
  have hrun:(Instr.buildSlice t len (parts.map fun(p:Nat×Operand)=>(p.1,a.eval p.2))).run P C.w=.ok (.slice (some ⟨C.w.heap.size,0,none⟩) len len) (C.w.alloc (.cells cells' e)):=by
   by_cases h0:len*s=0
   ·simp only[h0,if_true] at f1
    have f1':Instr.fill (fun i=>some (i*s,s)) #[] ((vs.zipIdx 0).map fun p=>(p.2,p.1))=some cells':=by
     have e0:(Array.map (fun q=>(#[]:Array Value)[q % (#[]:Array Value).size]!) (Array.range 0))= #[]:=Array.eq_empty_of_size_eq_zero (by simp)
     rw[e0] at f1;exact f1
    have e1:∀g:Nat→Value,Array.map g (Array.range 0)= #[]:=fun g=>Array.eq_empty_of_size_eq_zero (by simp)
    simp[Instr.buildSlice,run_underlying hu,sizeOf,typeInfo,hi,hs,h0,hmap,e1,f1',newRow]
   ·simp only[h0,if_false] at f1
    simp[Instr.buildSlice,run_underlying hu,sizeOf,typeInfo,hi,hs,hz,h0,hlit,hmap,f1,newRow,zeroValue]
  simp only[execOp,ho]
  rw[Sem.run_bind,hrun]
  rfl


end
end Go.Av
namespace Go.Sh
def whole{α:Type}(n:Nat)(l:List α):Option (List α):=if l.length=n then some l else none
theorem vY{α:Type}{n:Nat}{l m:List α}(h:whole n l=some m):l.length=n∧l=m:=by
 unfold whole at h
 split at h
 ·rename_i h0;cases h;exact⟨h0,rfl⟩
 ·cases h
def IQ{α:Type}(n:Nat)(l:List α)(i:Int):Option α:=if l.length=n then idx l i else none
theorem xm{α:Type}{n:Nat}{l:List α}{i:Int}{x:α}(h:IQ n l i=some x):l.length=n∧∃k:Nat,i=k∧l[k]? =some x:=by
 unfold IQ at h
 split at h
 ·rename_i h0;exact⟨h0,aO h⟩
 ·cases h
end Go.Sh
namespace Go.Av
section
variable {P:Program} {W0:dU} {fr:Fr} {H:aX} {o:Oper} {α:Type} {enc:α→AV} {l:List α} {i:Int} {x:α} {ki:IntKind}

theorem uB{t:TypeId}{N id k:Nat}{xo io:Operand}(enc:α→AV)(l:List α)(hi:i=k)(hl:l[k]? =some x)(hN:l.length=N)(ho:o.op=.indexAddr t xo io)(hx:bA fr xo=some (.ref id 0 0))(hid:H.get id=some [HY enc l])(hio:bA fr io=some (.imm (.int ki i)))
  (ht:Uh P t=some (N,1)):gD P W0 o fr H (.ref id 0 k) H:=
 (IT ho hx hid hio ht hi (by have:=(List.getElem?_eq_some_iff.1 hl).1;omega)).conv (by simp)
theorem yS{t:TypeId}{xo:Operand}{id k:Nat}(enc:α→AV)(l:List α)(hl:l[k]? =some x)(ho:o.op=.load t xo)(hx:bA fr xo=some (.ref id 0 k))(hid:H.get id=some [HY enc l])
  (ht:vU P t=some (1,false)):gD P W0 o fr H (enc x) H:=
 bq ho hx hid (i:=0) (e:=HY enc l) rfl ht (by simp[uv,AV.flat,hl])
theorem J3{t:TypeId}{xo:Operand}{id N:Nat}(enc:α→AV)(l:List α)(hN:l.length=N)(ho:o.op=.load t xo)(hx:bA fr xo=some (.ref id 0 0))(hid:H.get id=some [HY enc l])
  (ht:vU P t=some (N,true)):gD P W0 o fr H (HY enc l) H:=
 bq ho hx hid (i:=0) (e:=HY enc l) rfl ht (by subst hN;simp only[uv,HY,AV.flat,if_true,Nat.zero_add,List.length_map,Nat.le_refl,List.drop_zero];rw[List.take_of_length_le (by simp)])
theorem Mb{t:TypeId}{xo yo:Operand}{id k:Nat}(enc:α→AV)(l:List α)(x':α)(hi:i=k)(hl:l[k]? =some x)(hfl:(enc x').flat=[enc x'])(hsol:(enc x').dw=true)(ho:o.op=.store t xo yo)(hx:bA fr xo=some (.ref id 0 k))(hy:bA fr yo=some (enc x'))
  (hid:H.get id=some [HY enc l])(ht:vU P t=some (1,false)):gD P W0 o fr H .any (H.set id [HY enc (Sh.set l i x')]):=by
 have hk:=(List.getElem?_eq_some_iff.1 hl).1
 have:=aS (P:=P) (W0:=W0) (o:=o) (fr:=fr) (H:=H) (e:=HY enc l) (e':=HY enc (Sh.set l i x')) (i:=0) ho hx hy hsol hid rfl ht (by rw[hfl];rfl) (by simp[AV.flat];omega) (by
  subst hi
  rw[hfl]
  simp only[AV.flat,Sh.set,Int.toNat_natCast,List.map_set]
  rw[List.set_eq_take_append_cons_drop,if_pos (by simpa using hk)]
  simp)
 exact this
theorem BZ{t:TypeId}{xo yo:Operand}{id N:Nat}(enc:α→AV)(l l':List α)(hN:l.length=N)(hN':l'.length=N)(ho:o.op=.store t xo yo)(hx:bA fr xo=some (.ref id 0 0))(hy:bA fr yo=some (HY enc l'))
  (hid:H.get id=some [HY enc l])(ht:vU P t=some (N,true)):gD P W0 o fr H .any (H.set id [HY enc l']):=by
 have:=aS (P:=P) (W0:=W0) (o:=o) (fr:=fr) (H:=H) (e:=HY enc l) (e':=HY enc l') (i:=0) (j:=0) ho hx hy rfl hid rfl ht (by simp[AV.flat,hN']) (by simp[AV.flat,hN]) (by
  simp only[AV.flat]
  rw[List.drop_eq_nil_of_le (by simp[hN])]
  simp)
 exact this
theorem Ma{t e:TypeId}{s by' len:Nat}{parts:Array (Nat×Operand)}{xo:List Operand}(enc:α→AV)(l:List α)(ho:o.op=.buildSlice t len parts)(hp:parts.toList=xo.zipIdx.map fun p=>(p.2,p.1))(hlen:len=xo.length)
  (hxs:xo.mapM (bA fr)=some (l.map enc))(hsol:∀x∈l.map enc,x.dw=true)(hfl:∀x∈l.map enc,x.flat.length=s)(ht:yc P t=some (e,s,by'))(hz:(wP P e).isSome=true)(hsmall:len*s≤16777216):
  gD P W0 o fr H (.view H.next 0 (l.map enc).length) (H.push s (l.map enc)):=Eu ho hp hlen hxs hsol hfl ht hz hsmall
theorem Vz{q T N id:Nat}{fr:List (Nat×AV)}{H:aX}(enc:α→AV)(l:List α)(hN:l.length=N)(hx:lk fr q=some (.ref id 0 0))(hid:H.get id=some [HY enc l])(ht:vU P T=some (N,true)):Nr P [.cell q T] ⟨fr,H⟩=some (HY enc l):=by
 subst hN
 have h1:D0 P ⟨fr,H⟩ (.cell q T)=some (HY enc l):=by
  simp only[D0,hx,ht,hid]
  simp only[List.getElem?_cons_zero,uv,HY,AV.flat,if_true,Nat.zero_add,List.length_map,Nat.le_refl,List.drop_zero]
  rw[List.take_of_length_le (by simp)]
 simp only[Nr,List.mapM_cons,h1,List.mapM_nil]
 rfl
end
end Go.Av
end

section
/- Literals with empty slices in them, or slices of a known end. -/
namespace Go.Av
inductive XA:AV→AV→Prop
 |same (x:AV):XA x x
 |clip (es:List AV):XA (.clip es) (.sl es)
 |nil:XA (.imm (.slice none 0 0)) (.sl [])
def Mf:List AV→List AV→Prop
 |[],[]=>True
 |x::xs,y::ys=>XA x y∧Mf xs ys
 |_,_=>False
def Dh:List AV→List AV→Prop
 |[],[]=>True
 |e::es,y::ys=>Mf e.flat y.flat∧Dh es ys
 |_,_=>False
section
variable {P:Program} {W0:dU} {C:Ctx} {fr:Fr} {H H':aX} {o:Oper}

theorem XA.rep{a b:AV}{v:Value}(h:XA a b)(r:dO C a v):dO C b v:=by
 cases h with
 |same=>exact r
 |clip es=>
  match r with
  |.clipNil a=>exact .slNil a 0
  |.clip _ b off sz c h1 h2 h3 h4 h5=>exact .sl es b off sz es.length c h1 h2 (Nat.le_refl _) h3 h4 h5
 |nil=>
  have:=gM (v:=.slice none 0 0) rfl r
  subst this
  exact .slNil _ _
theorem Mf.spec:∀{xs ys:List AV},Mf xs ys→xs.length=ys.length∧∀(j:Nat) (y:AV),ys[j]? =some y→∃x,xs[j]? =some x∧XA x y
 |[],[],_=>⟨rfl,fun j y h=>by simp at h⟩
 |x::xs,y::ys,h=>by
  obtain⟨a,b⟩:=Mf.spec h.2
  refine⟨by simp[a],fun j z hz=> ?_⟩
  cases j with
  |zero=>simp at hz;subst hz;exact⟨x,rfl,h.1⟩
  |succ j=>simpa using b j z (by simpa using hz)
 |[],_::_,h=>h.elim
 |_::_,[],h=>h.elim
theorem Dh.spec:∀{es ys:List AV},Dh es ys→es.length=ys.length∧∀(i:Nat) (y:AV),ys[i]? =some y→∃e,es[i]? =some e∧Mf e.flat y.flat
 |[],[],_=>⟨rfl,fun j y h=>by simp at h⟩
 |x::xs,y::ys,h=>by
  obtain⟨a,b⟩:=Dh.spec h.2
  refine⟨by simp[a],fun j z hz=> ?_⟩
  cases j with
  |zero=>simp at hz;subst hz;exact⟨x,rfl,h.1⟩
  |succ j=>simpa using b j z (by simpa using hz)
 |[],_::_,h=>h.elim
 |_::_,[],h=>h.elim
theorem Qx{es ys:List AV}{v:Value}(h:Dh es ys)(r:dO C (.clip es) v):dO C (.clip ys) v:=by
 obtain⟨hl,hs⟩:=h.spec
 match r with
 |.clipNil a=>
  have:ys=[]:=List.eq_nil_of_length_eq_zero (by simpa using hl.symm)
  subst this
  exact .clipNil a
 |.clip _ b off sz c h1 h2 h3 h4 h5=>
  rw[hl]
  refine .clip ys b off sz c h1 h2 (fun i y hy=> ?_) (fun i j y z hy hz=> ?_) (fun i j y z hy hz=> ?_)
  ·obtain⟨e,he,hw⟩:=hs i y hy
   rw[←hw.spec.1];exact h3 i e he
  ·obtain⟨e,he,hw⟩:=hs i y hy
   obtain⟨x,hx,_⟩:=hw.spec.2 j z hz
   exact h4 i j e x he hx
  ·obtain⟨e,he,hw⟩:=hs i y hy
   obtain⟨x,hx,hxy⟩:=hw.spec.2 j z hz
   exact hxy.rep (h5 i j e x he hx)
theorem gD.Fu{es ys:List AV}(h:gD P W0 o fr H (.clip es) H')(hw:Dh es ys):gD P W0 o fr H (.clip ys) H':=by
 intro C a hI hH hop K Q hK
 exact h C a hI hH hop K Q (fun v C' h1 h2 h3 h4=>hK v C' h1 h2 h3 (Qx hw h4))
end
end Go.Av
namespace Go.Av
section
variable {P:Program} {W0:dU} {C:Ctx} {fr:Fr} {H:aX} {o:Oper}

theorem VC(hI:Inv W0 C){id:Nat}{es ys:List AV}(hid:C.H.get id=some es)(hw:Dh es ys):Ext C {C with H:=C.H.set id ys}∧Inv W0 {C with H:=C.H.set id ys}:=by
 obtain⟨hl,hs⟩:=hw.spec
 have hg:∀k e,(C.H.set id ys).get k=some e→(k=id∧e=ys)∨(k≠id∧C.H.get k=some e):=fun k e h=>by
  rw[aX.wB] at h
  split at h
  ·rename_i hk;exact .inl ⟨hk,(Option.some.inj h).symm⟩
  ·rename_i hk;exact .inr ⟨hk,h⟩
 have hg':∀k e,(C.H.set id ys).get k=some e→∃e',C.H.get k=some e':=fun k e h=>by
  rcases hg k e h with⟨rfl,_⟩|⟨_,h⟩
  ·exact⟨es,hid⟩
  ·exact⟨e,h⟩
 have ho':∀b,Ctx.own {C with H:=C.H.set id ys} b→C.own b:=by
  rintro b (⟨k,e,h1,h2,h3⟩|h)
  ·obtain⟨e',h4⟩:=hg' k e h1
   exact .inl ⟨k,e',h4,h2,h3⟩
  ·exact .inr h
 have hE:Ext C {C with H:=C.H.set id ys}:=⟨.refl _ _,fun _ _ _=>rfl,fun b _ h=>ho' b h,Nat.le_refl _,fun k e _ h=>by
  obtain⟨e',h4⟩:=hg' k e h
  exact⟨⟨e',h4⟩,rfl⟩,rfl,rfl,rfl⟩
 exact⟨hE,{
  fresh:=fun k e h=>by obtain⟨e',h4⟩:=hg' k e h;exact hI.fresh k e' h4
  nil:=fun k e h hn=>by
   rcases hg k e h with⟨rfl,rfl⟩|⟨_,h⟩
   ·have:=hI.nil k es hid hn
    subst this
    exact List.eq_nil_of_length_eq_zero (by simpa using hl.symm)
   ·exact hI.nil k e h hn
  obj:=fun k e h hn=>by
   rcases hg k e h with⟨rfl,rfl⟩|⟨_,h⟩
   ·have hO:=hI.obj k es hid hn
    refine⟨hO.n.trans hl,hO.cap,hO.gN,hO.one,fun i y hy=> ?_,fun i j y z v hy hz hv=> ?_⟩
    ·obtain⟨e,he,hwf⟩:=hs i y hy
     rw[←hwf.spec.1];exact hO.flat i e he
    ·obtain⟨e,he,hwf⟩:=hs i y hy
     obtain⟨x,hx,hxy⟩:=hwf.spec.2 j z hz
     exact(hxy.rep (hO.cell i j e x v he hx hv)).ext hE
   ·exact(hI.obj k e h hn).ext hE rfl
  sep:=fun p q ep eq hp hq h1 h2 h3=>by
   obtain⟨e1,h4⟩:=hg' p ep hp
   obtain⟨e2,h5⟩:=hg' q eq hq
   exact hI.sep p q e1 e2 h4 h5 h1 h2 h3
  dm:=fun k e h=>by obtain⟨e',h4⟩:=hg' k e h;exact hI.dm k e' h4
  oM:=fun k s' h=>hI.oM k s' (by rw[←aX.J1 C.H id ys es hid k];exact h)
  eE:=hI.eE
  eZ:=hI.eZ
  size:=hI.size
  iK:=fun b h=>⟨(hI.iK b h).1,fun hh=>(hI.iK b h).2 (ho' b hh)⟩
  e8:=hI.e8
  mI:=hI.mI
  y7:=hI.y7
  zM:=hI.zM
  fD:=hI.fD
  pP:=hI.pP
  fZ:=hI.fZ
  gh:=W0.st C _ hE.mem hI.fZ hI.gh}⟩
theorem ah0{α:Type}(l:List (Nat×α))(s:Nat)(u v:α):up (up l s u) s v=up l s v:=by
 induction l with
 |nil=>simp[up]
 |cons p l ih=>
  obtain⟨q,w⟩:=p
  simp only[up]
  split
  ·rename_i h;simp[up,h]
  ·rename_i h;simp[up,h,ih]
theorem Th(s:Nat)(es ys:List AV):(H.push s es).set H.next ys=H.push s ys:=by
 have h1:(H.push s es).sz H.next=some s:=by rw[aX.Om];simp
 simp only[aX.set,h1,Option.getD_some]
 simp only[aX.push,ah0]
theorem gD.alh{es ys:List AV}{n s:Nat}(h:gD P W0 o fr H (.view H.next 0 n) (H.push s es))(hw:Dh es ys):gD P W0 o fr H (.view H.next 0 n) (H.push s ys):=by
 intro C a hI hH hop K Q hK
 refine h C a hI hH hop K Q (fun v C' h1 h2 h3 h4=> ?_)
 have hid:C'.H.get H.next=some es:=by rw[h3,aX.z7];simp
 obtain⟨hE,hI'⟩:=VC h2 hid hw
 exact hK v {C' with H:=C'.H.set H.next ys} (h1.trans hE) hI' (by show C'.H.set H.next ys=_;rw[h3,Th]) (h4.ext hE)
theorem On{e y:AV}(h:Mf e.flat y.flat):∀m,Dh (List.replicate m e) (List.replicate m y)
 |0=>trivial
 |m+1=>⟨h,On h m⟩
theorem VJ{α:Type}{t e:TypeId}{s by':Nat}{xo yo:Operand}{kl kc:IntKind}{nl nc:Int}{z:Value}(enc:α→AV)(zx:α)(L:List α)(hL:Sh.mk by' nl nc zx=some L)(ho:o.op=.makeSlice t xo yo)(hx:bA fr xo=some (.imm (.int kl nl)))(hy:bA fr yo=some (.imm (.int kc nc)))
  (ht:yc P t=some (e,s,by'))(hz:wP P e=some z)(hk:z.Xd=true)(hs:(AV.Is z).flat.length=s)(hzx:Mf (AV.Is z).flat (enc zx).flat):gD P W0 o fr H (.view H.next 0 (L.map enc).length) (H.push s (L.map enc)):=by
 obtain⟨m,c,h1,h2,h3,h4,h5,rfl⟩:=Sh.N8 hL
 have:=BR (P:=P) (W0:=W0) (o:=o) (fr:=fr) (H:=H) ho hx hy h1 h2 h3 ht h4 h5 hz hk hs
 have h6:=this.alh (On hzx m)
 simpa using h6
end
end Go.Av
end

section
/- Calls of what writes into what is the caller's own: a part of the heap is handed over, and comes back. -/
namespace Go.Av

structure Dp (P:Program) (B:dU) (f:FuncId) (xs:List AV) (Hin:aX) (r:AV) (Hout:aX):Prop where
 call:oR P f
 runs:∀(C:Ctx) (vals:Array Value),Inv B C→C.H=Hin→C.mI=[]→vals.size=xs.length→(∀(k:Nat) (x:AV),xs[k]? =some x→dO C x (vals.getD k undef))→
  Calls P f vals C.w (fun e w'=>∃v C',e=.returned v∧C'.w=w'∧Mem C C'∧Inv B C'∧C'.H=Hout∧C'.mI=[]∧dO C' r v)

section
variable {P:Program} {W0:dU} {C:Ctx} {fr:Fr} {a:Act} {H:aX} {o:Oper} {N:Nat}

theorem oE{B:dU}{f:FuncId}{fn:Func}{c:Code}{xs:List AV}{r:AV}{Hin Hr:aX}(hro:B.ro=none)(hf:P.funcs[f]? =some fn)(hb:fn.body=some c)(hname:(fn.name== "runtime.NumGoroutine")=false)(hN:fn.ntmps=N)(hxN:xs.length≤N)
  (h:aZ P B N c ⟨cO 0 xs,Hin⟩ (fun e s=>(e=.normal∨e=.ret)∧∃q,Nr P fn.results.toList s=some q∧an B 1 ⟨[(0,q)],s.H⟩ ⟨[(0,r)],Hr⟩))(hdx:B.dx=[]:=by rfl):Dp P B f xs Hin r Hr where
 call:=sF hf hname hb
 runs C vals hI hH hd hsz hrep:=CC hf hb hN hxN hro h C vals hI hH hd hsz hrep hdx


def Ctx.pX(C:Ctx)(Hs:aX):Ctx:=
 {w:=C.w,H:=Hs,pl:=C.pl,dm:=fun b=>C.dm b∨(C.own b∧¬Ctx.own {C with H:=Hs,mI:=[]} b),mI:=[],tn:=0}

structure Part (Hs H:aX):Prop where
 next:Hs.next=H.next
 ef:∀k v,lk Hs.ef k=some v→lk H.ef k=some v
 e8:∀l r,lk Hs.e8 l=some r→lk H.e8 l=some r

theorem Lx{Hs:aX}(hp:Part Hs C.H){b:Nat}(h:(C.pX Hs).own b):C.own b:=by
 rcases h with⟨id,es,h1,h2,h3⟩|⟨r,h⟩|h
 ·refine .inl ⟨id,es, ?_,h2,h3⟩
  obtain⟨p,h4,h5⟩:=Option.map_eq_some_iff.1 h1
  exact Option.map_eq_some_iff.2 ⟨p,hp.ef id p h4,h5⟩
 ·exact .inr (.inl ⟨r,hp.e8 b r h⟩)
 ·simp[Ctx.pX] at h

theorem Sk{Hs:aX}(hp:Part Hs C.H){b:Nat}(h:(C.pX Hs).bad b):C.bad b:=by
 rcases h with h|h|h
 ·exact .inl (Lx hp h)
 ·exact .inr h
 ·exact .inl h.1

theorem rT{Hs H:aX}(hp:Part Hs H){id:Nat}{es:List AV}(h:Hs.get id=some es):H.get id=some es:=by
 obtain⟨p,h4,h5⟩:=Option.map_eq_some_iff.1 h
 exact Option.map_eq_some_iff.2 ⟨p,hp.ef id p h4,h5⟩

theorem dO.pX{Hs:aX}(hp:Part Hs C.H){x:AV}{v:Value}(h:dO C x v):dO (C.pX Hs) x v:=
 h.sub rfl (by show C.H.next≤Hs.next;rw[hp.next];exact Nat.le_refl _) (fun id es _ h=>⟨es,rT hp h⟩) (fun _ _=>rfl) (fun b h=>Sk hp h)

theorem Inv.pX(hI:Inv W0 C){Hs:aX}(hp:Part Hs C.H):Inv (.of W0.w) (C.pX Hs) where
 fresh id es h:=by show id<Hs.next;rw[hp.next];exact hI.fresh id es (rT hp h)
 nil id es h:=hI.nil id es (rT hp h)
 obj id es h hn:=by
  have hO:=hI.obj id es (rT hp h) hn
  exact⟨hO.n,hO.cap,hO.gN,hO.one,hO.flat,fun i j e x v h1 h2 h3=>(hO.cell i j e x v h1 h2 h3).pX hp⟩
 sep i1 i2 e1 e2 h1 h2:=hI.sep i1 i2 e1 e2 (rT hp h1) (rT hp h2)
 dm id es h hn hb:=by
  rcases hb with hb|hb
  ·exact hI.dm id es (rT hp h) hn hb
  ·exact hb.2 (.inl ⟨id,es,h,hn,rfl⟩)
 oM id s h:=by
  obtain⟨p,h4,h5⟩:=Option.map_eq_some_iff.1 h
  exact hI.oM id s (Option.map_eq_some_iff.2 ⟨p,hp.ef id p h4,h5⟩)
 eE b h:=by
  rcases h with h|h
  ·exact hI.eE b h
  ·exact hI.GG h.1
 eZ b h:=by
  rcases h with h|h
  ·exact hI.eZ b h
  ·exact hI.Nk h.1
 size:=hI.size
 iK b h:=⟨(hI.iK b h).1,fun ho=>(hI.iK b h).2 (Lx hp ho)⟩
 e8 l r h:=hI.e8 l r (hp.e8 l r h)
 mI d h:=by simp[Ctx.pX] at h
 y7:=.nil
 zM:=fun _ _=>rfl
 fD b h hb:=by
  rcases h with⟨r,h⟩|h
  ·rcases hb with hb|hb
   ·exact hI.fD b (.inl ⟨r,hp.e8 b r h⟩) hb
   ·exact hb.2 (.inr (.inl ⟨r,h⟩))
  ·simp[Ctx.pX] at h
 pP:=rfl
 fZ:=Nat.zero_le _
 gh:=trivial


inductive Ren (ok:AV→Prop) (m:List (Nat×Nat)):AV→AV→Prop
 |same (x:AV):ok x→Ren ok m x x
 |any (x:AV):Ren ok m x .any
 |view {id k off len:Nat}:lk m id=some k→Ren ok m (.view id off len) (.view k off len)
 |ref {id k i j:Nat}:lk m id=some k→Ren ok m (.ref id i j) (.ref k i j)
 |agg (cs cs':List AV):cs.length=cs'.length→(∀(k:Nat) (x x':AV),cs[k]? =some x→cs'[k]? =some x'→Ren ok m x x')→Ren ok m (.agg cs) (.agg cs')
 |tuple (cs cs':List AV):cs.length=cs'.length→(∀(k:Nat) (x x':AV),cs[k]? =some x→cs'[k]? =some x'→Ren ok m x x')→Ren ok m (.tuple cs) (.tuple cs')
 |bX (fn:Fn) (cs cs':List AV):cs.length=cs'.length→(∀(k:Nat) (x x':AV),cs[k]? =some x→cs'[k]? =some x'→Ren ok m x x')→Ren ok m (.bX fn cs) (.bX fn cs')
 |ifc (t:TypeId) (x x':AV):Ren ok m x x'→Ren ok m (.ifc t x) (.ifc t x')

structure Kh (ok:AV→Prop) (m:List (Nat×Nat)) (es es':List AV):Prop where
 len:es.length=es'.length
 see:∀(k:Nat) (e e':AV),es[k]? =some e→es'[k]? =some e'→e.flat.length=e'.flat.length∧∀(j:Nat) (x x':AV),e.flat[j]? =some x→e'.flat[j]? =some x'→Ren ok m x x'

theorem Kh.same{ok:AV→Prop}{m:List (Nat×Nat)}{es:List AV}(h:∀e∈es,∀x∈e.flat,ok x):Kh ok m es es:=
 ⟨rfl,fun k e e' h1 h2=>by
  rw[h1] at h2;cases h2
  exact⟨rfl,fun j x x' h3 h4=>by rw[h3] at h4;cases h4;exact .same x (h e (List.mem_of_getElem? h1) x (List.mem_of_getElem? h3))⟩⟩

def zQ(ok:AV→Prop)(m:List (Nat×Nat)):List AV→List AV→Prop
 |[],[]=>True
 |x::l,y::r=>Ren ok m x y∧zQ ok m l r
 |_,_=>False

theorem zQ.spec{ok:AV→Prop}{m:List (Nat×Nat)}:∀{l r:List AV},zQ ok m l r→l.length=r.length∧∀(k:Nat) (x x':AV),l[k]? =some x→r[k]? =some x'→Ren ok m x x'
 |[],[],_=>⟨rfl,fun k x x' h=>by simp at h⟩
 |x::l,y::r,h=>by
  obtain⟨h1,h2⟩:=zQ.spec h.2
  refine⟨by simp[h1],fun k u v hu hv=> ?_⟩
  cases k with
  |zero=>simp at hu hv;subst hu hv;exact h.1
  |succ k=>simp at hu hv;exact h2 k u v hu hv
 |[],_::_,h=>h.elim
 |_::_,[],h=>h.elim
theorem Ren.ag{ok:AV→Prop}{m:List (Nat×Nat)}{cs cs':List AV}(h:zQ ok m cs cs'):Ren ok m (.agg cs) (.agg cs'):=.agg cs cs' h.spec.1 h.spec.2
theorem Ren.tp{ok:AV→Prop}{m:List (Nat×Nat)}{cs cs':List AV}(h:zQ ok m cs cs'):Ren ok m (.tuple cs) (.tuple cs'):=.tuple cs cs' h.spec.1 h.spec.2
theorem Ren.cl{ok:AV→Prop}{m:List (Nat×Nat)}{fn:Fn}{cs cs':List AV}(h:zQ ok m cs cs'):Ren ok m (.bX fn cs) (.bX fn cs'):=.bX fn cs cs' h.spec.1 h.spec.2
theorem Kh.one{ok:AV→Prop}{m:List (Nat×Nat)}{e e':AV}(h:zQ ok m e.flat e'.flat):Kh ok m [e] [e']:=
 ⟨rfl,fun k a b h1 h2=>by
  cases k with
  |zero=>simp at h1 h2;subst h1 h2;exact⟨h.spec.1,h.spec.2⟩
  |succ k=>simp at h1⟩

def Ep(ok:AV→Prop)(H:aX)(g m:List (Nat×Nat))(Hout:aX):List (Nat×(Nat×List AV))→Prop
 |[]=>True
 |(k,(s,es'))::r=>((lk H.ef k=some (s,es')∧g.all (fun p=>p.2 !=k)=true)∨∃i es,lk m i=some k∧lk Hout.ef i=some (s,es)∧Kh ok m es es')∧Ep ok H g m Hout r

theorem Ep.spec{ok:AV→Prop}{H:aX}{g m:List (Nat×Nat)}{Hout:aX}:∀{l:List (Nat×(Nat×List AV))},Ep ok H g m Hout l→∀{k s:Nat} {es':List AV},lk l k=some (s,es')→
  (lk H.ef k=some (s,es')∧∀p∈g,p.2≠k)∨∃i es,lk m i=some k∧lk Hout.ef i=some (s,es)∧Kh ok m es es'
 |[],_,_,_,_,h=>by cases h
 |(q,(s,es))::l,hl,k,s',es',h=>by
  simp only[lk] at h
  split at h
  ·rename_i hm;subst hm;cases h
   refine hl.1.imp (fun h=>⟨h.1,fun p hp=> ?_⟩) id
   have:=List.all_eq_true.1 h.2 p hp
   simpa using this
  ·exact Ep.spec hl.2 h
theorem Ep.kept{ok:AV→Prop}{H:aX}{g m:List (Nat×Nat)}{Hout:aX}{k s:Nat}{es:List AV}{r:List (Nat×(Nat×List AV))}(h1:lk H.ef k=some (s,es))(h2:g.all (fun p=>p.2 !=k)=true)(h3:Ep ok H g m Hout r):Ep ok H g m Hout ((k,(s,es))::r):=
 ⟨.inl ⟨h1,h2⟩,h3⟩
theorem Ep.new{ok:AV→Prop}{H:aX}{g m:List (Nat×Nat)}{Hout:aX}{k s:Nat}{es':List AV}{r:List (Nat×(Nat×List AV))}(i:Nat){es:List AV}(h1:lk m i=some k)(h2:lk Hout.ef i=some (s,es))(h3:Kh ok m es es')(h4:Ep ok H g m Hout r):Ep ok H g m Hout ((k,(s,es'))::r):=
 ⟨.inr ⟨i,es,h1,h2,h3⟩,h4⟩

def Xc(p n:Nat)(g m:List (Nat×Nat)):Bool:=m.all fun q=>(decide (q.1<p)&&(lk g q.1==some q.2))||q.2==n+q.1

def Ctx.back(C C2:Ctx)(H':aX):Ctx:={w:=C2.w,H:=H',pl:=fun k=>if k<C.H.next then C.pl k else C2.pl (k - C.H.next),dm:=C.dm,mI:=C.mI,tn:=C.tn}

theorem VG{ok:AV→Prop}{Hs Hin H':aX}{g m:List (Nat×Nat)}{nw:List Nat}{p:Nat}{B1:dU}{C2:Ctx}(hI:Inv W0 C)(hp:Part Hs C.H)(hB:B1.w=W0.w)
  (hH:rZ Hs g nw Hin.next Hin.ef)(hnw:∀n∈nw,lk g n=none)(hginj:g.all (fun p=>g.all (fun q=>p.2 !=q.2||p.1==q.1))=true)(hgin:∀q∈g,(lk Hs.ef q.2).isSome=true)(hlp:Hin.e8=Hs.e8)
  (hM:Mem {(C.pX Hs).re g Hin with tn:=p} C2)(hpin:p≤Hin.next)(Ec:Inv B1 C2)(hd2:C2.mI=[])
  (hm:Xc p C.H.next g m=true)(hnext:H'.next=C.H.next+C2.H.next)(hback:Ep ok C.H g m C2.H H'.ef)
  (hlps:∀l r,lk H'.e8 l=some r→lk C2.H.e8 l=some r∨(lk C.H.e8 l=some r∧lk Hs.e8 l=none))
  (mode:(∀x,ok x→BP x)∨((∀x,ok x→dn x)∧∀k v,lk C.H.ef k=some v→(∀q∈g,q.2≠k)→lk Hs.ef k=none)):
  Ext C (C.back C2 H')∧Inv W0 (C.back C2 H')∧∀x x' v,Ren ok m x x'→dO C2 x v→dO (C.back C2 H') x' v:=by
 have hs:C.w.heap.size≤C2.w.heap.size:=hM.below.size
 have hpr:C2.dm=(C.pX Hs).dm:=hM.dm
 have getS:∀{K:aX} {n:Nat} {es':List AV},K.get n=some es'→∃s,lk K.ef n=some (s,es'):=fun{K n es'} h=>by
  obtain⟨⟨s,e⟩,h1,h2⟩:=Option.map_eq_some_iff.1 h
  simp only at h2;subst h2;exact⟨s,h1⟩
 have getO:∀{K:aX} {n s:Nat} {es':List AV},lk K.ef n=some (s,es')→K.get n=some es':=fun{K n s es'} h=>by simp[aX.get,h]
 have gmem:∀{n k:Nat},lk g n=some k→k<C.H.next∧∃v,lk Hs.ef k=some v:=fun{n k} h=>by
  obtain⟨v,hv⟩:=Option.isSome_iff_exists.1 (hgin _ (o9 h))
  exact⟨hI.fresh k v.2 (getO (s:=v.1) (hp.ef k v hv)),v,hv⟩
 have ginj:∀{n n' k:Nat},lk g n=some k→lk g n'=some k→n=n':=fun{n n' k} h1 h2=>by
  have:=List.all_eq_true.1 (List.all_eq_true.1 hginj _ (o9 h1)) _ (o9 h2)
  simpa using this
 have rePl:∀{n k:Nat},lk g n=some k→((C.pX Hs).re g Hin).pl n=C.pl k:=fun{n k} h=>by simp[Ctx.re,Ctx.pX,h]
 have mS:∀{i k:Nat},lk m i=some k→(i<p∧lk g i=some k)∨k=C.H.next+i:=fun{i k} h=>by
  have:=List.all_eq_true.1 hm _ (o9 h)
  simpa using this
 -- what was handed over
 have passed:∀{b:Nat},((C.pX Hs).re g Hin).cells b→∃n k es,lk g n=some k∧C.H.get k=some es∧(C.pl k).nil=false∧(C.pl k).gN=b:=fun{b} h=>by
  obtain⟨n,es',h1,h2,h3⟩:=h
  obtain⟨s,h4⟩:=getS (K:=Hin) h1
  rcases(hH.spec h4).1 with⟨old,es,q1,q2,_⟩|⟨q,_⟩
  ·rw[rePl q1] at h2 h3
   exact⟨n,old,es,q1,getO (hp.ef old _ q2),h2,h3⟩
  ·have:((C.pX Hs).re g Hin).pl n=⟨0,0,0,0,true⟩:=by simp[Ctx.re,hnw n q]
   rw[this] at h2;cases h2
 have ahs:∀{b:Nat},((C.pX Hs).re g Hin).own b→C.own b:=fun{b} h=>by
  rcases h with h|⟨r,h⟩|h
  ·obtain⟨n,k,es,_,h2,h3,h4⟩:=passed h
   exact .inl ⟨k,es,h2,h3,h4⟩
  ·exact .inr (.inl ⟨r,hp.e8 b r (by rw[←hlp];exact h)⟩)
  ·simp[Ctx.re,Ctx.pX] at h
 have keep:∀b,b<C.w.heap.size→¬((C.pX Hs).re g Hin).own b→C2.w.heap[b]? =C.w.heap[b]? :=fun b hb hn=>hM.keep b hb hn
 have aht:∀{b:Nat},b<C.w.heap.size→C2.own b→((C.pX Hs).re g Hin).own b:=fun{b} hb h=>hM.own b hb h
 -- cells, records, and what is put off, are told apart by what lies there
 have cellHeap:∀{k:Nat} {es:List AV},C.H.get k=some es→(C.pl k).nil=false→∃arr el,C.w.heap[(C.pl k).gN]? =some (.cells arr el (0,0)):=fun{k es} h1 h2=>by
  obtain⟨arr,el,h3,_⟩:=(hI.obj k es h1 h2).gN
  exact⟨arr,el,h3⟩
 have keptFree:∀{k:Nat} {es:List AV},C.H.get k=some es→(C.pl k).nil=false→(∀q∈g,q.2≠k)→¬((C.pX Hs).re g Hin).own (C.pl k).gN:=fun{k es} h1 h2 h3 h=>by
  obtain⟨arr,el,hc⟩:=cellHeap h1 h2
  rcases h with h|⟨r,h⟩|h
  ·obtain⟨n,k',es',q1,q2,q3,q4⟩:=passed h
   have:=hI.sep k' k es' es q2 h1 q3 h2 q4
   exact h3 _ (o9 q1) this
  ·exact hI.Dc (.inl ⟨r,hp.e8 _ r (by rw[←hlp];exact h)⟩) hc
  ·simp[Ctx.re,Ctx.pX] at h
 -- an object behind the call
 have plO:∀{k:Nat},k<C.H.next→(C.back C2 H').pl k=C.pl k:=fun{k} h=>by simp[Ctx.back,h]
 have plN:∀{i k s:Nat} {es:List AV},lk m i=some k→lk C2.H.ef i=some (s,es)→(C.back C2 H').pl k=C2.pl i∧(k<C.H.next→∃n,i=n∧lk g n=some k):=fun{i k s es} h h2=>by
  rcases mS h with⟨h3,h4⟩|h3
  ·refine⟨?_,fun _=>⟨i,rfl,h4⟩⟩
   rw[plO (gmem h4).1]
   have h5:=(hM.pins hpin).2 i es h3 (getO h2)
   rw[h5.2];exact(rePl h4).symm
  ·subst h3
   refine⟨?_,fun h=>by omega⟩
   have h1:¬C.H.next+i<C.H.next:=by omega
   have h2:C.H.next+i - C.H.next=i:=by omega
   show(if C.H.next+i<C.H.next then _ else _)=_
   rw[if_neg h1,h2]
 have objJ:∀{k:Nat} {es':List AV},(C.back C2 H').H.get k=some es'→∃s,lk H'.ef k=some (s,es')∧((lk C.H.ef k=some (s,es')∧(∀q∈g,q.2≠k)∧k<C.H.next)∨∃i es,lk m i=some k∧lk C2.H.ef i=some (s,es)∧Kh ok m es es'):=fun{k es'} h=>by
  obtain⟨s,h1⟩:=getS (K:=H') h
  refine⟨s,h1,(hback.spec h1).imp (fun h=>⟨h.1,h.2,hI.fresh k es' (getO h.1)⟩) id⟩
 have ownJ:∀b,(C.back C2 H').own b→C.own b∨C2.own b:=by
  rintro b (⟨k,es',h1,h2,h3⟩|⟨r,h⟩|h)
  ·obtain⟨s,_,⟨q1,q2,q3⟩|⟨i,es,q1,q2,_⟩⟩:=objJ h1
   ·rw[plO q3] at h2 h3;exact .inl (.inl ⟨k,es',getO q1,h2,h3⟩)
   ·rw[(plN q1 q2).1] at h2 h3;exact .inr (.inl ⟨i,es,getO q2,h2,h3⟩)
  ·rcases hlps b r h with h|h
   ·exact .inr (.inr (.inl ⟨r,h⟩))
   ·exact .inl (.inr (.inl ⟨r,h.1⟩))
  ·exact .inl (.inr (.inr h))
 have ext:Ext C (C.back C2 H'):={
  below:=⟨hM.below.os,hM.below.tape,hM.below.output,hs,fun k hk=>absurd hk (Nat.not_lt_zero k)⟩
  keep:=fun b hb hn=>keep b hb (fun h=>hn (ahs h))
  own:=fun b hb h=>by
   rcases ownJ b h with h|h
   ·exact h
   ·exact ahs (aht hb h)
  next:=by show C.H.next≤H'.next;rw[hnext];exact Nat.le_add_right _ _
  id:=fun k es' hk h=>by
   obtain⟨s,_,⟨q1,q2,q3⟩|⟨i,es,q1,q2,_⟩⟩:=objJ h
   ·exact⟨⟨es',getO q1⟩,plO q3⟩
   ·obtain⟨n,_,h3⟩:=(plN q1 q2).2 hk
    obtain⟨_,v,hv⟩:=gmem h3
    exact⟨⟨v.2,getO (s:=v.1) (hp.ef k v hv)⟩,plO hk⟩
  dm:=rfl
  mI:=rfl
  tn:=rfl}
 -- what nobody owned behind the call is nobody's now
 have protOf:∀{b:Nat},C.own b→¬Ctx.own {C with H:=Hs,mI:=[]} b→C2.bad b:=fun{b} h1 h2=>.inr (by rw[hpr];exact .inr ⟨h1,h2⟩)
 have badJ:(∀k v,lk C.H.ef k=some v→(∀q∈g,q.2≠k)→lk Hs.ef k=none)→∀b,(C.back C2 H').bad b→C2.bad b:=by
  rintro hmd b ((⟨k,es',h1,h2,h3⟩|⟨r,h⟩|h)|h)
  ·obtain⟨s,_,⟨q1,q2,q3⟩|⟨i,es,q1,q2,_⟩⟩:=objJ h1
   ·rw[plO q3] at h2 h3
    obtain⟨arr,el,hc⟩:=cellHeap (getO q1) h2
    rw[h3] at hc
    refine protOf (.inl ⟨k,es',getO q1,h2,h3⟩) ?_
    rintro(⟨k',e',r1,r2,r3⟩|⟨r,h⟩|h)
    ·have:=hI.sep k' k e' es' (rT hp r1) (getO q1) r2 h2 (r3.trans h3.symm)
     subst this
     have hnone:=hmd k' _ q1 q2
     simp[aX.get,hnone] at r1
    ·exact hI.Dc (.inl ⟨r,hp.e8 b r h⟩) hc
    ·simp at h
   ·rw[(plN q1 q2).1] at h2 h3;exact .inl (.inl ⟨i,es,getO q2,h2,h3⟩)
  ·rcases hlps b r h with h|⟨h,h'⟩
   ·exact .inl (.inr (.inl ⟨r,h⟩))
   ·refine protOf (.inr (.inl ⟨r,h⟩)) ?_
    rintro(⟨k',e',r1,r2,r3⟩|⟨r',h2⟩|h2)
    ·obtain⟨arr,el,hc⟩:=cellHeap (rT hp r1) r2
     have r3':(C.pl k').gN=b:=r3
     rw[r3'] at hc
     exact hI.Dc (.inl ⟨r,h⟩) hc
    ·have h2':lk Hs.e8 b=some r':=h2
     rw[h'] at h2';cases h2'
    ·simp at h2
  ·refine protOf (.inr (.inr h)) ?_
   rintro(⟨k',e',r1,r2,r3⟩|⟨r',h2⟩|h2)
   ·obtain⟨arr,el,hc⟩:=cellHeap (rT hp r1) r2
    have r3':(C.pl k').gN=b:=r3
    rw[r3'] at hc
    exact hI.Dc (.inr h) hc
   ·have q1:=hI.e8 b r' (hp.e8 b r' h2)
    have q2:=hI.mI b h
    rw[q1] at q2;cases q2
   ·simp at h2
  ·exact .inr (by rw[hpr];exact .inl h)
 have atom:∀x v,ok x→dO C2 x v→dO (C.back C2 H') x v:=fun x v hx hr=>by
  rcases mode with h|⟨h1,h2⟩
  ·exact(h x hx).rep hr
  ·exact hr.move (h1 x hx) (Nat.le_refl _) (fun b _ q2=>⟨rfl,fun h=>q2 (badJ h2 b h)⟩)
 have repJ:∀x x' v,Ren ok m x x'→dO C2 x v→dO (C.back C2 H') x' v:=by
  intro x x' v hs
  induction hs generalizing v with
  |same x hx=>exact atom x v hx
  |any x=>intro _;exact .any v
  | @view id k off len hk=>
   intro h
   match h with
   |.view _ _ _ _ h1 h2 h3=>
   refine .view _ _ _ _ ?_ (fun es' he=> ?_) h3
   ·show k<H'.next
    rw[hnext]
    rcases mS hk with⟨_,h5⟩|rfl
    ·have:=(gmem h5).1;omega
    ·omega
   ·obtain⟨s,_,⟨q1,q2,q3⟩|⟨i,es,q1,q2,_⟩⟩:=objJ he
    ·exfalso
     rcases mS hk with⟨_,h5⟩|h5
     ·exact q2 _ (o9 h5) rfl
     ·omega
    ·have hi:i=id:=by
      rcases mS hk with⟨_,h5⟩|h5 <;> rcases mS q1 with⟨_,h6⟩|h6
      ·exact(ginj h5 h6).symm
      ·have:=(gmem h5).1;omega
      ·have:=(gmem h6).1;omega
      ·omega
     subst hi
     rw[(plN q1 q2).1];exact h2 es (getO q2)
  | @ref id k i j hk=>
   intro h
   match h with
   |.ref _ _ _ _ h1 h2 h3=>
   refine .ref _ _ _ _ ?_ (fun es' he=> ?_) h3
   ·show k<H'.next
    rw[hnext]
    rcases mS hk with⟨_,h5⟩|rfl
    ·have:=(gmem h5).1;omega
    ·omega
   ·obtain⟨s,_,⟨q1,q2,q3⟩|⟨i',es,q1,q2,_⟩⟩:=objJ he
    ·exfalso
     rcases mS hk with⟨_,h5⟩|h5
     ·exact q2 _ (o9 h5) rfl
     ·omega
    ·have hi:i'=id:=by
      rcases mS hk with⟨_,h5⟩|h5 <;> rcases mS q1 with⟨_,h6⟩|h6
      ·exact(ginj h5 h6).symm
      ·have:=(gmem h5).1;omega
      ·have:=(gmem h6).1;omega
      ·omega
     subst hi
     rw[(plN q1 q2).1];exact h2 es (getO q2)
  |agg cs cs' hl _ ih=>
   intro h
   match h with
   |.agg _ vs h1 h2 h3=>
   refine .agg cs' vs (h1.trans hl) h2 (fun k x' hx'=> ?_)
   have hk:k<cs.length:=by rw[hl];exact(List.getElem?_eq_some_iff.1 hx').1
   exact ih k cs[k] x' (List.getElem?_eq_getElem hk) hx' _ (h3 k _ (List.getElem?_eq_getElem hk))
  |tuple cs cs' hl _ ih=>
   intro h
   match h with
   |.tuple _ vs h1 h3=>
   refine .tuple cs' vs (h1.trans hl) (fun k x' hx'=> ?_)
   have hk:k<cs.length:=by rw[hl];exact(List.getElem?_eq_some_iff.1 hx').1
   exact ih k cs[k] x' (List.getElem?_eq_getElem hk) hx' _ (h3 k _ (List.getElem?_eq_getElem hk))
  |bX fn cs cs' hl _ ih=>
   intro h
   match h with
   |.bX _ _ vs h1 h3=>
   refine .bX fn cs' vs (h1.trans hl) (fun k x' hx'=> ?_)
   have hk:k<cs.length:=by rw[hl];exact(List.getElem?_eq_some_iff.1 hx').1
   exact ih k cs[k] x' (List.getElem?_eq_getElem hk) hx' _ (h3 k _ (List.getElem?_eq_getElem hk))
  |ifc t x x' _ ih=>
   intro h
   match h with
   |.ifc _ _ v h1=>exact .ifc t x' v (ih v h1)
 refine⟨ext, ?_,repJ⟩
 have newBlk:∀{i s:Nat} {es:List AV} {k0:Nat} {yd:List AV},lk C2.H.ef i=some (s,es)→(C2.pl i).nil=false→C.H.get k0=some yd→(C.pl k0).nil=false→(∀q∈g,q.2≠k0)→(C2.pl i).gN≠(C.pl k0).gN:=fun{i s es k0 yd} h1 h2 h3 h4 h5 he=>by
  have hlt:=hI.lt h3 h4
  refine keptFree h3 h4 h5 (aht hlt ?_)
  exact .inl ⟨i,es,getO h1,h2,he⟩
 exact{
  fresh:=fun k es' h=>by
   show k<H'.next
   rw[hnext]
   obtain⟨s,_,⟨q1,q2,q3⟩|⟨i,es,q1,q2,_⟩⟩:=objJ h
   ·omega
   ·rcases mS q1 with⟨_,h5⟩|rfl
    ·have:=(gmem h5).1;omega
    ·have:=Ec.fresh i es (getO q2);omega
  nil:=fun k es' h hn=>by
   obtain⟨s,_,⟨q1,q2,q3⟩|⟨i,es,q1,q2,q3⟩⟩:=objJ h
   ·rw[plO q3] at hn;exact hI.nil k es' (getO q1) hn
   ·rw[(plN q1 q2).1] at hn
    have:=Ec.nil i es (getO q2) hn
    subst this
    exact List.eq_nil_of_length_eq_zero q3.len.symm
  obj:=fun k es' h hn=>by
   obtain⟨s,_,⟨q1,q2,q3⟩|⟨i,es,q1,q2,q3⟩⟩:=objJ h
   ·rw[plO q3] at hn ⊢
    exact(hI.obj k es' (getO q1) hn).ext ext (keep _ (hI.lt (getO q1) hn) (keptFree (getO q1) hn q2))
   ·rw[(plN q1 q2).1] at hn ⊢
    have hO:=Ec.obj i es (getO q2) hn
    have bk:∀{q:Nat} {e':AV},es'[q]? =some e'→∃e,es[q]? =some e∧e.flat.length=e'.flat.length∧∀(j:Nat) (x x':AV),e.flat[j]? =some x→e'.flat[j]? =some x'→Ren ok m x x':=fun{q e'} hq=>by
     have hk:q<es.length:=by rw[q3.len];exact(List.getElem?_eq_some_iff.1 hq).1
     exact⟨es[q],List.getElem?_eq_getElem hk,q3.see q _ e' (List.getElem?_eq_getElem hk) hq⟩
    refine⟨hO.n.trans q3.len,hO.cap,hO.gN,hO.one,fun q e' he'=> ?_,fun q j e' x' v he' hx' hv=> ?_⟩
    ·obtain⟨e,h1,h2,_⟩:=bk he'
     rw[←h2];exact hO.flat q e h1
    ·obtain⟨e,h1,h2,h3⟩:=bk he'
     have hj:j<e.flat.length:=by rw[h2];exact(List.getElem?_eq_some_iff.1 hx').1
     exact repJ _ _ _ (h3 j _ x' (List.getElem?_eq_getElem hj) hx') (hO.cell q j e _ v h1 (List.getElem?_eq_getElem hj) hv)
  sep:=fun k1 k2 e1 e2 h1 h2 n1 n2 hb=>by
   obtain⟨s1,_,⟨a1,a2,a3⟩|⟨i1,es1,a1,a2,_⟩⟩:=objJ h1 <;> obtain⟨s2,_,⟨b1,b2,b3⟩|⟨i2,Us,b1,b2,_⟩⟩:=objJ h2
   ·rw[plO a3] at n1 hb;rw[plO b3] at n2 hb
    exact hI.sep k1 k2 e1 e2 (getO a1) (getO b1) n1 n2 hb
   ·rw[plO a3] at n1 hb;rw[(plN b1 b2).1] at n2 hb
    exact absurd hb.symm (newBlk b2 n2 (getO a1) n1 a2)
   ·rw[(plN a1 a2).1] at n1 hb;rw[plO b3] at n2 hb
    exact absurd hb (newBlk a2 n1 (getO b1) n2 b2)
   ·rw[(plN a1 a2).1] at n1 hb;rw[(plN b1 b2).1] at n2 hb
    have:=Ec.sep i1 i2 es1 Us (getO a2) (getO b2) n1 n2 hb
    subst this
    rw[a1] at b1;exact Option.some.inj b1
  dm:=fun k es' h hn hb=>by
   obtain⟨s,_,⟨q1,q2,q3⟩|⟨i,es,q1,q2,q3⟩⟩:=objJ h
   ·rw[plO q3] at hn hb;exact hI.dm k es' (getO q1) hn hb
   ·rw[(plN q1 q2).1] at hn hb
    exact Ec.dm i es (getO q2) hn (by rw[hpr];exact .inl hb)
  oM:=fun k s h hn=>by
   obtain⟨⟨s',es'⟩,h1,h2⟩:=Option.map_eq_some_iff.1 h
   simp only at h2;subst h2
   rcases hback.spec h1 with⟨q1,q2⟩|⟨i,es,q1,q2,_⟩
   ·have q3:=hI.fresh k es' (getO q1)
    rw[plO q3] at hn ⊢;exact hI.oM k _ (by simp[aX.sz,q1]) hn
   ·rw[(plN q1 q2).1] at hn ⊢;exact Ec.oM i _ (by simp[aX.sz,q2]) hn
  eE:=fun b hb=>Nat.lt_of_lt_of_le (hI.eE b hb) hs
  eZ:=hI.eZ
  size:=by have:=Ec.size;rw[hB] at this;exact this
  iK:=fun b hb=>⟨by have:=(Ec.iK b (by rw[hB];exact hb)).1;rw[hB] at this;exact this,fun ho=>by
   rcases ownJ b ho with h|h
   ·exact(hI.iK b hb).2 h
   ·exact(Ec.iK b (by rw[hB];exact hb)).2 h⟩
  e8:=fun l r h=>by
   rcases hlps l r h with h|⟨h,h'⟩
   ·exact Ec.e8 l r h
   ·have h1:=hI.e8 l r h
    rw[←h1]
    refine keep l (Array.getElem?_eq_some_iff.1 h1).1 ?_
    rintro(h2|⟨r',h2⟩|h2)
    ·obtain⟨n,k,es,_,q2,q3,q4⟩:=passed h2
     obtain⟨arr,el,hc⟩:=cellHeap q2 q3
     rw[q4,h1] at hc;cases hc
    ·have h2':lk Hin.e8 l=some r':=h2
     rw[hlp,h'] at h2';cases h2'
    ·simp[Ctx.re,Ctx.pX] at h2
  mI:=fun d h=>by
   have h1:=hI.mI d h
   rw[←h1]
   refine keep d (Array.getElem?_eq_some_iff.1 h1).1 ?_
   rintro(h2|⟨r',h2⟩|h2)
   ·obtain⟨n,k,es,_,q2,q3,q4⟩:=passed h2
    obtain⟨arr,el,hc⟩:=cellHeap q2 q3
    rw[q4,h1] at hc;cases hc
   ·have q1:=hI.e8 d r' (hp.e8 d r' (by rw[←hlp];exact h2))
    rw[h1] at q1;cases q1
   ·simp[Ctx.re,Ctx.pX] at h2
  y7:=hI.y7
  zM:=hI.zM
  fD:=fun b h hb=>by
   rcases h with⟨r,h⟩|h
   ·rcases hlps b r h with h|⟨h,_⟩
    ·exact Ec.fD b (.inl ⟨r,h⟩) (by rw[hpr];exact .inl hb)
    ·exact hI.fD b (.inl ⟨r,h⟩) hb
   ·exact hI.fD b (.inr h) hb
  pP:=hI.pP
  fZ:=Nat.le_trans hI.fZ ext.next
  gh:=W0.st C _ ext.mem hI.fZ hI.gh}

theorem Inv.Xm{B1:dU}{p:Nat}(hI:Inv (.of W0.w) C)(hB:B1.w=W0.w)(hp:B1.p=p)(hle:p≤C.H.next)(hd:C.mI=[])(hG:B1.G {C with tn:=p}):Inv B1 {C with tn:=p} where
 fresh:=hI.fresh
 nil:=hI.nil
 obj id es h hn:=by
  have hO:=hI.obj id es h hn
  exact⟨hO.n,hO.cap,hO.gN,hO.one,hO.flat,fun i j e x v h1 h2 h3=>(hO.cell i j e x v h1 h2 h3).sub rfl (Nat.le_refl _) (fun id es _ h=>⟨es,h⟩) (fun _ _=>rfl) (fun b h=>h)⟩
 sep:=hI.sep
 dm:=hI.dm
 oM:=hI.oM
 eE:=hI.eE
 eZ b h:=by rw[hB];exact hI.eZ b h
 size:=by rw[hB];exact hI.size
 iK b h:=by rw[hB] at h ⊢;exact hI.iK b h
 e8:=hI.e8
 mI:=hI.mI
 y7:=hI.y7
 zM _ _:=hd
 fD:=hI.fD
 pP:=hp.symm
 fZ:=hle
 gh:=hG

def Kg(H:aX):List (Nat×(Nat×List AV))→Prop
 |[]=>True
 |(k,v)::r=>lk H.ef k=some v∧Kg H r
theorem Kg.spec{H:aX}:∀{l:List (Nat×(Nat×List AV))},Kg H l→∀k v,lk l k=some v→lk H.ef k=some v
 |[],_,_,_,h=>by cases h
 |(q,u)::l,hl,k,v,h=>by
  simp only[lk] at h
  split at h
  ·rename_i hq;subst hq;cases h;exact hl.1
  ·exact Kg.spec hl.2 k v h

structure Pass (ok:AV→Prop) (fr fr':List (Nat×AV)) (H Hs Hin Hout H':aX) (g m:List (Nat×Nat)) (nw:List Nat) (p:Nat) (r r':AV):Prop where
 next:Hs.next=H.next
 part:Kg H Hs.ef
 inj:g.all (fun p=>g.all (fun q=>p.2 !=q.2||p.1==q.1))=true
 lt:g.all (fun p=>decide (p.1<Hin.next))=true
 EZ:nw.all (fun n=>(lk g n).isNone&&decide (n<Hin.next))=true
 Hz:g.all (fun q=>(lk Hs.ef q.2).isSome)=true
 held:rZ Hs g nw Hin.next Hin.ef
 seen:Seen Hs g nw fr fr'
 qJ:Hin.e8=Hs.e8
 E6:decide (p≤Hin.next)=true
 map:Xc p H.next g m=true
 next':H'.next=H.next+Hout.next
 back:Ep ok H g m Hout H'.ef
 e8:(Hs.e8=[]∧H'.e8=H.e8)∨(Hs.e8=H.e8∧H'.e8=Hout.e8)
 mode:(∀x,ok x→BP x)∨((∀x,ok x→dn x)∧H.ef.all (fun e=>g.any (fun q=>q.2==e.1)||(lk Hs.ef e.1).isNone)=true)
 HK:Ren ok m r r'

def Ctx.sub(C:Ctx)(Hs Hin:aX)(g:List (Nat×Nat))(p:Nat):Ctx:={(C.pX Hs).re g Hin with tn:=p}

theorem Pass.Gs{ok:AV→Prop}{fr fr':List (Nat×AV)}{H Hs Hin Hout H':aX}{g m:List (Nat×Nat)}{nw:List Nat}{p:Nat}{r r':AV}(h:Pass ok fr fr' H Hs Hin Hout H' g m nw p r r'):Part Hs H:=
 ⟨h.next,h.part.spec,fun l r hl=>by
  rcases h.e8 with⟨h1,_⟩|⟨h1,_⟩
  ·rw[h1] at hl;cases hl
  ·rw[h1] at hl;exact hl⟩

theorem Pass.ag_{ok:AV→Prop}{fr fr':List (Nat×AV)}{H Hs Hin Hout H':aX}{g m:List (Nat×Nat)}{nw:List Nat}{p:Nat}{r r':AV}{n:Nat}{vals:Array Value}(h:Pass ok fr fr' H Hs Hin Hout H' g m nw p r r')
  (hI:Inv W0 C)(hH:C.H=H)(hsz:vals.size=n)(hrep:∀t x,lk fr t=some x→dO C x (vals.getD t undef)):
  Rel (.of W0.w) n (lk fr') Hin ((C.pX Hs).re g Hin) {tmps:=vals,defers:=[]}:=by
 have hp:=h.Gs
 rw[←hH] at hp
 have LA:Rel (.of W0.w) n (lk fr) Hs (C.pX Hs) {tmps:=vals,defers:=[]}:=⟨rfl,hI.pX hp,hsz,rfl,fun t x hx=>(hrep t x hx).pX hp⟩
 exact(JU (st:=⟨fr,Hs⟩) g nw h.inj h.lt h.EZ h.held h.seen (by simp[AJ]) h.qJ LA).2

theorem JV{x:AV}{v:Value}{p:Nat}(h:dO C x v):dO {C with tn:=p} x v:=
 h.sub rfl (Nat.le_refl _) (fun id es _ h=>⟨es,h⟩) (fun _ _=>rfl) (fun b h=>h)

theorem Pass.Xe{ok:AV→Prop}{fr fr':List (Nat×AV)}{H Hs Hin Hout H':aX}{g m:List (Nat×Nat)}{nw:List Nat}{p:Nat}{r r':AV}{B1:dU}{C2:Ctx}(h:Pass ok fr fr' H Hs Hin Hout H' g m nw p r r')
  (hI:Inv W0 C)(hH:C.H=H)(hB:B1.w=W0.w)(hM:Mem (C.sub Hs Hin g p) C2)(Ec:Inv B1 C2)(Q3:C2.H=Hout)(hd2:C2.mI=[]):
  Ext C (C.back C2 H')∧Inv W0 (C.back C2 H')∧∀v,dO C2 r v→dO (C.back C2 H') r' v:=by
 have hp:=h.Gs
 subst hH Q3
 obtain⟨h1,h2,h3⟩:=VG (ok:=ok) (H':=H') (m:=m) (nw:=nw) hI hp hB h.held (fun n hn=>by
   have:=List.all_eq_true.1 h.EZ n hn
   simp at this;exact this.1) h.inj (fun q hq=>List.all_eq_true.1 h.Hz q hq) h.qJ hM (of_decide_eq_true h.E6) Ec hd2 h.map h.next' h.back (fun l r hl=>by
   rcases h.e8 with⟨q1,q2⟩|⟨q1,q2⟩
   ·rw[q2] at hl;exact .inr ⟨hl,by rw[q1];rfl⟩
   ·rw[q2] at hl;exact .inl hl) (h.mode.imp id fun⟨q1,q2⟩=>⟨q1,fun k v hk hq=>by
   have:=List.all_eq_true.1 q2 _ (o9 hk)
   simp only[Bool.or_eq_true,List.any_eq_true,beq_iff_eq,Option.isNone_iff_eq_none] at this
   rcases this with⟨q,hq1,hq2⟩|h
   ·exact absurd hq2 (hq q hq1)
   ·exact h⟩)
 exact⟨h1,h2,fun v hv=>h3 r r' v h.HK hv⟩

theorem call3{ok:AV→Prop}{f:FuncId}{ys xs:List AV}{r r':AV}{Hs Hin Hout H':aX}{g m:List (Nat×Nat)}{nw:List Nat}{p:Nat}{B1:dU}{vals:Array Value}(hf:Dp P B1 f xs Hin r Hout)(hB:B1.w=W0.w)(hBp:B1.p=p)
  (h:Pass ok (cO 0 ys) (cO 0 xs) H Hs Hin Hout H' g m nw p r r')(hl:xs.length=ys.length)(hI:Inv W0 C)(hH:C.H=H)(hsz:vals.size=ys.length)(hrep:∀t x,lk (cO 0 ys) t=some x→dO C x (vals.getD t undef))
  (hG:B1.G (C.sub Hs Hin g p)):
  Calls P f vals C.w (fun e w'=>∃v C',e=.returned v∧C'.w=w'∧Ext C C'∧Inv W0 C'∧C'.H=H'∧dO C' r' v):=by
 have h1:=h.ag_ hI hH hsz hrep
 have h2:Inv B1 (C.sub Hs Hin g p):=h1.inv.Xm (W0:=W0) hB hBp (of_decide_eq_true h.E6) rfl hG
 refine(hf.runs (C.sub Hs Hin g p) vals h2 rfl rfl (by rw[hl];exact hsz) (fun k x hx=>JV (AM h1 k x hx))).mono ?_
 rintro e w' ⟨v,C2,rfl,rfl,hM,Ec,Q3,hd2,hr⟩
 obtain⟨q1,q2,q3⟩:=h.Xe hI hH hB hM Ec Q3 hd2
 exact⟨v,C.back C2 H',rfl,rfl,q1,q2,rfl,q3 v hr⟩

end
end Go.Av
end

section
/- Ranges over functions: the statement, its rounds, and the calls of yield. -/
namespace Go.Av

def pe:Code→List (Array Tmp×Code×Code)
 |.seq a b=>pe a++pe b
 |.cond _ a b=>pe a++pe b
 |.block _ c=>pe c
 |.loop c=>pe c
 |.scope c=>pe c
 |.rangeFunc _ ps a b=>(ps,a,b)::(pe a++pe b)
 |_=>[]

structure y6 (rec:Loop) (fn:Func) (k N:Nat):Prop where
 ready:rec.state=.ready
 none:rec.pending=none
 code:(fn.body.bind fun c=>(pe c)[k]?)=some (rec.params,rec.assign,rec.body)
 size:rec.tmps.size=N

def ju(rec:Loop)(j:Code):Bool→Loop
 |true=>rec
 |false=>{rec with state:=.done,pending:=some j}

def Ja(rec:Loop):Option Code→Loop
 |none=>rec
 |some c=>ju rec c false

theorem y6.params{rec:Loop}{fn:Func}{k N:Nat}{ps:Array Tmp}{xW bd:Code}(h:y6 rec fn k N)(hc:(fn.body.bind fun c=>(pe c)[k]?)=some (ps,xW,bd)):rec.params=ps:=by
 have:=h.code
 rw[hc] at this
 simp only[Option.some.injEq,Prod.mk.injEq] at this
 exact this.1.symm

theorem y6.Ja{rec:Loop}{fn:Func}{k N:Nat}(h:y6 rec fn k N)(j:Option Code):({rec with state:=if j.isNone then .ready else .done,pending:=j}:Loop)=Ja rec j:=by
 have h1:=h.ready
 have h2:=h.none
 cases rec
 simp only at h1 h2
 subst h1 h2
 cases j <;> rfl

def dU.it(W:World)(p:Nat)(rec:Loop)(frl:List (Nat×AV)):dU where
 w:=W
 p:=p
 ro:=none
 G C:=C.tn=p∧∀t x,lk frl t=some x→mw p x∧dO C x (rec.tmps.getD t undef)
 st C C' hM hp h:=⟨hM.tn.trans h.1,fun t x hx=>⟨(h.2 t x hx).1,(h.2 t x hx).2.mem hM hp (by rw[h.1];exact(h.2 t x hx).1)⟩⟩
 dx:=[]

def dU.rd(W:World)(p:Nat)(l:Nat):dU:=⟨W,p,some l,fun _=>True,fun _ _ _ _ _=>trivial,[]⟩

section
variable {P:Program} {W0:dU} {C:Ctx} {fr:Fr} {a:Act} {H:aX} {o:Oper} {N:Nat}

theorem ahF{C':Ctx}(hI:Inv W0 C){b:Nat}(hb:C.sp b){ob:Obj}(hw:C'.w=C.w.putObj b ob)(hobjs:C'.H.ef=C.H.ef)(hnext:C'.H.next=C.H.next)(hpl:C'.pl=C.pl)(hprot:C'.dm=C.dm)(hpin:C'.tn=C.tn)
  (hsp:∀b,C'.sp b→C.sp b)(hlps:∀l r,lk C'.H.e8 l=some r→C'.w.heap[l]? =some (.loop r))(hdfs:∀d,d∈C'.mI→C'.w.heap[d]? =some (.deferred (some [])))(hdnd:C'.mI.Nodup)(hrod:∀l,W0.ro=some l→C'.mI=[]):
  Mem C C'∧Inv W0 C'∧∀x v,dO C x v→dO C' x v:=by
 obtain⟨ob0,hd,hnc⟩:=hI.JY hb
 have hsz:C'.w.heap.size=C.w.heap.size:=by rw[hw];simp
 have hne:∀q,q≠b→C'.w.heap[q]? =C.w.heap[q]? :=fun q hq=>by rw[hw];exact World.putObj_heap_other hq
 have hcell:∀{q:Nat} {arr:Array Value} {el:TypeId} {fz:Nat×Nat},C.w.heap[q]? =some (.cells arr el fz)→q≠b:=fun{q arr el fz} h hq=>by
  subst hq;rw[hd] at h;exact hnc _ _ _ (Option.some.inj h)
 have hget:∀id,C'.H.get id=C.H.get id:=fun id=>by simp[aX.get,hobjs]
 have hown:∀q,C'.own q→C.own q:=by
  rintro q (⟨id,es,h1,h2,h3⟩|h)
  ·exact .inl ⟨id,es,by rw[←hget];exact h1,by rw[←hpl];exact h2,by rw[←hpl];exact h3⟩
  ·exact .inr (hsp q h)
 have hbad:∀q,C'.bad q→C.bad q:=fun q h=>h.imp (hown q) (fun h=>by rw[←hprot];exact h)
 have hM:Mem C C':=⟨by rw[hw];exact⟨rfl,rfl,rfl,by simp,fun k hk=>absurd hk (Nat.not_lt_zero k)⟩,fun q _ hq=>hne q (fun h=>hq (.inr (h▸hb))),fun q _ h=>hown q h,hprot,hpin,fun hp=>⟨by rw[hpin,hnext];exact hp,fun k es' _ hg=>⟨⟨es',by rw[←hget];exact hg⟩,by rw[hpl]⟩⟩⟩
 have hholds:∀{q i:Nat} {v:Value},Holds C.w q i v→Holds C'.w q i v:=fun{q i v} h=>by
  refine⟨?_,h.2⟩
  have hq:q≠b:=fun hq=>by
   subst hq
   have:=h.1
   unfold World.cell? at this
   rw[hd] at this
   cases ob0 <;> first|exact hnc _ _ _ rfl|(simp at this)
  rw[World.cell?_of_block (w:=C.w) (a:=⟨q,i,none⟩) (hne q hq)]
  exact h.1
 have hrep:∀x v,dO C x v→dO C' x v:=by
  intro x v h
  induction h with
  |any v=>exact .any v
  |imm v hv=>exact .imm v hv
  |slNil a cap=>exact .slNil a cap
  |sl es q off sz cap c hlt hbd hc hf hcell _ ih=>exact .sl es q off sz cap c (by rw[hsz];exact hlt) (fun h=>hbd (hbad q h)) hc hf (fun i j e x he hx=>hholds (hcell i j e x he hx)) ih
  |clipNil a=>exact .clipNil a
  |clip es q off sz c hlt hbd hf hcell _ ih=>exact .clip es q off sz c (by rw[hsz];exact hlt) (fun h=>hbd (hbad q h)) hf (fun i j e x he hx=>hholds (hcell i j e x he hx)) ih
  |view id off len v hid hs h1=>exact .view id off len v (by rw[hnext];exact hid) (fun es he=>by rw[hpl];exact hs es (by rw[←hget];exact he)) h1
  |ref id i j v hid hs h1=>exact .ref id i j v (by rw[hnext];exact hid) (fun es he=>by rw[hpl];exact hs es (by rw[←hget];exact he)) h1
  |pp fl j q off c hlt hbd hcell _ ih=>exact .pp fl j q off c (by rw[hsz];exact hlt) (fun h=>hbd (hbad q h)) (fun k x hx=>hholds (hcell k x hx)) ih
  |agg cs vs hs h1 _ ih=>exact .agg cs vs hs h1 ih
  |tuple cs vs hs _ ih=>exact .tuple cs vs hs ih
  |ifc t x v _ ih=>exact .ifc t x v ih
  |bX fn caps vs hs _ ih=>exact .bX fn caps vs hs ih
 refine⟨hM, ?_,hrep⟩
 exact{
  fresh:=fun id es h=>by rw[hnext];exact hI.fresh id es (by rw[←hget];exact h)
  nil:=fun id es h hn=>hI.nil id es (by rw[←hget];exact h) (by rw[←hpl];exact hn)
  obj:=fun id es h hn=>by
   rw[hget] at h;rw[hpl] at hn ⊢
   have hO:=hI.obj id es h hn
   obtain⟨arr,el,h1,h2⟩:=hO.gN
   have hq:=hcell h1
   have hc:∀o,C'.w.cell? ⟨(C.pl id).gN,o,none⟩=C.w.cell? ⟨(C.pl id).gN,o,none⟩:=fun o=>World.cell?_of_block (w:=C.w) (a:=⟨_,o,none⟩) (hne _ hq)
   exact⟨hO.n,hO.cap,⟨arr,el,by rw[←h1];exact hne _ hq,h2⟩,fun o v hv=>hO.one o v (by rw[←hc o];exact hv),hO.flat,fun i j e x v h1 h2 h3=>hrep _ _ (hO.cell i j e x v h1 h2 (by rw[←hc];exact h3))⟩
  sep:=fun i1 i2 e1 e2 h1 h2 h3 h4 h5=>hI.sep i1 i2 e1 e2 (by rw[←hget];exact h1) (by rw[←hget];exact h2) (by rw[←hpl];exact h3) (by rw[←hpl];exact h4) (by rw[←hpl];exact h5)
  dm:=fun id es h hn hp=>hI.dm id es (by rw[←hget];exact h) (by rw[←hpl];exact hn) (by rw[hprot,hpl] at hp;exact hp)
  oM:=fun id s h hn=>by
   rw[hpl] at hn ⊢
   exact hI.oM id s (by simpa [aX.sz,hobjs] using h) hn
  eE:=fun q h=>by rw[hsz];exact hI.eE q (by rw[←hprot];exact h)
  eZ:=fun q h=>hI.eZ q (by rw[←hprot];exact h)
  size:=by rw[hsz];exact hI.size
  iK:=fun q h=>⟨by
   rw[←(hI.iK q h).1]
   exact hne q (fun hq=>(hI.iK q h).2 (.inr (hq▸hb))),fun ho=>(hI.iK q h).2 (hown q ho)⟩
  e8:=hlps
  mI:=hdfs
  y7:=hdnd
  zM:=hrod
  fD:=fun q h hp=>hI.fD q (hsp q h) (by rw[←hprot];exact hp)
  pP:=by rw[hpin];exact hI.pP
  fZ:=by rw[hpin,hnext];exact hI.fZ
  gh:=W0.st C C' hM hI.fZ hI.gh}

def Ctx.HP(C:Ctx)(l:Nat)(r:Loop):Ctx:={C with w:=C.w.putObj l (.loop r),H:={C.H with e8:=[(l,r)]}}

theorem IA(hI:Inv W0 C){l:Nat}{r0:Loop}(r:Loop)(hl:C.H.e8=[(l,r0)]):Mem C (C.HP l r)∧Inv W0 (C.HP l r)∧∀x v,dO C x v→dO (C.HP l r) x v:=by
 have h0:C.w.heap[l]? =some (.loop r0):=hI.e8 l r0 (by rw[hl];simp[lk])
 have hlt:l<C.w.heap.size:=(Array.getElem?_eq_some_iff.1 h0).1
 refine ahF (C':=C.HP l r) hI (b:=l) (.inl ⟨r0,by rw[hl];simp[lk]⟩) (ob:=.loop r) rfl rfl rfl rfl rfl rfl (fun b h=> ?_) (fun l' r' h=> ?_) (fun d h=> ?_) hI.y7 hI.zM
 ·rcases h with⟨r',h⟩|h
  ·simp only[Ctx.HP,lk] at h
   split at h
   ·rename_i hb;subst hb;exact .inl ⟨r0,by rw[hl];simp[lk]⟩
   ·cases h
  ·exact .inr h
 ·simp only[Ctx.HP,lk] at h
  split at h
  ·rename_i hb;subst hb;cases h;exact World.putObj_heap_same hlt
  ·cases h
 ·have h1:=hI.mI d h
  rw[←h1]
  refine World.putObj_heap_other (fun hd=> ?_)
  rw[hd,h0] at h1;cases h1


def IP(P:Program)(W:World)(p:Nat)(l:Nat)(rec:Loop)(frl:List (Nat×AV))(xs:List AV)(Hin:aX)(b:Bool)(Hout:aX):Prop:=
 ∀(C:Ctx) (vals:Array Value),Inv (.rd W p l) C→C.H=Hin→vals.size=xs.length→(∀(k:Nat) (x:AV),xs[k]? =some x→dO C x (vals.getD k undef))→
  (∀t x,lk frl t=some x→dO C x (rec.tmps.getD t undef))→
  RoundIn Fence.wide 0 P l rec.fn ((rec.params.zip vals).foldl (fun tmps (t,a)=>tmps.setIfInBounds t a) rec.tmps) rec.assign rec.body C.w
   (fun e w'=>∃C',e=.returned (.bool b)∧C'.w=w'∧Mem C C'∧Inv (.rd W p l) C'∧C'.H=Hout)

def Cl:Exit→Option (Option Code)
 |.normal=>some none
 |.ret=>some (some .ret)
 |.exit id=>some (some (.exit id))
 |.goto t=>some (some (.goto t))
 |_=>none

theorem FK(l:List (Nat×Value))(tm:Array Value):(l.foldl (fun tmps (t,a)=>tmps.setIfInBounds t a) tm).size=tm.size:=by
 induction l generalizing tm with
 |nil=>rfl
 |cons p l ih=>simp[ih]

theorem Hy(l:List (Nat×Value))(tm:Array Value)(t:Nat):
  (∃(k:Nat) (v:Value),l[k]? =some (t,v)∧(l.foldl (fun tmps (t,a)=>tmps.setIfInBounds t a) tm).getD t undef=(if t<tm.size then v else undef))∨
  ((∀q∈l,q.1≠t)∧(l.foldl (fun tmps (t,a)=>tmps.setIfInBounds t a) tm).getD t undef=tm.getD t undef):=by
 induction l generalizing tm with
 |nil=>exact .inr ⟨fun q h=>(by cases h),rfl⟩
 |cons p l ih=>
  obtain⟨s,u⟩:=p
  rcases ih (tm.setIfInBounds s u) with⟨k,v,h1,h2⟩|⟨h1,h2⟩
  ·left
   refine⟨k+1,v,by simpa using h1, ?_⟩
   simp only[List.foldl_cons]
   rw[h2];simp
  ·by_cases hs:s=t
   ·subst hs
    left
    refine⟨0,u,rfl, ?_⟩
    simp only[List.foldl_cons]
    rw[h2]
    by_cases hlt:s<tm.size
    ·simp[hlt,Array.getD]
    ·simp[hlt,Array.getD]
   ·right
    refine⟨fun q hq=> ?_, ?_⟩
    ·rcases List.mem_cons.1 hq with rfl|hq
     ·exact hs
     ·exact h1 q hq
    ·simp only[List.foldl_cons]
     rw[h2]
     simp only[Array.getD_eq_getD_getElem?]
     rw[Array.getElem?_setIfInBounds_ne hs]

def JW(ps:List Nat)(xs:List AV)(frl:List (Nat×AV)):List (Nat×AV):=ps.zip xs++frl

theorem BY{W:World}{p l N k:Nat}{rec:Loop}{fn:Func}{frl:List (Nat×AV)}{xs:List AV}{Hin Hout:aX}{b:Bool}{ps:Array Tmp}{xW bd:Code}(hrec:y6 rec fn k N)(hcode:(fn.body.bind fun c=>(pe c)[k]?)=some (ps,xW,bd))
  (hlp:Hin.e8=[(l,rec)])(hxs:xs.length=ps.size)(hN:ps.toList.all (fun t=>decide (t<N))=true)(hnd:ps.toList.Nodup)
  (h:aZ P (.rd W p l) N xW ⟨JW ps.toList xs frl,Hin⟩ (fun e s=>e=.normal∧s.H.e8=[(l,rec)]∧
   aZ P (.rd W p l) N bd ⟨s.fr,{s.H with e8:=[(l,{rec with state:=.busy})]}⟩ (fun e s=>s.H.e8=[(l,{rec with state:=.busy})]∧∃j,Cl e=some j∧b=j.isNone∧
    an (.rd W p l) 0 ⟨[],{s.H with e8:=[(l,Ja rec j)]}⟩ ⟨[],Hout⟩))):
  IP P W p l rec frl xs Hin b Hout:=by
 intro C vals hI hH hsz hrep hrl
 have hc:=hrec.code
 rw[hcode] at hc
 simp only[Option.some.injEq,Prod.mk.injEq] at hc
 obtain⟨rfl,rfl,rfl⟩:=hc
 have hzip:∀(i:Nat) (t:Nat) (v:Value),(rec.params.zip vals).toList[i]? =some (t,v)→rec.params.toList[i]? =some t∧vals.toList[i]? =some v:=fun i t v h=>by
  rw[Array.toList_zip,List.getElem?_zip_eq_some] at h
  exact h
 have hfold:(rec.params.zip vals).foldl (fun tmps (t,a)=>tmps.setIfInBounds t a) rec.tmps=(rec.params.zip vals).toList.foldl (fun tmps (t,a)=>tmps.setIfInBounds t a) rec.tmps:=by
  rw[←Array.foldl_toList]
 have hsize:((rec.params.zip vals).foldl (fun tmps (t,a)=>tmps.setIfInBounds t a) rec.tmps).size=N:=by
  rw[hfold,FK,hrec.size]
 have hrel:Rel (.rd W p l) N (lk (JW rec.params.toList xs frl)) Hin C {tmps:=(rec.params.zip vals).foldl (fun tmps (t,a)=>tmps.setIfInBounds t a) rec.tmps,defers:=[]}:=by
  refine⟨hH,hI,hsize,by have:=hI.zM l rfl;simp[this,dU.rd],fun t x hx=> ?_⟩
  show dO C x (((rec.params.zip vals).foldl (fun tmps (t,a)=>tmps.setIfInBounds t a) rec.tmps).getD t undef)
  rw[hfold]
  simp only[JW] at hx
  rw[tQ] at hx
  rcases Hy (rec.params.zip vals).toList rec.tmps t with⟨i,v,h1,h2⟩|⟨h1,h2⟩
  ·rw[h2]
   obtain⟨q1,q2⟩:=hzip i t v h1
   have htN:t<rec.tmps.size:=by
    rw[hrec.size]
    have:=List.all_eq_true.1 hN t (List.mem_of_getElem? q1)
    simpa using this
   rw[if_pos htN]
   have hix:i<xs.length:=by rw[hxs];simpa using (List.getElem?_eq_some_iff.1 q1).1
   have hz:lk (rec.params.toList.zip xs) t=some xs[i]:=by
    have key:∀(ps:List Nat) (xs:List AV) (i:Nat) (x:AV),ps.Nodup→ps[i]? =some t→xs[i]? =some x→lk (ps.zip xs) t=some x:=by
     intro ps
     induction ps with
     |nil=>intro xs i x _ h;simp at h
     |cons q ps ih=>
      intro xs i x hn hq hy
      cases xs with
      |nil=>simp at hy
      |cons y ys=>
       cases i with
       |zero=>simp at hq hy;subst hy;rw[hq];simp[lk]
       |succ i=>
        simp at hq hy
        have hne:q≠t:=fun he=>(List.nodup_cons.1 hn).1 (he▸List.mem_of_getElem? hq)
        simp only[List.zip_cons_cons,lk]
        rw[if_neg hne]
        exact ih ys i x (List.nodup_cons.1 hn).2 hq hy
    exact key _ _ i _ hnd q1 (List.getElem?_eq_getElem hix)
   rw[hz] at hx
   simp only[Option.some.injEq] at hx
   subst hx
   have:=hrep i xs[i] (List.getElem?_eq_getElem hix)
   have hv:vals.getD i undef=v:=by
    have:vals[i]? =some v:=by simpa using q2
    simp[Array.getD_eq_getD_getElem?,this]
   rwa [hv] at this
  ·rw[h2]
   have hz:lk (rec.params.toList.zip xs) t=none:=by
    have key:∀(ps:List Nat) (xs:List AV),(∀q∈ps,q≠t)→lk (ps.zip xs) t=none:=by
     intro ps
     induction ps with
     |nil=>intro xs _;rfl
     |cons q ps ih=>
      intro xs hq
      cases xs with
      |nil=>rfl
      |cons y ys=>
       simp only[List.zip_cons_cons,lk]
       rw[if_neg (hq q (List.mem_cons_self ..))]
       exact ih ys (fun r hr=>hq r (List.mem_cons_of_mem _ hr))
    refine key _ _ (fun q hq=> ?_)
    obtain⟨i,hi⟩:=List.getElem?_of_mem hq
    have hil:i<vals.toList.length:=by
     have:=(List.getElem?_eq_some_iff.1 hi).1
     simp at this ⊢;omega
    have hm:(q,vals.toList[i])∈(rec.params.zip vals).toList:=by
     rw[Array.toList_zip]
     refine List.mem_of_getElem? (i:=i) ?_
     rw[List.getElem?_zip_eq_some]
     exact⟨hi,List.getElem?_eq_getElem hil⟩
    exact h1 _ hm
   rw[hz] at hx
   exact hrl t x hx
 refine roundIn_of_wpIn trivial (wpIn_mono (h C _ hrel) fun e a1 w1 ⟨s,C1,g1,g2,g3,g4⟩=> ?_)
 obtain⟨rfl,hs1,hbody⟩:=g4
 subst g1
 have hl1:C1.w.heap[l]? =some (.loop rec):=g3.inv.e8 l rec (by rw[g3.heap,hs1];simp[lk])
 obtain⟨m1,i1,r1⟩:=IA g3.inv {rec with state:=.busy} (by rw[g3.heap];exact hs1)
 refine⟨C1.w.putObj l (.loop {rec with state:=.busy}),run_beginRound hl1 hrec.ready, ?_⟩
 have aff:Rel (.rd W p l) N (lk s.fr) {s.H with e8:=[(l,{rec with state:=.busy})]} (C1.HP l {rec with state:=.busy}) a1:=
  ⟨by simp only[Ctx.HP,g3.heap],i1,g3.size,g3.defers,fun t x hx=>r1 _ _ (g3.rep t x hx)⟩
 refine wpIn_mono (hbody _ _ aff) fun e a2 w2 ⟨s2,C2,q1,q2,q3,q4,j,q5,q6,q7⟩=> ?_
 subst q1
 have UF:C2.w.heap[l]? =some (.loop {rec with state:=.busy}):=q3.inv.e8 l _ (by rw[q3.heap,q4];simp[lk])
 rw[←hrec.Ja] at q7
 obtain⟨m2,i2,r2⟩:=IA q3.inv {rec with state:=if j.isNone then .ready else .done,pending:=j} (by rw[q3.heap];exact q4)
 have fin:∃v w',(Instr.endRound l j).run P C2.w=.ok v w'∧∃C',Ending.returned v=.returned (.bool b)∧C'.w=w'∧Mem C C'∧Inv (.rd W p l) C'∧C'.H=Hout:=by
  obtain⟨C3,p1,p2,p3⟩:=q7 (C2.HP l {rec with state:=if j.isNone then .ready else .done,pending:=j}) {tmps:= #[],defers:=[]} ⟨by simp only[Ctx.HP,q3.heap],i2,rfl,by rw[i2.zM l rfl];rfl,fun t x hx=>by simp[lk] at hx⟩
  refine⟨_,_,run_endRound j UF,C3,by rw[q6], ?_,g2.trans (m1.trans (q2.trans (m2.trans p2))),p3.inv,p3.heap⟩
  rw[p1]
  rfl
 cases e with
 |normal=>simp only[Cl,Option.some.injEq] at q5;subst q5;exact fin
 |ret=>simp only[Cl,Option.some.injEq] at q5;subst q5;exact fin
 |exit id=>simp only[Cl,Option.some.injEq] at q5;subst q5;exact fin
 |goto t=>simp only[Cl,Option.some.injEq] at q5;subst q5;exact fin
 |panic c=>simp[Cl] at q5
 |outgrown=>simp[Cl] at q5

theorem VB{Hs Ht:aX}{g:List (Nat×Nat)}{nw:List Nat}{x x':AV}(ho:Hs.ef=Ht.ef)(h:vn Hs g nw x x'):vn Ht g nw x x':=by
 have hget:∀id,Hs.get id=Ht.get id:=fun id=>by simp[aX.get,ho]
 induction h with
 |same x h=>exact .same x h
 |any x=>exact .any x
 |view h=>exact .view h
 |viewL h h2=>exact .viewL h h2
 |ref h=>exact .ref h
 |nil h=>exact .nil h
 |lend h1 h2 h3 h4=>exact .lend (by rw[←hget];exact h1) h2 h3 h4
 |agg cs cs' hl _ ih=>exact .agg cs cs' hl ih
 |tuple cs cs' hl _ ih=>exact .tuple cs cs' hl ih
 |bX fn cs cs' hl _ ih=>exact .bX fn cs cs' hl ih
 |ifc t x x' _ ih=>exact .ifc t x x' ih
 |wide es h=>exact .wide es h
 |nilsl=>exact .nilsl
 |frz h1 h2 h3 h4 h5=>exact .frz (by rw[←hget];exact h1) h2 h3 h4 h5
theorem IF{Hs Ht:aX}{g:List (Nat×Nat)}{nw:List Nat}{fr:List (Nat×AV)}(ho:Hs.ef=Ht.ef):∀{l:List (Nat×AV)},Seen Hs g nw fr l→Seen Ht g nw fr l
 |[],_=>trivial
 |_::_,⟨⟨x,h1,h2⟩,h3⟩=>⟨⟨x,h1,VB ho h2⟩,IF ho h3⟩
theorem TC{Hs:aX}{g:List (Nat×Nat)}{nw:List Nat}{fr:List (Nat×AV)}{l:List (Nat×AV)}{ll:List (Nat×Loop)}(h:Seen {Hs with e8:=[]} g nw fr l):Seen {Hs with e8:=ll} g nw fr l:=IF (Hs:={Hs with e8:=[]}) (Ht:={Hs with e8:=ll}) rfl h


theorem pH{ok:AV→Prop}{args:Array Operand}{tys:Array TypeId}{f:Operand}{ys xs:List AV}{Hs Hin Hout H':aX}{g m:List (Nat×Nat)}{nw:List Nat}{p l k N:Nat}{rec:Loop}{fn:Func}{b:Bool}{frl:List (Nat×AV)}{W:World}
  (ho:o.op=.call {callee:=.value f,args:=args,argTypes:=tys})(hf:bA fr f=some (.bX (.yield l) []))(hys:args.toList.mapM (bA fr)=some ys)
  (hround:IP P W p l rec frl xs Hin b Hout)(hrec:y6 rec fn k N)(hlp:Hs.e8=[(l,rec)])(hps:rec.params.size=ys.length)
  (h:Pass ok (cO 0 ys) (cO 0 xs) H Hs Hin Hout H' g m nw p (.imm (.bool b)) (.imm (.bool b)))(hl:xs.length=ys.length)(hg:(List.range p).all (fun k=>lk g k==some k)=true)(hnp:(List.range p).all (fun k=> !nw.contains k)=true):
  Xy P (.it W p rec frl) o fr H (.imm (.bool b)) H':=by
 intro C a hI hH hop K Q hK
 have hopy:∀y∈args.toList,vm C fr a y:=fun y hy=>hop y (by rw[ho];simp[Op.operands,Call.operands];exact .inr (by simpa using hy))
 have LA:=CA hopy hys
 have h1:=h.ag_ hI hH LA.1 LA.2
 have h2:Inv (.rd W p l) (C.sub Hs Hin g p):=h1.inv.Xm (W0:=.it W p rec frl) rfl rfl (of_decide_eq_true h.E6) rfl trivial
 have hfv:a.eval f=.func (.yield l) #[] #[]:=by
  have hmem:f∈o.op.operands:=by rw[ho];simp[Op.operands,Call.operands]
  have:=b6 (hop f hmem) hf
  generalize a.eval f=v at this
  cases this with
  |bX _ _ vs hs _=>
   have:vs= #[]:=Array.eq_empty_of_size_eq_zero (by simpa using hs)
   rw[this]
 have hlr:C.w.heap[l]? =some (.loop rec):=hI.e8 l rec (by
  have:=h.Gs.e8 l rec (by rw[hlp];simp[lk])
  rw[hH];exact this)
 have hyr:=run_yield (P:=P) (args:=args.map a.eval) hlr (by rw[LA.1];exact hps.symm)
 have hrun:(execOp a.eval o).run P C.w=.ok (.round l rec.fn ((rec.params.zip (args.map a.eval)).foldl (fun tmps (t,a)=>tmps.setIfInBounds t a) rec.tmps) rec.assign rec.body) C.w:=by
  simp only[execOp,ho,resolve,hfv,Deferred.ofValue]
  simpa [invoke] using hyr
 -- what the rounds' frame holds, as the callee sees it
 have hfrl:∀t x,lk frl t=some x→dO (C.sub Hs Hin g p) x (rec.tmps.getD t undef):=fun t x hx=>by
  obtain⟨hu,hr⟩:=hI.gh.2 t x hx
  have hp:=h.Gs
  rw[←hH] at hp
  have hle:p≤Hin.next:=of_decide_eq_true h.E6
  have key:∀x v,mw p x→dO C x v→dO (C.sub Hs Hin g p) x v:=by
   intro x v hu hr
   have hbad:∀b,(C.sub Hs Hin g p).bad b→C.bad b:=fun b hb=>by
    have T_:((C.pX Hs).re g Hin).bad b:=hb
    rcases T_ with T_|T_
    ·refine .inl ?_
     rcases T_ with⟨n,es',q1,q2,q3⟩|⟨r,q⟩|q
     ·obtain⟨⟨s,e⟩,q4,q5⟩:=Option.map_eq_some_iff.1 (show(lk Hin.ef n).map (·.2)=some es' from q1)
      rcases(h.held.spec q4).1 with⟨old,es,w1,w2,_⟩|⟨w,_⟩
      ·have hpl:((C.pX Hs).re g Hin).pl n=C.pl old:=by simp[Ctx.re,Ctx.pX,w1]
       rw[hpl] at q2 q3
       refine .inl ⟨old,es, ?_,q2,q3⟩
       have:=hp.ef old _ w2
       simp[aX.get,this]
      ·have hno:lk g n=none:=by
        have:=List.all_eq_true.1 h.EZ n w
        simp at this;exact this.1
       have hpl:((C.pX Hs).re g Hin).pl n=⟨0,0,0,0,true⟩:=by simp[Ctx.re,hno]
       rw[hpl] at q2;cases q2
     ·exact .inr (.inl ⟨r,hp.e8 b r (by rw[←h.qJ];exact q)⟩)
     ·simp[Ctx.re,Ctx.pX] at q
    ·rcases T_ with T_|T_
     ·exact .inr T_
     ·exact .inl T_.1
   have hids:∀id,id<p→∀es',Hin.get id=some es'→∃es,C.H.get id=some es∧(C.sub Hs Hin g p).pl id=C.pl id:=fun id hid es' hes=>by
    obtain⟨⟨s,e⟩,q4,q5⟩:=Option.map_eq_some_iff.1 (show(lk Hin.ef id).map (·.2)=some es' from hes)
    have hgi:lk g id=some id:=by
     have:=List.all_eq_true.1 hg id (List.mem_range.2 hid)
     simpa using this
    rcases(h.held.spec q4).1 with⟨old,es,w1,w2,_⟩|⟨w,_⟩
    ·rw[hgi] at w1;cases w1
     have:=hp.ef id _ w2
     exact⟨es,by simp[aX.get,this],by simp[Ctx.sub,Ctx.re,Ctx.pX,hgi]⟩
    ·have:=List.all_eq_true.1 hnp id (List.mem_range.2 hid)
     simp at this;exact absurd w this
   induction hr with
   |any v=>exact .any v
   |imm v hv=>exact .imm v hv
   |slNil a cap=>exact .slNil a cap
   |sl es b off sz cap c hlt hn hc hf hcell _ ih=>
    cases hu with
    |sl _ hu=>exact .sl es b off sz cap c hlt (fun h=>hn (hbad b h)) hc hf hcell (fun i j e x he hx=>ih i j e x he hx (hu e (List.mem_of_getElem? he) x (List.mem_of_getElem? hx)))
   |clipNil a=>exact .clipNil a
   |clip es b off sz c hlt hn hf hcell _ ih=>
    cases hu with
    |clip _ hu=>exact .clip es b off sz c hlt (fun h=>hn (hbad b h)) hf hcell (fun i j e x he hx=>ih i j e x he hx (hu e (List.mem_of_getElem? he) x (List.mem_of_getElem? hx)))
   |view id off len v hid hs h1=>
    cases hu with
    |view _ _ _ hu=>
    refine .view id off len v (Nat.lt_of_lt_of_le hu hle) (fun es he=> ?_) h1
    obtain⟨yd,q1,q2⟩:=hids id hu es he
    rw[q2];exact hs yd q1
   |ref id i j v hid hs h1=>
    cases hu with
    |ref _ _ _ hu=>
    refine .ref id i j v (Nat.lt_of_lt_of_le hu hle) (fun es he=> ?_) h1
    obtain⟨yd,q1,q2⟩:=hids id hu es he
    rw[q2];exact hs yd q1
   |pp fl j b off c hlt hn hcell _ ih=>
    cases hu with
    |pp _ _ hu=>exact .pp fl j b off c hlt (fun h=>hn (hbad b h)) hcell (fun k x hx=>ih k x hx (hu x (List.mem_of_getElem? hx)))
   |agg cs vs hs h1 _ ih=>cases hu with|agg _ hu=>exact .agg cs vs hs h1 (fun k x hx=>ih k x hx (hu x (List.mem_of_getElem? hx)))
   |tuple cs vs hs _ ih=>cases hu with|tuple _ hu=>exact .tuple cs vs hs (fun k x hx=>ih k x hx (hu x (List.mem_of_getElem? hx)))
   |ifc t x v _ ih=>cases hu with|ifc _ _ hu=>exact .ifc t x v (ih hu)
   |bX fn caps vs hs _ ih=>cases hu with|bX _ _ hu=>exact .bX fn caps vs hs (fun k x hx=>ih k x hx (hu x (List.mem_of_getElem? hx)))
  exact key x _ hu hr
 refine⟨fun _ _=>trivial, ?_⟩
 show o.uponIn Fence.wide 0 P a K Q ((execOp a.eval o).run P C.w)
 rw[hrun]
 refine⟨fun hd=>by simp[Fence.wide] at hd, ?_⟩
 refine(hround (C.sub Hs Hin g p) (args.map a.eval) h2 rfl (by rw[hl];exact LA.1) (fun k x hx=>JV (AM h1 k x hx)) hfrl).mono ?_
 rintro e w' ⟨C2,rfl,rfl,hM,Ec,Q3⟩
 obtain⟨q1,q2,q3⟩:=h.Xe (W0:=.it W p rec frl) (B1:=.rd W p l) hI hH rfl hM Ec Q3 (Ec.zM l rfl)
 exact hK _ (C.back C2 H') q1 q2 rfl (q3 _ (.imm _ rfl))


def Ctx.lay(C:Ctx)(r:Loop):Ctx:=
 {C with w:=(C.w.alloc (.deferred (some []))).alloc (.loop r),H:={C.H with e8:=[(C.w.heap.size+1,r)]},mI:=C.w.heap.size::C.mI}

theorem O0(hI:Inv W0 C)(r:Loop)(hl:C.H.e8=[])(hro:W0.ro=none):Mem C (C.lay r)∧Inv W0 (C.lay r)∧∀x v,dO C x v→dO (C.lay r) x v:=by
 have hB:RowKit.Below C.w.heap.size C.w (C.lay r).w:=((RowKit.Below.refl _ _).alloc (Nat.le_refl _) _).alloc (by simp) _
 have e1:Ext C (C.xE (C.lay r).w):=lP hB
 have i1:=hI.xE hB
 have hs:(C.lay r).w.heap.size=C.w.heap.size+2:=by show((C.w.alloc _).alloc _).heap.size=_;rw[vo,vo]
 have h0:(C.lay r).w.heap[C.w.heap.size]? =some (.deferred (some [])):=by
  show((C.w.alloc (.deferred (some []))).heap.push _)[C.w.heap.size]? =_
  rw[Array.getElem?_push_lt (by rw[vo];exact Nat.lt_succ_self _)]
  exact(Array.getElem?_eq_getElem _).symm.trans (tB C.w _)
 have h1:(C.lay r).w.heap[C.w.heap.size+1]? =some (.loop r):=by
  have:=tB (C.w.alloc (.deferred (some []))) (.loop r)
  rw[vo] at this
  exact this
 have hsp:∀b,(C.lay r).sp b→C.sp b∨C.w.heap.size≤b:=by
  rintro b (⟨r',h⟩|h)
  ·simp only[Ctx.lay,lk] at h
   split at h
   ·rename_i hb;right;omega
   ·cases h
  ·rcases List.mem_cons.1 h with h|h
   ·right;omega
   ·exact .inl (.inr h)
 have hown:∀b,(C.lay r).own b→C.own b∨C.w.heap.size≤b:=by
  rintro b (h|h)
  ·exact .inl (.inl h)
  ·exact(hsp b h).imp .inr id
 have hbadl:∀b,b<C.w.heap.size→(C.lay r).bad b→C.bad b:=fun b hb h=>by
  rcases h with h|h
  ·rcases hown b h with h|h
   ·exact .inl h
   ·omega
  ·exact .inr h
 have hM:Mem C (C.lay r):=⟨⟨rfl,rfl,rfl,by rw[hs];omega,fun k hk=>absurd hk (Nat.not_lt_zero k)⟩,fun b hb hn=>hB.block b hb,fun b hb h=>by
  rcases hown b h with h|h
  ·exact h
  ·omega,rfl,rfl,fun hp=>⟨hp,fun k es' _ hg=>⟨⟨es',hg⟩,rfl⟩⟩⟩
 have hholds:∀{b i:Nat} {v:Value},b<C.w.heap.size→Holds C.w b i v→Holds (C.lay r).w b i v:=fun{b i v} hb h=>by
  refine⟨?_,h.2⟩
  rw[World.cell?_of_block (w:=C.w) (a:=⟨b,i,none⟩) (hB.block b hb)]
  exact h.1
 have hrep:∀x v,dO C x v→dO (C.lay r) x v:=by
  intro x v h
  induction h with
  |any v=>exact .any v
  |imm v hv=>exact .imm v hv
  |slNil a cap=>exact .slNil a cap
  |sl es b off sz cap c hlt hbd hc hf hcell _ ih=>exact .sl es b off sz cap c (by rw[hs];omega) (fun h=>hbd (hbadl b hlt h)) hc hf (fun i j e x he hx=>hholds hlt (hcell i j e x he hx)) ih
  |clipNil a=>exact .clipNil a
  |clip es b off sz c hlt hbd hf hcell _ ih=>exact .clip es b off sz c (by rw[hs];omega) (fun h=>hbd (hbadl b hlt h)) hf (fun i j e x he hx=>hholds hlt (hcell i j e x he hx)) ih
  |view id off len v hid hs' h1=>exact .view id off len v hid hs' h1
  |ref id i j v hid hs' h1=>exact .ref id i j v hid hs' h1
  |pp fl j b off c hlt hbd hcell _ ih=>exact .pp fl j b off c (by rw[hs];omega) (fun h=>hbd (hbadl b hlt h)) (fun k x hx=>hholds hlt (hcell k x hx)) ih
  |agg cs vs hs' h1 _ ih=>exact .agg cs vs hs' h1 ih
  |tuple cs vs hs' _ ih=>exact .tuple cs vs hs' ih
  |ifc t x v _ ih=>exact .ifc t x v ih
  |bX fn caps vs hs' _ ih=>exact .bX fn caps vs hs' ih
 refine⟨hM, ?_,hrep⟩
 exact{
  fresh:=hI.fresh
  nil:=hI.nil
  obj:=fun id es h hn=>by
   have hO:=hI.obj id es h hn
   have hlt:=hI.lt h hn
   obtain⟨arr,el,q1,q2⟩:=hO.gN
   have hc:∀o,(C.lay r).w.cell? ⟨(C.pl id).gN,o,none⟩=C.w.cell? ⟨(C.pl id).gN,o,none⟩:=fun o=>World.cell?_of_block (w:=C.w) (a:=⟨_,o,none⟩) (hB.block _ hlt)
   exact⟨hO.n,hO.cap,⟨arr,el,by rw[←q1];exact hB.block _ hlt,q2⟩,fun o v hv=>hO.one o v (by rw[←hc o];exact hv),hO.flat,fun i j e x v h1 h2 h3=>hrep _ _ (hO.cell i j e x v h1 h2 (by rw[←hc];exact h3))⟩
  sep:=hI.sep
  dm:=hI.dm
  oM:=hI.oM
  eE:=fun b h=>Nat.lt_of_lt_of_le (hI.eE b h) hB.size
  eZ:=hI.eZ
  size:=Nat.le_trans hI.size hB.size
  iK:=fun b h=>⟨by rw[←(hI.iK b h).1];exact hB.block b (Nat.lt_of_lt_of_le h hI.size),fun ho=>by
   rcases hown b ho with h'|h'
   ·exact(hI.iK b h).2 h'
   ·have:=hI.size;omega⟩
  e8:=fun l r' h=>by
   simp only[Ctx.lay,lk] at h
   split at h
   ·rename_i hb;cases h;rw[←hb];exact h1
   ·cases h
  mI:=fun d h=>by
   rcases List.mem_cons.1 h with h|h
   ·rw[h];exact h0
   ·have h2:=hI.mI d h
    rw[←h2];exact hB.block d (Array.getElem?_eq_some_iff.1 h2).1
  y7:=List.nodup_cons.2 ⟨fun h=>by
   have h2:=hI.mI _ h
   have:=(Array.getElem?_eq_some_iff.1 h2).1
   omega,hI.y7⟩
  zM:=fun l h=>by rw[hro] at h;cases h
  fD:=fun b h hp=>by
   rcases hsp b h with h|h
   ·exact hI.fD b h hp
   ·have:=hI.eE b hp;omega
  pP:=hI.pP
  fZ:=hI.fZ
  gh:=W0.st C _ hM hI.fZ hI.gh}

theorem H6{ok:AV→Prop}{Q:Exit→St→Prop}{g0:Operand}{ps:Array Tmp}{xW bd j:Code}{frl fr:List (Nat×AV)}{H:aX}{fi:FuncId}{fn:Func}{caps xs:List AV}{k p:Nat}{r:AV}{b:Bool}{Hs Hin Hout H':aX}{g m:List (Nat×Nat)}{nw:List Nat}
  (hro:W0.ro=none)(hcode:(fn.body.bind fun c=>(pe c)[k]?)=some (ps,xW,bd))(hg:bA (lk fr) g0=some (.bX (.func fi) caps))(hc:oR P fi)(hHl:H.e8=[])(hul:∀t x,lk frl t=some x→mw p x)
  (hseen:Seen {Hs with e8:=[]} g nw fr frl)
  (hit:∀(l:Nat) (rec:Loop),y6 rec fn k N→Dp P (.it W0.w p rec frl) fi (.bX (.yield l) []::xs) {Hin with e8:=[(l,rec)]} r {Hout with e8:=[(l,ju rec j b)]})
  (hpass:∀(l:Nat) (rec:Loop),Pass ok (cO 0 (.bX (.yield l) []::caps)) (cO 0 (.bX (.yield l) []::xs)) {H with e8:=[(l,rec)]} {Hs with e8:=[(l,rec)]} {Hin with e8:=[(l,rec)]} {Hout with e8:=[(l,ju rec j b)]} {H' with e8:=[(l,ju rec j b)]} g m nw p r .any)
  (hl:xs.length=caps.length)(hnext:b=true→Q .normal ⟨fr,{H' with e8:=[]}⟩)(hjump:b=false→aZ P W0 N j ⟨fr,{H' with e8:=[]}⟩ Q):
  aZ P W0 N (.rangeFunc g0 ps xW bd) ⟨fr,H⟩ Q:=fun C a hr=>by
 rw[hro,EU]
 refine wpIn_rangeFunc fun fnid _=> ?_
 -- the record
 let rc:Loop:={state:=.ready,pending:=none,fn:=fnid,tmps:=a.tmps,params:=ps,assign:=xW,body:=bd,defers:=C.w.heap.size}
 have hrec:y6 rc fn k N:=⟨rfl,rfl,hcode,hr.size⟩
 obtain⟨m1,i1,r1⟩:=O0 hr.inv rc (by rw[hr.heap];exact hHl) hro
 have hgv:=b6 (C:=C) (a:=a) (fun q _ av hav=>hr.rep q av hav) hg
 obtain⟨vs,hvs,hsz,hcap⟩:∃vs:Array Value,a.eval g0=.func (.func fi) #[] vs∧vs.size=caps.length∧∀(k:Nat) (x:AV),caps[k]? =some x→dO C x (vs.getD k undef):=by
  generalize a.eval g0=u at hgv
  match hgv with
  |.bX _ _ vs h1 h2=>exact⟨vs,rfl,h1,h2⟩
 refine⟨C.w.heap.size+1,[{target:=.collected C.w.heap.size,args:= #[]}],(C.lay rc).w,{target:=.fn (.func fi) vs,args:= #[.func (.yield (C.w.heap.size+1)) #[] #[]]},(C.lay rc).w,fi, #[.func (.yield (C.w.heap.size+1)) #[] #[]]++vs,(C.lay rc).w,run_enterLoop_outer fnid a.tmps ps xW bd, ?_,fun _ _=>trivial, ?_,fun h=>by simp[Fence.wide] at h, ?_⟩
 ·show(resolve a.eval (rangeCall g0 (C.w.heap.size+1)) 0).run P (C.lay rc).w=.ok {target:=.fn (.func fi) vs,args:= #[.func (.yield (C.w.heap.size+1)) #[] #[]]} (C.lay rc).w
  have e1:(#[Operand.const (.func (.yield (C.w.heap.size+1)) #[] #[])].map a.eval)= #[.func (.yield (C.w.heap.size+1)) #[] #[]]:=by simp[Act.eval]
  simp only[resolve,rangeCall,hvs,Deferred.ofValue,e1]
  rfl
 ·show(invoke (.fn (.func fi) vs) #[.func (.yield (C.w.heap.size+1)) #[] #[]]).run P (C.lay rc).w=_
  simpa [invoke] using hc (#[.func (.yield (C.w.heap.size+1)) #[] #[]]++vs) (C.lay rc).w
 ·refine callsIn_wide.2 ?_
  have hHL:(C.lay rc).H={H with e8:=[(C.w.heap.size+1,rc)]}:=by simp only[Ctx.lay,hr.heap]
  have hrep:∀t x,lk (cO 0 (.bX (.yield (C.w.heap.size+1)) []::caps)) t=some x→dO (C.lay rc) x ((#[Value.func (.yield (C.w.heap.size+1)) #[] #[]]++vs).getD t undef):=fun t x hx=>by
   obtain⟨_,h2⟩:=tR _ 0 t x hx
   rw[Nat.sub_zero] at h2
   cases t with
   |zero=>
    simp at h2;subst h2
    have:(#[Value.func (.yield (C.w.heap.size+1)) #[] #[]]++vs).getD 0 undef=.func (.yield (C.w.heap.size+1)) #[] #[]:=by
     rw[Array.getD_eq_getD_getElem?,Array.getElem?_append_left (by simp)];rfl
    rw[this]
    exact .bX _ [] #[] rfl (fun k x h=>by simp at h)
   |succ t=>
    simp at h2
    have hlt:t<vs.size:=by rw[hsz];exact(List.getElem?_eq_some_iff.1 h2).1
    have:(#[Value.func (.yield (C.w.heap.size+1)) #[] #[]]++vs).getD (t+1) undef=vs.getD t undef:=by
     simp only[Array.getD_eq_getD_getElem?]
     rw[Array.getElem?_append_right (by simp)]
     simp
    rw[this]
    exact r1 _ _ (hcap t x h2)
  have hps:=hpass (C.w.heap.size+1) rc
  have hpart:=hps.Gs
  rw[←hHL] at hpart
  have hG:(dU.it W0.w p rc frl).G ((C.lay rc).sub {Hs with e8:=[(C.w.heap.size+1,rc)]} {Hin with e8:=[(C.w.heap.size+1,rc)]} g p):=by
   refine⟨rfl,fun t x hx=>⟨hul t x hx, ?_⟩⟩
   have LA:Rel (.of W0.w) N (lk fr) {Hs with e8:=[(C.w.heap.size+1,rc)]} ((C.lay rc).pX {Hs with e8:=[(C.w.heap.size+1,rc)]}) {tmps:=a.tmps,defers:=[]}:=
    ⟨rfl,i1.pX hpart,hr.size,rfl,fun t x hx=>(r1 _ _ (hr.rep t x hx)).pX hpart⟩
   have hs2:Seen {Hs with e8:=[(C.w.heap.size+1,rc)]} g nw fr frl:=TC hseen
   exact JV ((JU (st:=⟨fr,{Hs with e8:=[(C.w.heap.size+1,rc)]}⟩) g nw hps.inj hps.lt hps.EZ hps.held hs2 (by simp[AJ]) rfl LA).2.rep t x hx)
  refine(call3 (W0:=W0) (C:=C.lay rc) (hit (C.w.heap.size+1) rc hrec) rfl rfl hps (by simp[hl]) i1 hHL (by simp[hsz];omega) hrep hG).mono ?_
  rintro e w' ⟨v,C2,rfl,rfl,hE,Ec,Q3,_⟩
  have UF:C2.w.heap[C.w.heap.size+1]? =some (.loop (ju rc j b)):=Ec.e8 _ _ (by rw[Q3];simp[lk])
  have hbusy:(ju rc j b).state≠.busy:=by cases b <;> simp[ju,rc]
  -- the record is of no more use
  let C3:Ctx:={C2 with w:=C2.w.putObj (C.w.heap.size+1) (.loop {ju rc j b with state:=.exhausted}),H:={C2.H with e8:=[]}}
  have ajW:C.w.heap.size+1<C2.w.heap.size:=(Array.getElem?_eq_some_iff.1 UF).1
  obtain⟨m3,i3,r3⟩:=ahF (C':=C3) Ec (b:=C.w.heap.size+1) (.inl ⟨_,by rw[Q3];simp[lk];rfl⟩) (ob:=.loop {ju rc j b with state:=.exhausted}) rfl rfl rfl rfl rfl rfl (fun b h=>by
    rcases h with⟨r',h⟩|h
    ·simp[C3,lk] at h
    ·exact .inr h) (fun l r' h=>by simp[C3,lk] at h) (fun d h=>by
    have h1:=Ec.mI d h
    rw[←h1]
    refine World.putObj_heap_other (fun hd=> ?_)
    rw[hd,UF] at h1;cases h1) Ec.y7 Ec.zM
  have W_:Rel W0 N (lk fr) {H' with e8:=[]} C3 {a with defers:=[{target:=.collected C.w.heap.size,args:= #[]}]++a.defers}:=by
   refine⟨by simp only[C3,Q3],i3,hr.size, ?_,fun t x hx=>r3 _ _ ((r1 _ _ (hr.rep t x hx)).ext hE)⟩
   show _=C2.mI.map _++_
   rw[hE.mI]
   show _=(C.w.heap.size::C.mI).map _++_
   rw[hr.defers];rfl
  have hMM:Mem C C3:=m1.trans (hE.mem.trans m3)
  refine⟨(ju rc j b).pending,C3.w,run_endLoop UF hbusy, ?_⟩
  cases b with
  |true=>exact⟨⟨fr,{H' with e8:=[]}⟩,C3,rfl,hMM,W_,hnext rfl⟩
  |false=>
   have:=(hjump rfl).at hMM W_
   rw[hro,EU] at this
   exact this

end

def Dr(p:Nat):List (Nat×AV)→Prop
 |[]=>True
 |(_,x)::r=>mw p x∧Dr p r
theorem Dr.spec{p:Nat}:∀{l:List (Nat×AV)},Dr p l→∀t x,lk l t=some x→mw p x
 |[],_,_,_,h=>by cases h
 |(q,u)::l,hl,t,x,h=>by
  simp only[lk] at h
  split at h
  ·rename_i hq;subst hq;cases h;exact hl.1
  ·exact Dr.spec hl.2 t x h
theorem mw.wm{p:Nat}{x:AV}(h:dn x):mw p x:=by
 have fl:∀(e x:AV),x∈e.flat→dn e→(∀y∈e.flat,dn y):=fun e x _ hn y hy=>by
  cases e <;> simp only[AV.flat,List.mem_singleton] at hy
  case agg cs=>simp only[xP] at hn;exact hn y hy
  all_goals (rw[hy];exact hn)
 have key:∀x:AV,dn x→mw p x∧∀y∈x.flat,mw p y:=by
  intro x h
  induction h with
  |any=>exact⟨.any,fun y hy=>by simp only[AV.flat,List.mem_singleton] at hy;rw[hy];exact .any⟩
  |imm v=>exact⟨.imm v,fun y hy=>by simp only[AV.flat,List.mem_singleton] at hy;rw[hy];exact .imm v⟩
  |sl es _ ih=>
   have:mw p (.sl es):=.sl es (fun e he x hx=>(ih e he).2 x hx)
   exact⟨this,fun y hy=>by simp only[AV.flat,List.mem_singleton] at hy;rw[hy];exact this⟩
  |clip es _ ih=>
   have:mw p (.clip es):=.clip es (fun e he x hx=>(ih e he).2 x hx)
   exact⟨this,fun y hy=>by simp only[AV.flat,List.mem_singleton] at hy;rw[hy];exact this⟩
  |pp fl j _ ih=>
   have:mw p (.pp fl j):=.pp fl j (fun e he=>(ih e he).1)
   exact⟨this,fun y hy=>by simp only[AV.flat,List.mem_singleton] at hy;rw[hy];exact this⟩
  |agg cs _ ih=>exact⟨.agg cs (fun e he=>(ih e he).1),fun y hy=>by simp only[AV.flat] at hy;exact(ih y hy).1⟩
  |tuple cs _ ih=>
   have:mw p (.tuple cs):=.tuple cs (fun e he=>(ih e he).1)
   exact⟨this,fun y hy=>by simp only[AV.flat,List.mem_singleton] at hy;rw[hy];exact this⟩
  |ifc t x _ ih=>
   have:mw p (.ifc t x):=.ifc t x ih.1
   exact⟨this,fun y hy=>by simp only[AV.flat,List.mem_singleton] at hy;rw[hy];exact this⟩
  |bX fn cs _ ih=>
   have:mw p (.bX fn cs):=.bX fn cs (fun e he=>(ih e he).1)
   exact⟨this,fun y hy=>by simp only[AV.flat,List.mem_singleton] at hy;rw[hy];exact this⟩
 exact(key x h).1
end Go.Av
end

section
/- Function values, methods behind interfaces, and loops gone through one by one. -/
namespace Go.Av

section
variable {P:Program} {W0:dU} {C:Ctx} {fr:Fr} {a:Act} {H:aX} {o:Oper} {N:Nat}

theorem Enters.bX{f:FuncId}{x:Operand}{args:Array Operand}{tys:Array TypeId}{ys caps:List AV}(ho:o.op=.call {callee:=.value x,args:=args,argTypes:=tys})(hx:bA fr x=some (.bX (.func f) caps))(hys:args.toList.mapM (bA fr)=some ys)(hc:oR P f):Enters P o fr f (ys++caps):=fun C a hop=>by
 have hopy:∀y∈args.toList,vm C fr a y:=fun y hy=>hop y (by rw[ho];simp[Op.operands,Call.operands];exact .inr (by simpa using hy))
 obtain⟨h1,h2⟩:=CA hopy hys
 have hv:=b6 (hop x (by rw[ho];simp[Op.operands,Call.operands])) hx
 obtain⟨vs,hvs,hsz,hcap⟩:∃vs:Array Value,a.eval x=.func (.func f) #[] vs∧vs.size=caps.length∧∀(k:Nat) (x:AV),caps[k]? =some x→dO C x (vs.getD k undef):=by
  generalize a.eval x=u at hv
  match hv with
  |.bX _ _ vs h1 h2=>exact⟨vs,rfl,h1,h2⟩
 refine⟨args.map a.eval++vs,fun w=> ?_,by simp[hsz] at h1 ⊢;omega,fun t z hz=> ?_⟩
 ·have:=hc (args.map a.eval++vs) w
  simp only[execOp,ho,resolve,hvs,Deferred.ofValue]
  simpa [invoke] using this
 ·obtain⟨_,h3⟩:=tR (ys++caps) 0 t z hz
  rw[Nat.sub_zero] at h3
  by_cases ht:t<ys.length
  ·rw[List.getElem?_append_left ht] at h3
   have:(args.map a.eval++vs).getD t undef=(args.map a.eval).getD t undef:=by
    rw[Array.getD_eq_getD_getElem?,Array.getElem?_append_left (by omega),←Array.getD_eq_getD_getElem?]
   rw[this]
   refine h2 t z ?_
   have key:∀(xs:List AV) (q k:Nat) (x:AV),xs[k]? =some x→lk (cO q xs) (q+k)=some x:=by
    intro xs
    induction xs with
    |nil=>intro q k x h;simp at h
    |cons y ys ih=>
     intro q k x hk
     cases k with
     |zero=>simp at hk;subst hk;simp[cO,lk]
     |succ k=>
      simp at hk
      simp only[cO,lk]
      rw[if_neg (by omega)]
      have:=ih (q+1) k x hk
      rwa [show q+1+k=q+(k+1) by omega] at this
   have:=key ys 0 t z h3
   rwa [Nat.zero_add] at this
  ·rw[List.getElem?_append_right (by omega)] at h3
   have:(args.map a.eval++vs).getD t undef=vs.getD (t - ys.length) undef:=by
    rw[Array.getD_eq_getD_getElem?,Array.getElem?_append_right (by omega),h1,←Array.getD_eq_getD_getElem?]
   rw[this]
   exact hcap _ z h3

theorem Enters.iface{f:FuncId}{x:Operand}{name:String}{t:TypeId}{args:Array Operand}{tys:Array TypeId}{z:AV}{ys:List AV}(ho:o.op=.call {callee:=.invoke x name,args:=args,argTypes:=tys})(hx:bA fr x=some (.ifc t z))(hys:args.toList.mapM (bA fr)=some ys)
  (hm:∀v w,(method (P.types.size+Made.depth) t v name).run P w=.ok (f,v) w)(hc:oR P f):Enters P o fr f (z::ys):=fun C a hop=>by
 have hopy:∀y∈args.toList,vm C fr a y:=fun y hy=>hop y (by rw[ho];simp[Op.operands,Call.operands];exact .inr (by simpa using hy))
 obtain⟨h1,h2⟩:=CA hopy hys
 have hv:=b6 (hop x (by rw[ho];simp[Op.operands,Call.operands])) hx
 obtain⟨v,hvs,hrep⟩:∃v:Value,a.eval x=.iface t v∧dO C z v:=by
  generalize a.eval x=u at hv
  match hv with
  |.ifc _ _ v h1=>exact⟨v,rfl,h1⟩
 refine⟨#[v]++args.map a.eval,fun w=> ?_,by simpa [Nat.add_comm] using h1,fun k y hk=> ?_⟩
 ·have h3:=hc (#[v]++args.map a.eval) w
  have h4:=hm v w
  have e1:(#[Value.iface t v]++args.map a.eval)[0]? =some (.iface t v):=by rw[Array.getElem?_append_left (by simp)];rfl
  have e3:(args.map a.eval).extract 0 args.size=args.map a.eval:=by
   have h5:args.size=(args.map a.eval).size:=by simp
   rw[h5,Array.extract_size]
  have e4:(#[Value.iface t v]++args.map a.eval).extract 1 (#[Value.iface t v]++args.map a.eval).size=args.map a.eval:=by
   simp[e3]
  have h5:(invoke (.fn (.method name) #[]) (#[.iface t v]++args.map a.eval)).run P w=.ok (.enter f (#[v]++args.map a.eval)) w:=by
   simp only[invoke,e1,callMethod]
   rw[e4,Sem.run_bind]
   show(Result.andThen (.ok P w) _)=_
   simp only[Result.andThen_ok]
   rw[Sem.run_bind,h4]
   exact h3
  simp only[execOp,ho,resolve,hvs]
  rw[Sem.run_bind]
  exact h5
 ·obtain⟨_,h3⟩:=tR (z::ys) 0 k y hk
  rw[Nat.sub_zero] at h3
  cases k with
  |zero=>
   simp at h3;subst h3
   have:(#[v]++args.map a.eval).getD 0 undef=v:=by
    rw[Array.getD_eq_getD_getElem?,Array.getElem?_append_left (by simp)];rfl
   rw[this];exact hrep
  |succ k=>
   simp at h3
   have:(#[v]++args.map a.eval).getD (k+1) undef=(args.map a.eval).getD k undef:=by
    rw[Array.getD_eq_getD_getElem?,Array.getElem?_append_right (by simp),←Array.getD_eq_getD_getElem?];simp
   rw[this]
   refine h2 k y ?_
   have key:∀(xs:List AV) (q k:Nat) (x:AV),xs[k]? =some x→lk (cO q xs) (q+k)=some x:=by
    intro xs
    induction xs with
    |nil=>intro q k x h;simp at h
    |cons y ys ih=>
     intro q k x hk
     cases k with
     |zero=>simp at hk;subst hk;simp[cO,lk]
     |succ k=>
      simp at hk
      simp only[cO,lk]
      rw[if_neg (by omega)]
      have:=ih (q+1) k x hk
      rwa [show q+1+k=q+(k+1) by omega] at this
   have:=key ys 0 k y h3
   rwa [Nat.zero_add] at this

theorem pG{ok:AV→Prop}{f:FuncId}{ys xs:List AV}{r r':AV}{Hs Hin Hout H':aX}{g m:List (Nat×Nat)}{nw:List Nat}{p:Nat}(he:Enters P o fr f ys)
  (hf:Dp P (.pinned W0.w p) f xs Hin r Hout)(h:Pass ok (cO 0 ys) (cO 0 xs) H Hs Hin Hout H' g m nw p r r')(hl:xs.length=ys.length):gD P W0 o fr H r' H':=by
 intro C a hI hH hop K Q hK
 obtain⟨vals,hrun,h1,h2⟩:=he C a hop
 unfold Oper.wp
 rw[hrun,Oper.upon_enter]
 refine(call3 (W0:=W0) hf rfl rfl h hl hI hH h1 h2 trivial).mono ?_
 rintro e w' ⟨v,C',rfl,rfl,h1,h2,h3,h4⟩
 exact hK v C' h1 h2 h3 h4


def Ws(P:Program)(W0:dU)(N:Nat)(c:Code)(Q:Exit→St→Prop):Nat→St→Prop
 |0,_=>False
 |n+1,s=>aZ P W0 N c s (Er (Ws P W0 N c Q n) Q)

theorem IZ{c:Code}{st:St}{Q:Exit→St→Prop}(n:Nat)(h:Ws P W0 N c Q n st):aZ P W0 N (.loop c) st Q:=by
 classical
 refine Ko (fun s=>∃m,Ws P W0 N c Q m s) (fun s=>if h:∃m,Ws P W0 N c Q m s then Classical.choose (exists_least _ h) else 0) ⟨n,h⟩ ?_
 intro s hs
 have hm:(if h:∃m,Ws P W0 N c Q m s then Classical.choose (exists_least _ h) else 0)=Classical.choose (exists_least _ hs):=dif_pos hs
 rw[hm]
 have h1:=(Classical.choose_spec (exists_least _ hs)).1
 generalize Classical.choose (exists_least _ hs)=k at h1
 cases k with
 |zero=>exact h1.elim
 |succ k=>
  refine aZ.mono h1 fun e s1 h2=> ?_
  cases e with
  |normal=>
   have h3:∃m,Ws P W0 N c Q m s1:=⟨k,h2⟩
   refine⟨s1,an.refl _,h3, ?_⟩
   rw[dif_pos h3]
   exact Nat.lt_succ_of_le ((Classical.choose_spec (exists_least _ h3)).2 k h2)
  |_=>exact h2
end


section
variable {P:Program} {W0:dU} {fr:Fr} {H:aX} {o:Oper}
theorem Fh{x y:Operand}{tys:Array TypeId}{a b:Int}(ho:o.op=.call {callee:=.builtin .min,args:= #[x,y],argTypes:=tys})(hx:bA fr x=some (i64 a))(hy:bA fr y=some (i64 b)):gD P W0 o fr H (i64 (Sh.min a b)) H:=
 .iA fun C a' _ _ hop=>by
  have e1:=gM (v:=.int .i64 a) rfl (b6 (hop x (by simp[ho,Op.operands,Call.operands])) hx)
  have e2:=gM (v:=.int .i64 b) rfl (b6 (hop y (by simp[ho,Op.operands,Call.operands])) hy)
  refine⟨.int .i64 (Sh.min a b), ?_,.imm _ rfl⟩
  obtain⟨cs,hb⟩:=sK (P:=P) ho a'
  rw[hb]
  have e:(#[x,y].map a'.eval)= #[.int .i64 a,.int .i64 b]:=by simp[e1,e2]
  rw[e]
  simp[builtin,Builtin.min_,Builtin.min2,Sh.min]
theorem Fg{x y:Operand}{tys:Array TypeId}{a b:Int}(ho:o.op=.call {callee:=.builtin .max,args:= #[x,y],argTypes:=tys})(hx:bA fr x=some (i64 a))(hy:bA fr y=some (i64 b)):gD P W0 o fr H (i64 (Sh.max a b)) H:=
 .iA fun C a' _ _ hop=>by
  have e1:=gM (v:=.int .i64 a) rfl (b6 (hop x (by simp[ho,Op.operands,Call.operands])) hx)
  have e2:=gM (v:=.int .i64 b) rfl (b6 (hop y (by simp[ho,Op.operands,Call.operands])) hy)
  refine⟨.int .i64 (Sh.max a b), ?_,.imm _ rfl⟩
  obtain⟨cs,hb⟩:=sK (P:=P) ho a'
  rw[hb]
  have e:(#[x,y].map a'.eval)= #[.int .i64 a,.int .i64 b]:=by simp[e1,e2]
  rw[e]
  simp[builtin,Builtin.max_,Builtin.max2,Sh.max]
end
end Go.Av
namespace Go.Av
section
variable {H:aX} {g:List (Nat×Nat)} {nw:List Nat}
theorem vn.cl{fn:Fn}{cs cs':List AV}(h:B4 H g nw cs cs'):vn H g nw (.bX fn cs) (.bX fn cs'):=.bX fn cs cs' h.spec.1 h.spec.2
theorem vn.cx{id i j:Nat}{es fl:List AV}{e:AV}(h1:H.get id=some es)(h2:g.all (fun p=>p.2 !=id)=true)(h3:es[i]? =some e)(h4:e.flat=fl)(h5:∀x∈fl,dn x):vn H g nw (.ref id i j) (.pp fl j):=
 .frz h1 (fun p hp=>by have:=List.all_eq_true.1 h2 p hp;simpa using this) h3 h4 h5
end
end Go.Av
namespace Go.Av
theorem tZ{P:Program}{W0:dU}{N n:Nat}{c:Code}{Q:Exit→St→Prop}{s:St}(h:aZ P W0 N c s (Er (Ws P W0 N c Q n) Q)):Er (Ws P W0 N c Q (n+1)) Q .normal s:=h
end Go.Av
namespace Go.Av
theorem vn.sm{H:aX}{g:List (Nat×Nat)}{nw:List Nat}{x:AV}(h:dn x:=by simp):vn H g nw x x:=.same x h
theorem n6.sm{ok:AV→Prop}{n:Nat}{x:AV}(h:ok x:=by simp):n6 ok n x x:=.same x h
theorem Ren.sm{m:List (Nat×Nat)}{x:AV}(h:dn x:=by simp):Ren dn m x x:=.same x h
end Go.Av
namespace Go.Av
theorem dt{p:Prop} [Decidable p] (h:decide p=true:=by rfl):p:=of_decide_eq_true h
theorem an.e{W0:dU}{N:Nat}{st:St}{fr':List (Nat×AV)}{H':aX}(hfr:Seen st.H [] [] st.fr fr')(h0:H'.ef=[]:=by rfl)(hpo:AJ W0.p [] [] H'.next=true:=by rfl)(hlp:H'.e8=st.H.e8:=by rfl):an W0 N st ⟨fr',H'⟩:=
 an.re [] [] rfl rfl rfl (by rw[h0];trivial) hfr hpo hlp
end Go.Av
theorem Exists.k{H:Go.Av.aX}{g:List (Nat×Nat)}{nw:List Nat}{fr:List (Nat×Go.Av.AV)}{t:Nat}{y:Go.Av.AV}(h:Go.Av.lk fr t=some y:=by rfl)(hn:Go.Av.dn y:=by simp):∃x,Go.Av.lk fr t=some x∧Go.Av.vn H g nw x y:=⟨y,h,.same y hn⟩
end

section
/- Short forms of what walks say often. -/
namespace Go.Av
open Go.RowKit (Below)
section
variable {P:Program} {W0:dU} {N:Nat} {ops:Array Oper} {o:Oper} {rest:List Oper} {fr:List (Nat×AV)} {H:aX} {K:List (Nat×AV)→aX→Prop} {Q:Exit→St→Prop}

def mvA(ops:Array Oper)(fr:Nat→Option AV)(o:Oper):Option AV:=
 match lM ops fr o with
 |some true=>match o.op with
  |.move x=>bA fr x
  |.assign x=>bA fr x
  |.pick c x y=>match bA fr c with
   |some (.imm (.bool t))=>bA fr (if t then x else y)
   |_=>none
  |_=>none
 |_=>none
theorem LN{f:Nat→Option AV}{r:AV}(h:mvA ops f o=some r):lM ops f o=some true:=by
 unfold mvA at h
 split at h
 ·assumption
 ·cases h
theorem S2{f:Nat→Option AV}{r:AV}(h:mvA ops f o=some r)(H:aX):gD P W0 o f H r H:=by
 unfold mvA at h
 split at h
 ·split at h
  ·exact Fi (.inl (by assumption)) h
  ·exact Fi (.inr (by assumption)) h
  ·split at h
   ·exact Qn (by assumption) (by assumption) h
   ·cases h
  ·cases h
 ·cases h
theorem AR.m{r:AV}(h:mvA ops (lk fr) o=some r)(k:AR P W0 ops rest (tg fr o.dst r) H K):AR P W0 ops (o::rest) fr H K:=.op (LN h) (S2 h H) k
def fpA(ops:Array Oper)(fr:Nat→Option AV)(o:Oper):Option (TypeId×Nat×List AV×Nat):=
 match lM ops fr o with
 |some true=>match o.op with
  |.fieldAddr s x f=>match bA fr x with
   |some (.pp fl j)=>some (s,f,fl,j)
   |_=>none
  |_=>none
 |_=>none
theorem KH{f:Nat→Option AV}{r:TypeId×Nat×List AV×Nat}(h:fpA ops f o=some r):lM ops f o=some true:=by
 unfold fpA at h
 split at h
 ·assumption
 ·cases h
theorem QW{fv:Nat→Option AV}{s:TypeId}{f off n j:Nat}{g:Bool}{fl:List AV}(h:fpA ops fv o=some (s,f,fl,j))(h2:u7 P s f=some (off,n,g))(hn:0<n)(H:aX):gD P W0 o fv H (.pp fl (j+off)) H:=by
 unfold fpA at h
 split at h
 ·split at h
  ·split at h
   ·cases h;exact IS (by assumption) (by assumption) h2 hn
   ·cases h
  ·cases h
 ·cases h
theorem AR.f{s:TypeId}{f off n j:Nat}{g:Bool}{fl:List AV}(h:fpA ops (lk fr) o=some (s,f,fl,j))(h2:u7 P s f=some (off,n,g))(k:AR P W0 ops rest (tg fr o.dst (.pp fl (j+off))) H K)(hn:0<n:=by decide):AR P W0 ops (o::rest) fr H K:=.op (KH h) (QW h h2 hn H) k
theorem AR.l{t:TypeId}{x:Operand}{fl:List AV}{j n:Nat}{g:Bool}(r:AV)(hw:lM ops (lk fr) o=some true)(ho:o.op=.load t x)(hx:bA (lk fr) x=some (.pp fl j))(ht:vU P t=some (n,g))(hr:uv fl j n g=some r)(k:AR P W0 ops rest (tg fr o.dst r) H K):AR P W0 ops (o::rest) fr H K:=.op hw (zS ho hx ht hr) k
theorem AR.s(hw:lM ops (lk fr) o=some false)(k:AR P W0 ops rest (tg fr o.dst (.tuple [])) H K):AR P W0 ops (o::rest) fr H K:=.skip hw k
theorem AR.s2{o2:Oper}(hw:lM ops (lk fr) o=some false)(h2:lM ops (lk (tg fr o.dst (.tuple []))) o2=some false)(k:AR P W0 ops rest (tg (tg fr o.dst (.tuple [])) o2.dst (.tuple [])) H K):AR P W0 ops (o::o2::rest) fr H K:=.skip hw (.skip h2 k)
theorem AR.s3{o2 o3:Oper}(hw:lM ops (lk fr) o=some false)(h2:lM ops (lk (tg fr o.dst (.tuple []))) o2=some false)(h3:lM ops (lk (tg (tg fr o.dst (.tuple [])) o2.dst (.tuple []))) o3=some false)(k:AR P W0 ops rest (tg (tg (tg fr o.dst (.tuple [])) o2.dst (.tuple [])) o3.dst (.tuple [])) H K):AR P W0 ops (o::o2::o3::rest) fr H K:=.skip hw (.skip h2 (.skip h3 k))
theorem AR.kp(ts:List Nat){l:List Oper}{frx:List (Nat×AV)}(h:pick fr ts=some frx)(k:AR P W0 ops l frx H K):AR P W0 ops l fr H K:=.keep ts h k
theorem sr{id:Nat}{l:List Oper}{y:Code}(hN:l.all (s4 N)=true)(h:∀K:St→Prop,(∀s,aZ P W0 N y s Q→K s)→AR P W0 l.toArray l fr H (fun f g=>Er K Q .normal ⟨f,g⟩)):aZ P W0 N (.seq (.region id l.toArray false) y) ⟨fr,H⟩ Q:=aF fun K hK=>aR hN (h K hK)
theorem AR.k{K0:St→Prop}{y:Code}{fr':List (Nat×AV)}(hK:∀s,aZ P W0 N y s Q→K0 s)(ts:List Nat)(h:pick fr ts=some fr')(k:aZ P W0 N y ⟨fr',H⟩ Q):AR P W0 ops [] fr H (fun f g=>Er K0 Q .normal ⟨f,g⟩):=.nil (hK _ (aZ.aQ (an.kt ts h) k))
theorem tf(b:Bool):b=true∨b=false:=by cases b <;> simp
abbrev sm{α:Type}(f:α→AV)(l:List α):AV:=.sl (List.map f l)
end
section
variable {P:Program} {W0:dU} {ops:Array Oper} {fs:Flags} {stop:Option Nat} {k:Nat} {o:Oper} {rest:List Oper} {frl:List (Nat×AV)} {H:aX} {K:List (Nat×AV)→aX→Prop}
theorem aD.m{r:AV}(h:mvA ops (lk frl) o=some r)(h2:aD P W0 ops fs stop (k+1) rest (tg frl o.dst r) H K)(hs:(stop==some k)=false:=by rfl):aD P W0 ops fs stop k (o::rest) frl H K:=.dQ (LN h) (fun H'=>S2 h H') h2 hs
theorem aD.f{s:TypeId}{f off n j:Nat}{g:Bool}{fl:List AV}(h:fpA ops (lk frl) o=some (s,f,fl,j))(hd:u7 P s f=some (off,n,g))(h2:aD P W0 ops fs stop (k+1) rest (tg frl o.dst (.pp fl (j+off))) H K)(hn:0<n:=by decide)(hs:(stop==some k)=false:=by rfl):aD P W0 ops fs stop k (o::rest) frl H K:=.dQ (KH h) (fun H'=>QW h hd hn H') h2 hs
theorem aD.l{t:TypeId}{x:Operand}{fl:List AV}{j n:Nat}{g:Bool}(r:AV)(hw:lM ops (lk frl) o=some true)(ho:o.op=.load t x)(hx:bA (lk frl) x=some (.pp fl j))(ht:vU P t=some (n,g))(hr:uv fl j n g=some r)(h2:aD P W0 ops fs stop (k+1) rest (tg frl o.dst r) H K)(hs:(stop==some k)=false:=by rfl):aD P W0 ops fs stop k (o::rest) frl H K:=.dQ hw (fun _=>zS ho hx ht hr) h2 hs
theorem aD.s(hw:lM ops (lk frl) o=some false)(h2:aD P W0 ops fs stop (k+1) rest (tg frl o.dst (.tuple [])) H K)(hs:(stop==some k)=false:=by rfl):aD P W0 ops fs stop k (o::rest) frl H K:=.skip hw h2 hs
theorem aD.kp(ts:List Nat){l:List Oper}{frx:List (Nat×AV)}(h:pick frl ts=some frx)(h2:aD P W0 ops fs stop k l frx H K):aD P W0 ops fs stop k l frl H K:=.keep ts h h2
end
end Go.Av
end

section
/- Sorting numbers, and leaving out what comes twice: by what is known of the library's functions. -/
namespace Go.Av
open Go.RowKit (Below)

structure Qg (P:Program) (f:FuncId):Prop where
 call:oR P f
 no:∀(p:Option Addr) (cap:Nat) (w:World),Calls P f #[.slice p 0 cap] w fun e w'=>e=.returned (.tuple #[])∧w'=w
 is:∀(gN off cap:Nat) (zs:List Int) (w:World),Sort.Holds (Value.int .i64) w gN off zs.toArray→gN<w.heap.size→zs.length<4611686018427387904→
  Calls P f #[.slice (some ⟨gN,off,none⟩) zs.length cap] w fun e w'=>
   e=.returned (.tuple #[])∧∃n os,w'=Sort.grow (Sort.putRow (Value.int .i64) (Sort.ahead w n) gN off (zs.mergeSort fun x y=>decide (x≤y)).toArray) os

structure HU (P:Program) (f:FuncId):Prop where
 call:oR P f
 no:∀(p:Option Addr) (cap:Nat) (w:World),Calls P f #[.slice p 0 cap] w fun e w'=>e=.returned (.slice p 0 cap)∧w'=w
 is:∀(gN off cap:Nat) (zs:List Int) (w:World),Sort.Holds (Value.int .i64) w gN off zs.toArray→zs.length≤9223372036854775807→zs.length≤cap→
  Calls P f #[.slice (some ⟨gN,off,none⟩) zs.length cap] w fun e w'=>e=.returned (.slice (some ⟨gN,off,none⟩) (Lib.compact zs).length cap)∧∃q,w'=Sort.putRow (Value.int .i64) (Sort.ahead w q) gN off (Lib.compact zs++List.replicate (zs.length - (Lib.compact zs).length) 0).toArray

def Sh.put(x:Int):List Int→List Int
 |[]=>[x]
 |y::l=>if x≤y then x::y::l else y::Sh.put x l
def Sh.LC:List Int→List Int
 |[]=>[]
 |x::l=>Sh.put x (Sh.LC l)
theorem Sh.GJ(x:Int):∀l:List Int,(Sh.put x l).Perm (x::l)
 |[]=>.refl _
 |y::l=>by
  unfold Sh.put
  split
  ·exact .refl _
  ·exact((Sh.GJ x l).cons y).trans (.swap x y l)
theorem Sh.Gt:∀l:List Int,(Sh.LC l).Perm l
 |[]=>.refl _
 |x::l=>(Sh.GJ x _).trans ((Sh.Gt l).cons x)
theorem Sh.GK(x:Int):∀l:List Int,l.Pairwise (· ≤ ·)→(Sh.put x l).Pairwise (· ≤ ·)
 |[],_=>by simp[Sh.put]
 |y::l,h=>by
  unfold Sh.put
  rw[List.pairwise_cons] at h
  split
  ·rename_i hxy
   rw[List.pairwise_cons,List.pairwise_cons]
   refine⟨fun z hz=> ?_,h⟩
   rcases List.mem_cons.1 hz with rfl|hz
   ·exact hxy
   ·exact Int.le_trans hxy (h.1 z hz)
  ·rename_i hxy
   rw[List.pairwise_cons]
   refine⟨fun z hz=> ?_,Sh.GK x l h.2⟩
   rcases List.mem_cons.1 ((Sh.GJ x l).mem_iff.1 hz) with rfl|hz
   ·omega
   ·exact h.1 z hz
theorem Sh.CQ:∀l:List Int,(Sh.LC l).Pairwise (· ≤ ·)
 |[]=>.nil
 |x::l=>Sh.GK x _ (Sh.CQ l)
theorem Sh.GU:∀{a b:List Int},a.Perm b→a.Pairwise (· ≤ ·)→b.Pairwise (· ≤ ·)→a=b
 |[],b,h,_,_=>(List.nil_perm.1 h).symm
 |x::a,[],h,_,_=>absurd h.symm (by simp)
 |x::a,y::b,h,ha,hb=>by
  have ha':=List.pairwise_cons.1 ha
  have hb':=List.pairwise_cons.1 hb
  have hxy:x=y:=by
   have h1:y≤x:=by
    rcases List.mem_cons.1 (h.mem_iff.1 (List.mem_cons_self ..)) with e|e
    ·omega
    ·exact hb'.1 x e
   have h2:x≤y:=by
    rcases List.mem_cons.1 (h.mem_iff.2 (List.mem_cons_self ..)) with e|e
    ·omega
    ·exact ha'.1 y e
   omega
  subst hxy
  rw[Sh.GU (List.perm_cons x|>.1 h) ha'.2 hb'.2]
theorem Sh.LD(l:List Int):Sh.LC l=l.mergeSort fun x y=>decide (x≤y):=by
 have h:=List.pairwise_mergeSort (le:=fun x y:Int=>decide (x≤y)) (fun a b c h1 h2=>by simp at h1 h2 ⊢;omega) (fun a b=>by simp;omega) l
 exact Sh.GU ((Sh.Gt l).trans (List.mergeSort_perm l _).symm) (Sh.CQ l) (h.imp fun{a b} hab=>by simpa using hab)
def Sh.sort(l:List Int):Option (List Int):=if l.length<4611686018427387904 then some (Sh.LC l) else none
def Sh.compact(l:List Int):Option (List Int):=if l.length<4611686018427387904 then some (Lib.compact l) else none
theorem Sh.IG{l L:List Int}(h:Sh.sort l=some L):l.length<4611686018427387904∧L=l.mergeSort fun x y=>decide (x≤y):=by
 unfold Sh.sort at h
 split at h
 ·cases h;exact⟨by assumption,Sh.LD l⟩
 ·cases h
theorem Sh.TG{l L:List Int}(h:Sh.sort l=some L):L.length=l.length:=by rw[(Sh.IG h).2];simp
theorem Sh.I8{l L:List Int}(h:Sh.compact l=some L):l.length<4611686018427387904∧L=Lib.compact l:=by
 unfold Sh.compact at h
 split at h
 ·cases h;exact⟨by assumption,rfl⟩
 ·cases h
theorem Kt(l:List Int):(Lib.compact l).length≤l.length:=by
 unfold Lib.compact Lib.compactUpTo
 rw[List.length_map]
 exact Nat.le_trans (List.length_filter_le _ _) (by simp)

section
variable {P:Program} {W0:dU} {C:Ctx} {fr:Fr} {a:Act} {H:aX} {o:Oper} {N:Nat}

theorem TD(hI:Inv W0 C){id:Nat}(hid:C.H.get id=some []):Ext C {C with H:=C.H.set id []}∧Inv W0 {C with H:=C.H.set id []}:=by
 have hg:∀k e,(C.H.set id []).get k=some e→C.H.get k=some e:=fun k e h=>by
  rw[aX.wB] at h
  split at h
  ·rename_i hk;subst hk;cases h;exact hid
  ·exact h
 have ho':∀b,Ctx.own {C with H:=C.H.set id []} b→C.own b:=by
  rintro b (⟨k,e,h1,h2,h3⟩|h)
  ·exact .inl ⟨k,e,hg k e h1,h2,h3⟩
  ·exact .inr h
 have hE:Ext C {C with H:=C.H.set id []}:=⟨.refl _ _,fun _ _ _=>rfl,fun b _ h=>ho' b h,Nat.le_refl _,fun k e _ h=>⟨⟨e,hg k e h⟩,rfl⟩,rfl,rfl,rfl⟩
 exact⟨hE,{
  fresh:=fun k e h=>hI.fresh k e (hg k e h)
  nil:=fun k e h=>hI.nil k e (hg k e h)
  obj:=fun k e h hn=>(hI.obj k e (hg k e h) hn).ext hE rfl
  sep:=fun p q ep eq hp hq=>hI.sep p q ep eq (hg _ _ hp) (hg _ _ hq)
  dm:=fun k e h=>hI.dm k e (hg k e h)
  oM:=fun k s' h=>hI.oM k s' (by rw[←aX.J1 C.H id [] [] hid k];exact h)
  eE:=hI.eE
  eZ:=hI.eZ
  size:=hI.size
  iK:=fun b h=>⟨(hI.iK b h).1,fun hh=>(hI.iK b h).2 (ho' b hh)⟩
  e8:=hI.e8
  mI:=hI.mI
  y7:=hI.y7
  zM:=hI.zM
  fD:=hI.fD
  pP:=hI.pP
  fZ:=hI.fZ
  gh:=W0.st C _ hE.mem hI.fZ hI.gh}⟩

theorem Il(hI:Inv W0 C){id:Nat}{l:List Int}(hid:C.H.get id=some (l.map i64))(hn:(C.pl id).nil=false)(hs:(C.pl id).sz=1):
  Sort.Holds (Value.int .i64) C.w (C.pl id).gN 0 l.toArray:=by
 intro j hj
 have hj':j<l.length:=by simpa using hj
 obtain⟨arr,el,harr,_⟩:=(hI.obj id _ hid hn).gN
 obtain⟨v,h1,h2⟩:=A8 hI hid hn (i:=j) (j:=0) (e:=i64 l[j]) (x:=i64 l[j]) (by simp[hj']) rfl
 refine⟨?_,by simp[World.frozen?,harr]⟩
 have hv:v=.int .i64 l[j]:=gM rfl h2
 rw[hs] at h1
 have h3:=h1.1
 rw[Nat.mul_one,Nat.add_zero] at h3
 rw[Nat.zero_add,h3,hv]
 simp[hj']

theorem LW(hI:Inv W0 C){id:Nat}{l L:List Int}(hid:C.H.get id=some (l.map i64))(hn:(C.pl id).nil=false)(hs:(C.pl id).sz=1)(hl:L.length=l.length)(n:Nat)(os:Array Obj):
  ∃C',C'.w=Sort.grow (Sort.putRow (Value.int .i64) (Sort.ahead C.w n) (C.pl id).gN 0 L.toArray) os∧Ext C C'∧Inv W0 C'∧C'.H=C.H.set id (L.map i64)∧C'.pl=C.pl:=by
 have hO:=hI.obj id _ hid hn
 obtain⟨arr,el,harr,hcap⟩:=hO.gN
 have hlen:l.length≤arr.size:=by
  have h1:=hO.n;have h2:=hO.cap
  rw[hs] at hcap;simp at h1;omega
 have hone:∀v∈arr,v.oneCell'=true:=fun v hv=>by
  obtain⟨k,hk⟩:=Array.getElem?_of_mem hv
  exact hO.one k v (by rw[jC harr];exact hk)
 obtain⟨hE,hI'⟩:=vf hI hid hn harr (Sort.putCells (Value.int .i64) 0 L.toArray arr) (by simp[Sort.putCells]) (L.map i64) (by simp[hl]) (fun v hv=>by
  obtain⟨k,hk⟩:=Array.getElem?_of_mem hv
  simp only[Sort.putCells,Array.getElem?_mapIdx,Option.map_eq_some_iff] at hk
  obtain⟨u,hu,rfl⟩:=hk
  split
  ·rfl
  ·exact hone u (Array.mem_of_getElem? hu)) (fun i e h=>by
   simp only[List.getElem?_map,Option.map_eq_some_iff] at h
   obtain⟨z,_,rfl⟩:=h
   rw[hs];rfl) (fun i j e x v h1 h2 h3=>by
   simp only[List.getElem?_map,Option.map_eq_some_iff] at h1
   obtain⟨z,hz,rfl⟩:=h1
   have hj:j=0∧x=i64 z:=by
    cases j with
    |zero=>simp[AV.flat] at h2;exact⟨rfl,h2.symm⟩
    |succ j=>simp[AV.flat] at h2
   obtain⟨rfl,rfl⟩:=hj
   rw[hs,Nat.mul_one,Nat.add_zero] at h3
   simp only[Sort.putCells,Array.getElem?_mapIdx,Option.map_eq_some_iff] at h3
   obtain⟨u,hu,rfl⟩:=h3
   have hi:i<L.length:=(List.getElem?_eq_some_iff.1 hz).1
   have e2:L.toArray[i - 0]! =z:=by
    have:L[i]=z:=by have:=List.getElem?_eq_getElem hi;rw[hz] at this;exact(Option.some.inj this).symm
    simp[hi,this]
   rw[if_pos ⟨Nat.zero_le _,by simpa using hi⟩,e2]
   exact .imm _ rfl)
 have hw:C.w.setRow (C.pl id).gN (Sort.putCells (Value.int .i64) 0 L.toArray arr)=Sort.putRow (Value.int .i64) C.w (C.pl id).gN 0 L.toArray:=by
  unfold Sort.putRow Sort.mapBlock World.setRow
  congr 1
  apply Array.ext_getElem?
  intro k
  simp only[Array.getElem?_modify]
  split
  ·rename_i hk;subst hk;rw[harr];rfl
  ·rfl
 rw[hw] at hE hI'
 have hB:Below (Sort.putRow (Value.int .i64) C.w (C.pl id).gN 0 L.toArray).heap.size (Sort.putRow (Value.int .i64) C.w (C.pl id).gN 0 L.toArray) (Sort.grow (Sort.putRow (Value.int .i64) (Sort.ahead C.w n) (C.pl id).gN 0 L.toArray) os):=
  ⟨rfl,rfl,rfl,by rw[Sort.size_grow];exact Nat.le_add_right _ _,fun k hk=>Sort.heap_grow_old (Sort.putRow (Value.int .i64) (Sort.ahead C.w n) (C.pl id).gN 0 L.toArray) os hk⟩
 refine⟨(C.write id (Sort.putRow (Value.int .i64) C.w (C.pl id).gN 0 L.toArray) (L.map i64)).xE (Sort.grow (Sort.putRow (Value.int .i64) (Sort.ahead C.w n) (C.pl id).gN 0 L.toArray) os),rfl,hE.trans (lP hB),hI'.xE hB,rfl,rfl⟩

theorem Ic{id n:Nat}{x:Operand}{es:List AV}(hI:Inv W0 C)(hx:bA fr x=some (.view id 0 n))(hop:vm C fr a x)(hid:C.H.get id=some es)(hn:n=es.length)(hs:C.H.sz id=some 1):
  (es=[]∧∃p cap,a.eval x=.slice p 0 cap)∨((C.pl id).nil=false∧(C.pl id).sz=1∧∃cap,es.length≤cap∧cap≤(C.pl id).cap∧a.eval x=.slice (some ⟨(C.pl id).gN,0,none⟩) es.length cap):=by
 have hr:=b6 hop hx
 subst hn
 generalize hux:a.eval x=ux at hr
 match hr with
 |.view _ _ _ _ h1 h2 h3=>
 have h6:=h2 es hid
 unfold oO at h6
 split at h6
 ·rename_i hnil
  obtain⟨_,hl,ad,rfl⟩:=h6
  have:es=[]:=List.eq_nil_of_length_eq_zero hl
  subst this
  exact .inl ⟨rfl,_,_,rfl⟩
 ·rename_i hnil
  have hnil':(C.pl id).nil=false:=by simpa using hnil
  obtain⟨A,cap,rfl,g1,g2,g3,g4⟩:=h6
  have hsz:=hI.oM id 1 hs hnil'
  rcases g4 with g4|rfl
  ·subst g4
   have:es=[]:=List.eq_nil_of_length_eq_zero (by omega)
   subst this
   exact .inl ⟨rfl,_,_,rfl⟩
  ·refine .inr ⟨hnil',hsz,cap,g3,by omega, ?_⟩
   simp

theorem Qo{f:FuncId}{tys:Array TypeId}{xo:Operand}{id n:Nat}(hf:Qg P f)(l L:List Int)(hL:Sh.sort l=some L)(hn:n=(l.map i64).length)(ho:o.op=.call {callee:=.value (.func f),args:= #[xo],argTypes:=tys})(hx:bA fr xo=some (.view id 0 n))(hid:H.get id=some (l.map i64))(hs:H.sz id=some 1):
  gD P W0 o fr H (.tuple []) (H.set id (L.map i64)):=by
 intro C a hI hH hop K Q hK
 subst hH
 obtain⟨hlt,rfl⟩:=Sh.IG hL
 unfold Oper.wp
 rw[vb ho hf.call,Oper.upon_enter]
 have hea:(#[xo].map a.eval)= #[a.eval xo]:=by simp
 rw[hea]
 rcases Ic hI hx (hop xo (by simp[ho,Op.operands,Call.operands])) hid hn hs with⟨h0,p,cap,he⟩|⟨h1,h2,cap,_,_,he⟩
 ·have hl0:l=[]:=List.map_eq_nil_iff.1 h0
  subst hl0
  rw[he]
  refine(hf.no p cap C.w).mono ?_
  rintro e w' ⟨rfl,rfl⟩
  have hset:=TD hI hid
  exact hK _ {C with H:=C.H.set id []} hset.1 hset.2 (by simp) (.tuple [] #[] rfl (fun k x h=>by simp at h))
 ·rw[he]
  have hh:=Il hI hid h1 h2
  have hc:=hf.is (C.pl id).gN 0 cap l C.w hh (hI.lt hid h1) hlt
  rw[List.length_map]
  refine hc.mono ?_
  rintro e w' ⟨rfl,n,os,rfl⟩
  obtain⟨C',q1,q2,q3,q4,_⟩:=LW hI hid h1 h2 (L:=l.mergeSort fun x y=>decide (x≤y)) (by simp) n os
  rw[←q1]
  exact hK _ C' q2 q3 q4 (.tuple [] #[] rfl (fun k x h=>by simp at h))

theorem Kk{f:FuncId}{tys:Array TypeId}{xo:Operand}{id n:Nat}(hf:HU P f)(l L:List Int)(hL:Sh.compact l=some L)(hn:n=(l.map i64).length)(ho:o.op=.call {callee:=.value (.func f),args:= #[xo],argTypes:=tys})(hx:bA fr xo=some (.view id 0 n))(hid:H.get id=some (l.map i64))(hs:H.sz id=some 1):
  gD P W0 o fr H (.sl (L.map i64)) (H.del id):=by
 intro C a hI hH hop K Q hK
 subst hH
 obtain⟨hlt,rfl⟩:=Sh.I8 hL
 unfold Oper.wp
 rw[vb ho hf.call,Oper.upon_enter]
 have hea:(#[xo].map a.eval)= #[a.eval xo]:=by simp
 rw[hea]
 rcases Ic hI hx (hop xo (by simp[ho,Op.operands,Call.operands])) hid hn hs with⟨h0,p,cap,he⟩|⟨h1,h2,cap,hcap,al4,he⟩
 ·have hl0:l=[]:=List.map_eq_nil_iff.1 h0
  subst hl0
  rw[he]
  refine(hf.no p cap C.w).mono ?_
  rintro e w' ⟨rfl,rfl⟩
  have e0:Lib.compact ([]:List Int)=[]:=rfl
  exact hK _ (C.del id) (A6 id) (hI.del id) rfl (by rw[e0];exact .slNil _ _)
 ·rw[he]
  have hh:=Il hI hid h1 h2
  rw[List.length_map] at hcap ⊢
  have hc:=hf.is (C.pl id).gN 0 cap l C.w hh (by omega) hcap
  refine hc.mono ?_
  rintro e w' ⟨rfl,q,rfl⟩
  have hcl:=Kt l
  obtain⟨C',q1,q2,q3,q4,q5⟩:=LW hI hid h1 h2 (L:=Lib.compact l++List.replicate (l.length - (Lib.compact l).length) 0) (by simp;omega) q #[]
  rw[Sort.grow_empty] at q1
  have hid':C'.H.get id=some ((Lib.compact l++List.replicate (l.length - (Lib.compact l).length) 0).map i64):=by rw[q4,aX.wB];simp
  have hnil:(C'.pl id).nil=false:=by rw[q5];exact h1
  have hO:=q3.obj id _ hid' hnil
  have hN:(C'.pl id).n=l.length:=by rw[hO.n];simp;omega
  have hview:dO C' (.view id 0 (Lib.compact l).length) (.slice (some ⟨(C.pl id).gN,0,none⟩) (Lib.compact l).length cap):=by
   refine .view _ _ _ _ (q3.fresh id _ hid') (fun es he=> ?_) rfl
   unfold oO
   rw[if_neg (by simp[hnil])]
   refine⟨_,cap,rfl,by rw[hN];omega,by rw[q5];omega,by omega,.inr ?_⟩
   rw[q5];simp
  have rP:=IB (C':=C'.del id) q3 hview hid' (fun e he=>by
   obtain⟨z,_,rfl⟩:=List.mem_map.1 (List.mem_of_mem_drop (List.mem_of_mem_take he))
   simp) rfl (fun b hb=>by
    rcases hb with hb|hb
    ·exact .inl (Ctx.JN hb)
    ·exact .inr hb) (fun _ hb=>by
    obtain⟨arr,el,harr,_⟩:=hO.gN
    rcases hb with(⟨k,e,k1,k2,k3⟩|hb)|hb
    ·have k1':=k1
     simp only[Ctx.del,aX.A7] at k1'
     split at k1'
     ·cases k1'
     ·rename_i hne
      exact hne (q3.sep k id e _ k1' hid' k2 hnil k3)
    ·exact q3.Dc hb harr
    ·exact q3.dm id _ hid' hnil hb)
  rw[←q1]
  refine hK _ (C'.del id) (q2.trans (A6 id)) (q3.del id) (by show C'.H.del id=_;rw[q4,aX.NR]) ?_
  have e1:(((Lib.compact l++List.replicate (l.length - (Lib.compact l).length) 0).map i64).drop 0).take (Lib.compact l).length=(Lib.compact l).map i64:=by
   simp
  rw[e1] at rP
  exact rP
end
end Go.Av
end

section
/- Rows of numbers are sorted by their first ones, where they lie: by what is known of the library's function. -/
namespace Go.Av
open Go.RowKit (Below)

@[simp] theorem aaI(p q:Prop)(R:AV→Prop):(∀e:AV,p∧bl false=e∨q∧bl true=e→R e)↔(p→R (bl false))∧(q→R (bl true)):=⟨fun h=>⟨fun hp=>h _ (.inl ⟨hp,rfl⟩),fun hq=>h _ (.inr ⟨hq,rfl⟩)⟩,fun⟨h1,h2⟩ e h=>by rcases h with⟨hp,rfl⟩|⟨hq,rfl⟩;exact h1 hp;exact h2 hq⟩
def Sh.first(l:List Int):Int:=l.headD 0
section
variable {P:Program} {W0:dU} {C:Ctx} {fr:Fr} {a:Act} {H:aX} {o:Oper} {N:Nat}

end
end Go.Av
end

section
/- A call that hands back one new object, whatever the heap is. -/
namespace Go.Av
section
variable {P:Program} {W0:dU} {fr:Fr} {H:aX} {o:Oper}
end
end Go.Av
end

section
/- An own slice made shorter: the object under a new name. -/
namespace Go.Av
open Go.RowKit (Below)
section
variable {P:Program} {W0:dU} {C:Ctx} {fr:Fr} {H:aX} {o:Oper}

end
end Go.Av
end

section
/- What an operation makes, some of it given up at once. -/
namespace Go.Av
section
variable {P:Program} {W0:dU} {fr:Fr} {H:aX} {o:Oper}
theorem gD.re{r r':AV}{H1 H2:aX}(h:gD P W0 o fr H r H1)(g:List (Nat×Nat))(hs:vn H1 g [] r r')(hH:rZ H1 g [] H2.next H2.ef)(hid:g.all (fun p=>p.1==p.2)=true:=by rfl)(hnext:H1.next≤H2.next:=by exact Nat.le_refl _)
  (hinj:g.all (fun p=>g.all (fun q=>p.2 !=q.2||p.1==q.1))=true:=by rfl)(hlt:g.all (fun p=>decide (p.1<H2.next))=true:=by rfl)(hpo:AJ W0.p g [] H2.next=true:=by rfl)(hlp:H2.e8=H1.e8:=by rfl):gD P W0 o fr H r' H2:=by
 intro C a hI hCH hop K Q hK
 refine h C a hI hCH hop K Q (fun v C1 h1 h2 h3 h4=> ?_)
 have hr:Rel W0 1 (lk [(0,r)]) H1 C1 {a with tmps:= #[v],defers:=(C1.mI.map fun d=>{target:=.collected d,args:= #[]})++W0.dx}:=⟨h3,h2,rfl,rfl,fun t x hx=>by
  simp only[lk] at hx
  split at hx
  ·rename_i ht;subst ht;cases hx;exact h4
  ·cases hx⟩
 obtain⟨hM,hR⟩:=JU (st:=⟨[(0,r)],H1⟩) (fr':=[(0,r')]) (H':=H2) g [] hinj hlt rfl hH ⟨⟨r,rfl,hs⟩,trivial⟩ hpo hlp hr
 refine hK v (C1.re g H2) (h1.trans ?_) hR.inv rfl (hR.rep 0 r' rfl)
 refine⟨hM.below,hM.keep,hM.own,by rw[h3];exact hnext,fun id es' hlt' hg=> ?_,rfl,rfl,rfl⟩
 simp only[Ctx.re,aX.get,Option.map_eq_some_iff] at hg
 obtain⟨⟨s,e⟩,hq,rfl⟩:=hg
 obtain⟨h5,_⟩:=hH.spec hq
 rcases h5 with⟨old,es,q1,q2,_⟩|⟨q,_⟩
 ·have:=List.all_eq_true.1 hid _ (o9 q1)
  simp only[beq_iff_eq] at this
  subst this
  refine⟨⟨es, ?_⟩, ?_⟩
  ·rw[h3];simp only[aX.get,q2,Option.map_some]
  ·show(match lk g id with|some old=>C1.pl old|none=>_)=_
   rw[q1]
 ·cases q
end
end Go.Av
end
