/- What a proof sees of a run, and the rules by which it goes through a text. -/
import Derived.Test.YtleihjegenjacaaGreatBase
import Derived.RangeFuncRecord
import Derived.ScopeJumps
import Derived.Laws.StructEq
import Derived.KernelRfl
import Derived.WideKeyRuns
import Derived.Laws.Pointers
import Derived.Laws.Cover3
set_option linter.unusedSimpArgs false
set_option linter.unusedVariables false
section
/- Loops by their own rounds; functions that hand back what is their own. -/
namespace Go.Av
open Go.RowKit (Below)

section
variable {P:Program} {W0:dK} {N:Nat} {st:St} {Q:Exit→St→Prop}

theorem bq{c:Code}{σ α:Type}(b:σ→Option (σ⊕α))(S:σ→St){s0:σ}{r:α}(h:Sh.loop b s0=some r)(hw:aU W0 N st (S s0))
  (round:∀s o,b s=some o→(∀x,o=.inr x→x=r)→sN P W0 N c (S s) (It (fun s1=>∃s',o=.inl s'∧aU W0 N s1 (S s')) Q)):sN P W0 N (.loop c) st Q:=by
 refine Ta (σ:=σ×Nat) (fun p=>S p.1) (fun p=>Sh.iter b p.2 p.1=some r) (fun p=>p.2) (s0,Sh.nU) h hw ?_
 rintro⟨s,n⟩ hn
 cases n with
 |zero=>cases hn
 |succ n=>
  simp only[Sh.iter] at hn
  cases hb:b s with
  |none=>simp[hb] at hn
  |some o=>
   rw[hb] at hn
   refine(round s o hb (fun x hx=> ?_)).mono fun e s1 h1=> ?_
   ·subst hx;simpa using hn
   ·cases e with
    |normal=>
     obtain⟨s',rfl,h2⟩:=h1
     exact⟨(s',n),hn,Nat.lt_succ_self n,h2⟩
    |_=>exact h1


inductive qK (ok:AV→Prop) (n:Nat):AV→AV→Prop
 |same (x:AV):ok x→qK ok n x x
 |view (id off len:Nat):qK ok n (.view id off len) (.view (n+id) off len)
 |ref (id i j:Nat):qK ok n (.ref id i j) (.ref (n+id) i j)
 |mref (id:Nat):qK ok n (.mref id) (.mref (n+id))
 |agg (cs cs':List AV):cs.length=cs'.length→(∀(k:Nat) (x x':AV),cs[k]? =some x→cs'[k]? =some x'→qK ok n x x')→qK ok n (.agg cs) (.agg cs')
 |tuple (cs cs':List AV):cs.length=cs'.length→(∀(k:Nat) (x x':AV),cs[k]? =some x→cs'[k]? =some x'→qK ok n x x')→qK ok n (.tuple cs) (.tuple cs')
 |bS (fn:Fn) (cs cs':List AV):cs.length=cs'.length→(∀(k:Nat) (x x':AV),cs[k]? =some x→cs'[k]? =some x'→qK ok n x x')→qK ok n (.bS fn cs) (.bS fn cs')
 |ifc (t:TypeId) (x x':AV):qK ok n x x'→qK ok n (.ifc t x) (.ifc t x')

structure He (ok:AV→Prop) (n:Nat) (es es':List AV):Prop where
 len:es.length=es'.length
 see:∀(k:Nat) (e e':AV),es[k]? =some e→es'[k]? =some e'→e.flat.length=e'.flat.length∧∀(j:Nat) (x x':AV),e.flat[j]? =some x→e'.flat[j]? =some x'→qK ok n x x'
 tU:∀l,es'=[.tU l]→es=[.tU l]

def Joined(ok:AV→Prop)(n:Nat):List (Nat×(Nat×List AV))→List (Nat×(Nat×List AV))→Prop
 |[],[]=>True
 |(i,(s,es))::l,(j,(s',es'))::l'=>j=n+i∧s=s'∧He ok n es es'∧Joined ok n l l'
 |_,_=>False

theorem He.same{ok:AV→Prop}{n:Nat}{es:List AV}(h:∀e∈es,∀x∈e.flat,ok x):He ok n es es:=
 ⟨rfl,fun k e e' h1 h2=>by
  rw[h1] at h2;cases h2
  exact⟨rfl,fun j x x' h3 h4=>by rw[h3] at h4;cases h4;exact .same x (h e (List.mem_of_getElem? h1) x (List.mem_of_getElem? h3))⟩,fun _ h=>h⟩

theorem Joined.at{ok:AV→Prop}{n:Nat}:∀{l l':List (Nat×(Nat×List AV))},Joined ok n l l'→∀{k s:Nat} {es':List AV},lk l' k=some (s,es')→∃i es,k=n+i∧lk l i=some (s,es)∧He ok n es es'
 |[],[],_,_,_,_,h=>by cases h
 |(i,(s,es))::l,(j,(s',es'))::l',h,k,q,Y4,hk=>by
  obtain⟨rfl,rfl,h1,h2⟩:=h
  simp only[lk] at hk
  split at hk
  ·rename_i e;subst e;cases hk
   exact⟨i,es,rfl,by simp[lk],h1⟩
  ·rename_i e
   obtain⟨i',es3,rfl,h3,h4⟩:=Joined.at h2 hk
   refine⟨i',es3,rfl, ?_,h4⟩
   simp only[lk]
   rw[if_neg (by omega)];exact h3
 |[],_::_,h,_,_,_,_=>h.elim
 |_::_,[],h,_,_,_,_=>h.elim

theorem tG{α:Type}(l1 l2:List (Nat×α))(k:Nat):lk (l1++l2) k=match lk l1 k with|some x=>some x|none=>lk l2 k:=by
 induction l1 with
 |nil=>rfl
 |cons p l ih=>
  obtain⟨s,u⟩:=p
  simp only[List.cons_append,lk]
  split <;> simp[*]

structure N3 (P:Program) (W0:World) (f:FuncId) (xs:List AV) (r:AV) (Hr:bg):Prop where
 call:mw P f
 runs:∀(C:Ctx) (vals:Array Value),Inv (.of W0) C→C.H=.empty→C.kq=[]→vals.size=xs.length→(∀(k:Nat) (x:AV),xs[k]? =some x→dR C x (vals.getD k undef))→
  Calls P f vals C.w (fun e w'=>∃v C',e=.returned v∧C'.w=w'∧Ext C C'∧Inv (.of W0) C'∧C'.H=Hr∧dR C' r v)

variable {C C1:Ctx}

def Ctx.join(C C1:Ctx)(objs':List (Nat×(Nat×List AV))):Ctx:=
 {w:=C1.w,H:={next:=C.H.next+C1.H.next,dY:=C.H.dY++objs',gl:=C.H.gl},pl:=fun k=>if k<C.H.next then C.pl k else C1.pl (k - C.H.next),dW:=C.dW,kq:=C.kq,tK:=C.tK}

theorem Q4{ok:AV→Prop}{pr:Nat→Prop}{objs':List (Nat×(Nat×List AV))}(hI:Inv W0 C)(QS:Inv (.of W0.w) C1)(hE:Ext (C.bare pr) C1)(hpr:∀b,C.dW b→pr b)(hJ:Joined ok C.H.next C1.H.dY objs')
  (hok:∀x v,ok x→dR C1 x v→(∀b,b<C1.w.heap.size→¬C1.bad b→¬(C.join C1 objs').bad b∨∀C':Ctx,dR C' x v)→dR (C.join C1 objs') x v)(hbad:(∀b,C.own b→pr b)∨∀x,ok x→G6 x):
  Ext C (C.join C1 objs')∧Inv W0 (C.join C1 objs')∧∀x x' v,qK ok C.H.next x x'→dR C1 x v→dR (C.join C1 objs') x' v:=by
 have hkeep:∀b,b<C.w.heap.size→C1.w.heap[b]? =C.w.heap[b]? :=fun b hb=>hE.keep b hb (A7 _ b)
 have hnew:∀b,C1.own b→C.w.heap.size≤b:=fun b hb=>by
  rcases Nat.lt_or_ge b C.w.heap.size with h|h
  ·exact absurd (hE.own b h hb) (A7 _ b)
  ·exact h
 have QX:C1.dW=pr:=hE.dW
 have hold:∀{k:Nat} {p:Nat×List AV},lk C.H.dY k=some p→k<C.H.next:=fun{k p} h=>hI.fresh k p.2 (by simp[bg.get,h])
 -- an object of the joined heap
 have getJ:∀{k s:Nat} {es':List AV},lk (C.H.dY++objs') k=some (s,es')→(lk C.H.dY k=some (s,es')∧k<C.H.next)∨∃i es,k=C.H.next+i∧lk C1.H.dY i=some (s,es)∧He ok C.H.next es es':=fun{k s es'} h=>by
  rw[tG] at h
  cases hk:lk C.H.dY k with
  |some p=>rw[hk] at h;simp only[Option.some.injEq] at h;subst h;exact .inl ⟨rfl,hold hk⟩
  |none=>rw[hk] at h;exact .inr (hJ.at h)
 have plO:∀{k:Nat},k<C.H.next→(C.join C1 objs').pl k=C.pl k:=fun{k} h=>by simp[Ctx.join,h]
 have plN:∀i,(C.join C1 objs').pl (C.H.next+i)=C1.pl i:=fun i=>by
  have h1:¬C.H.next+i<C.H.next:=by omega
  have h2:C.H.next+i - C.H.next=i:=by omega
  show(if C.H.next+i<C.H.next then _ else _)=_
  rw[if_neg h1,h2]
 have getG:∀{k:Nat} {es':List AV},(C.join C1 objs').H.get k=some es'→∃s,lk (C.H.dY++objs') k=some (s,es'):=fun{k es'} h=>by
  simp only[Ctx.join,bg.get,Option.map_eq_some_iff] at h
  obtain⟨⟨s,e⟩,h1,rfl⟩:=h
  exact⟨s,h1⟩
 have ownJ:∀b,(C.join C1 objs').own b→C.own b∨C1.own b:=by
  rintro b (⟨k,es',h1,h2,h3⟩|h)
  ·obtain⟨s,h4⟩:=getG h1
   rcases getJ h4 with⟨h5,h6⟩|⟨i,es,rfl,h5,_⟩
   ·rw[plO h6] at h2 h3;exact .inl (.inl ⟨k,es',by simp[bg.get,h5],h2,h3⟩)
   ·rw[plN] at h2 h3;exact .inr (.inl ⟨i,es,by simp[bg.get,h5],h2,h3⟩)
  ·exact .inl (.inr h)
 have ext:Ext C (C.join C1 objs'):={
  below:=hE.below
  keep:=fun b hb _=>hkeep b hb
  own:=fun b hb h=>by
   rcases ownJ b h with h|h
   ·exact h
   ·have:=hnew b h;omega
  next:=Nat.le_add_right _ _
  id:=fun k es' hk h=>by
   obtain⟨s,h4⟩:=getG h
   rcases getJ h4 with⟨h5,h6⟩|⟨i,es,rfl,_,_⟩
   ·exact⟨⟨es',by simp[bg.get,h5]⟩,plO h6⟩
   ·omega
  dW:=rfl
  kq:=rfl
  tK:=rfl}
 have badJ:∀b,b<C1.w.heap.size→¬C1.bad b→∀(x:AV) (v:Value),ok x→dR C1 x v→¬(C.join C1 objs').bad b∨∀C':Ctx,dR C' x v:=fun b _ hb x v hx hr=>by
  rcases hbad with h|h
  ·left
   rintro(h1|h1)
   ·rcases ownJ b h1 with h2|h2
    ·exact hb (.inr (by rw[QX];exact h b h2))
    ·exact hb (.inl h2)
   ·exact hb (.inr (by rw[QX];exact hpr b h1))
  ·right;intro C';exact(h x hx).rep hr
 have repJ:∀x x' v,qK ok C.H.next x x'→dR C1 x v→dR (C.join C1 objs') x' v:=by
  intro x x' v hs
  induction hs generalizing v with
  |same x hx=>intro h;exact hok x v hx h (fun b hb hn=>badJ b hb hn x v hx h)
  |view id off len=>
   intro h
   match h with
   |.view _ _ _ _ h1 h2 h3=>
   refine .view _ _ _ _ (by show C.H.next+id<C.H.next+C1.H.next;omega) (fun es' he=> ?_) h3
   obtain⟨s,h4⟩:=getG he
   rw[plN]
   rcases getJ h4 with⟨h5,h6⟩|⟨i,es,h5,h6,_⟩
   ·omega
   ·have:i=id:=by omega
    subst this;exact h2 es (by simp[bg.get,h6])
  |ref id i j=>
   intro h
   match h with
   |.ref _ _ _ _ h1 h2 h3=>
   refine .ref _ _ _ _ (by show C.H.next+id<C.H.next+C1.H.next;omega) (fun es' he=> ?_) h3
   obtain⟨s,h4⟩:=getG he
   rw[plN]
   rcases getJ h4 with⟨h5,h6⟩|⟨i,es,h5,h6,_⟩
   ·omega
   ·have:i=id:=by omega
    subst this;exact h2 es (by simp[bg.get,h6])
  |mref id=>
   intro h
   match h with
   |.mref _ _ h1 h2 h3=>
   refine .mref _ _ (by show C.H.next+id<C.H.next+C1.H.next;omega) (fun es' he=> ?_) h3
   obtain⟨s,h4⟩:=getG he
   rw[plN]
   rcases getJ h4 with⟨h5,h6⟩|⟨i,es,h5,h6,_⟩
   ·omega
   ·have:i=id:=by omega
    subst this;exact h2 es (by simp[bg.get,h6])
  |agg cs cs' hl _ ih=>
   intro h
   match h with
   |.agg _ vs h1 h2 h3=>
   refine .agg cs' vs (h1.trans hl) h2 (fun k x' hx'=> ?_)
   have hk:k<cs.length:=by rw[hl];exact(List.getElem?_eq_some_iff.1 hx').1
   exact ih k cs[k] x' (List.getElem?_eq_getElem hk) hx' _ (h3 k _ (List.getElem?_eq_getElem hk))
  |tuple cs cs' hl _ ih=>
   intro h
   match h with
   |.tuple _ vs h1 h3=>
   refine .tuple cs' vs (h1.trans hl) (fun k x' hx'=> ?_)
   have hk:k<cs.length:=by rw[hl];exact(List.getElem?_eq_some_iff.1 hx').1
   exact ih k cs[k] x' (List.getElem?_eq_getElem hk) hx' _ (h3 k _ (List.getElem?_eq_getElem hk))
  |bS fn cs cs' hl _ ih=>
   intro h
   match h with
   |.bS _ _ vs h1 h3=>
   refine .bS fn cs' vs (h1.trans hl) (fun k x' hx'=> ?_)
   have hk:k<cs.length:=by rw[hl];exact(List.getElem?_eq_some_iff.1 hx').1
   exact ih k cs[k] x' (List.getElem?_eq_getElem hk) hx' _ (h3 k _ (List.getElem?_eq_getElem hk))
  |ifc t x x' _ ih=>
   intro h
   match h with
   |.ifc _ _ v h1=>exact .ifc t x' v (ih v h1)
 refine⟨ext, ?_,repJ⟩
 have aqX:∀{i s:Nat} {es es':List AV},lk C1.H.dY i=some (s,es)→He ok C.H.next es es'→(C1.pl i).nil=false→zv (C.join C1 objs') (C1.pl i) es':=fun{i s es es'} h hS hn=>by
  have hO:=QS.obj i es (by simp[bg.get,h]) hn
  have back:∀{q:Nat} {e':AV},es'[q]? =some e'→∃e,es[q]? =some e∧e.flat.length=e'.flat.length∧∀(j:Nat) (x x':AV),e.flat[j]? =some x→e'.flat[j]? =some x'→qK ok C.H.next x x':=fun{q e'} hq=>by
   have hk:q<es.length:=by rw[hS.len];exact(List.getElem?_eq_some_iff.1 hq).1
   exact⟨es[q],List.getElem?_eq_getElem hk,hS.see q _ e' (List.getElem?_eq_getElem hk) hq⟩
  refine⟨hO.n.trans hS.len,hO.cap,hO.Qz hS.tU,hO.one,fun q e' he'=> ?_,fun q j e' x' v he' hx' hv=> ?_⟩
  ·obtain⟨e,h1,h2,_⟩:=back he'
   rw[←h2];exact hO.flat q e h1
  ·obtain⟨e,h1,h2,h3⟩:=back he'
   have hj:j<e.flat.length:=by rw[h2];exact(List.getElem?_eq_some_iff.1 hx').1
   exact repJ _ _ _ (h3 j _ x' (List.getElem?_eq_getElem hj) hx') (hO.cell q j e _ v h1 (List.getElem?_eq_getElem hj) hv)
 exact{
  fresh:=fun k es' h=>by
   obtain⟨s,h4⟩:=getG h
   show k<C.H.next+C1.H.next
   rcases getJ h4 with⟨h5,h6⟩|⟨i,es,rfl,h5,_⟩
   ·omega
   ·have:=QS.fresh i es (by simp[bg.get,h5]);omega
  nil:=fun k es' h hn=>by
   obtain⟨s,h4⟩:=getG h
   rcases getJ h4 with⟨h5,h6⟩|⟨i,es,rfl,h5,h6⟩
   ·rw[plO h6] at hn;exact hI.nil k es' (by simp[bg.get,h5]) hn
   ·rw[plN] at hn
    have:=QS.nil i es (by simp[bg.get,h5]) hn
    subst this
    exact List.eq_nil_of_length_eq_zero h6.len.symm
  obj:=fun k es' h hn=>by
   obtain⟨s,h4⟩:=getG h
   rcases getJ h4 with⟨h5,h6⟩|⟨i,es,rfl,h5,h6⟩
   ·rw[plO h6] at hn ⊢
    have hg:C.H.get k=some es':=by simp[bg.get,h5]
    exact(hI.obj k es' hg hn).ext ext (hkeep _ (hI.lt hg hn))
   ·rw[plN] at hn ⊢;exact aqX h5 h6 hn
  sep:=fun k1 k2 e1 e2 h1 h2 n1 n2 hb=>by
   obtain⟨s1,g1⟩:=getG h1
   obtain⟨s2,g2⟩:=getG h2
   rcases getJ g1 with⟨a1,a2⟩|⟨i1,es1,rfl,a1,_⟩ <;> rcases getJ g2 with⟨b1,b2⟩|⟨i2,Y4,rfl,b1,_⟩
   ·rw[plO a2] at n1 hb;rw[plO b2] at n2 hb
    exact hI.sep k1 k2 e1 e2 (by simp[bg.get,a1]) (by simp[bg.get,b1]) n1 n2 hb
   ·rw[plO a2] at n1 hb;rw[plN] at n2 hb
    have h3:=hI.lt (id:=k1) (es:=e1) (by simp[bg.get,a1]) n1
    have h4:=hnew (C1.pl i2).fW (.inl ⟨i2,Y4,by simp[bg.get,b1],n2,rfl⟩)
    omega
   ·rw[plN] at n1 hb;rw[plO b2] at n2 hb
    have h3:=hI.lt (id:=k2) (es:=e2) (by simp[bg.get,b1]) n2
    have h4:=hnew (C1.pl i1).fW (.inl ⟨i1,es1,by simp[bg.get,a1],n1,rfl⟩)
    omega
   ·rw[plN] at n1 n2 hb;rw[plN] at hb
    have:=QS.sep i1 i2 es1 Y4 (by simp[bg.get,a1]) (by simp[bg.get,b1]) n1 n2 hb
    omega
  dW:=fun k es' h hn=>by
   obtain⟨s,h4⟩:=getG h
   rcases getJ h4 with⟨h5,h6⟩|⟨i,es,rfl,h5,h6⟩
   ·rw[plO h6] at hn ⊢;exact hI.dW k es' (by simp[bg.get,h5]) hn
   ·rw[plN] at hn ⊢
    have:=QS.dW i es (by simp[bg.get,h5]) hn
    rw[QX] at this
    exact fun hp=>this (hpr _ hp)
  tB:=fun k s h hn=>by
   simp only[Ctx.join,bg.sz,Option.map_eq_some_iff] at h
   obtain⟨⟨s',es'⟩,h1,rfl⟩:=h
   rcases getJ h1 with⟨h5,h6⟩|⟨i,es,rfl,h5,_⟩
   ·rw[plO h6] at hn ⊢;exact hI.tB k _ (by simp[bg.sz,h5]) hn
   ·rw[plN] at hn ⊢;exact QS.tB i _ (by simp[bg.sz,h5]) hn
  fU:=fun b hb=>Nat.lt_of_lt_of_le (hI.fU b hb) hE.below.size
  gC:=hI.gC
  size:=QS.size
  lK:=fun b hb=>⟨(QS.lK b hb).1,fun ho=>by
   rcases ownJ b ho with h|h
   ·exact(hI.lK b hb).2 h
   ·exact(QS.lK b hb).2 h⟩
  gl:=fun l r h=>by
   have h1:=hI.gl l r h
   rw[←h1];exact hkeep l (Array.getElem?_eq_some_iff.1 h1).1
  kq:=fun d h=>by
   have h1:=hI.kq d h
   rw[←h1];exact hkeep d (Array.getElem?_eq_some_iff.1 h1).1
  D_:=hI.D_
  ET:=hI.ET
  gT:=hI.gT
  uh:=hI.uh
  iU:=Nat.le_trans hI.iU (Nat.le_add_right _ _)
  gh:=W0.st C _ ext.mem hI.iU hI.gh}

variable {fr:Fr} {a:Act} {H:bg} {o:Oper}

theorem qK.mono{ok ok':AV→Prop}{n:Nat}{x x':AV}(h:qK ok n x x')(hk:∀x,ok x→ok' x):qK ok' n x x':=by
 induction h with
 |same x hx=>exact .same x (hk x hx)
 |view id off len=>exact .view id off len
 |ref id i j=>exact .ref id i j
 |mref id=>exact .mref id
 |agg cs cs' hl _ ih=>exact .agg cs cs' hl ih
 |tuple cs cs' hl _ ih=>exact .tuple cs cs' hl ih
 |bS fn cs cs' hl _ ih=>exact .bS fn cs cs' hl ih
 |ifc t x x' _ ih=>exact .ifc t x x' ih

theorem Dd{args:Array Operand}{ys:List AV}(hop:∀y∈args.toList,yW C fr a y)(hys:args.toList.mapM (bz fr)=some ys):(args.map a.eval).size=ys.length∧∀t x,lk (cQ 0 ys) t=some x→dR C x ((args.map a.eval).getD t undef):=by
 obtain⟨m1,m2⟩:=En args.toList ys hys
 refine⟨by simpa using m1.symm,fun t x hx=> ?_⟩
 obtain⟨_,h2⟩:=xq ys 0 t x hx
 rw[Nat.sub_zero] at h2
 obtain⟨y,g1,g2⟩:=m2 t x h2
 have hy:args[t]? =some y:=by simpa using g1
 have hlt:t<(args.map a.eval).size:=by have:=(Array.getElem?_eq_some_iff.1 hy).1;simpa using this
 have e:(args.map a.eval).getD t undef=a.eval y:=by
  have:=p8 hlt
  rw[Array.getElem?_map,hy] at this
  exact(Option.some.inj this).symm
 rw[e]
 exact bN (hop y (List.mem_of_getElem? g1)) g2

theorem dR.sub{C':Ctx}{x:AV}{v:Value}(h:dR C x v)(hw:C'.w=C.w)(hn:C.H.next≤C'.H.next)(hg:∀id es,id<C.H.next→C'.H.get id=some es→∃zL,C.H.get id=some zL)(hpl:∀id,id<C.H.next→C'.pl id=C.pl id)(hb:∀b,C'.bad b→C.bad b):dR C' x v:=by
 induction h with
 |any v=>exact .any v
 |imm v hv=>exact .imm v hv
 |slNil a cap=>exact .slNil a cap
 |sl es b off sz cap c hlt hbad hc hf hcell _ ih=>exact .sl es b off sz cap c (by rw[hw];exact hlt) (fun h=>hbad (hb b h)) hc hf (fun i j e x he hx=>by rw[hw];exact hcell i j e x he hx) ih
 |clipNil a=>exact .clipNil a
 |clip es b off sz c hlt hbad hf hcell _ ih=>exact .clip es b off sz c (by rw[hw];exact hlt) (fun h=>hbad (hb b h)) hf (fun i j e x he hx=>by rw[hw];exact hcell i j e x he hx) ih
 |view id off len v hid hs h1=>
  refine .view id off len v (by omega) (fun es he=> ?_) h1
  obtain⟨zL,h0⟩:=hg id es hid he
  rw[hpl id hid];exact hs zL h0
 |ref id i j v hid hs h1=>
  refine .ref id i j v (by omega) (fun es he=> ?_) h1
  obtain⟨zL,h0⟩:=hg id es hid he
  rw[hpl id hid];exact hs zL h0
 |mref id v hid hs h1=>
  refine .mref id v (by omega) (fun es he=> ?_) h1
  obtain⟨zL,h0⟩:=hg id es hid he
  rw[hpl id hid];exact hs zL h0
 |pp fl j b off c hlt hbad hcell _ ih=>exact .pp fl j b off c (by rw[hw];exact hlt) (fun h=>hbad (hb b h)) (fun k x hx=>by rw[hw];exact hcell k x hx) ih
 |agg cs vs hs h1 _ ih=>exact .agg cs vs hs h1 ih
 |tuple cs vs hs _ ih=>exact .tuple cs vs hs ih
 |ifc t x v _ ih=>exact .ifc t x v ih
 |bS fn caps vs hs _ ih=>exact .bS fn caps vs hs ih

def Ctx.plain(C:Ctx):Ctx:={C with H:={C.H with gl:=[]},kq:=[],tK:=0}

theorem Mj{b:Nat}(h:C.plain.own b):C.own b:=by
 rcases h with⟨id,es,h1,h2,h3⟩|⟨r,h⟩|h
 ·exact .inl ⟨id,es,h1,h2,h3⟩
 ·simp[Ctx.plain,lk] at h
 ·simp[Ctx.plain] at h

theorem dR.plain{x:AV}{v:Value}(h:dR C x v):dR C.plain x v:=
 h.sub rfl (Nat.le_refl _) (fun id es _ h=>⟨es,h⟩) (fun _ _=>rfl) (fun b h=>h.imp Mj id)

theorem Inv.plain(hI:Inv W0 C):Inv (.of W0.w) C.plain where
 fresh:=hI.fresh
 nil:=hI.nil
 obj id es h hn:=by
  have hO:=hI.obj id es h hn
  exact⟨hO.n,hO.cap,hO.fW,hO.one,hO.flat,fun i j e x v h1 h2 h3=>(hO.cell i j e x v h1 h2 h3).plain⟩
 sep:=hI.sep
 dW:=hI.dW
 tB:=hI.tB
 fU:=hI.fU
 gC:=hI.gC
 size:=hI.size
 lK b h:=⟨(hI.lK b h).1,fun ho=>(hI.lK b h).2 (Mj ho)⟩
 gl l r h:=by simp[Ctx.plain,lk] at h
 kq d h:=by simp[Ctx.plain] at h
 D_:=.nil
 ET:=fun _ _=>rfl
 gT b h:=by
  rcases h with⟨r,h⟩|h
  ·simp[Ctx.plain,lk] at h
  ·simp[Ctx.plain] at h
 uh:=rfl
 iU:=Nat.zero_le _
 gh:=trivial

theorem Bp{vals:Array Value}{xs:List AV}{n:Nat}{H:bg}(h:Rel W0 n (lk (cQ 0 xs)) H C {tmps:=vals,defers:=[]}):∀(k:Nat) (x:AV),xs[k]? =some x→dR C x (vals.getD k undef):=by
 have key:∀(xs:List AV) (q k:Nat) (x:AV),xs[k]? =some x→lk (cQ q xs) (q+k)=some x:=by
  intro xs
  induction xs with
  |nil=>intro q k x h;simp at h
  |cons y ys ih=>
   intro q k x hk
   cases k with
   |zero=>simp at hk;subst hk;simp[cQ,lk]
   |succ k=>
    simp at hk
    simp only[cQ,lk]
    rw[if_neg (by omega)]
    have:=ih (q+1) k x hk
    rwa [show q+1+k=q+(k+1) by omega] at this
 intro k x hx
 have:=key xs 0 k x hx
 rw[Nat.zero_add] at this
 exact h.rep k x this

theorem PJ{vals:Array Value}{ys:List AV}{pr:Nat→Prop}(hsz:vals.size=ys.length)(h:∀t x,lk (cQ 0 ys) t=some x→dR C x (vals.getD t undef))(hno:∀y∈ys,b6 y)(QS:Inv (.of W0.w) (C.bare pr))(hp:∀b,¬C.bad b→¬pr b):Rel (.of W0.w) ys.length (lk (cQ 0 ys)) .empty (C.bare pr) {tmps:=vals,defers:=[]}:=
 ⟨rfl,QS,hsz,rfl,fun t x hx=>by
  obtain⟨_,h2⟩:=xq ys 0 t x hx
  exact(h t x hx).bare (hno x (List.mem_of_getElem? h2)) hp⟩
theorem T0{vals:Array Value}{ys:List AV}(hI:Inv W0 C)(hsz:vals.size=ys.length)(h:∀t x,lk (cQ 0 ys) t=some x→dR C x (vals.getD t undef)):Rel (.of W0.w) ys.length (lk (cQ 0 ys)) {C.H with gl:=[]} C.plain {tmps:=vals,defers:=[]}:=
 ⟨rfl,hI.plain,hsz,rfl,fun t x hx=>(h t x hx).plain⟩

theorem xE{n:Nat}{f:Fr}{vals:Array Value}(h:Rel W0 n f H C {tmps:=vals,defers:=W0.dx}):C.kq=[]:=by
 have:=congrArg List.length h.defers
 simp only[List.length_append,List.length_map] at this
 exact List.eq_nil_of_length_eq_zero (by omega)

theorem Oi{f:FuncId}{args:Array Operand}{tys:Array TypeId}(ho:o.op=.call {callee:=.value (.func f),args:=args,argTypes:=tys})(hop:∀x∈o.op.operands,yW C fr a x):∀y∈args.toList,yW C fr a y:=fun y hy=>
 hop y (by rw[ho];simp[Op.operands,Call.operands];exact .inr (by simpa using hy))

def Enters(P:Program)(o:Oper)(fr:Fr)(f:FuncId)(ys:List AV):Prop:=
 ∀(C:Ctx) (a:Act),(∀x∈o.op.operands,yW C fr a x)→∃vals:Array Value,(∀w,(execOp a.eval o).run P w=.ok (.enter f vals) w)∧vals.size=ys.length∧∀t x,lk (cQ 0 ys) t=some x→dR C x (vals.getD t undef)

theorem Enters.func{f:FuncId}{args:Array Operand}{tys:Array TypeId}{ys:List AV}(ho:o.op=.call {callee:=.value (.func f),args:=args,argTypes:=tys})(hys:args.toList.mapM (bz fr)=some ys)(hc:mw P f):Enters P o fr f ys:=fun C a hop=>
 ⟨args.map a.eval,fun w=>wA ho hc w,Dd (Oi ho hop) hys⟩

theorem Mc(hI:Inv W0 C):Inv (.of W0.w) (C.bare (fun b=>C.dW b∨C.own b)):=hI.bare (fun b hb=>by
  rcases hb with h|h
  ·exact hI.fU b h
  ·exact hI.J9 h) (fun b hb=>by
  rcases hb with h|h
  ·exact hI.gC b h
  ·exact hI.Rm h)

theorem iX{f:FuncId}{ys xs:List AV}{r:AV}(he:Enters P o fr f ys)(hw:aU (.of W0.w) ys.length ⟨cQ 0 ys,.empty⟩ ⟨cQ 0 xs,.empty⟩)(hl:xs.length=ys.length)(hno:∀y∈ys,b6 y)
  (hf:Ey P W0.w f xs r):fV P W0 o fr H r H:=by
 intro C a hI hH hop K Q hK
 obtain⟨vals,hrun,Ld⟩:=he C a hop
 unfold Oper.wp
 rw[hrun,Oper.upon_enter]
 have Zu:=PJ (pr:=fun b=>C.dW b∨C.own b) Ld.1 Ld.2 hno (Mc hI) (fun b hb h=>hb (h.elim .inr .inl))
 obtain⟨C0,q1,q2,q3⟩:=hw _ _ Zu
 have Sm:C0.w=C.w:=q1
 have hsz:vals.size=xs.length:=by rw[hl];exact q3.size
 have:=hf.runs C0 vals q3.inv q3.heap (xE q3) hsz (Bp q3)
 rw[Sm] at this
 refine this.mono ?_
 rintro e w' ⟨v,C1,rfl,rfl,hE,hI',hr⟩
 have Wg:∀b,¬C0.own b:=GH q3.heap (xE q3)
 have hB':RowKit.Below C.w.heap.size C.w C1.w:=by have:=y6 hE Wg;rwa [Sm] at this
 have hp1:C1.dW=fun b=>C.dW b∨C.own b:=by rw[hE.dW];exact q2.dW
 refine hK v (C.zk C1.w) (gY hB') (hI.zk hB') hH (hr.move hf.B0 (Nat.le_refl _) (fun b hb hn=>⟨rfl,fun h=>hn ?_⟩))
 refine .inr ?_
 rw[hp1]
 rcases h with h|h
 ·exact .inr h
 ·exact .inl h
theorem oV{f:FuncId}{args:Array Operand}{tys:Array TypeId}{ys xs:List AV}{r:AV}(ho:o.op=.call {callee:=.value (.func f),args:=args,argTypes:=tys})(hys:args.toList.mapM (bz fr)=some ys)(hw:aU (.of W0.w) ys.length ⟨cQ 0 ys,.empty⟩ ⟨cQ 0 xs,.empty⟩)(hl:xs.length=ys.length)(hno:∀y∈ys,b6 y)
  (hf:Ey P W0.w f xs r):fV P W0 o fr H r H:=
 iX (.func ho hys hf.call) hw hl hno hf

theorem Qv{f:FuncId}{ys xs:List AV}{r:AV}(he:Enters P o fr f ys)(hw:aU (.of W0.w) ys.length ⟨cQ 0 ys,{H with gl:=[]}⟩ ⟨cQ 0 xs,.empty⟩)(hl:xs.length=ys.length)
  (hf:Ey P W0.w f xs r)(hd:G6 r):fV P W0 o fr H r H:=by
 intro C a hI hH hop K Q hK
 subst hH
 obtain⟨vals,hrun,Ld⟩:=he C a hop
 unfold Oper.wp
 rw[hrun,Oper.upon_enter]
 obtain⟨C0,q1,q2,q3⟩:=hw _ _ (T0 hI Ld.1 Ld.2)
 have Sm:C0.w=C.w:=q1
 have hsz:vals.size=xs.length:=by rw[hl];exact q3.size
 have:=hf.runs C0 vals q3.inv q3.heap (xE q3) hsz (Bp q3)
 rw[Sm] at this
 refine this.mono ?_
 rintro e w' ⟨v,C1,rfl,rfl,hE,hI',hr⟩
 have Wg:∀b,¬C0.own b:=GH q3.heap (xE q3)
 have hB':RowKit.Below C.w.heap.size C.w C1.w:=by have:=y6 hE Wg;rwa [Sm] at this
 exact hK v (C.zk C1.w) (gY hB') (hI.zk hB') rfl (hd.rep hr)
theorem S6{f:FuncId}{args:Array Operand}{tys:Array TypeId}{ys xs:List AV}{r:AV}(ho:o.op=.call {callee:=.value (.func f),args:=args,argTypes:=tys})(hys:args.toList.mapM (bz fr)=some ys)(hw:aU (.of W0.w) ys.length ⟨cQ 0 ys,{H with gl:=[]}⟩ ⟨cQ 0 xs,.empty⟩)(hl:xs.length=ys.length)
  (hf:Ey P W0.w f xs r)(hd:G6 r):fV P W0 o fr H r H:=
 Qv (.func ho hys hf.call) hw hl hf hd

def A5(ok:AV→Prop)(n:Nat):List AV→List AV→Prop
 |[],[]=>True
 |x::l,y::m=>qK ok n x y∧A5 ok n l m
 |_,_=>False

theorem A5.spec{ok:AV→Prop}{n:Nat}:∀{l m:List AV},A5 ok n l m→l.length=m.length∧∀(k:Nat) (x x':AV),l[k]? =some x→m[k]? =some x'→qK ok n x x'
 |[],[],_=>⟨rfl,fun k x x' h=>by simp at h⟩
 |x::l,y::m,h=>by
  obtain⟨h1,h2⟩:=A5.spec h.2
  refine⟨by simp[h1],fun k u v hu hv=> ?_⟩
  cases k with
  |zero=>simp at hu hv;subst hu hv;exact h.1
  |succ k=>simp at hu hv;exact h2 k u v hu hv
 |[],_::_,h=>h.elim
 |_::_,[],h=>h.elim
theorem qK.ag{ok:AV→Prop}{n:Nat}{cs cs':List AV}(h:A5 ok n cs cs'):qK ok n (.agg cs) (.agg cs'):=.agg cs cs' h.spec.1 h.spec.2
theorem qK.tp{ok:AV→Prop}{n:Nat}{cs cs':List AV}(h:A5 ok n cs cs'):qK ok n (.tuple cs) (.tuple cs'):=.tuple cs cs' h.spec.1 h.spec.2

theorem UZ{C0:Ctx}{pr:Nat→Prop}(hw:C0.w=C.w)(hp:C0.dW=pr)(hd0:C0.kq=[])(hp0:C0.tK=0)(Wg:∀b,¬C0.own b)(hE:Ext C0 C1):Ext (C.bare pr) C1 where
 below:=by have:=hE.below;rw[hw] at this;exact this
 keep b hb _:=by have:=hE.keep b (by rw[hw];exact hb) (Wg b);rw[this,hw];rfl
 own b hb h:=absurd (hE.own b (by rw[hw];exact hb) h) (Wg b)
 next:=Nat.zero_le _
 id i es hi _:=absurd hi (Nat.not_lt_zero _)
 dW:=hE.dW.trans hp
 kq:=hE.kq.trans hd0
 tK:=hE.tK.trans hp0

theorem N7{f:FuncId}{ys xs:List AV}{r:AV}{Hr:bg}(r':AV)(objs':List (Nat×(Nat×List AV)))(he:Enters P o fr f ys)(hw:aU (.of W0.w) ys.length ⟨cQ 0 ys,.empty⟩ ⟨cQ 0 xs,.empty⟩)(hl:xs.length=ys.length)(hno:∀y∈ys,b6 y)
  (hf:N3 P W0.w f xs r Hr)(hr:qK b6 H.next r r')(hJ:Joined b6 H.next Hr.dY objs'):fV P W0 o fr H r' {next:=H.next+Hr.next,dY:=H.dY++objs',gl:=H.gl}:=by
 intro C a hI hH hop K Q hK
 subst hH
 obtain⟨vals,hrun,Ld⟩:=he C a hop
 unfold Oper.wp
 rw[hrun,Oper.upon_enter]
 have Zu:=PJ (pr:=fun b=>C.dW b∨C.own b) Ld.1 Ld.2 hno (Mc hI) (fun b hb h=>hb (h.elim .inr .inl))
 obtain⟨C0,q1,q2,q3⟩:=hw _ _ Zu
 have Sm:C0.w=C.w:=q1
 have hsz:vals.size=xs.length:=by rw[hl];exact q3.size
 have:=hf.runs C0 vals q3.inv q3.heap (xE q3) hsz (Bp q3)
 rw[Sm] at this
 refine this.mono ?_
 rintro e w' ⟨v,C1,rfl,rfl,hE0,hI',hH1,Zu⟩
 subst hH1
 have Wg:∀b,¬C0.own b:=GH q3.heap (xE q3)
 have hE:=UZ (C:=C) (pr:=fun b=>C.dW b∨C.own b) Sm q2.dW (xE q3) q3.inv.uh Wg hE0
 obtain⟨h1,h2,h3⟩:=Q4 (ok:=b6) (pr:=fun b=>C.dW b∨C.own b) hI hI' hE (fun b h=>.inl h) hJ (fun x v hx hrx hb=>by
  by_cases hd:∃b,b<C1.w.heap.size∧¬C1.bad b∧(C.join C1 objs').bad b
  ·obtain⟨b,q1,q2,q3⟩:=hd
   rcases hb b q1 q2 with h|h
   ·exact absurd q3 h
   ·exact h _
  ·exact hrx.move hx (Nat.le_refl _) (fun b q1 q2=>⟨rfl,fun q3=>hd ⟨b,q1,q2,q3⟩⟩)) (.inl fun b h=>.inr h)
 exact hK v (C.join C1 objs') h1 h2 rfl (h3 r r' v hr Zu)
theorem iq{f:FuncId}{args:Array Operand}{tys:Array TypeId}{ys xs:List AV}{r:AV}{Hr:bg}(r':AV)(objs':List (Nat×(Nat×List AV)))(ho:o.op=.call {callee:=.value (.func f),args:=args,argTypes:=tys})(hys:args.toList.mapM (bz fr)=some ys)(hw:aU (.of W0.w) ys.length ⟨cQ 0 ys,.empty⟩ ⟨cQ 0 xs,.empty⟩)(hl:xs.length=ys.length)(hno:∀y∈ys,b6 y)
  (hf:N3 P W0.w f xs r Hr)(hr:qK b6 H.next r r')(hJ:Joined b6 H.next Hr.dY objs'):fV P W0 o fr H r' {next:=H.next+Hr.next,dY:=H.dY++objs',gl:=H.gl}:=
 N7 r' objs' (.func ho hys hf.call) hw hl hno hf hr hJ


theorem Nz{W0:dK}{C:Ctx}{q:AV}{v:Value}(hI:Inv W0 C)(hd:C.kq=[])(h:dR C q v):Rel W0 1 (lk [(0,q)]) C.H C {tmps:= #[v],defers:=W0.dx}:=
 ⟨rfl,hI,rfl,by simp[hd],fun t x hx=>by
  simp only[lk] at hx
  split at hx
  ·rename_i ht;subst ht;cases hx;exact h
  ·cases hx⟩

theorem HJ{W0:dK}{C:Ctx}{fn:Func}{xs:List AV}{vals:Array Value}{H:bg}{N:Nat}(hI:Inv W0 C)(hH:C.H=H)(hd:C.kq=[])(hN:fn.ntmps=N)(hxN:xs.length≤N)(hsz:vals.size=xs.length)(hrep:∀(k:Nat) (x:AV),xs[k]? =some x→dR C x (vals.getD k undef))(hdx:W0.dx=[]):
  Rel W0 N (lk (cQ 0 xs)) H C {tmps:=vals++Array.replicate (fn.ntmps - vals.size) undef,defers:=[]}:=by
 refine⟨hH,hI,by simp[hN];omega,by simp[hd,hdx],fun t x hx=> ?_⟩
 obtain⟨_,h2⟩:=xq xs 0 t x hx
 have hlt:t<vals.size:=by rw[hsz];exact(List.getElem?_eq_some_iff.1 h2).1
 have:=hrep t x h2
 have e:(vals++Array.replicate (fn.ntmps - vals.size) undef).getD t undef=vals.getD t undef:=by
  rw[Array.getD_eq_getD_getElem?,Array.getElem?_append_left hlt,←Array.getD_eq_getD_getElem?]
 rw[e];exact this

theorem drain{W0:dK}{fn:Func}{tmps:Array Value}{R:Ending→World→Prop}{H:bg}{Q:Ctx→Prop}{u:FrameMode}(hu:u≠.run){ds:List Deferred}(hQ:∀C2,Q C2→C2.kq=[]→LeavesInM Fence.wide 0 P fn tmps R ds u C2.w):
  ∀(l:List Nat) (C:Ctx),C.kq=l→Inv W0 C→C.H=H→(∀C2,C2.H=C.H→C2.pl=C.pl→Mem C C2→Inv W0 C2→C2.kq=[]→(∀x v,dR C x v→dR C2 x v)→Q C2)→
   LeavesInM Fence.wide 0 P fn tmps R ((l.map fun d=>{target:=.collected d,args:= #[]})++ds) u C.w
 |[],C,hl,hI,hH,hq=>hQ C (hq C rfl rfl (.refl C) hI hl (fun _ _ h=>h)) hl
 |d::l,C,hl,hI,hH,hq=>by
  have hd:C.w.heap[d]? =some (.deferred (some [])):=hI.kq d (by rw[hl];exact List.mem_cons_self ..)
  have hdlt:d<C.w.heap.size:=(Array.getElem?_eq_some_iff.1 hd).1
  have hnd:d∉l:=by have:=hI.D_;rw[hl] at this;exact(List.nodup_cons.1 this).1
  refine⟨hu,.inl ⟨d,C.w.putObj d (.deferred none),rfl,run_takeDeferred hd, ?_⟩⟩
  -- the context behind it
  let C1:Ctx:={C with w:=C.w.putObj d (.deferred none),kq:=l}
  have hne:∀b,b≠d→C1.w.heap[b]? =C.w.heap[b]? :=fun b hb=>World.putObj_heap_other hb
  have hcell:∀{b:Nat} {arr:Array Value} {el:TypeId} {fz:Nat×Nat},C.w.heap[b]? =some (.cells arr el fz)→b≠d:=fun{b arr el fz} h hb=>by
   subst hb;rw[hd] at h;cases h
  have hcellD:∀{b:Nat} {o:Obj},C.w.heap[b]? =some o→isD o→b≠d:=fun{b o} h h2 hb=>by
   subst hb;rw[hd] at h;cases h;rcases h2 with⟨_,_,h⟩|⟨_,_,h⟩ <;> cases h
  have hown:∀b,C1.own b→C.own b:=by
   rintro b (⟨id,es,h1,h2,h3⟩|h|h)
   ·exact .inl ⟨id,es,h1,h2,h3⟩
   ·exact .inr (.inl h)
   ·exact .inr (.inr (by rw[hl];exact List.mem_cons_of_mem _ h))
  have hM:Mem C C1:=⟨⟨rfl,rfl,rfl,by simp[C1],fun k hk=>absurd hk (Nat.not_lt_zero k)⟩,fun b _ hb=>hne b (fun h=>hb (.inr (.inr (by rw[h,hl];exact List.mem_cons_self ..)))),fun b _ h=>hown b h,rfl,rfl,fun hp=>⟨hp,fun k es' _ hg=>⟨⟨es',hg⟩,rfl⟩⟩⟩
  have hholds:∀{b o:Nat} {v:Value},Holds C.w b o v→Holds C1.w b o v:=fun{b o v} h=>by
   refine⟨?_,h.2⟩
   have hb:b≠d:=fun hb=>by
    subst hb
    have:=h.1
    simp[World.cell?,hd] at this
   rw[World.cell?_of_block (w:=C.w) (a:=⟨b,o,none⟩) (hne b hb)]
   exact h.1
  have hrep:∀x v,dR C x v→dR C1 x v:=by
   intro x v h
   induction h with
   |any v=>exact .any v
   |imm v hv=>exact .imm v hv
   |slNil a cap=>exact .slNil a cap
   |sl es b off sz cap c hlt hbad hc hf hcell _ ih=>exact .sl es b off sz cap c (by simpa [C1] using hlt) (fun h=>hbad (h.imp (hown b) id)) hc hf (fun i j e x he hx=>hholds (hcell i j e x he hx)) ih
   |clipNil a=>exact .clipNil a
   |clip es b off sz c hlt hbad hf hcell _ ih=>exact .clip es b off sz c (by simpa [C1] using hlt) (fun h=>hbad (h.imp (hown b) id)) hf (fun i j e x he hx=>hholds (hcell i j e x he hx)) ih
   |view id off len v hid hs h1=>exact .view id off len v hid hs h1
   |ref id i j v hid hs h1=>exact .ref id i j v hid hs h1
   |mref id v hid hs h1=>exact .mref id v hid hs h1
   |pp fl j b off c hlt hbad hcell _ ih=>exact .pp fl j b off c (by simpa [C1] using hlt) (fun h=>hbad (h.imp (hown b) id)) (fun k x hx=>hholds (hcell k x hx)) ih
   |agg cs vs hs h1 _ ih=>exact .agg cs vs hs h1 ih
   |tuple cs vs hs _ ih=>exact .tuple cs vs hs ih
   |ifc t x v _ ih=>exact .ifc t x v ih
   |bS fn caps vs hs _ ih=>exact .bS fn caps vs hs ih
  have QS:Inv W0 C1:={
   fresh:=hI.fresh
   nil:=hI.nil
   obj:=fun id es h hn=>by
    have hO:=hI.obj id es h hn
    obtain⟨ob,h1,h2⟩:=hO.dat
    have hb:=hcellD h1 h2
    have hc:∀o,C1.w.cell? ⟨(C.pl id).fW,o,none⟩=C.w.cell? ⟨(C.pl id).fW,o,none⟩:=fun o=>World.cell?_of_block (w:=C.w) (a:=⟨_,o,none⟩) (hne _ hb)
    exact⟨hO.n,hO.cap,by rw[hne _ hb];exact hO.fW,fun o v hv=>hO.one o v (by rw[←hc o];exact hv),hO.flat,fun i j e x v h1 h2 h3=>hrep _ _ (hO.cell i j e x v h1 h2 (by rw[←hc];exact h3))⟩
   sep:=hI.sep
   dW:=hI.dW
   tB:=hI.tB
   fU:=fun b h=>by simpa [C1] using hI.fU b h
   gC:=hI.gC
   size:=by simpa [C1] using hI.size
   lK:=fun b h=>⟨by
    rw[←(hI.lK b h).1]
    exact hne b (fun hb=>(hI.lK b h).2 (.inr (.inr (by rw[hb,hl];exact List.mem_cons_self ..)))),fun ho=>(hI.lK b h).2 (hown b ho)⟩
   gl:=fun q r h=>by
    rw[←hI.gl q r h]
    refine hne q (fun hq=> ?_)
    have:=hI.gl q r h
    rw[hq,hd] at this;cases this
   kq:=fun q h=>by
    rw[←hI.kq q (by rw[hl];exact List.mem_cons_of_mem _ h)]
    exact hne q (fun hq=>hnd (hq▸h))
   D_:=by have:=hI.D_;rw[hl] at this;exact(List.nodup_cons.1 this).2
   ET:=fun q h=>by have:=hI.ET q h;rw[hl] at this;cases this
   gT:=fun b h=>hI.gT b (by
    rcases h with h|h
    ·exact .inl h
    ·exact .inr (by rw[hl];exact List.mem_cons_of_mem _ h))
   uh:=hI.uh
   iU:=hI.iU
   gh:=W0.st C C1 hM hI.iU hI.gh}
  exact drain hu hQ l C1 rfl QS hH (fun C2 h1 h2 h3 h4 h5 h6=>hq C2 h1 h2 (hM.trans h3) h4 h5 (fun x v h=>h6 x v (hrep x v h)))

theorem Gg{W0:dK}{N:Nat}{f:FuncId}{fn:Func}{c:Code}{xs:List AV}{r:AV}{Hin Hr:bg}(hf:P.funcs[f]? =some fn)(hb:fn.body=some c)(hN:fn.ntmps=N)(hxN:xs.length≤N)(hro:W0.ro=none)
  (h:sN P W0 N c ⟨cQ 0 xs,Hin⟩ (fun e s=>(e=.normal∨e=.ret)∧∃q,HK P fn.results.toList s=some q∧aU W0 1 ⟨[(0,q)],s.H⟩ ⟨[(0,r)],Hr⟩))
  (C:Ctx)(vals:Array Value)(hI:Inv W0 C)(hH:C.H=Hin)(hd:C.kq=[])(hsz:vals.size=xs.length)(hrep:∀(k:Nat) (x:AV),xs[k]? =some x→dR C x (vals.getD k undef))(hdx:W0.dx=[]:=by rfl):
  Calls P f vals C.w (fun e w'=>∃v C',e=.returned v∧C'.w=w'∧Mem C C'∧Inv W0 C'∧C'.H=Hr∧C'.kq=[]∧dR C' r v):=by
 refine(callsIn_wide (n:=0)).1 (callsIn_of_wp_marks hf hb trivial ?_)
 have hrel:=HJ (W0:=W0) hI hH hd hN hxN hsz hrep hdx
 have key:=h C _ hrel
 rw[hro,Eb] at key
 refine wpIn_mono key fun e a' w' ⟨s,C',g1,g2,g3,g4,q,g5,g6⟩=> ?_
 subst g1
 have main:LeavesInM Fence.wide 0 P fn a'.tmps (fun e w'=>∃v C',e=.returned v∧C'.w=w'∧Mem C C'∧Inv W0 C'∧C'.H=Hr∧C'.kq=[]∧dR C' r v) a'.defers .returning C'.w:=by
  rw[g3.defers,hdx]
  refine drain (W0:=W0) (u:=.returning) (by simp) (ds:=[]) (Q:=fun C2=>Rel W0 N (lk s.fr) s.H C2 {tmps:=a'.tmps,defers:=[]}∧Mem C C2) (fun C2 hq L8=> ?_) C'.kq C' rfl g3.inv g3.heap (fun C2 h1 h2 h3 h4 h5 h6=>⟨⟨h1.trans g3.heap,h4,g3.size,by simp[h5,hdx],fun t x hx=>h6 x _ (g3.rep t x hx)⟩,g2.trans h3⟩)
  obtain⟨hq,hm⟩:=hq
  obtain⟨v,g7,g8⟩:=Ik hq g5
  have g9:=Nz hq.inv L8 g8
  rw[hq.heap] at g9
  obtain⟨C3,q1,q2,q3⟩:=g6 C2 _ g9
  exact⟨v,g7,v,C3,rfl,q1,hm.trans q2,q3.inv,q3.heap,xE q3,q3.rep 0 r rfl⟩
 rcases g4 with rfl|rfl
 ·exact main
 ·exact main

theorem OB{W0:World}{N:Nat}{f:FuncId}{fn:Func}{c:Code}{xs:List AV}{r:AV}{Hr:bg}(hf:P.funcs[f]? =some fn)(hb:fn.body=some c)(hname:(fn.name== "runtime.NumGoroutine")=false)(hN:fn.ntmps=N)(hxN:xs.length≤N)
  (h:sN P (.of W0) N c ⟨cQ 0 xs,.empty⟩ (fun e s=>(e=.normal∨e=.ret)∧∃q,HK P fn.results.toList s=some q∧aU (.of W0) 1 ⟨[(0,q)],s.H⟩ ⟨[(0,r)],Hr⟩)):N3 P W0 f xs r Hr where
 call:=oP hf hname hb
 runs C vals hI hH hd hsz hrep:=(Gg hf hb hN hxN rfl h C vals hI hH hd hsz hrep).mono fun e w' ⟨v,C',h1,h2,h3,h4,h5,h6,h7⟩=>
  ⟨v,C',h1,h2,⟨h3.below,h3.keep,h3.own,by rw[hH];exact Nat.zero_le _,fun id es hi _=>by rw[hH] at hi;exact absurd hi (Nat.not_lt_zero _),h3.dW,h6.trans hd.symm,h3.tK⟩,h4,h5,h7⟩

theorem N3.wR{W0:World}{f:FuncId}{xs:List AV}{r r':AV}{Hr:bg}(h:N3 P W0 f xs r Hr)(hw:aU (.of W0) 1 ⟨[(0,r)],Hr⟩ ⟨[(0,r')],.empty⟩)(hn:b6 r'):Ey P W0 f xs r' where
 call:=h.call
 B0:=hn
 runs C vals hI hH hd hsz hrep:=(h.runs C vals hI hH hd hsz hrep).mono fun e w' ⟨v,C',h1,h2,h3,h4,h5,h6⟩=>by
  have g:=Nz h4 (h3.kq.trans hd) h6
  rw[h5] at g
  obtain⟨C2,q1,q2,q3⟩:=hw C' _ g
  refine⟨v,C2,h1,q1.trans h2, ?_,q3.inv,q3.rep 0 r' rfl⟩
  have hm:=h3.mem.trans q2
  refine⟨hm.below,hm.keep,hm.own,by rw[hH];exact Nat.zero_le _,fun id es hi _=> ?_,hm.dW,(xE q3).trans hd.symm,hm.tK⟩
  rw[hH] at hi;exact absurd hi (Nat.not_lt_zero _)

theorem Ey.two{W0:World}{f:FuncId}{xs:List AV}{r:AV}(h:N3 P W0 f xs r .empty)(hn:b6 r):Ey P W0 f xs r:=h.wR (aU.refl _) hn
end
end Go.Av
end

section
/- Sets of numbers as bits: plain facts on 64 bits. -/
namespace Bv

theorem tb(k a b i:Nat)(hb:b<2 ^ k):(2 ^ k*a+b).testBit i=if i<k then b.testBit i else a.testBit (i - k):=Nat.testBit_two_pow_mul_add a hb i

def list(s:BitVec 64):List Nat:=(List.range 64).filter fun i=>s.getLsbD i

def has(s:BitVec 64)(i:Int):Bool:=decide (0≤i)&&decide (i<64)&&s.getLsbD i.toNat
def bit(i:Int):BitVec 64:=if 0≤i∧i<64 then 1#64<<<i.toNat else 0#64
def least(s:BitVec 64):Int:=match list s with|[]=> -1|i::_=>i
theorem ext{s t:BitVec 64}(h:∀i,i<64→s.getLsbD i=t.getLsbD i):s=t:=BitVec.eq_of_getLsbD_eq (fun i hi=>h i hi)

def tab:List Nat:=[0,1,56,2,57,49,28,3,61,58,42,50,38,29,17,4,62,47,59,36,45,43,51,22,53,39,33,30,24,18,12,5,63,55,48,27,60,41,37,16,46,35,44,21,52,32,23,11,54,26,40,15,34,20,31,10,25,14,19,9,13,8,7,6]
end Bv
end

section
/- The table of math/bits, as numbers. -/
namespace Go.Sh
end Go.Sh
end

section
/- The rules once more, over lists of plain data. -/
namespace Go.Av
abbrev dz(n:Int):Int:=IntKind.i64.wrap n
abbrev kA(k:IntKind)(n:Int):AV:=.imm (.int k n)
abbrev arA{α:Type}(enc:α→AV)(l:List α):AV:=.agg (l.map enc)
abbrev z8{α:Type}(enc:α→AV)(l:List α):AV:=.sl (l.map enc)

section
variable {P:Program} {W0:dK} {fr:Fr} {H:bg} {o:Oper} {α:Type} {enc:α→AV} {l:List α} {i:Int} {x:α} {ki:IntKind}

theorem getM{k:Nat}(h:l[k]? =some x):(l.map enc)[k]? =some (enc x):=by simp[h]

theorem aH{t e:TypeId}{s by':Nat}{xo io:Operand}{k:Nat}(enc:α→AV)(l:List α)(hi:i=k)(hl:l[k]? =some x)(ho:o.op=.indexAddr t xo io)(hx:bz fr xo=some (.sl (l.map enc)))(hio:bz fr io=some (.imm (.int ki i)))
  (ht:BR P t=some (e,s,by'))(hs:(enc x).flat.length=s):fV P W0 o fr H (.pp (enc x).flat 0) H:=
 vS ho hx (.inl rfl) hio ht hi (getM hl) hs
theorem dQ{t e:TypeId}{s by' id n:Nat}{xo io:Operand}{k:Nat}(enc:α→AV)(l:List α)(hi:i=k)(hl:l[k]? =some x)(hn:n=(l.map enc).length)(ho:o.op=.indexAddr t xo io)(hx:bz fr xo=some (.view id 0 n))(hid:H.get id=some (l.map enc))(hio:bz fr io=some (.imm (.int ki i)))
  (ht:BR P t=some (e,s,by'))(hs:(enc x).flat.length=s):fV P W0 o fr H (.ref id k 0) H:=by
 subst hn
 have hk:k<(l.map enc).length:=by have:=(List.getElem?_eq_some_iff.1 hl).1;simpa using this
 have:=Da (P:=P) (W0:=W0) (o:=o) (fr:=fr) (H:=H) ho hx hid hio ht hi hk (el:=enc x) (by rw[Nat.zero_add];exact getM hl) hs
 rwa [Nat.zero_add] at this
theorem tI{t:TypeId}{xo:Operand}{id k j n:Nat}{g:Bool}{r:AV}(enc:α→AV)(l:List α)(hl:l[k]? =some x)(ho:o.op=.load t xo)(hx:bz fr xo=some (.ref id k j))(hid:H.get id=some (l.map enc))
  (ht:zf P t=some (n,g))(hr:wq (enc x).flat j n g=some r):fV P W0 o fr H r H:=aR ho hx hid (getM hl) ht hr
theorem p7{t:TypeId}{xo yo:Operand}{id k j n:Nat}{g:Bool}{ay:AV}(enc:α→AV)(l:List α)(x':α)(hi:i=k)(hl:l[k]? =some x)(ho:o.op=.store t xo yo)(hx:bz fr xo=some (.ref id k j))(hy:bz fr yo=some ay)(hsol:ay.dH=true)
  (hid:H.get id=some (l.map enc))(ht:zf P t=some (n,g))(hn:ay.flat.length=n)(hj:j+n≤(enc x).flat.length)(he':(enc x').flat=(enc x).flat.take j++ay.flat++(enc x).flat.drop (j+n))(Wg:0<n:=by decide):
  fV P W0 o fr H .any (H.set id ((Sh.set l i x').map enc)):=by
 have:=a_ (P:=P) (W0:=W0) (o:=o) (fr:=fr) (H:=H) ho hx hy hsol hid (getM hl) ht hn hj he' Wg
 have e:(Sh.set l i x').map enc=(l.map enc).set k (enc x'):=by subst hi;simp[Sh.set,List.map_set]
 rw[e];exact this

theorem aX{t e:TypeId}{s by':Nat}{xo:Operand}(enc:α→AV)(l:List α)(ho:o.op=.call {callee:=.builtin .len,args:= #[xo],argTypes:= #[t]})(hx:bz fr xo=some (.sl (l.map enc)))(ht:BR P t=some (e,s,by')):fV P W0 o fr H (J (Sh.len l)) H:=
 (MB ho hx rfl ht).conv (by simp[Sh.len])
theorem FQ{t e:TypeId}{s by' id off n:Nat}{es:List AV}{xo:Operand}(enc:α→AV)(l:List α)(hn:n=(l.map enc).length)(ho:o.op=.call {callee:=.builtin .len,args:= #[xo],argTypes:= #[t]})(hx:bz fr xo=some (.view id off n))(hid:H.get id=some es)(ht:BR P t=some (e,s,by')):fV P W0 o fr H (J (Sh.len l)) H:=by
 subst hn
 exact(MC ho hx hid ht).conv (by simp[Sh.len])

theorem xY{s:Nat}(h:∀x:α,(enc x).flat.length=s)(l:List α):∀y∈l.map enc,y.flat.length=s:=fun y hy=>by
 obtain⟨x,_,rfl⟩:=List.mem_map.1 hy;exact h x
theorem Ms{t ty e:TypeId}{s by':Nat}{z:Value}{xo yo:Operand}{ay:AV}(enc:α→AV)(m L:List α)(hL:Sh.app by' [] m=some L)(hT:Mz P t e s by' z)(hfl:∀x:α,(enc x).flat.length=s)(ho:o.op=.call {callee:=.builtin .append,args:= #[xo,yo],argTypes:= #[t,t]})(hty:o.type=ty)
  (hx:bz fr xo=some aV)(hy:bz fr yo=some ay)(hys:ay.elems H=some (m.map enc)):fV P W0 o fr H (.view H.next 0 (L.map enc).length) (H.push s (L.map enc)):=by
 obtain⟨h1,rfl⟩:=Sh.Dc hL
 have:=C_ (P:=P) (W0:=W0) (o:=o) (fr:=fr) (H:=H) hT ho hty hx (.inl rfl) hy hys (xY hfl _) (by simpa using h1)
 simpa using this
theorem Ky{t ty e:TypeId}{s by':Nat}{z:Value}{xo yo:Operand}{ay:AV}(enc:α→AV)(l m L:List α)(hL:Sh.app by' l m=some L)(hne:m≠[])(hT:Mz P t e s by' z)(hfl:∀x:α,(enc x).flat.length=s)(ho:o.op=.call {callee:=.builtin .append,args:= #[xo,yo],argTypes:= #[t,t]})(hty:o.type=ty)
  (hx:bz fr xo=some (.clip (l.map enc)))(hy:bz fr yo=some ay)(hys:ay.elems H=some (m.map enc)):fV P W0 o fr H (.view H.next 0 (L.map enc).length) (H.push s (L.map enc)):=by
 obtain⟨h1,rfl⟩:=Sh.Dc hL
 have:=Iu (P:=P) (W0:=W0) (o:=o) (fr:=fr) (H:=H) hT ho hty hx hy hys (by simpa using hne) (xY hfl l) (xY hfl m) (by simpa using h1)
 simpa using this
theorem bV{t ty e:TypeId}{s by' id n:Nat}{z:Value}{xo yo:Operand}{ay:AV}(enc:α→AV)(l m L:List α)(hL:Sh.app by' l m=some L)(hn:n=(l.map enc).length)(hT:Mz P t e s by' z)(hfl:∀x:α,(enc x).flat.length=s)(ho:o.op=.call {callee:=.builtin .append,args:= #[xo,yo],argTypes:= #[t,t]})(hty:o.type=ty)
  (hx:bz fr xo=some (.view id 0 n))(hid:H.get id=some (l.map enc))(hs:H.sz id=some s)(hy:bz fr yo=some ay)(hys:ay.elems H=some (m.map enc)):fV P W0 o fr H (.view H.next 0 (L.map enc).length) ((H.del id).push s (L.map enc)):=by
 subst hn
 obtain⟨h1,rfl⟩:=Sh.Dc hL
 have:=Iv (P:=P) (W0:=W0) (o:=o) (fr:=fr) (H:=H) hT ho hty hx hid hs hy hys (xY hfl l) (xY hfl m) (by simpa using h1)
 simpa using this
theorem afo{t e:TypeId}{s by':Nat}{xo yo:Operand}{kl kc:IntKind}{nl nc:Int}{z:Value}(enc:α→AV)(zx:α)(L:List α)(hL:Sh.mk by' nl nc zx=some L)(ho:o.op=.makeSlice t xo yo)(hx:bz fr xo=some (.imm (.int kl nl)))(hy:bz fr yo=some (.imm (.int kc nc)))
  (ht:BR P t=some (e,s,by'))(hz:yV P e=some z)(hk:z.okV=true)(hs:(AV.NY z).flat.length=s)(hzx:enc zx=AV.NY z)(Ma:s≠0:=by decide):fV P W0 o fr H (.view H.next 0 (L.map enc).length) (H.push s (L.map enc)):=by
 obtain⟨m,c,h1,h2,h3,h4,h5,rfl⟩:=Sh.Nj hL
 have:=EZ (P:=P) (W0:=W0) (o:=o) (fr:=fr) (H:=H) ho hx hy h1 h2 h3 ht h4 h5 hz hk hs Ma
 simpa [hzx] using this

theorem SV{t e:TypeId}{s by':Nat}{xo:Operand}{lo hi:Option Operand}{ax:AV}{a b:Int}(enc:α→AV)(l L:List α)(hL:Sh.sub l a b=some L)(hfl:∀x:α,(enc x).flat.length=s)(ho:o.op=.slice t xo lo hi none)(hx:bz fr xo=some ax)(hax:ax=.sl (l.map enc)∨ax=.clip (l.map enc))
  (hlo:(lo=none∧a=0)∨∃y k,lo=some y∧bz fr y=some (.imm (.int k a)))(hhi:(hi=none∧b=Sh.len l)∨∃y k,hi=some y∧bz fr y=some (.imm (.int k b)))(ht:BR P t=some (e,s,by')):fV P W0 o fr H (.sl (L.map enc)) H:=by
 obtain⟨m,k,rfl,rfl,h1,h2,rfl⟩:=Sh.Kw hL
 have g1:∀d,(hlo':(lo=none∧((m:Int))=0)∨∃y k,lo=some y∧bz fr y=some (.imm (.int k (m:Int))))→d=0→ja fr lo d=some m:=fun d hlo' hd=>by
  rcases hlo' with⟨rfl,h⟩|⟨y,q,rfl,h⟩
  ·have:m=0:=by omega
   subst this;subst hd;rfl
  ·simp[ja,h]
 have g2:ja fr hi (l.map enc).length=some k:=by
  rcases hhi with⟨rfl,h⟩|⟨y,q,rfl,h⟩
  ·simp only[Sh.len] at h
   have:k=l.length:=by omega
   subst this;simp[ja]
  ·simp[ja,h]
 have:=ME (P:=P) (W0:=W0) (o:=o) (fr:=fr) (H:=H) ho hx hax ht (g1 0 hlo rfl) g2 h1 (by simpa using h2) (xY hfl l)
 rwa [←List.map_drop,←List.map_take] at this

end

theorem afp{P:Program}{W0:dK}{fr:Fr}{H:bg}{o:Oper}{t t':TypeId}{x y:Operand}{a b r:BitVec 64}(h:Sh.udiv a b=some r)(ho:o.op=.binOp .quo t x y t')(hx:bz fr x=some (u64 a))(hy:bz fr y=some (u64 b)):fV P W0 o fr H (u64 r) H:=by
 obtain⟨h1,rfl⟩:=Sh.Uf h;exact S8 ho hx hy h1
theorem afq{P:Program}{W0:dK}{fr:Fr}{H:bg}{o:Oper}{t t':TypeId}{x y:Operand}{a b r:BitVec 64}(h:Sh.umod a b=some r)(ho:o.op=.binOp .rem t x y t')(hx:bz fr x=some (u64 a))(hy:bz fr y=some (u64 b)):fV P W0 o fr H (u64 r) H:=by
 obtain⟨h1,rfl⟩:=Sh.Ug h;exact S9 ho hx hy h1

section
variable {W0:dK} {N:Nat} {H:bg} {g:List (Nat×Nat)} {nw:List Nat}

def Fj(H:bg)(g:List (Nat×Nat))(nw:List Nat):List AV→List AV→Prop
 |[],[]=>True
 |x::l,y::m=>tD H g nw x y∧Fj H g nw l m
 |_,_=>False

theorem Fj.spec:∀{l m:List AV},Fj H g nw l m→l.length=m.length∧∀(k:Nat) (x x':AV),l[k]? =some x→m[k]? =some x'→tD H g nw x x'
 |[],[],_=>⟨rfl,fun k x x' h=>by simp at h⟩
 |x::l,y::m,h=>by
  obtain⟨h1,h2⟩:=Fj.spec h.2
  refine⟨by simp[h1],fun k u v hu hv=> ?_⟩
  cases k with
  |zero=>simp at hu hv;subst hu hv;exact h.1
  |succ k=>simp at hu hv;exact h2 k u v hu hv
 |[],_::_,h=>h.elim
 |_::_,[],h=>h.elim

theorem tD.ag{cs cs':List AV}(h:Fj H g nw cs cs'):tD H g nw (.agg cs) (.agg cs'):=.agg cs cs' h.spec.1 h.spec.2
theorem tD.tp{cs cs':List AV}(h:Fj H g nw cs cs'):tD H g nw (.tuple cs) (.tuple cs'):=.tuple cs cs' h.spec.1 h.spec.2
theorem tD.Ek{id:Nat}{es:List AV}(h1:H.get id=some es)(h2:g.all (fun p=>p.2 !=id)=true)(h3:∀e∈es,b6 e):tD H g nw (.view id 0 es.length) (.sl es):=
 .lend h1 (fun p hp=>by have:=List.all_eq_true.1 h2 p hp;simpa using this) (by simp) h3
theorem tD.Sv{id n:Nat}{es:List AV}(h1:H.get id=some es)(h2:g.all (fun p=>p.2 !=id)=true)(hn:n=es.length)(h3:∀e∈es,b6 e):tD H g nw (.view id 0 n) (.sl es):=by
 subst hn;exact .Ek h1 h2 h3
theorem A4.one{x x':AV}(h:tD H g nw x x')(hl:x.flat.length=x'.flat.length):A4 H g nw [x] [x']:=
 ⟨rfl,fun k e e' h1 h2=>by
  cases k with
  |zero=>simp at h1 h2;subst h1 h2;exact⟨h,hl⟩
  |succ k=>simp at h1⟩
theorem sH.cons{n old s next:Nat}{es es':List AV}{r:List (Nat×(Nat×List AV))}(h1:lk g n=some old)(h2:lk H.dY old=some (s,es))(h3:A4 H g nw es es')(h4:n<next)(h5:sH H g nw next r):sH H g nw next ((n,(s,es'))::r):=
 ⟨.inl ⟨old,es,h1,h2,h3⟩,h4,h5⟩
theorem sH.fresh{n s next:Nat}{r:List (Nat×(Nat×List AV))}(h1:n∈nw)(h4:n<next)(h5:sH H g nw next r):sH H g nw next ((n,(s,[]))::r):=
 ⟨.inr ⟨h1,rfl⟩,h4,h5⟩
end

section
variable {P:Program} {W0:dK} {N:Nat} {st:St} {Q:Exit→St→Prop}

theorem aO{x y:Code}{ι:Type}(S:ι→St)(ok:ι→Prop)(hJ:∀i,ok i→sN P W0 N y (S i) Q)(h:∀K:St→Prop,(∀i s,ok i→aU W0 N s (S i)→K s)→sN P W0 N x st (It K Q)):sN P W0 N (.seq x y) st Q:=
 R7 (h _ fun i _ hi hw=>sN.Yh hw (hJ i hi))

end
end Go.Av
end

section
/- Regions in whatever order is drawn: what writes stands where it must; what only computes may stand elsewhere. -/
namespace Go.Av
open Go.RowKit (Below)

abbrev Flags:=List (Bool×Bool)
def Flags.calm(fs:Flags)(i:Nat):Bool:=(fs.getD i (false,true)).1&& !(fs.getD i (false,true)).2
def Flags.wT(fs:Flags)(i:Nat):Bool:=(fs.getD i (false,true)).2
def Flags.last(fs:Flags)(i:Nat):Bool:=(fs.getD i (false,true)).1&&(fs.getD i (false,true)).2

def Sa(md:Region.Mode)(ops:Array Oper)(fs:Flags)(listed:Array Bool)(i:Nat):Bool:=
 (List.range ops.size).all fun j=>j==i||listed.getD j true||match ops[j]? with
  |some oj=>oj.after.any (fun e=>Region.binds md e&&e.on==i)||((!fs.wT j||fs.calm i)&&(!fs.wT i||fs.calm j)&& !fs.last j)
  |none=>true

def me(md:Region.Mode)(ops:Array Oper)(i:Nat):Nat→List Bool
 |0=>[]
 |k+1=>(me md ops i k)++[match ops[k]? with
  |some o=>o.after.any fun e=>Region.binds md e&&(e.on==i||(me md ops i k).getD e.on false)
  |none=>false]
def Sb(md:Region.Mode)(ops:Array Oper)(fs:Flags)(listed:Array Bool)(i:Nat):Bool:=
 (fun B:List Bool=>(List.range ops.size).all fun j=>j==i||(if listed.getD j true then !B.getD j false else B.getD j false||((!fs.wT j||fs.calm i)&&(!fs.wT i||fs.calm j)&& !fs.last j))) (me md ops i ops.size)

def Ra(md:Region.Mode)(ops:Array Oper)(fs:Flags)(stop:Option Nat):Nat→Nat→Array Bool→Bool
 |0,_,listed=>(Region.ready md ops listed).isEmpty
 |f+1,k,listed=>stop==some k||((match ops[k]? with
   |some _=>decide (Region.ready md ops listed=[k])||((Region.ready md ops listed).contains k&&Region.free md ops listed k&&(Sa md ops fs listed k||Sb md ops fs listed k))
   |none=>false)&&(!fs.last k||f==0)&&Ra md ops fs stop f (k+1) (listed.setIfInBounds k true))

def On(fs:Flags)(stop:Option Nat)(ops:Array Oper):Bool:=Ra .any ops fs stop ops.size 0 (Array.replicate ops.size false)
def Sw(n:Nat):Nat→Array Bool
 |0=>Array.replicate n false
 |k+1=>(Sw n k).setIfInBounds k true

section
variable {P:Program} {W0:dK} {N:Nat} {C:Ctx} {fr:Fr} {a:Act} {H:bg} {ops:Array Oper} {md:Region.Mode} {fs:Flags} {S:bg→Prop}

def iz(P:Program)(W0:dK)(ops:Array Oper)(fs:Flags)(S:bg→Prop)(i:Nat)(o:Oper)(r:AV)(H1:bg)(fr:Fr)(H:bg):Prop:=
 (iP ops fr o=some true∧fV P W0 o fr H r H1∧(fs.wT i=false→H1=H)∧(fs.calm i=true→∀H',S H'→fV P W0 o fr H' r H')∧(fs.last i=false→S H→S H1))∨(iP ops fr o=some false∧r=.tuple []∧H1=H)

theorem iz.quiet{i:Nat}{o:Oper}{r:AV}{H1:bg}(h:iz P W0 ops fs S i o r H1 fr H)(hq:fs.wT i=false):H1=H:=by
 rcases h with⟨_,_,h,_⟩|⟨_,_,h⟩
 ·exact h hq
 ·exact h
theorem iz.inv{i:Nat}{o:Oper}{r:AV}{H1:bg}(h:iz P W0 ops fs S i o r H1 fr H)(hl:fs.last i=false)(hs:S H):S H1:=by
 rcases h with⟨_,_,_,_,h⟩|⟨_,_,rfl⟩
 ·exact h hl hs
 ·exact hs

theorem BM{i:Nat}(h:fs.calm i=true):fs.wT i=false:=by
 simp only[Flags.calm,Bool.and_eq_true,Bool.not_eq_true'] at h
 exact h.2

theorem iz.dry{i:Nat}{o:Oper}{r:AV}{H1:bg}(h:iz P W0 ops fs S i o r H1 fr H)(hd:fs.calm i=true)(H':bg)(hS:S H'):iz P W0 ops fs S i o r H' fr H':=by
 rcases h with⟨h1,_,_,h2,_⟩|⟨h1,h2,_⟩
 ·exact .inl ⟨h1,h2 hd H' hS,fun _=>rfl,h2,fun _=>id⟩
 ·exact .inr ⟨h1,h2,rfl⟩

theorem R3{o:Oper}{r:AV}{H1:bg}{dst:Option Nat}{s:AV}(hd:∀d,dst=some d→d∉o.looksAt ops):fV P W0 o (fr.put dst s) H r H1↔fV P W0 o fr H r H1:=by
 have hR:∀C (a:Act) (x:Operand),x∈o.op.operands→(yW C (fr.put dst s) a x↔yW C fr a x):=fun C a x hx=>by
  unfold yW
  constructor
  ·intro h t ht av hav
   subst ht
   exact h t rfl av (by rw[Fr.HG (fun he=>hd t he (Cq hx))];exact hav)
  ·intro h t ht av hav
   subst ht
   rw[Fr.HG (fun he=>hd t he (Cq hx))] at hav
   exact h t rfl av hav
 unfold fV
 constructor
 ·exact fun h2 C a hI hH hx=>h2 C a hI hH (fun x hm=>(hR C a x hm).2 (hx x hm))
 ·exact fun h2 C a hI hH hx=>h2 C a hI hH (fun x hm=>(hR C a x hm).1 (hx x hm))

theorem Uj{o:Oper}{dst:Option Nat}{s:AV}(hd:∀d,dst=some d→d∉o.looksAt ops):iP ops (fr.put dst s) o=iP ops fr o:=by
 unfold iP
 cases hg:o.guard with
 |none=>rfl
 |some p=>
  obtain⟨j,b⟩:=p
  simp only
  cases hj:(ops[j]?).bind (·.dst) with
  |none=>rfl
  |some d=>
   simp only
   rw[Fr.HG]
   intro he
   exact hd d he (by unfold Oper.looksAt;exact List.mem_append_right _ (by simp[hg,hj]))

theorem iz.put{i:Nat}{o:Oper}{r:AV}{H1:bg}{dst:Option Nat}{s:AV}(hd:∀d,dst=some d→d∉o.looksAt ops):iz P W0 ops fs S i o r H1 (fr.put dst s) H↔iz P W0 ops fs S i o r H1 fr H:=by
 unfold iz
 rw[Uj hd,R3 hd]
 have:(∀H',S H'→fV P W0 o (fr.put dst s) H' r H')↔∀H',S H'→fV P W0 o fr H' r H':=forall_congr' fun H'=>imp_congr_right fun _=>R3 hd
 rw[this]

def N2(P:Program)(W0:dK)(ops:Array Oper)(fs:Flags)(S:bg→Prop)(i:Nat)(K:Fr→bg→Prop)(fr:Fr)(H:bg):Prop:=
 match ops[i]? with
 |none=>K fr H
 |some o=>∃r H1,iz P W0 ops fs S i o r H1 fr H∧K (fr.put o.dst r) H1

theorem N2.of{i:Nat}{o:Oper}{r:AV}{H1:bg}{K:Fr→bg→Prop}(hi:ops[i]? =some o)(hy:iz P W0 ops fs S i o r H1 fr H)(h:K (fr.put o.dst r) H1):N2 P W0 ops fs S i K fr H:=by
 unfold N2
 simp only[hi]
 exact⟨r,H1,hy,h⟩

def zq(P:Program)(W0:dK)(md:Region.Mode)(ops:Array Oper)(fs:Flags)(S:bg→Prop)(L:Fr→bg→Prop):Nat→Array Bool→Fr→bg→Prop
 |0,listed,fr,H=>Region.ready md ops listed=[]∧L fr H
 |f+1,listed,fr,H=>Region.ready md ops listed≠[]∧∀i∈Region.ready md ops listed,N2 P W0 ops fs S i (zq P W0 md ops fs S L f (listed.setIfInBounds i true)) fr H

theorem KF{o:Oper}{FZ:Fr}{b:Bool}(hk:∀t x,FZ t=some x→fr t=some x)(h:iP ops FZ o=some b):iP ops fr o=some b:=by
 unfold iP at*
 split at h
 ·assumption
 ·split at h
  ·split at h
   ·rename_i hc;simp only[hk _ _ hc];exact h
   ·rename_i hc;simp only[hk _ _ hc];exact h
   ·cases h
  ·cases h

theorem fV.mono{o:Oper}{FZ:Fr}{r:AV}{H1:bg}(hk:∀t x,FZ t=some x→fr t=some x)(h:fV P W0 o FZ H r H1):fV P W0 o fr H r H1:=
 fun C a hI hH hx=>h C a hI hH (fun x hm t ht av hav=>hx x hm t ht av (hk t av hav))

theorem iz.mono{i:Nat}{o:Oper}{FZ:Fr}{r:AV}{H1:bg}(hk:∀t x,FZ t=some x→fr t=some x)(h:iz P W0 ops fs S i o r H1 FZ H):iz P W0 ops fs S i o r H1 fr H:=by
 rcases h with⟨h1,h2,h3,h4,h5⟩|⟨h1,h2⟩
 ·exact .inl ⟨KF hk h1,h2.mono hk,h3,fun hd H' hS=>(h4 hd H' hS).mono hk,h5⟩
 ·exact .inr ⟨KF hk h1,h2⟩

theorem Xo{FZ:Fr}{dst:Option Nat}{r:AV}(hk:∀t x,FZ t=some x→fr t=some x):∀t x,FZ.put dst r t=some x→fr.put dst r t=some x:=by
 cases dst with
 |none=>exact hk
 |some d=>
  intro t x h
  simp only[Fr.put] at*
  split at h
  ·rename_i ht;rw[if_pos ht];exact h
  ·rename_i ht;rw[if_neg ht];exact hk t x h

theorem zq.mono{L:Fr→bg→Prop}(hL:∀FZ fr H,(∀t x,FZ t=some x→fr t=some x)→L FZ H→L fr H):∀(f:Nat) (listed:Array Bool) (FZ fr:Fr) (H:bg),(∀t x,FZ t=some x→fr t=some x)→zq P W0 md ops fs S L f listed FZ H→zq P W0 md ops fs S L f listed fr H
 |0,_,_,_,_,hk,h=>⟨h.1,hL _ _ _ hk h.2⟩
 |f+1,listed,FZ,fr,H,hk,h=>⟨h.1,fun i hi=>by
  have h1:=h.2 i hi
  unfold N2 at*
  split
  ·rename_i ho;simp only[ho] at h1;exact zq.mono hL f _ _ _ _ hk h1
  ·rename_i o ho
   simp only[ho] at h1
   obtain⟨r,H1,hy,hK⟩:=h1
   exact⟨r,H1,hy.mono hk,zq.mono hL f _ _ _ _ (Xo hk) hK⟩⟩

theorem Al{i:Nat}{oi:Oper}{v:AV}{L:Fr→bg→Prop}(B B':Nat→Bool)(hBB:∀j,B' j=true→B j=true)
  (hB:∀j oj,ops[j]? =some oj→B j=true→∃e∈oj.after,Region.binds md e=true∧(e.on=i∨B' e.on=true))(hi:ops[i]? =some oi):
  ∀(f:Nat) (listed:Array Bool) (fr:Fr) (H H1:bg),S H→(∀j,B' j=true→listed.getD j true=false)→
   (∀j oj,ops[j]? =some oj→j≠i→listed.getD j true=false→B j=false→oi.apart ops oj=true∧(fs.wT j=true→fs.calm i=true)∧(fs.wT i=true→fs.calm j=true)∧fs.last j=false)→
   i∈Region.ready md ops listed→iz P W0 ops fs S i oi v H1 fr H→
   zq P W0 md ops fs S L f (listed.setIfInBounds i true) (fr.put oi.dst v) H1→zq P W0 md ops fs S L (f+1) listed fr H:=by
 intro f
 induction f with
 |zero=>
  intro listed fr H H1 _ _ _ hr hy HL
  refine⟨fun h=>(by rw[h] at hr;cases hr),fun j hjr=> ?_⟩
  by_cases hji:j=i
  ·subst hji;exact .of hi hy HL
  ·have h1:=ready_mono hjr hji
   rw[HL.1] at h1;cases h1
 |succ f ih=>
  intro listed fr H H1 hSH hBl hfree hr hy HL
  have hun:=(mem_ready.1 hr).1
  refine⟨fun h=>(by rw[h] at hr;cases hr),fun j hjr=> ?_⟩
  by_cases hji:j=i
  ·subst hji;exact .of hi hy HL
  ·have h1:=HL.2 j (ready_mono hjr hji)
   obtain⟨hjun,oj,hoj,hall⟩:=mem_ready.1 hjr
   have hnot:B j=false:=by
    cases hbj:B j with
    |false=>rfl
    |true=>
     obtain⟨e,he,hb,heq⟩:=hB j oj hoj hbj
     have h2:=hall e he hb
     rcases heq with heq|heq
     ·rw[heq,getD_both hun] at h2
      cases h2
     ·rw[getD_both (hBl _ heq)] at h2
      cases h2
   have aha:∀k,B' k=true→(listed.setIfInBounds j true).getD k true=false:=fun k hk=>by
    have hjk:j≠k:=fun e=>by subst e;rw[hBB _ hk] at hnot;cases hnot
    rw[getD_set_ne true hjk];exact hBl k hk
   obtain⟨hap,hdr,aoF,hlj⟩:=hfree j oj hoj hji hjun hnot
   obtain⟨a1,a2,a3⟩:=Oper.apart_spec hap
   unfold N2 at h1
   simp only[hoj] at h1
   obtain⟨s,H2,hs,hK⟩:=h1
   rw[iz.put a1] at hs
   have rest:∀k ok,ops[k]? =some ok→k≠i→(listed.setIfInBounds j true).getD k true=false→B k=false→oi.apart ops ok=true∧(fs.wT k=true→fs.calm i=true)∧(fs.wT i=true→fs.calm k=true)∧fs.last k=false:=fun k ok hk hki hku hno=>by
    refine hfree k ok hk hki ?_ hno
    by_cases hjk:j=k
    ·subst hjk;exact hjun
    ·rw[getD_set_ne true hjk] at hku;exact hku
   cases hli:fs.wT i with
   |true=>
    -- what turns the heap stays where it is; the other one does the same in any heap
    have hcj:=aoF hli
    have Tl:=hs.quiet (BM hcj)
    subst Tl
    refine .of hoj (hs.dry hcj H hSH) (ih (listed.setIfInBounds j true) (fr.put oj.dst s) H H2 hSH aha rest (ready_mono hr (Ne.symm hji)) ((iz.put a3).2 hy) ?_)
    rw[Array.setIfInBounds_comm _ _ hji,←Fr.put_comm fr v s a2]
    exact hK
   |false=>
    have hH1:=hy.quiet hli
    subst hH1
    have hy':iz P W0 ops fs S i oi v H2 fr H2:=by
     cases hl:fs.wT j with
     |true=>exact hy.dry (hdr hl) H2 (hs.inv hlj hSH)
     |false=>rw[hs.quiet hl];exact hy
    refine .of hoj hs (ih (listed.setIfInBounds j true) (fr.put oj.dst s) H2 H2 (hs.inv hlj hSH) aha rest (ready_mono hr (Ne.symm hji)) ((iz.put a3).2 hy') ?_)
    rw[Array.setIfInBounds_comm _ _ hji,←Fr.put_comm fr v s a2]
    exact hK

inductive yL (P:Program) (W0:dK) (ops:Array Oper) (fs:Flags) (S:bg→Prop) (stop:Option Nat) (L:Fr→bg→Prop):Nat→List Oper→Fr→bg→Prop
 |nil (k:Nat) (fr:Fr) (H:bg):L fr H→yL P W0 ops fs S stop L k [] fr H
 |op {k:Nat} {o:Oper} {rest:List Oper} {fr:Fr} {H H1:bg} {r:AV}:(stop==some k)=false→iz P W0 ops fs S k o r H1 fr H→yL P W0 ops fs S stop L (k+1) rest (fr.put o.dst r) H1→yL P W0 ops fs S stop L k (o::rest) fr H
 |drop {k:Nat} {l:List Oper} {fr FZ:Fr} {H:bg}:(∀t x,FZ t=some x→fr t=some x)→yL P W0 ops fs S stop L k l FZ H→yL P W0 ops fs S stop L k l fr H
 |fork {k:Nat} {l:List Oper} {fr:Fr} {H:bg}:zq P W0 .any ops fs S L l.length (Sw ops.size k) fr H→yL P W0 ops fs S stop L k l fr H

theorem LU{i:Nat}{listed:Array Bool}(h:Sa md ops fs listed i=true)(j:Nat)(oj:Oper)
  (hj:ops[j]? =some oj)(hne:j≠i)(hun:listed.getD j true=false)(hno:∀e∈oj.after,Region.binds md e=true→e.on≠i):(fs.wT j=true→fs.calm i=true)∧(fs.wT i=true→fs.calm j=true)∧fs.last j=false:=by
 simp only[Sa,List.all_eq_true,List.mem_range] at h
 have h1:=h j (Array.getElem?_eq_some_iff.1 hj).1
 simp only[hj,Bool.or_eq_true,beq_iff_eq,hne,false_or,hun,Bool.false_eq_true] at h1
 rcases h1 with h1|h1
 ·obtain⟨e,he,hb⟩:=Array.any_eq_true'.1 h1
  simp only[Bool.and_eq_true,beq_iff_eq] at hb
  exact absurd hb.2 (hno e he hb.1)
 ·simp only[Bool.and_eq_true,Bool.or_eq_true,Bool.not_eq_true'] at h1
  refine⟨fun h=> ?_,fun h=> ?_,h1.2⟩
  ·rcases h1.1.1 with h2|h2
   ·rw[h] at h2;cases h2
   ·exact h2
  ·rcases h1.1.2 with h2|h2
   ·rw[h] at h2;cases h2
   ·exact h2

def direct(md:Region.Mode)(ops:Array Oper)(i j:Nat):Bool:=match ops[j]? with
 |some oj=>oj.after.any fun e=>Region.binds md e&&e.on==i
 |none=>false
theorem D9{i j:Nat}{oj:Oper}(hj:ops[j]? =some oj)(h:direct md ops i j=false):∀e∈oj.after,Region.binds md e=true→e.on≠i:=by
 unfold direct at h
 simp only[hj] at h
 intro e he hb heq
 have:(oj.after.any fun e=>Region.binds md e&&e.on==i)=true:=Array.any_eq_true'.2 ⟨e,he,by simp[hb,heq]⟩
 rw[h] at this;cases this
theorem xk{i j:Nat}{oj:Oper}(hj:ops[j]? =some oj)(h:direct md ops i j=true):∃e∈oj.after,Region.binds md e=true∧e.on=i:=by
 unfold direct at h
 simp only[hj] at h
 obtain⟨e,he,hb⟩:=Array.any_eq_true'.1 h
 simp only[Bool.and_eq_true,beq_iff_eq] at hb
 exact⟨e,he,hb.1,hb.2⟩
theorem zB(i:Nat):∀k,(me md ops i k).length=k
 |0=>rfl
 |k+1=>by simp[me,zB i k]
theorem D5(i:Nat):∀k j,j<k→(me md ops i k).getD j false=(me md ops i (j+1)).getD j false:=by
 intro k
 induction k with
 |zero=>intro j h;omega
 |succ k ih=>
  intro j h
  by_cases hj:j=k
  ·subst hj;rfl
  ·rw[←ih j (by omega)]
   have hl:=zB (md:=md) (ops:=ops) i k
   simp only[me,List.getD]
   rw[List.getElem?_append_left (by omega)]
theorem HV(i j:Nat){oj:Oper}(hj:ops[j]? =some oj):(me md ops i (j+1)).getD j false=oj.after.any fun e=>Region.binds md e&&(e.on==i||(me md ops i j).getD e.on false):=by
 have hl:=zB (md:=md) (ops:=ops) i j
 simp only[me,hj,List.getD]
 rw[List.getElem?_append_right (by omega),hl]
 simp
theorem LS{i j:Nat}{oj:Oper}(hj:ops[j]? =some oj)(h:(me md ops i ops.size).getD j false=true):∃e∈oj.after,Region.binds md e=true∧(e.on=i∨(me md ops i ops.size).getD e.on false=true):=by
 have hlt:j<ops.size:=(Array.getElem?_eq_some_iff.1 hj).1
 rw[D5 i _ j hlt,HV i j hj] at h
 obtain⟨e,he,hb⟩:=Array.any_eq_true'.1 h
 simp only[Bool.and_eq_true,Bool.or_eq_true,beq_iff_eq] at hb
 refine⟨e,he,hb.1,hb.2.imp id fun h2=> ?_⟩
 have hej:e.on<j:=by
  rcases Nat.lt_or_ge e.on j with h3|h3
  ·exact h3
  ·have hl:=zB (md:=md) (ops:=ops) i j
   simp only[List.getD] at h2
   rw[List.getElem?_eq_none (by omega)] at h2
   cases h2
 rw[D5 i _ _ hej] at h2
 rw[D5 i _ _ (show e.on<ops.size by omega)]
 exact h2
theorem E0{i j:Nat}{oj:Oper}(hj:ops[j]? =some oj)(h:(me md ops i ops.size).getD j false=false):∀e∈oj.after,Region.binds md e=true→e.on≠i:=by
 have hlt:j<ops.size:=(Array.getElem?_eq_some_iff.1 hj).1
 rw[D5 i _ j hlt,HV i j hj] at h
 intro e he hb heq
 have:(oj.after.any fun e=>Region.binds md e&&(e.on==i||(me md ops i j).getD e.on false))=true:=Array.any_eq_true'.2 ⟨e,he,by simp[hb,heq]⟩
 rw[h] at this;cases this
theorem Jq{i:Nat}{listed:Array Bool}(h:Sb md ops fs listed i=true):(∀j,(me md ops i ops.size).getD j false=true→j=i∨listed.getD j true=false)∧
  ∀j oj,ops[j]? =some oj→j≠i→listed.getD j true=false→(me md ops i ops.size).getD j false=false→(fs.wT j=true→fs.calm i=true)∧(fs.wT i=true→fs.calm j=true)∧fs.last j=false:=by
 simp only[Sb,List.all_eq_true,List.mem_range] at h
 constructor
 ·intro j hj
  have hlt:j<ops.size:=by
   rcases Nat.lt_or_ge j ops.size with h3|h3
   ·exact h3
   ·have hl:=zB (md:=md) (ops:=ops) i ops.size
    simp only[List.getD] at hj
    rw[List.getElem?_eq_none (by omega)] at hj
    cases hj
  have h1:=h j hlt
  rw[hj] at h1
  simp only[Bool.or_eq_true,beq_iff_eq] at h1
  rcases h1 with h1|h1
  ·exact .inl h1
  ·right
   cases hl:listed.getD j true with
   |false=>rfl
   |true=>rw[hl] at h1;simp at h1
 ·intro j oj hj hne hl hb
  have h1:=h j (Array.getElem?_eq_some_iff.1 hj).1
  rw[hl,hb] at h1
  simp only[Bool.or_eq_true,beq_iff_eq,hne,false_or,Bool.false_eq_true,if_false,Bool.and_eq_true,Bool.not_eq_true'] at h1
  refine⟨fun h=> ?_,fun h=> ?_,h1.2⟩
  ·rcases h1.1.1 with h2|h2
   ·rw[h] at h2;cases h2
   ·exact h2
  ·rcases h1.1.2 with h2|h2
   ·rw[h] at h2;cases h2
   ·exact h2

theorem LJ{L:Fr→bg→Prop}{stop:Option Nat}(hL:∀FZ fr H,(∀t x,FZ t=some x→fr t=some x)→L FZ H→L fr H){k:Nat}{l:List Oper}{fr:Fr}{H:bg}(h:yL P W0 ops fs S stop L k l fr H)(hSH:l=[]∨S H):(∀j,j<l.length→l[j]? =ops[k+j]?)→Ra .any ops fs stop l.length k (Sw ops.size k)=true→
   zq P W0 .any ops fs S L l.length (Sw ops.size k) fr H:=by
 induction h with
 |nil k fr H hQ=>intro _ hc;exact⟨by simpa [Ra] using hc,hQ⟩
 |drop hk _ ih=>intro hl hc;exact zq.mono hL _ _ _ _ _ hk (ih hSH hl hc)
 |fork h=>intro _ _;exact h
 | @op k o l fr H H1 r hs hy h' ih=>
  intro hl hc
  have h0:ops[k]? =some o:=by simpa using (hl 0 (by simp)).symm
  simp only[List.length_cons,Ra,h0,hs,Bool.false_or,Bool.and_eq_true,Bool.or_eq_true,Bool.not_eq_true',beq_iff_eq] at hc
  obtain⟨⟨Si,hcl⟩,Tm⟩:=hc
  replace hSH:S H:=hSH.resolve_left (by simp)
  have rest:=ih (hcl.elim (fun q=>.inr (hy.inv q hSH)) fun q=>.inl (List.eq_nil_of_length_eq_zero q)) (fun j hjl=>by have:=hl (j+1) (by simp;omega);simpa [Nat.add_assoc,Nat.add_comm 1 j] using this) Tm
  simp only[decide_eq_true_eq] at Si
  rcases Si with Si|⟨⟨g1,g2⟩,g3⟩
  ·refine⟨fun he=>(by rw[Si] at he;cases he),fun j hj=> ?_⟩
   rw[Si] at hj
   have:j=k:=by simpa using hj
   subst this
   exact .of h0 hy rest
  ·have hr:k∈Region.ready .any ops (Sw ops.size k):=by simpa using g1
   have hun:=(mem_ready.1 hr).1
   rcases g3 with g3|g3
   ·exact Al (direct .any ops k) (fun _=>false) (fun _ h=>by cases h) (fun j oj hj h=>by
     obtain⟨e,h1,h2,h3⟩:=xk hj h
     exact⟨e,h1,h2,.inl h3⟩) h0 l.length (Sw ops.size k) fr _ _ hSH (fun _ h=>by cases h) (fun j oj hj hne hun hno=>⟨Region.free_spec h0 g2 j oj hj hne hun (D9 hj hno),LU g3 j oj hj hne hun (D9 hj hno)⟩) hr hy rest
   ·obtain⟨c1,c2⟩:=Jq g3
    exact Al (fun j=>(me .any ops k ops.size).getD j false) (fun j=>(me .any ops k ops.size).getD j false) (fun _ h=>h) (fun j oj hj h=>LS hj h) h0 l.length (Sw ops.size k) fr _ _ hSH (fun j h=>(c1 j h).elim (fun e=>by rw[e];exact hun) id) (fun j oj hj hne hun hno=>⟨Region.free_spec h0 g2 j oj hj hne hun (E0 hj hno),c2 j oj hj hne hun hno⟩) hr hy rest

theorem wN{L:Fr→bg→Prop}{Q:Exit→Act→World→Prop}(hN:∀o∈ops,n4 N o=true):
  ∀(f:Nat) (listed:Array Bool) (fr:Fr) (H:bg) (C:Ctx) (a:Act),Rel W0 N fr H C a→
   (∀fr H C' a',Ext C C'→Rel W0 N fr H C' a'→L fr H→Q .normal a' C'.w)→zq P W0 md ops fs S L f listed fr H→wpAny P md ops Q f listed a C.w
 |0,listed,fr,H,C,a,hr,hL,h=>⟨h.1,hL _ _ C a (.refl C) hr h.2⟩
 |f+1,listed,fr,H,C,a,hr,hL,h=>by
  refine⟨fun h0=>absurd h0 h.1,fun i hi=> ?_⟩
  have h1:=h.2 i hi
  obtain⟨_,o,ho,_⟩:=mem_ready.1 hi
  unfold N2 at h1
  simp only[ho] at h1
  obtain⟨r,H1,hy,hK⟩:=h1
  have hd:∀d,o.dst=some d→d<N:=n4.lt (hN o (Array.mem_of_getElem? ho))
  unfold wpOp
  simp only[ho]
  rcases hy with⟨hw,hop,_⟩|⟨hw,rfl,rfl⟩
  ·rw[nZ hr.rep hw]
   simp only[if_true]
   refine .inl (hop C a hr.inv hr.heap (fun x _ t _ av hav=>hr.rep t av hav) _ _ (fun v C' he hi' hH hv=> ?_))
   exact wN hN f _ _ _ C' _ (hr.put he hi' hH hv hd) (fun f2 H2 C2 a2 h2=>hL f2 H2 C2 a2 (he.trans h2)) hK
  ·rw[nZ hr.rep hw]
   simp only[Bool.false_eq_true,if_false]
   exact wN hN f _ _ _ C _ (hr.put (.refl C) hr.inv hr.heap GP hd) hL hK

def LK(K:List (Nat×AV)→bg→Prop)(f:Fr)(g:bg):Prop:=∃frl,(∀t x,lk frl t=some x→f t=some x)∧K frl g
theorem LK.mono{K:List (Nat×AV)→bg→Prop}(FZ fr:Fr)(H:bg)(hk:∀t x,FZ t=some x→fr t=some x)(h:LK K FZ H):LK K fr H:=by
 obtain⟨frl,h1,h2⟩:=h
 exact⟨frl,fun t x h=>hk t x (h1 t x h),h2⟩

def Cj(P:Program)(W0:dK)(ops:Array Oper)(fs:Flags)(stop:Option Nat)(k:Nat)(l:List Oper)(fr:List (Nat×AV))(H:bg)(K:List (Nat×AV)→bg→Prop):Prop:=
 yL P W0 ops fs (fun _=>True) stop (LK K) k l (lk fr) H

variable {Q:Exit→St→Prop} {frl:List (Nat×AV)} {K:List (Nat×AV)→bg→Prop} {o:Oper} {rest:List Oper} {k:Nat} {stop:Option Nat}

theorem bw(h:K frl H):Cj P W0 ops fs stop k [] frl H K:=yL.nil _ _ _ ⟨frl,fun _ _ h=>h,h⟩
theorem Cj.drop{l:List Oper}{frx:List (Nat×AV)}(h:xN frl frx)(h2:Cj P W0 ops fs stop k l frx H K):Cj P W0 ops fs stop k l frl H K:=yL.drop (xN.lk h) h2
theorem LL(ts:List Nat){l:List Oper}{frx:List (Nat×AV)}(h:pick frl ts=some frx)(h2:Cj P W0 ops fs stop k l frx H K):Cj P W0 ops fs stop k l frl H K:=Cj.drop (xu h) h2
theorem Cj.step{r:AV}{H1:bg}(h:iz P W0 ops fs (fun _=>True) k o r H1 (lk frl) H)(h2:Cj P W0 ops fs stop (k+1) rest (s9 frl o.dst r) H1 K)(hs:(stop==some k)=false:=by rfl):Cj P W0 ops fs stop k (o::rest) frl H K:=by
 unfold Cj at h2
 rw[y9] at h2
 exact yL.op hs h h2
theorem LM(hw:iP ops (lk frl) o=some false)(h2:Cj P W0 ops fs stop (k+1) rest (s9 frl o.dst (.tuple [])) H K)(hs:(stop==some k)=false:=by rfl):Cj P W0 ops fs stop k (o::rest) frl H K:=.step (.inr ⟨hw,rfl,rfl⟩) h2 hs
theorem aJ{r:AV}(hw:iP ops (lk frl) o=some true)(h:∀H',fV P W0 o (lk frl) H' r H')(h2:Cj P W0 ops fs stop (k+1) rest (s9 frl o.dst r) H K)(hs:(stop==some k)=false:=by rfl):Cj P W0 ops fs stop k (o::rest) frl H K:=
 .step (.inl ⟨hw,h H,fun _=>rfl,fun _ H' _=>h H',fun _=>id⟩) h2 hs
theorem bK{r:AV}(hw:iP ops (lk frl) o=some true)(hd:fs.calm k=false)(h:fV P W0 o (lk frl) H r H)(h2:Cj P W0 ops fs stop (k+1) rest (s9 frl o.dst r) H K)(hs:(stop==some k)=false:=by rfl):Cj P W0 ops fs stop k (o::rest) frl H K:=
 .step (.inl ⟨hw,h,fun _=>rfl,(fun he=>by rw[hd] at he;cases he),fun _=>id⟩) h2 hs
theorem Is{r:AV}{H1:bg}(hw:iP ops (lk frl) o=some true)(hl:fs.wT k=true)(h:fV P W0 o (lk frl) H r H1):iz P W0 ops fs (fun _=>True) k o r H1 (lk frl) H:=
 .inl ⟨hw,h,(fun he=>by rw[hl] at he;cases he),(fun he=>by have:=BM he;rw[hl] at this;cases this),fun _ _=>trivial⟩
theorem dI{r:AV}{H1:bg}(hw:iP ops (lk frl) o=some true)(hl:fs.wT k=true)(h:fV P W0 o (lk frl) H r H1)(h2:Cj P W0 ops fs stop (k+1) rest (s9 frl o.dst r) H1 K)(hs:(stop==some k)=false:=by rfl):Cj P W0 ops fs stop k (o::rest) frl H K:=
 .step (Is hw hl h) h2 hs

def AF(P:Program)(W0:dK)(ops:Array Oper)(fs:Flags)(f:Nat)(listed:Array Bool)(fr:List (Nat×AV))(H:bg)(K:List (Nat×AV)→bg→Prop):Prop:=
 zq P W0 .any ops fs (fun _=>True) (LK K) f listed (lk fr) H
def AF1(P:Program)(W0:dK)(ops:Array Oper)(fs:Flags)(f:Nat)(listed:Array Bool)(fr:List (Nat×AV))(H:bg)(K:List (Nat×AV)→bg→Prop)(i:Nat):Prop:=
 N2 P W0 ops fs (fun _=>True) i (zq P W0 .any ops fs (fun _=>True) (LK K) f (listed.setIfInBounds i true)) (lk fr) H
def AFs(P:Program)(W0:dK)(ops:Array Oper)(fs:Flags)(f:Nat)(listed:Array Bool)(fr:List (Nat×AV))(H:bg)(K:List (Nat×AV)→bg→Prop):List Nat→Prop
 |[]=>True
 |i::l=>AF1 P W0 ops fs f listed fr H K i∧AFs P W0 ops fs f listed fr H K l
theorem AFs.spec{f:Nat}{listed:Array Bool}:∀{l:List Nat},AFs P W0 ops fs f listed frl H K l→∀i∈l,AF1 P W0 ops fs f listed frl H K i
 |i::l,h,j,hj=>by
  rcases List.mem_cons.1 hj with rfl|hj
  ·exact h.1
  ·exact AFs.spec h.2 j hj
theorem Cj.fork{l:List Oper}(h:AF P W0 ops fs l.length (Sw ops.size k) frl H K):Cj P W0 ops fs stop k l frl H K:=yL.fork h
theorem AF.done{listed:Array Bool}(hr:(Region.ready .any ops listed).isEmpty=true)(h:K frl H):AF P W0 ops fs 0 listed frl H K:=⟨by simpa using hr,frl,fun _ _ h=>h,h⟩
theorem AF.many{f:Nat}{listed:Array Bool}(i:Nat)(is:List Nat)(hr:Region.ready .any ops listed=i::is)(h:AFs P W0 ops fs f listed frl H K (i::is)):AF P W0 ops fs (f+1) listed frl H K:=
 ⟨by rw[hr];simp,fun j hj=>by rw[hr] at hj;exact AFs.spec h j hj⟩
theorem nF{f i:Nat}{listed:Array Bool}{r:AV}{H1:bg}(o:Oper)(ho:ops[i]? =some o)(hw:iP ops (lk frl) o=some true)(hl:fs.wT i=true)(h:fV P W0 o (lk frl) H r H1)(h2:AF P W0 ops fs f (listed.setIfInBounds i true) (s9 frl o.dst r) H1 K):AF1 P W0 ops fs f listed frl H K i:=by
 refine .of ho (Is hw hl h) ?_
 unfold AF at h2
 rw[y9] at h2
 exact h2

theorem AF.keep(ts:List Nat){f:Nat}{listed:Array Bool}{frx:List (Nat×AV)}(h:pick frl ts=some frx)(h2:AF P W0 ops fs f listed frx H K):AF P W0 ops fs f listed frl H K:=zq.mono LK.mono _ _ _ _ _ (xN.lk (xu h)) h2
theorem AF.dry{f:Nat}{listed:Array Bool}{r:AV}(i:Nat){o:Oper}(ho:ops[i]? =some o)(hc:((Region.ready .any ops listed).contains i&&Region.free .any ops listed i&&(fs.calm i&&(Sa .any ops fs listed i||Sb .any ops fs listed i)))=true)(hw:iP ops (lk frl) o=some true)(h:∀H',fV P W0 o (lk frl) H' r H')
  (h2:AF P W0 ops fs f (listed.setIfInBounds i true) (s9 frl o.dst r) H K):AF P W0 ops fs (f+1) listed frl H K:=by
 simp only[Bool.and_eq_true,Bool.or_eq_true] at hc
 obtain⟨⟨g1,g2⟩,_,g3⟩:=hc
 have hr:i∈Region.ready .any ops listed:=by simpa using g1
 have hun:=(mem_ready.1 hr).1
 unfold AF at h2
 rw[y9] at h2
 have hy:iz P W0 ops fs (fun _=>True) i o r H (lk frl) H:=.inl ⟨hw,h H,fun _=>rfl,fun _ H' _=>h H',fun _=>id⟩
 rcases g3 with g3|g3
 ·exact Al (direct .any ops i) (fun _=>false) (fun _ h=>by cases h) (fun j oj hj h=>by
   obtain⟨e,h1,h2,h3⟩:=xk hj h
   exact⟨e,h1,h2,.inl h3⟩) ho f listed (lk frl) _ _ trivial (fun _ h=>by cases h) (fun j oj hj hne hun hno=>⟨Region.free_spec ho g2 j oj hj hne hun (D9 hj hno),LU g3 j oj hj hne hun (D9 hj hno)⟩) hr hy h2
 ·obtain⟨c1,c2⟩:=Jq g3
  exact Al (fun j=>(me .any ops i ops.size).getD j false) (fun j=>(me .any ops i ops.size).getD j false) (fun _ h=>h) (fun j oj hj h=>LS hj h) ho f listed (lk frl) _ _ trivial (fun j h=>(c1 j h).elim (fun e=>by rw[e];exact hun) id) (fun j oj hj hne hun hno=>⟨Region.free_spec ho g2 j oj hj hne hun (E0 hj hno),c2 j oj hj hne hun hno⟩) hr hy h2

theorem Ob(fs:Flags)(stop:Option Nat){id:Nat}{l:List Oper}(hm:P.follows .mixedOrders=true)(hB:On fs stop l.toArray=true)(hN:l.all (n4 N)=true)(h:Cj P W0 l.toArray fs stop 0 l frl H (fun f g=>Q .normal ⟨f,g⟩))(hro:W0.ro=none:=by rfl):sN P W0 N (.region id l.toArray true) ⟨frl,H⟩ Q:=fun C a hr=>by
 obtain⟨hE,hR⟩:=PK hr
 rw[hro,Eb]
 refine wpIn_wide.2 (wp_region_any hm ?_)
 have hB':Ra .any l.toArray fs stop l.length 0 (Sw l.toArray.size 0)=true:=by simpa [On,Sw] using hB
 have key:=LJ (P:=P) (W0:=W0) (ops:=l.toArray) LK.mono h (.inr trivial) (fun j _=>by simp) hB'
 have:=wN (P:=P) (Q:=UG W0 N C Q) (fun o ho=>List.all_eq_true.1 hN o (by simpa using ho)) _ _ _ _ _ _ hR (fun f g C' a' he hrel hL=>by
  obtain⟨fr',hk,hq⟩:=hL
  exact⟨⟨fr',g⟩,C',rfl,(hE.trans he).mem,⟨hrel.heap,hrel.inv,hrel.size,hrel.defers,fun t x hx=>hrel.rep t x (hk t x hx)⟩,hq⟩) key
 simpa [Ctx.zk,Sw] using this
theorem b5(fs:Flags){id:Nat}{l:List Oper}(hm:P.follows .mixedOrders=true)(hB:On fs none l.toArray=true)(hN:l.all (n4 N)=true)(h:Cj P W0 l.toArray fs none 0 l frl H (fun f g=>Q .normal ⟨f,g⟩))(hro:W0.ro=none:=by rfl):sN P W0 N (.region id l.toArray true) ⟨frl,H⟩ Q:=Ob fs none hm hB hN h hro

def Agr(H0:bg)(ids:List Nat)(H:bg):Prop:=∀k∈ids,lk H.dY k=lk H0.dY k
def UF(H0 H:bg):List Nat→Prop
 |[]=>True
 |k::r=>lk H.dY k=lk H0.dY k∧UF H0 H r
theorem UF.spec{H0 H:bg}:∀{ids:List Nat},UF H0 H ids→Agr H0 ids H
 |[],_=>fun _ h=>by cases h
 |k::r,h=>fun j hj=>by
  rcases List.mem_cons.1 hj with rfl|hj
  ·exact h.1
  ·exact h.2.spec j hj
theorem Agr.get{H0 H:bg}{ids:List Nat}{es:List AV}(h:Agr H0 ids H)(k:Nat)(hk:ids.contains k=true:=by rfl)(h0:H0.get k=some es:=by rfl):H.get k=some es:=by
 unfold bg.get at*
 rw[h k (by simpa using hk)];exact h0
def F5(P:Program)(W0:dK)(ops:Array Oper)(fs:Flags)(H0:bg)(ids:List Nat)(k:Nat)(l:List Oper)(fr:List (Nat×AV))(H:bg)(K:List (Nat×AV)→bg→Prop):Prop:=
 yL P W0 ops fs (Agr H0 ids) none (LK K) k l (lk fr) H
section
variable {H0:bg} {ids:List Nat}
theorem F5.nil(h:K frl H):F5 P W0 ops fs H0 ids k [] frl H K:=yL.nil _ _ _ ⟨frl,fun _ _ h=>h,h⟩
theorem F5.keep(ts:List Nat){l:List Oper}{frx:List (Nat×AV)}(h:pick frl ts=some frx)(h2:F5 P W0 ops fs H0 ids k l frx H K):F5 P W0 ops fs H0 ids k l frl H K:=yL.drop (xN.lk (xu h)) h2
theorem F5.step{r:AV}{H1:bg}(h:iz P W0 ops fs (Agr H0 ids) k o r H1 (lk frl) H)(h2:F5 P W0 ops fs H0 ids (k+1) rest (s9 frl o.dst r) H1 K):F5 P W0 ops fs H0 ids k (o::rest) frl H K:=by
 unfold F5 at h2
 rw[y9] at h2
 exact yL.op rfl h h2
theorem F5.calm{r:AV}(hw:iP ops (lk frl) o=some true)(hg:UF H0 H ids)(h:∀H',Agr H0 ids H'→fV P W0 o (lk frl) H' r H')(h2:F5 P W0 ops fs H0 ids (k+1) rest (s9 frl o.dst r) H K):F5 P W0 ops fs H0 ids k (o::rest) frl H K:=
 .step (.inl ⟨hw,h H hg.spec,fun _=>rfl,fun _=>h,fun _=>id⟩) h2
theorem F5.wT{r:AV}{H1:bg}(hw:iP ops (lk frl) o=some true)(hl:fs.wT k=true)(h:fV P W0 o (lk frl) H r H1)(hg:UF H0 H1 ids)(h2:F5 P W0 ops fs H0 ids (k+1) rest (s9 frl o.dst r) H1 K):F5 P W0 ops fs H0 ids k (o::rest) frl H K:=
 .step (.inl ⟨hw,h,(fun he=>by rw[hl] at he;cases he),(fun he=>by have:=BM he;rw[hl] at this;cases this),fun _ _=>hg.spec⟩) h2
theorem F5.last{r:AV}{H1:bg}(hw:iP ops (lk frl) o=some true)(hl:fs.last k=true)(h:fV P W0 o (lk frl) H r H1)(h2:K (s9 frl o.dst r) H1):F5 P W0 ops fs H0 ids k [o] frl H K:=
 .step (.inl ⟨hw,h,(fun he=>by simp only[Flags.last,Bool.and_eq_true] at hl;rw[Flags.wT,hl.2] at he;cases he),(fun he=>by have:=BM he;simp only[Flags.last,Bool.and_eq_true] at hl;rw[Flags.wT,hl.2] at this;cases this),(fun he=>by rw[hl] at he;cases he)⟩) (.nil h2)
end
theorem UQ(ids:List Nat)(fs:Flags){id:Nat}{l:List Oper}(hm:P.follows .mixedOrders=true)(hB:On fs none l.toArray=true)(hN:l.all (n4 N)=true)(h:F5 P W0 l.toArray fs H ids 0 l frl H (fun f g=>Q .normal ⟨f,g⟩))(hro:W0.ro=none:=by rfl):sN P W0 N (.region id l.toArray true) ⟨frl,H⟩ Q:=fun C a hr=>by
 obtain⟨hE,hR⟩:=PK hr
 rw[hro,Eb]
 refine wpIn_wide.2 (wp_region_any hm ?_)
 have hB':Ra .any l.toArray fs none l.length 0 (Sw l.toArray.size 0)=true:=by simpa [On,Sw] using hB
 have key:=LJ (P:=P) (W0:=W0) (ops:=l.toArray) LK.mono h (.inr (fun _ _=>rfl)) (fun j _=>by simp) hB'
 have:=wN (P:=P) (Q:=UG W0 N C Q) (fun o ho=>List.all_eq_true.1 hN o (by simpa using ho)) _ _ _ _ _ _ hR (fun f g C' a' he hrel hL=>by
  obtain⟨fr',hk,hq⟩:=hL
  exact⟨⟨fr',g⟩,C',rfl,(hE.trans he).mem,⟨hrel.heap,hrel.inv,hrel.size,hrel.defers,fun t x hx=>hrel.rep t x (hk t x hx)⟩,hq⟩) key
 simpa [Ctx.zk,Sw] using this

end
end Go.Av
end

section
/- Structs of numbers, held against each other. -/
namespace Go.Av
open Go

def Mb(P:Program)(t:TypeId)(n:Nat):Bool:=
 (match P.underlying t with
  |some (.struct fs)=>decide (fs.size=n)&&(fs.toList.zipIdx.all fun p=>p.1.offset==p.2&&p.1.name != "_" &&(match P.underlying p.1.type with|some (.int .i64)=>true|_=>false))
  |_=>false)&& !P.stoodInHeld t&& !P.eqGuardType P.depth t

section
variable {P:Program} {W0:dK} {fr:Fr} {H:bg} {o:Oper}

theorem Pu{t:TypeId}{cs:Array Value}{off:Nat}{v:Value}(ht:P.underlying t=some (.int .i64))(hv:cs[off]? =some v)(w:World):(part t cs off).run P w=.ok v w:=by
 have h:(isAgg t).run P w=.ok false w:=by
  simp only[isAgg,Sem.run_bind,run_underlying ht,Result.andThen_ok]
  rfl
 unfold part
 rw[Sem.run_bind,h]
 simp[hv]

theorem GV(d:Nat)(w:World)(BF bs:List Int)(hl:BF.length=bs.length):∀(fs:List Field) (k:Nat),(fs.zipIdx k).all (fun p=>p.1.offset==p.2&&p.1.name != "_" &&(match P.underlying p.1.type with|some (.int .i64)=>true|_=>false))=true→k+fs.length=BF.length→
  (Op.eqFields (d+1) (BF.map fun n=>Value.int .i64 n).toArray (bs.map fun n=>Value.int .i64 n).toArray fs).run P w=.ok (decide (BF.drop k=bs.drop k)) w
 |[],k,_,hk=>by
  have h1:BF.drop k=[]:=List.drop_eq_nil_of_le (by simp at hk;omega)
  have h2:bs.drop k=[]:=List.drop_eq_nil_of_le (by simp at hk;omega)
  simp[Op.eqFields,h1,h2]
 |f::fs,k,h,hk=>by
  simp only[List.zipIdx_cons,List.all_cons,Bool.and_eq_true,beq_iff_eq,bne_iff_ne] at h
  obtain⟨⟨⟨h1,h2⟩,h3⟩,h4⟩:=h
  have hu:P.underlying f.type=some (.int .i64):=by
   split at h3
   ·assumption
   ·cases h3
  simp only[List.length_cons] at hk
  have hka:k<BF.length:=by omega
  have hkb:k<bs.length:=by omega
  have ga:(BF.map fun n=>Value.int .i64 n).toArray[f.offset]? =some (.int .i64 BF[k]):=by simp[h1,hka]
  have gb:(bs.map fun n=>Value.int .i64 n).toArray[f.offset]? =some (.int .i64 bs[k]):=by simp[h1,hkb]
  have ih:=GV d w BF bs hl fs (k+1) h4 (by omega)
  rw[List.drop_eq_getElem_cons hka,List.drop_eq_getElem_cons hkb]
  unfold Op.eqFields
  rw[if_pos h2,Sem.run_bind,Pu hu ga]
  simp only[Result.andThen_ok]
  rw[Sem.run_bind,Pu hu gb]
  simp only[Result.andThen_ok]
  rw[Sem.run_bind,run_equalIn_int w d f.type .i64 .i64 BF[k] bs[k] hu]
  simp only[Result.andThen_ok]
  generalize BF.drop (k+1)=A at ih ⊢
  generalize bs.drop (k+1)=B at ih ⊢
  generalize BF[k]=x
  generalize bs[k]=y
  by_cases he:x=y
  ·simp[he,ih]
  ·simp[he]

theorem Ij{t:TypeId}{n:Nat}(ht:Mb P t n=true)(BF bs:List Int)(ha:BF.length=n)(hb:bs.length=n)(w:World):
  (Op.equalIn 10000 t (.agg (BF.map fun n=>Value.int .i64 n).toArray) (.agg (bs.map fun n=>Value.int .i64 n).toArray)).run P w=.ok (decide (BF=bs)) w∧P.eqGuardType P.depth t=false:=by
 simp only[Mb,Bool.and_eq_true,Bool.not_eq_true'] at ht
 obtain⟨⟨h1,h2⟩,h3⟩:=ht
 refine⟨?_,h3⟩
 split at h1
 ·rename_i fs hu
  simp only[Bool.and_eq_true,decide_eq_true_eq] at h1
  obtain⟨h4,h5⟩:=h1
  have hf:P.fieldsOf t=fs:=by simp[Program.fieldsOf,hu]
  have h6:=run_equalIn_struct (P:=P) w 9999 t (BF.map fun n=>Value.int .i64 n).toArray (bs.map fun n=>Value.int .i64 n).toArray (by rw[hf];exact hu) h2
  rw[h6,hf]
  have:=GV (P:=P) 9998 w BF bs (by omega) fs.toList 0 h5 (by simp;omega)
  simpa using this
 ·cases h1

theorem GN{C:Ctx}{l:List Int}{v:Value}(h:dR C (.agg (l.map J)) v):v=.agg (l.map fun n=>Value.int .i64 n).toArray:=by
 refine fc (x:=.agg (l.map J)) ?_ h
 have:RM (l.map J)=some (l.map fun n=>Value.int .i64 n):=by
  clear h
  induction l with
  |nil=>rfl
  |cons a l ih=>simp[RM,ih]
 simp[AV.toV,this]

theorem Ub{t t':TypeId}{n:Nat}{x y:Operand}(BF bs:List Int)(ht:Mb P t n=true)(ha:BF.length=n)(hb:bs.length=n)(ho:o.op=.binOp .eql t x y t')(hx:bz fr x=some (.agg (BF.map J)))(hy:bz fr y=some (.agg (bs.map J))):fV P W0 o fr H (bl (decide (BF=bs))) H:=
 .e8 fun C a _ _ hr=>by
  have e1:=GN (bN (hr x (by simp[ho,Op.operands])) hx)
  have e2:=GN (bN (hr y (by simp[ho,Op.operands])) hy)
  obtain⟨h1,h2⟩:=Ij (P:=P) ht BF bs ha hb C.w
  refine⟨.bool (decide (BF=bs)), ?_,.imm _ rfl⟩
  simp only[execOp,ho,e1,e2,Sem.run_bind,run_eqGuard_agg _ _ _ _ _ _ _ h2,Result.andThen_ok,run_eql_struct,h1]
  rfl
theorem Mu{t t':TypeId}{n:Nat}{x y:Operand}(BF bs:List Int)(ht:Mb P t n=true)(ha:BF.length=n)(hb:bs.length=n)(ho:o.op=.binOp .neq t x y t')(hx:bz fr x=some (.agg (BF.map J)))(hy:bz fr y=some (.agg (bs.map J))):fV P W0 o fr H (bl (!decide (BF=bs))) H:=
 .e8 fun C a _ _ hr=>by
  have e1:=GN (bN (hr x (by simp[ho,Op.operands])) hx)
  have e2:=GN (bN (hr y (by simp[ho,Op.operands])) hy)
  obtain⟨h1,h2⟩:=Ij (P:=P) ht BF bs ha hb C.w
  refine⟨.bool (!decide (BF=bs)), ?_,.imm _ rfl⟩
  simp only[execOp,ho,e1,e2,Sem.run_bind,run_eqGuard_agg _ _ _ _ _ _ _ h2,Result.andThen_ok,run_neq_struct,h1]
  rfl
end
end Go.Av
end

section
/- Arrays of things of one cell: as values of one element of the proof's own; literals of the proof's own. -/
namespace Go.Av
open Go.RowKit (Below)
section
variable {P:Program} {W0:dK} {C:Ctx} {fr:Fr} {a:Act} {H:bg} {o:Oper}

theorem Iw{t e:TypeId}{s by' len:Nat}{parts:Array (Nat×Operand)}{xo:List Operand}{xs:List AV}(ho:o.op=.buildSlice t len parts)(hp:parts.toList=xo.zipIdx.map fun p=>(p.2,p.1))(hlen:len=xo.length)
  (hxs:xo.mapM (bz fr)=some xs)(hsol:∀x∈xs,x.dH=true)(hfl:∀x∈xs,x.flat.length=s)(ht:BR P t=some (e,s,by'))(hz:(yV P e).isSome=true)(hsmall:len*s≤16777216)(Ma:s≠0:=by decide):
  fV P W0 o fr H (.view H.next 0 xs.length) (H.push s xs):=
 .DH fun C a hI hH hop=>by
  obtain⟨hu,i,hi,hs,_⟩:=uQ ht
  unfold yV at hz
  rw[hi] at hz
  obtain⟨z,hz⟩:=Option.isSome_iff_exists.1 hz
  simp only[Option.bind_some] at hz
  obtain⟨m1,m2⟩:=En xo xs hxs
  have hops:o.op.operands=(parts.toList.map (·.2)).toArray:=by simp[ho,Op.operands]
  have hrep:∀(k:Nat) (x:AV),xs[k]? =some x→∃y,xo[k]? =some y∧dR C x (a.eval y):=fun k x hk=>by
   obtain⟨y,g1,g2⟩:=m2 k x hk
   refine⟨y,g1,bN (hop y ?_) g2⟩
   rw[hops,hp]
   simp only[List.mem_toArray,List.map_map,List.mem_map]
   exact⟨(y,k),by rw[List.mem_zipIdx_iff_getElem?];exact g1,rfl⟩
  let vs:=xo.map a.eval
  have hv1:∀v∈vs,v.cells.size=s:=fun v hv=>by
   obtain⟨k,hk⟩:=List.getElem?_of_mem hv
   simp only[vs,List.getElem?_map,Option.map_eq_some_iff] at hk
   obtain⟨y,g1,rfl⟩:=hk
   have hlt:k<xs.length:=by rw[m1];exact(List.getElem?_eq_some_iff.1 g1).1
   obtain⟨y',g2,g3⟩:=hrep k _ (List.getElem?_eq_getElem hlt)
   rw[g1] at g2;cases g2
   rw[(tH g3 (hsol _ (List.getElem_mem hlt))).1]
   exact hfl _ (List.getElem_mem hlt)
  have Ww:∀n,((Array.range (len*s)).map (fun q=>(n:Array Value)[q % n.size]!)).size=len*s:=fun n=>by simp
  obtain⟨cells',f1,f2,f3,f4⟩:=Ox s vs 0 ((Array.range (len*s)).map (fun q=>((if len*s=0 then #[] else z.cells:Array Value))[q % (if len*s=0 then #[] else z.cells:Array Value).size]!)) hv1
   (by rw[Ww,hlen];simp[vs])
  have hcells:cells'.size=len*s:=by rw[f2,Ww]
  have hget:∀(k j:Nat) (x y:AV),xs[k]? =some x→x.flat[j]? =some y→∃v,cells'[k*s+j]? =some v∧dR C y v:=fun k j x y hk hj=>by
   obtain⟨yo,g1,g2⟩:=hrep k x hk
   have hm:=List.mem_of_getElem? hk
   obtain⟨c1,c2,c3⟩:=tH g2 (hsol x hm)
   obtain⟨u,g3,g4⟩:=c3 j y hj
   have hjs:j<s:=by rw[←hfl x hm];exact(List.getElem?_eq_some_iff.1 hj).1
   have:=f4 k (a.eval yo) (by simp only[vs,List.getElem?_map,g1];rfl) j hjs
   rw[Nat.zero_add] at this
   exact⟨u,by rw[this];exact g3,g4⟩
  have hone:∀u∈cells',u.oneCell'=true:=fun u hu=>by
   obtain⟨q,hq⟩:=Array.getElem?_of_mem hu
   have hqlt:q<len*s:=by rw[←hcells];exact(Array.getElem?_eq_some_iff.1 hq).1
   have hs0:0<s:=by
    rcases Nat.eq_zero_or_pos s with h|h
    ·subst h;simp at hqlt
    ·exact h
   have hk:q / s<len:=Nat.div_lt_of_lt_mul (by rwa [Nat.mul_comm] at hqlt)
   have hkx:q / s<xs.length:=by rw[m1,←hlen];exact hk
   obtain⟨yo,g1,g2⟩:=hrep (q / s) _ (List.getElem?_eq_getElem hkx)
   obtain⟨c1,c2,c3⟩:=tH g2 (hsol _ (List.getElem_mem hkx))
   have:=f4 (q / s) (a.eval yo) (by simp only[vs,List.getElem?_map,g1];rfl) (q % s) (Nat.mod_lt _ hs0)
   rw[Nat.zero_add,show q / s*s+q % s=q by rw[Nat.mul_comm];exact Nat.div_add_mod q s,hq] at this
   exact c2 _ u this.symm
  have YB:xs.length=len:=by rw[m1,hlen]
  have hn:=zS hI cells' e xs s len (by rw[hcells];exact Nat.le_refl _) (by omega) hone (fun k x hk=>hfl x (List.mem_of_getElem? hk)) (fun k j x y v hk hj hv=>by
   obtain⟨v',g1,g2⟩:=hget k j x y hk hj
   rw[g1] at hv;cases hv;exact g2) Ma
  subst hH
  refine⟨.slice (some ⟨C.w.heap.size,0,none⟩) len len,_, ?_,hn.1,hn.2,rfl, ?_⟩
  rotate_left
  ·refine .view _ 0 xs.length _ (Nat.lt_succ_self _) (fun es he=> ?_) rfl
   have hp:((C.zk (C.w.alloc (.cells cells' e (0,0)))).push ⟨C.w.heap.size,s,xs.length,len,false⟩ xs).pl C.H.next=⟨C.w.heap.size,s,xs.length,len,false⟩:=Ctx.uj (C:=C.zk _) _ _
   rw[hp]
   unfold tM
   rw[if_neg (by simp)]
   refine⟨⟨C.w.heap.size,0,none⟩,len,by rw[YB],by simp,by simp,by omega,.inr (by simp)⟩
  have hmap:(parts.toList.map fun(p:Nat×Operand)=>(p.1,a.eval p.2))=(vs.zipIdx 0).map fun p=>(p.2,p.1):=by
   rw[hp]
   simp only[vs,List.zipIdx_map,List.map_map]
   rfl
  have hlit:¬(16777216<len*s):=by omega
  have hrun:(Instr.buildSlice t len (parts.map fun(p:Nat×Operand)=>(p.1,a.eval p.2))).run P C.w=.ok (.slice (some ⟨C.w.heap.size,0,none⟩) len len) (C.w.alloc (.cells cells' e)):=by
   by_cases h0:len*s=0
   ·simp only[h0,if_true] at f1
    have f1':Instr.fill (fun i=>some (i*s,s)) #[] ((vs.zipIdx 0).map fun p=>(p.2,p.1))=some cells':=by
     have e0:(Array.map (fun q=>(#[]:Array Value)[q % (#[]:Array Value).size]!) (Array.range 0))= #[]:=Array.eq_empty_of_size_eq_zero (by simp)
     rw[e0] at f1;exact f1
    have e1:∀g:Nat→Value,Array.map g (Array.range 0)= #[]:=fun g=>Array.eq_empty_of_size_eq_zero (by simp)
    simp[Instr.buildSlice,run_underlying hu,sizeOf,typeInfo,hi,hs,h0,hmap,e1,f1',newRow]
   ·simp only[h0,if_false] at f1
    simp[Instr.buildSlice,run_underlying hu,sizeOf,typeInfo,hi,hs,hz,h0,hlit,hmap,f1,newRow,zeroValue]
  simp only[execOp,ho]
  rw[Sem.run_bind,hrun]
  rfl


end
end Go.Av
namespace Go.Sh
def whole{α:Type}(n:Nat)(l:List α):Option (List α):=if l.length=n then some l else none
def KY{α:Type}(n:Nat)(l:List α)(i:Int):Option α:=if l.length=n then idx l i else none
theorem zi{α:Type}{n:Nat}{l:List α}{i:Int}{x:α}(h:KY n l i=some x):l.length=n∧∃k:Nat,i=k∧l[k]? =some x:=by
 unfold KY at h
 split at h
 ·rename_i h0;exact⟨h0,OZ h⟩
 ·cases h
end Go.Sh
namespace Go.Av
section
variable {P:Program} {W0:dK} {fr:Fr} {H:bg} {o:Oper} {α:Type} {enc:α→AV} {l:List α} {i:Int} {x:α} {ki:IntKind}

theorem vH{t:TypeId}{N id k:Nat}{xo io:Operand}(enc:α→AV)(l:List α)(hi:i=k)(hl:l[k]? =some x)(hN:l.length=N)(ho:o.op=.indexAddr t xo io)(hx:bz fr xo=some (.ref id 0 0))(hid:H.get id=some [arA enc l])(hio:bz fr io=some (.imm (.int ki i)))
  (ht:vm P t=some (N,1)):fV P W0 o fr H (.ref id 0 k) H:=
 (Gc ho hx hid hio ht hi (by have:=(List.getElem?_eq_some_iff.1 hl).1;omega)).conv (by simp)
theorem FR{t:TypeId}{xo:Operand}{id k:Nat}(enc:α→AV)(l:List α)(hl:l[k]? =some x)(ho:o.op=.load t xo)(hx:bz fr xo=some (.ref id 0 k))(hid:H.get id=some [arA enc l])
  (ht:zf P t=some (1,false)):fV P W0 o fr H (enc x) H:=
 aR ho hx hid (i:=0) (e:=arA enc l) rfl ht (by simp[wq,AV.flat,hl])
theorem DW{t:TypeId}{xo yo:Operand}{id k:Nat}(enc:α→AV)(l:List α)(x':α)(hi:i=k)(hl:l[k]? =some x)(hfl:(enc x').flat=[enc x'])(hsol:(enc x').dH=true)(ho:o.op=.store t xo yo)(hx:bz fr xo=some (.ref id 0 k))(hy:bz fr yo=some (enc x'))
  (hid:H.get id=some [arA enc l])(ht:zf P t=some (1,false)):fV P W0 o fr H .any (H.set id [arA enc (Sh.set l i x')]):=by
 have hk:=(List.getElem?_eq_some_iff.1 hl).1
 have:=a_ (P:=P) (W0:=W0) (o:=o) (fr:=fr) (H:=H) (e:=arA enc l) (e':=arA enc (Sh.set l i x')) (i:=0) ho hx hy hsol hid rfl ht (by rw[hfl];rfl) (by simp[AV.flat];omega) (by
  subst hi
  rw[hfl]
  simp only[AV.flat,Sh.set,Int.toNat_natCast,List.map_set]
  rw[List.set_eq_take_append_cons_drop,if_pos (by simpa using hk)]
  simp)
 exact this
theorem P6{t e:TypeId}{s by' len:Nat}{parts:Array (Nat×Operand)}{xo:List Operand}(enc:α→AV)(l:List α)(ho:o.op=.buildSlice t len parts)(hp:parts.toList=xo.zipIdx.map fun p=>(p.2,p.1))(hlen:len=xo.length)
  (hxs:xo.mapM (bz fr)=some (l.map enc))(hsol:∀x∈l.map enc,x.dH=true)(hfl:∀x∈l.map enc,x.flat.length=s)(ht:BR P t=some (e,s,by'))(hz:(yV P e).isSome=true)(hsmall:len*s≤16777216)(Ma:s≠0:=by decide):
  fV P W0 o fr H (.view H.next 0 (l.map enc).length) (H.push s (l.map enc)):=Iw ho hp hlen hxs hsol hfl ht hz hsmall Ma
end
end Go.Av
end

section
/- Literals with empty slices in them, or slices of a known end. -/
namespace Go.Av
inductive Wid:AV→AV→Prop
 |same (x:AV):Wid x x
 |clip (es:List AV):Wid (.clip es) (.sl es)
 |nil:Wid (.imm (.slice none 0 0)) (.sl [])
def Ul:List AV→List AV→Prop
 |[],[]=>True
 |x::xs,y::ys=>Wid x y∧Ul xs ys
 |_,_=>False
def My:List AV→List AV→Prop
 |[],[]=>True
 |e::es,y::ys=>Ul e.flat y.flat∧My es ys
 |_,_=>False
section
variable {P:Program} {W0:dK} {C:Ctx} {fr:Fr} {H H':bg} {o:Oper}

theorem Wid.rep{a b:AV}{v:Value}(h:Wid a b)(r:dR C a v):dR C b v:=by
 cases h with
 |same=>exact r
 |clip es=>
  match r with
  |.clipNil a=>exact .slNil a 0
  |.clip _ b off sz c h1 h2 h3 h4 h5=>exact .sl es b off sz es.length c h1 h2 (Nat.le_refl _) h3 h4 h5
 |nil=>
  have:=fc (v:=.slice none 0 0) rfl r
  subst this
  exact .slNil _ _
theorem Ul.spec:∀{xs ys:List AV},Ul xs ys→xs.length=ys.length∧∀(j:Nat) (y:AV),ys[j]? =some y→∃x,xs[j]? =some x∧Wid x y
 |[],[],_=>⟨rfl,fun j y h=>by simp at h⟩
 |x::xs,y::ys,h=>by
  obtain⟨a,b⟩:=Ul.spec h.2
  refine⟨by simp[a],fun j z hz=> ?_⟩
  cases j with
  |zero=>simp at hz;subst hz;exact⟨x,rfl,h.1⟩
  |succ j=>simpa using b j z (by simpa using hz)
 |[],_::_,h=>h.elim
 |_::_,[],h=>h.elim
theorem My.spec:∀{es ys:List AV},My es ys→es.length=ys.length∧∀(i:Nat) (y:AV),ys[i]? =some y→∃e,es[i]? =some e∧Ul e.flat y.flat
 |[],[],_=>⟨rfl,fun j y h=>by simp at h⟩
 |x::xs,y::ys,h=>by
  obtain⟨a,b⟩:=My.spec h.2
  refine⟨by simp[a],fun j z hz=> ?_⟩
  cases j with
  |zero=>simp at hz;subst hz;exact⟨x,rfl,h.1⟩
  |succ j=>simpa using b j z (by simpa using hz)
 |[],_::_,h=>h.elim
 |_::_,[],h=>h.elim
theorem UT{es ys:List AV}{v:Value}(h:My es ys)(r:dR C (.clip es) v):dR C (.clip ys) v:=by
 obtain⟨hl,hs⟩:=h.spec
 match r with
 |.clipNil a=>
  have:ys=[]:=List.eq_nil_of_length_eq_zero (by simpa using hl.symm)
  subst this
  exact .clipNil a
 |.clip _ b off sz c h1 h2 h3 h4 h5=>
  rw[hl]
  refine .clip ys b off sz c h1 h2 (fun i y hy=> ?_) (fun i j y z hy hz=> ?_) (fun i j y z hy hz=> ?_)
  ·obtain⟨e,he,hw⟩:=hs i y hy
   rw[←hw.spec.1];exact h3 i e he
  ·obtain⟨e,he,hw⟩:=hs i y hy
   obtain⟨x,hx,_⟩:=hw.spec.2 j z hz
   exact h4 i j e x he hx
  ·obtain⟨e,he,hw⟩:=hs i y hy
   obtain⟨x,hx,hxy⟩:=hw.spec.2 j z hz
   exact hxy.rep (h5 i j e x he hx)
theorem fV.agU{es ys:List AV}(h:fV P W0 o fr H (.clip es) H')(hw:My es ys):fV P W0 o fr H (.clip ys) H':=by
 intro C a hI hH hop K Q hK
 exact h C a hI hH hop K Q (fun v C' h1 h2 h3 h4=>hK v C' h1 h2 h3 (UT hw h4))
end
end Go.Av
namespace Go.Av
section
variable {P:Program} {W0:dK} {C:Ctx} {fr:Fr} {H:bg} {o:Oper}

end
end Go.Av
end

section
/- An own slice made shorter: the object under a new name. -/
namespace Go.Av
open Go.RowKit (Below)
section
variable {P:Program} {W0:dK} {C:Ctx} {fr:Fr} {H:bg} {o:Oper}

end
end Go.Av
end

section
/- Calls of what writes into what is the caller's own: a part of the heap is handed over, and comes back. -/
namespace Go.Av

structure S3 (P:Program) (B:dK) (f:FuncId) (xs:List AV) (Hin:bg) (r:AV) (Hout:bg):Prop where
 call:mw P f
 runs:∀(C:Ctx) (vals:Array Value),Inv B C→C.H=Hin→C.kq=[]→vals.size=xs.length→(∀(k:Nat) (x:AV),xs[k]? =some x→dR C x (vals.getD k undef))→
  Calls P f vals C.w (fun e w'=>∃v C',e=.returned v∧C'.w=w'∧Mem C C'∧Inv B C'∧C'.H=Hout∧C'.kq=[]∧dR C' r v)

section
variable {P:Program} {W0:dK} {C:Ctx} {fr:Fr} {a:Act} {H:bg} {o:Oper} {N:Nat}

theorem OC{B:dK}{f:FuncId}{fn:Func}{c:Code}{xs:List AV}{r:AV}{Hin Hr:bg}(hro:B.ro=none)(hf:P.funcs[f]? =some fn)(hb:fn.body=some c)(hname:(fn.name== "runtime.NumGoroutine")=false)(hN:fn.ntmps=N)(hxN:xs.length≤N)
  (h:sN P B N c ⟨cQ 0 xs,Hin⟩ (fun e s=>(e=.normal∨e=.ret)∧∃q,HK P fn.results.toList s=some q∧aU B 1 ⟨[(0,q)],s.H⟩ ⟨[(0,r)],Hr⟩))(hdx:B.dx=[]:=by rfl):S3 P B f xs Hin r Hr where
 call:=oP hf hname hb
 runs C vals hI hH hd hsz hrep:=Gg hf hb hN hxN hro h C vals hI hH hd hsz hrep hdx


def Ctx.th(C:Ctx)(Hs:bg):Ctx:=
 {w:=C.w,H:=Hs,pl:=C.pl,dW:=fun b=>C.dW b∨(C.own b∧¬Ctx.own {C with H:=Hs,kq:=[]} b),kq:=[],tK:=0}

structure Part (Hs H:bg):Prop where
 next:Hs.next=H.next
 dY:∀k v,lk Hs.dY k=some v→lk H.dY k=some v
 gl:∀l r,lk Hs.gl l=some r→lk H.gl l=some r

theorem OR{Hs:bg}(hp:Part Hs C.H){b:Nat}(h:(C.th Hs).own b):C.own b:=by
 rcases h with⟨id,es,h1,h2,h3⟩|⟨r,h⟩|h
 ·refine .inl ⟨id,es, ?_,h2,h3⟩
  obtain⟨p,h4,h5⟩:=Option.map_eq_some_iff.1 h1
  exact Option.map_eq_some_iff.2 ⟨p,hp.dY id p h4,h5⟩
 ·exact .inr (.inl ⟨r,hp.gl b r h⟩)
 ·simp[Ctx.th] at h

theorem VP{Hs:bg}(hp:Part Hs C.H){b:Nat}(h:(C.th Hs).bad b):C.bad b:=by
 rcases h with h|h|h
 ·exact .inl (OR hp h)
 ·exact .inr h
 ·exact .inl h.1

theorem uT{Hs H:bg}(hp:Part Hs H){id:Nat}{es:List AV}(h:Hs.get id=some es):H.get id=some es:=by
 obtain⟨p,h4,h5⟩:=Option.map_eq_some_iff.1 h
 exact Option.map_eq_some_iff.2 ⟨p,hp.dY id p h4,h5⟩

theorem dR.th{Hs:bg}(hp:Part Hs C.H){x:AV}{v:Value}(h:dR C x v):dR (C.th Hs) x v:=
 h.sub rfl (by show C.H.next≤Hs.next;rw[hp.next];exact Nat.le_refl _) (fun id es _ h=>⟨es,uT hp h⟩) (fun _ _=>rfl) (fun b h=>VP hp h)

theorem Inv.th(hI:Inv W0 C){Hs:bg}(hp:Part Hs C.H):Inv (.of W0.w) (C.th Hs) where
 fresh id es h:=by show id<Hs.next;rw[hp.next];exact hI.fresh id es (uT hp h)
 nil id es h:=hI.nil id es (uT hp h)
 obj id es h hn:=by
  have hO:=hI.obj id es (uT hp h) hn
  exact⟨hO.n,hO.cap,hO.fW,hO.one,hO.flat,fun i j e x v h1 h2 h3=>(hO.cell i j e x v h1 h2 h3).th hp⟩
 sep i1 i2 e1 e2 h1 h2:=hI.sep i1 i2 e1 e2 (uT hp h1) (uT hp h2)
 dW id es h hn hb:=by
  rcases hb with hb|hb
  ·exact hI.dW id es (uT hp h) hn hb
  ·exact hb.2 (.inl ⟨id,es,h,hn,rfl⟩)
 tB id s h:=by
  obtain⟨p,h4,h5⟩:=Option.map_eq_some_iff.1 h
  exact hI.tB id s (Option.map_eq_some_iff.2 ⟨p,hp.dY id p h4,h5⟩)
 fU b h:=by
  rcases h with h|h
  ·exact hI.fU b h
  ·exact hI.J9 h.1
 gC b h:=by
  rcases h with h|h
  ·exact hI.gC b h
  ·exact hI.Rm h.1
 size:=hI.size
 lK b h:=⟨(hI.lK b h).1,fun ho=>(hI.lK b h).2 (OR hp ho)⟩
 gl l r h:=hI.gl l r (hp.gl l r h)
 kq d h:=by simp[Ctx.th] at h
 D_:=.nil
 ET:=fun _ _=>rfl
 gT b h hb:=by
  rcases h with⟨r,h⟩|h
  ·rcases hb with hb|hb
   ·exact hI.gT b (.inl ⟨r,hp.gl b r h⟩) hb
   ·exact hb.2 (.inr (.inl ⟨r,h⟩))
  ·simp[Ctx.th] at h
 uh:=rfl
 iU:=Nat.zero_le _
 gh:=trivial


inductive Ren (ok:AV→Prop) (m:List (Nat×Nat)):AV→AV→Prop
 |same (x:AV):ok x→Ren ok m x x
 |any (x:AV):Ren ok m x .any
 |view {id k off len:Nat}:lk m id=some k→Ren ok m (.view id off len) (.view k off len)
 |ref {id k i j:Nat}:lk m id=some k→Ren ok m (.ref id i j) (.ref k i j)
 |mref {id k:Nat}:lk m id=some k→Ren ok m (.mref id) (.mref k)
 |agg (cs cs':List AV):cs.length=cs'.length→(∀(k:Nat) (x x':AV),cs[k]? =some x→cs'[k]? =some x'→Ren ok m x x')→Ren ok m (.agg cs) (.agg cs')
 |tuple (cs cs':List AV):cs.length=cs'.length→(∀(k:Nat) (x x':AV),cs[k]? =some x→cs'[k]? =some x'→Ren ok m x x')→Ren ok m (.tuple cs) (.tuple cs')
 |bS (fn:Fn) (cs cs':List AV):cs.length=cs'.length→(∀(k:Nat) (x x':AV),cs[k]? =some x→cs'[k]? =some x'→Ren ok m x x')→Ren ok m (.bS fn cs) (.bS fn cs')
 |ifc (t:TypeId) (x x':AV):Ren ok m x x'→Ren ok m (.ifc t x) (.ifc t x')

structure Jl (ok:AV→Prop) (m:List (Nat×Nat)) (es es':List AV):Prop where
 len:es.length=es'.length
 see:∀(k:Nat) (e e':AV),es[k]? =some e→es'[k]? =some e'→e.flat.length=e'.flat.length∧∀(j:Nat) (x x':AV),e.flat[j]? =some x→e'.flat[j]? =some x'→Ren ok m x x'
 tU:∀l,es'=[.tU l]→es=[.tU l]

theorem Jl.same{ok:AV→Prop}{m:List (Nat×Nat)}{es:List AV}(h:∀e∈es,∀x∈e.flat,ok x):Jl ok m es es:=
 ⟨rfl,fun k e e' h1 h2=>by
  rw[h1] at h2;cases h2
  exact⟨rfl,fun j x x' h3 h4=>by rw[h3] at h4;cases h4;exact .same x (h e (List.mem_of_getElem? h1) x (List.mem_of_getElem? h3))⟩,fun _ h=>h⟩

def C8(ok:AV→Prop)(m:List (Nat×Nat)):List AV→List AV→Prop
 |[],[]=>True
 |x::l,y::r=>Ren ok m x y∧C8 ok m l r
 |_,_=>False

theorem C8.spec{ok:AV→Prop}{m:List (Nat×Nat)}:∀{l r:List AV},C8 ok m l r→l.length=r.length∧∀(k:Nat) (x x':AV),l[k]? =some x→r[k]? =some x'→Ren ok m x x'
 |[],[],_=>⟨rfl,fun k x x' h=>by simp at h⟩
 |x::l,y::r,h=>by
  obtain⟨h1,h2⟩:=C8.spec h.2
  refine⟨by simp[h1],fun k u v hu hv=> ?_⟩
  cases k with
  |zero=>simp at hu hv;subst hu hv;exact h.1
  |succ k=>simp at hu hv;exact h2 k u v hu hv
 |[],_::_,h=>h.elim
 |_::_,[],h=>h.elim
theorem Ren.ag{ok:AV→Prop}{m:List (Nat×Nat)}{cs cs':List AV}(h:C8 ok m cs cs'):Ren ok m (.agg cs) (.agg cs'):=.agg cs cs' h.spec.1 h.spec.2
theorem Ren.tp{ok:AV→Prop}{m:List (Nat×Nat)}{cs cs':List AV}(h:C8 ok m cs cs'):Ren ok m (.tuple cs) (.tuple cs'):=.tuple cs cs' h.spec.1 h.spec.2
theorem Ren.cl{ok:AV→Prop}{m:List (Nat×Nat)}{fn:Fn}{cs cs':List AV}(h:C8 ok m cs cs'):Ren ok m (.bS fn cs) (.bS fn cs'):=.bS fn cs cs' h.spec.1 h.spec.2
theorem Jl.one{ok:AV→Prop}{m:List (Nat×Nat)}{e e':AV}(h:C8 ok m e.flat e'.flat)(hm:e'.mp=e.mp:=by rfl):Jl ok m [e] [e']:=
 ⟨rfl,fun k a b h1 h2=>by
  cases k with
  |zero=>simp at h1 h2;subst h1 h2;exact⟨h.spec.1,h.spec.2⟩
  |succ k=>simp at h1,fun l hl=>by
  have h1:e'=.tU l:=by simpa using hl
  subst h1
  rw[AV.ZM hm.symm]⟩

def Cv(ok:AV→Prop)(H:bg)(g m:List (Nat×Nat))(Hout:bg):List (Nat×(Nat×List AV))→Prop
 |[]=>True
 |(k,(s,es'))::r=>((lk H.dY k=some (s,es')∧g.all (fun p=>p.2 !=k)=true)∨∃i es,lk m i=some k∧lk Hout.dY i=some (s,es)∧Jl ok m es es')∧Cv ok H g m Hout r

theorem Cv.spec{ok:AV→Prop}{H:bg}{g m:List (Nat×Nat)}{Hout:bg}:∀{l:List (Nat×(Nat×List AV))},Cv ok H g m Hout l→∀{k s:Nat} {es':List AV},lk l k=some (s,es')→
  (lk H.dY k=some (s,es')∧∀p∈g,p.2≠k)∨∃i es,lk m i=some k∧lk Hout.dY i=some (s,es)∧Jl ok m es es'
 |[],_,_,_,_,h=>by cases h
 |(q,(s,es))::l,hl,k,s',es',h=>by
  simp only[lk] at h
  split at h
  ·rename_i hm;subst hm;cases h
   refine hl.1.imp (fun h=>⟨h.1,fun p hp=> ?_⟩) id
   have:=List.all_eq_true.1 h.2 p hp
   simpa using this
  ·exact Cv.spec hl.2 h
theorem Cv.kept{ok:AV→Prop}{H:bg}{g m:List (Nat×Nat)}{Hout:bg}{k s:Nat}{es:List AV}{r:List (Nat×(Nat×List AV))}(h1:lk H.dY k=some (s,es))(h2:g.all (fun p=>p.2 !=k)=true)(h3:Cv ok H g m Hout r):Cv ok H g m Hout ((k,(s,es))::r):=
 ⟨.inl ⟨h1,h2⟩,h3⟩
theorem Cv.new{ok:AV→Prop}{H:bg}{g m:List (Nat×Nat)}{Hout:bg}{k s:Nat}{es':List AV}{r:List (Nat×(Nat×List AV))}(i:Nat){es:List AV}(h1:lk m i=some k)(h2:lk Hout.dY i=some (s,es))(h3:Jl ok m es es')(h4:Cv ok H g m Hout r):Cv ok H g m Hout ((k,(s,es'))::r):=
 ⟨.inr ⟨i,es,h1,h2,h3⟩,h4⟩

def WN(p n:Nat)(g m:List (Nat×Nat)):Bool:=m.all fun q=>(decide (q.1<p)&&(lk g q.1==some q.2))||q.2==n+q.1

def Ctx.back(C C2:Ctx)(H':bg):Ctx:={w:=C2.w,H:=H',pl:=fun k=>if k<C.H.next then C.pl k else C2.pl (k - C.H.next),dW:=C.dW,kq:=C.kq,tK:=C.tK}

theorem aaj{ok:AV→Prop}{Hs Hin H':bg}{g m:List (Nat×Nat)}{nw:List Nat}{p:Nat}{B1:dK}{C2:Ctx}(hI:Inv W0 C)(hp:Part Hs C.H)(hB:B1.w=W0.w)
  (hH:sH Hs g nw Hin.next Hin.dY)(hnw:∀n∈nw,lk g n=none)(hginj:g.all (fun p=>g.all (fun q=>p.2 !=q.2||p.1==q.1))=true)(hgin:∀q∈g,(lk Hs.dY q.2).isSome=true)(hlp:Hin.gl=Hs.gl)
  (hM:Mem {(C.th Hs).re g Hin with tK:=p} C2)(hpin:p≤Hin.next)(F0:Inv B1 C2)(L8:C2.kq=[])
  (hm:WN p C.H.next g m=true)(hnext:H'.next=C.H.next+C2.H.next)(hback:Cv ok C.H g m C2.H H'.dY)
  (hlps:∀l r,lk H'.gl l=some r→lk C2.H.gl l=some r∨(lk C.H.gl l=some r∧lk Hs.gl l=none))
  (mode:(∀x,ok x→G6 x)∨((∀x,ok x→b6 x)∧∀k v,lk C.H.dY k=some v→(∀q∈g,q.2≠k)→lk Hs.dY k=none)):
  Ext C (C.back C2 H')∧Inv W0 (C.back C2 H')∧∀x x' v,Ren ok m x x'→dR C2 x v→dR (C.back C2 H') x' v:=by
 have hs:C.w.heap.size≤C2.w.heap.size:=hM.below.size
 have hpr:C2.dW=(C.th Hs).dW:=hM.dW
 have AN:∀{K:bg} {n:Nat} {es':List AV},K.get n=some es'→∃s,lk K.dY n=some (s,es'):=fun{K n es'} h=>by
  obtain⟨⟨s,e⟩,h1,h2⟩:=Option.map_eq_some_iff.1 h
  simp only at h2;subst h2;exact⟨s,h1⟩
 have getO:∀{K:bg} {n s:Nat} {es':List AV},lk K.dY n=some (s,es')→K.get n=some es':=fun{K n s es'} h=>by simp[bg.get,h]
 have gmem:∀{n k:Nat},lk g n=some k→k<C.H.next∧∃v,lk Hs.dY k=some v:=fun{n k} h=>by
  obtain⟨v,hv⟩:=Option.isSome_iff_exists.1 (hgin _ (lW h))
  exact⟨hI.fresh k v.2 (getO (s:=v.1) (hp.dY k v hv)),v,hv⟩
 have ginj:∀{n n' k:Nat},lk g n=some k→lk g n'=some k→n=n':=fun{n n' k} h1 h2=>by
  have:=List.all_eq_true.1 (List.all_eq_true.1 hginj _ (lW h1)) _ (lW h2)
  simpa using this
 have rePl:∀{n k:Nat},lk g n=some k→((C.th Hs).re g Hin).pl n=C.pl k:=fun{n k} h=>by simp[Ctx.re,Ctx.th,h]
 have mS:∀{i k:Nat},lk m i=some k→(i<p∧lk g i=some k)∨k=C.H.next+i:=fun{i k} h=>by
  have:=List.all_eq_true.1 hm _ (lW h)
  simpa using this
 -- what was handed over
 have passed:∀{b:Nat},((C.th Hs).re g Hin).cells b→∃n k es,lk g n=some k∧C.H.get k=some es∧(C.pl k).nil=false∧(C.pl k).fW=b:=fun{b} h=>by
  obtain⟨n,es',h1,h2,h3⟩:=h
  obtain⟨s,h4⟩:=AN (K:=Hin) h1
  rcases(hH.spec h4).1 with⟨old,es,q1,q2,_⟩|⟨q,_⟩
  ·rw[rePl q1] at h2 h3
   exact⟨n,old,es,q1,getO (hp.dY old _ q2),h2,h3⟩
  ·have:((C.th Hs).re g Hin).pl n=⟨0,0,0,0,true⟩:=by simp[Ctx.re,hnw n q]
   rw[this] at h2;cases h2
 have amj:∀{b:Nat},((C.th Hs).re g Hin).own b→C.own b:=fun{b} h=>by
  rcases h with h|⟨r,h⟩|h
  ·obtain⟨n,k,es,_,h2,h3,h4⟩:=passed h
   exact .inl ⟨k,es,h2,h3,h4⟩
  ·exact .inr (.inl ⟨r,hp.gl b r (by rw[←hlp];exact h)⟩)
  ·simp[Ctx.re,Ctx.th] at h
 have keep:∀b,b<C.w.heap.size→¬((C.th Hs).re g Hin).own b→C2.w.heap[b]? =C.w.heap[b]? :=fun b hb hn=>hM.keep b hb hn
 have amk:∀{b:Nat},b<C.w.heap.size→C2.own b→((C.th Hs).re g Hin).own b:=fun{b} hb h=>hM.own b hb h
 -- cells, records, and what is put off, are told apart by what lies there
 have cellHeap:∀{k:Nat} {es:List AV},C.H.get k=some es→(C.pl k).nil=false→∃o:Obj,C.w.heap[(C.pl k).fW]? =some o∧isD o:=fun{k es} h1 h2=>(hI.obj k es h1 h2).dat
 have keptFree:∀{k:Nat} {es:List AV},C.H.get k=some es→(C.pl k).nil=false→(∀q∈g,q.2≠k)→¬((C.th Hs).re g Hin).own (C.pl k).fW:=fun{k es} h1 h2 h3 h=>by
  obtain⟨ob,hc,hcd⟩:=cellHeap h1 h2
  rcases h with h|⟨r,h⟩|h
  ·obtain⟨n,k',es',q1,q2,q3,q4⟩:=passed h
   have:=hI.sep k' k es' es q2 h1 q3 h2 q4
   exact h3 _ (lW q1) this
  ·exact hI.FO (.inl ⟨r,hp.gl _ r (by rw[←hlp];exact h)⟩) hc hcd
  ·simp[Ctx.re,Ctx.th] at h
 -- an object behind the call
 have plO:∀{k:Nat},k<C.H.next→(C.back C2 H').pl k=C.pl k:=fun{k} h=>by simp[Ctx.back,h]
 have plN:∀{i k s:Nat} {es:List AV},lk m i=some k→lk C2.H.dY i=some (s,es)→(C.back C2 H').pl k=C2.pl i∧(k<C.H.next→∃n,i=n∧lk g n=some k):=fun{i k s es} h h2=>by
  rcases mS h with⟨h3,h4⟩|h3
  ·refine⟨?_,fun _=>⟨i,rfl,h4⟩⟩
   rw[plO (gmem h4).1]
   have h5:=(hM.pins hpin).2 i es h3 (getO h2)
   rw[h5.2];exact(rePl h4).symm
  ·subst h3
   refine⟨?_,fun h=>by omega⟩
   have h1:¬C.H.next+i<C.H.next:=by omega
   have h2:C.H.next+i - C.H.next=i:=by omega
   show(if C.H.next+i<C.H.next then _ else _)=_
   rw[if_neg h1,h2]
 have objJ:∀{k:Nat} {es':List AV},(C.back C2 H').H.get k=some es'→∃s,lk H'.dY k=some (s,es')∧((lk C.H.dY k=some (s,es')∧(∀q∈g,q.2≠k)∧k<C.H.next)∨∃i es,lk m i=some k∧lk C2.H.dY i=some (s,es)∧Jl ok m es es'):=fun{k es'} h=>by
  obtain⟨s,h1⟩:=AN (K:=H') h
  refine⟨s,h1,(hback.spec h1).imp (fun h=>⟨h.1,h.2,hI.fresh k es' (getO h.1)⟩) id⟩
 have ownJ:∀b,(C.back C2 H').own b→C.own b∨C2.own b:=by
  rintro b (⟨k,es',h1,h2,h3⟩|⟨r,h⟩|h)
  ·obtain⟨s,_,⟨q1,q2,q3⟩|⟨i,es,q1,q2,_⟩⟩:=objJ h1
   ·rw[plO q3] at h2 h3;exact .inl (.inl ⟨k,es',getO q1,h2,h3⟩)
   ·rw[(plN q1 q2).1] at h2 h3;exact .inr (.inl ⟨i,es,getO q2,h2,h3⟩)
  ·rcases hlps b r h with h|h
   ·exact .inr (.inr (.inl ⟨r,h⟩))
   ·exact .inl (.inr (.inl ⟨r,h.1⟩))
  ·exact .inl (.inr (.inr h))
 have ext:Ext C (C.back C2 H'):={
  below:=⟨hM.below.os,hM.below.tape,hM.below.output,hs,fun k hk=>absurd hk (Nat.not_lt_zero k)⟩
  keep:=fun b hb hn=>keep b hb (fun h=>hn (amj h))
  own:=fun b hb h=>by
   rcases ownJ b h with h|h
   ·exact h
   ·exact amj (amk hb h)
  next:=by show C.H.next≤H'.next;rw[hnext];exact Nat.le_add_right _ _
  id:=fun k es' hk h=>by
   obtain⟨s,_,⟨q1,q2,q3⟩|⟨i,es,q1,q2,_⟩⟩:=objJ h
   ·exact⟨⟨es',getO q1⟩,plO q3⟩
   ·obtain⟨n,_,h3⟩:=(plN q1 q2).2 hk
    obtain⟨_,v,hv⟩:=gmem h3
    exact⟨⟨v.2,getO (s:=v.1) (hp.dY k v hv)⟩,plO hk⟩
  dW:=rfl
  kq:=rfl
  tK:=rfl}
 -- what nobody owned behind the call is nobody's now
 have protOf:∀{b:Nat},C.own b→¬Ctx.own {C with H:=Hs,kq:=[]} b→C2.bad b:=fun{b} h1 h2=>.inr (by rw[hpr];exact .inr ⟨h1,h2⟩)
 have badJ:(∀k v,lk C.H.dY k=some v→(∀q∈g,q.2≠k)→lk Hs.dY k=none)→∀b,(C.back C2 H').bad b→C2.bad b:=by
  rintro hmd b ((⟨k,es',h1,h2,h3⟩|⟨r,h⟩|h)|h)
  ·obtain⟨s,_,⟨q1,q2,q3⟩|⟨i,es,q1,q2,_⟩⟩:=objJ h1
   ·rw[plO q3] at h2 h3
    obtain⟨ob,hc,hcd⟩:=cellHeap (getO q1) h2
    rw[h3] at hc
    refine protOf (.inl ⟨k,es',getO q1,h2,h3⟩) ?_
    rintro(⟨k',e',r1,r2,r3⟩|⟨r,h⟩|h)
    ·have:=hI.sep k' k e' es' (uT hp r1) (getO q1) r2 h2 (r3.trans h3.symm)
     subst this
     have hnone:=hmd k' _ q1 q2
     simp[bg.get,hnone] at r1
    ·exact hI.FO (.inl ⟨r,hp.gl b r h⟩) hc hcd
    ·simp at h
   ·rw[(plN q1 q2).1] at h2 h3;exact .inl (.inl ⟨i,es,getO q2,h2,h3⟩)
  ·rcases hlps b r h with h|⟨h,h'⟩
   ·exact .inl (.inr (.inl ⟨r,h⟩))
   ·refine protOf (.inr (.inl ⟨r,h⟩)) ?_
    rintro(⟨k',e',r1,r2,r3⟩|⟨r',h2⟩|h2)
    ·obtain⟨ob,hc,hcd⟩:=cellHeap (uT hp r1) r2
     have r3':(C.pl k').fW=b:=r3
     rw[r3'] at hc
     exact hI.FO (.inl ⟨r,h⟩) hc hcd
    ·have h2':lk Hs.gl b=some r':=h2
     rw[h'] at h2';cases h2'
    ·simp at h2
  ·refine protOf (.inr (.inr h)) ?_
   rintro(⟨k',e',r1,r2,r3⟩|⟨r',h2⟩|h2)
   ·obtain⟨ob,hc,hcd⟩:=cellHeap (uT hp r1) r2
    have r3':(C.pl k').fW=b:=r3
    rw[r3'] at hc
    exact hI.FO (.inr h) hc hcd
   ·have q1:=hI.gl b r' (hp.gl b r' h2)
    have q2:=hI.kq b h
    rw[q1] at q2;cases q2
   ·simp at h2
  ·exact .inr (by rw[hpr];exact .inl h)
 have atom:∀x v,ok x→dR C2 x v→dR (C.back C2 H') x v:=fun x v hx hr=>by
  rcases mode with h|⟨h1,h2⟩
  ·exact(h x hx).rep hr
  ·exact hr.move (h1 x hx) (Nat.le_refl _) (fun b _ q2=>⟨rfl,fun h=>q2 (badJ h2 b h)⟩)
 have repJ:∀x x' v,Ren ok m x x'→dR C2 x v→dR (C.back C2 H') x' v:=by
  intro x x' v hs
  induction hs generalizing v with
  |same x hx=>exact atom x v hx
  |any x=>intro _;exact .any v
  | @view id k off len hk=>
   intro h
   match h with
   |.view _ _ _ _ h1 h2 h3=>
   refine .view _ _ _ _ ?_ (fun es' he=> ?_) h3
   ·show k<H'.next
    rw[hnext]
    rcases mS hk with⟨_,h5⟩|rfl
    ·have:=(gmem h5).1;omega
    ·omega
   ·obtain⟨s,_,⟨q1,q2,q3⟩|⟨i,es,q1,q2,_⟩⟩:=objJ he
    ·exfalso
     rcases mS hk with⟨_,h5⟩|h5
     ·exact q2 _ (lW h5) rfl
     ·omega
    ·have hi:i=id:=by
      rcases mS hk with⟨_,h5⟩|h5 <;> rcases mS q1 with⟨_,h6⟩|h6
      ·exact(ginj h5 h6).symm
      ·have:=(gmem h5).1;omega
      ·have:=(gmem h6).1;omega
      ·omega
     subst hi
     rw[(plN q1 q2).1];exact h2 es (getO q2)
  | @ref id k i j hk=>
   intro h
   match h with
   |.ref _ _ _ _ h1 h2 h3=>
   refine .ref _ _ _ _ ?_ (fun es' he=> ?_) h3
   ·show k<H'.next
    rw[hnext]
    rcases mS hk with⟨_,h5⟩|rfl
    ·have:=(gmem h5).1;omega
    ·omega
   ·obtain⟨s,_,⟨q1,q2,q3⟩|⟨i',es,q1,q2,_⟩⟩:=objJ he
    ·exfalso
     rcases mS hk with⟨_,h5⟩|h5
     ·exact q2 _ (lW h5) rfl
     ·omega
    ·have hi:i'=id:=by
      rcases mS hk with⟨_,h5⟩|h5 <;> rcases mS q1 with⟨_,h6⟩|h6
      ·exact(ginj h5 h6).symm
      ·have:=(gmem h5).1;omega
      ·have:=(gmem h6).1;omega
      ·omega
     subst hi
     rw[(plN q1 q2).1];exact h2 es (getO q2)
  | @mref id k hk=>
   intro h
   match h with
   |.mref _ _ h1 h2 h3=>
   refine .mref _ _ ?_ (fun es' he=> ?_) h3
   ·show k<H'.next
    rw[hnext]
    rcases mS hk with⟨_,h5⟩|rfl
    ·have:=(gmem h5).1;omega
    ·omega
   ·obtain⟨s,_,⟨q1,q2,q3⟩|⟨i',es,q1,q2,_⟩⟩:=objJ he
    ·exfalso
     rcases mS hk with⟨_,h5⟩|h5
     ·exact q2 _ (lW h5) rfl
     ·omega
    ·have hi:i'=id:=by
      rcases mS hk with⟨_,h5⟩|h5 <;> rcases mS q1 with⟨_,h6⟩|h6
      ·exact(ginj h5 h6).symm
      ·have:=(gmem h5).1;omega
      ·have:=(gmem h6).1;omega
      ·omega
     subst hi
     rw[(plN q1 q2).1];exact h2 es (getO q2)
  |agg cs cs' hl _ ih=>
   intro h
   match h with
   |.agg _ vs h1 h2 h3=>
   refine .agg cs' vs (h1.trans hl) h2 (fun k x' hx'=> ?_)
   have hk:k<cs.length:=by rw[hl];exact(List.getElem?_eq_some_iff.1 hx').1
   exact ih k cs[k] x' (List.getElem?_eq_getElem hk) hx' _ (h3 k _ (List.getElem?_eq_getElem hk))
  |tuple cs cs' hl _ ih=>
   intro h
   match h with
   |.tuple _ vs h1 h3=>
   refine .tuple cs' vs (h1.trans hl) (fun k x' hx'=> ?_)
   have hk:k<cs.length:=by rw[hl];exact(List.getElem?_eq_some_iff.1 hx').1
   exact ih k cs[k] x' (List.getElem?_eq_getElem hk) hx' _ (h3 k _ (List.getElem?_eq_getElem hk))
  |bS fn cs cs' hl _ ih=>
   intro h
   match h with
   |.bS _ _ vs h1 h3=>
   refine .bS fn cs' vs (h1.trans hl) (fun k x' hx'=> ?_)
   have hk:k<cs.length:=by rw[hl];exact(List.getElem?_eq_some_iff.1 hx').1
   exact ih k cs[k] x' (List.getElem?_eq_getElem hk) hx' _ (h3 k _ (List.getElem?_eq_getElem hk))
  |ifc t x x' _ ih=>
   intro h
   match h with
   |.ifc _ _ v h1=>exact .ifc t x' v (ih v h1)
 refine⟨ext, ?_,repJ⟩
 have newBlk:∀{i s:Nat} {es:List AV} {k0:Nat} {zL:List AV},lk C2.H.dY i=some (s,es)→(C2.pl i).nil=false→C.H.get k0=some zL→(C.pl k0).nil=false→(∀q∈g,q.2≠k0)→(C2.pl i).fW≠(C.pl k0).fW:=fun{i s es k0 zL} h1 h2 h3 h4 h5 he=>by
  have hlt:=hI.lt h3 h4
  refine keptFree h3 h4 h5 (amk hlt ?_)
  exact .inl ⟨i,es,getO h1,h2,he⟩
 exact{
  fresh:=fun k es' h=>by
   show k<H'.next
   rw[hnext]
   obtain⟨s,_,⟨q1,q2,q3⟩|⟨i,es,q1,q2,_⟩⟩:=objJ h
   ·omega
   ·rcases mS q1 with⟨_,h5⟩|rfl
    ·have:=(gmem h5).1;omega
    ·have:=F0.fresh i es (getO q2);omega
  nil:=fun k es' h hn=>by
   obtain⟨s,_,⟨q1,q2,q3⟩|⟨i,es,q1,q2,q3⟩⟩:=objJ h
   ·rw[plO q3] at hn;exact hI.nil k es' (getO q1) hn
   ·rw[(plN q1 q2).1] at hn
    have:=F0.nil i es (getO q2) hn
    subst this
    exact List.eq_nil_of_length_eq_zero q3.len.symm
  obj:=fun k es' h hn=>by
   obtain⟨s,_,⟨q1,q2,q3⟩|⟨i,es,q1,q2,q3⟩⟩:=objJ h
   ·rw[plO q3] at hn ⊢
    exact(hI.obj k es' (getO q1) hn).ext ext (keep _ (hI.lt (getO q1) hn) (keptFree (getO q1) hn q2))
   ·rw[(plN q1 q2).1] at hn ⊢
    have hO:=F0.obj i es (getO q2) hn
    have bk:∀{q:Nat} {e':AV},es'[q]? =some e'→∃e,es[q]? =some e∧e.flat.length=e'.flat.length∧∀(j:Nat) (x x':AV),e.flat[j]? =some x→e'.flat[j]? =some x'→Ren ok m x x':=fun{q e'} hq=>by
     have hk:q<es.length:=by rw[q3.len];exact(List.getElem?_eq_some_iff.1 hq).1
     exact⟨es[q],List.getElem?_eq_getElem hk,q3.see q _ e' (List.getElem?_eq_getElem hk) hq⟩
    refine⟨hO.n.trans q3.len,hO.cap,hO.Qz q3.tU,hO.one,fun q e' he'=> ?_,fun q j e' x' v he' hx' hv=> ?_⟩
    ·obtain⟨e,h1,h2,_⟩:=bk he'
     rw[←h2];exact hO.flat q e h1
    ·obtain⟨e,h1,h2,h3⟩:=bk he'
     have hj:j<e.flat.length:=by rw[h2];exact(List.getElem?_eq_some_iff.1 hx').1
     exact repJ _ _ _ (h3 j _ x' (List.getElem?_eq_getElem hj) hx') (hO.cell q j e _ v h1 (List.getElem?_eq_getElem hj) hv)
  sep:=fun k1 k2 e1 e2 h1 h2 n1 n2 hb=>by
   obtain⟨s1,_,⟨a1,a2,a3⟩|⟨i1,es1,a1,a2,_⟩⟩:=objJ h1 <;> obtain⟨s2,_,⟨b1,b2,b3⟩|⟨i2,Y4,b1,b2,_⟩⟩:=objJ h2
   ·rw[plO a3] at n1 hb;rw[plO b3] at n2 hb
    exact hI.sep k1 k2 e1 e2 (getO a1) (getO b1) n1 n2 hb
   ·rw[plO a3] at n1 hb;rw[(plN b1 b2).1] at n2 hb
    exact absurd hb.symm (newBlk b2 n2 (getO a1) n1 a2)
   ·rw[(plN a1 a2).1] at n1 hb;rw[plO b3] at n2 hb
    exact absurd hb (newBlk a2 n1 (getO b1) n2 b2)
   ·rw[(plN a1 a2).1] at n1 hb;rw[(plN b1 b2).1] at n2 hb
    have:=F0.sep i1 i2 es1 Y4 (getO a2) (getO b2) n1 n2 hb
    subst this
    rw[a1] at b1;exact Option.some.inj b1
  dW:=fun k es' h hn hb=>by
   obtain⟨s,_,⟨q1,q2,q3⟩|⟨i,es,q1,q2,q3⟩⟩:=objJ h
   ·rw[plO q3] at hn hb;exact hI.dW k es' (getO q1) hn hb
   ·rw[(plN q1 q2).1] at hn hb
    exact F0.dW i es (getO q2) hn (by rw[hpr];exact .inl hb)
  tB:=fun k s h hn=>by
   obtain⟨⟨s',es'⟩,h1,h2⟩:=Option.map_eq_some_iff.1 h
   simp only at h2;subst h2
   rcases hback.spec h1 with⟨q1,q2⟩|⟨i,es,q1,q2,_⟩
   ·have q3:=hI.fresh k es' (getO q1)
    rw[plO q3] at hn ⊢;exact hI.tB k _ (by simp[bg.sz,q1]) hn
   ·rw[(plN q1 q2).1] at hn ⊢;exact F0.tB i _ (by simp[bg.sz,q2]) hn
  fU:=fun b hb=>Nat.lt_of_lt_of_le (hI.fU b hb) hs
  gC:=hI.gC
  size:=by have:=F0.size;rw[hB] at this;exact this
  lK:=fun b hb=>⟨by have:=(F0.lK b (by rw[hB];exact hb)).1;rw[hB] at this;exact this,fun ho=>by
   rcases ownJ b ho with h|h
   ·exact(hI.lK b hb).2 h
   ·exact(F0.lK b (by rw[hB];exact hb)).2 h⟩
  gl:=fun l r h=>by
   rcases hlps l r h with h|⟨h,h'⟩
   ·exact F0.gl l r h
   ·have h1:=hI.gl l r h
    rw[←h1]
    refine keep l (Array.getElem?_eq_some_iff.1 h1).1 ?_
    rintro(h2|⟨r',h2⟩|h2)
    ·obtain⟨n,k,es,_,q2,q3,q4⟩:=passed h2
     obtain⟨ob,hc,hcd⟩:=cellHeap q2 q3
     rw[q4,h1] at hc;cases hc;rcases hcd with⟨_,_,h⟩|⟨_,_,h⟩ <;> cases h
    ·have h2':lk Hin.gl l=some r':=h2
     rw[hlp,h'] at h2';cases h2'
    ·simp[Ctx.re,Ctx.th] at h2
  kq:=fun d h=>by
   have h1:=hI.kq d h
   rw[←h1]
   refine keep d (Array.getElem?_eq_some_iff.1 h1).1 ?_
   rintro(h2|⟨r',h2⟩|h2)
   ·obtain⟨n,k,es,_,q2,q3,q4⟩:=passed h2
    obtain⟨ob,hc,hcd⟩:=cellHeap q2 q3
    rw[q4,h1] at hc;cases hc;rcases hcd with⟨_,_,h⟩|⟨_,_,h⟩ <;> cases h
   ·have q1:=hI.gl d r' (hp.gl d r' (by rw[←hlp];exact h2))
    rw[h1] at q1;cases q1
   ·simp[Ctx.re,Ctx.th] at h2
  D_:=hI.D_
  ET:=hI.ET
  gT:=fun b h hb=>by
   rcases h with⟨r,h⟩|h
   ·rcases hlps b r h with h|⟨h,_⟩
    ·exact F0.gT b (.inl ⟨r,h⟩) (by rw[hpr];exact .inl hb)
    ·exact hI.gT b (.inl ⟨r,h⟩) hb
   ·exact hI.gT b (.inr h) hb
  uh:=hI.uh
  iU:=Nat.le_trans hI.iU ext.next
  gh:=W0.st C _ ext.mem hI.iU hI.gh}

theorem Inv.XM{B1:dK}{p:Nat}(hI:Inv (.of W0.w) C)(hB:B1.w=W0.w)(hp:B1.p=p)(hle:p≤C.H.next)(hd:C.kq=[])(hG:B1.G {C with tK:=p}):Inv B1 {C with tK:=p} where
 fresh:=hI.fresh
 nil:=hI.nil
 obj id es h hn:=by
  have hO:=hI.obj id es h hn
  exact⟨hO.n,hO.cap,hO.fW,hO.one,hO.flat,fun i j e x v h1 h2 h3=>(hO.cell i j e x v h1 h2 h3).sub rfl (Nat.le_refl _) (fun id es _ h=>⟨es,h⟩) (fun _ _=>rfl) (fun b h=>h)⟩
 sep:=hI.sep
 dW:=hI.dW
 tB:=hI.tB
 fU:=hI.fU
 gC b h:=by rw[hB];exact hI.gC b h
 size:=by rw[hB];exact hI.size
 lK b h:=by rw[hB] at h ⊢;exact hI.lK b h
 gl:=hI.gl
 kq:=hI.kq
 D_:=hI.D_
 ET _ _:=hd
 gT:=hI.gT
 uh:=hp.symm
 iU:=hle
 gh:=hG

def LN(H:bg):List (Nat×(Nat×List AV))→Prop
 |[]=>True
 |(k,v)::r=>lk H.dY k=some v∧LN H r
theorem LN.spec{H:bg}:∀{l:List (Nat×(Nat×List AV))},LN H l→∀k v,lk l k=some v→lk H.dY k=some v
 |[],_,_,_,h=>by cases h
 |(q,u)::l,hl,k,v,h=>by
  simp only[lk] at h
  split at h
  ·rename_i hq;subst hq;cases h;exact hl.1
  ·exact LN.spec hl.2 k v h

structure Pass (ok:AV→Prop) (fr fr':List (Nat×AV)) (H Hs Hin Hout H':bg) (g m:List (Nat×Nat)) (nw:List Nat) (p:Nat) (r r':AV):Prop where
 next:Hs.next=H.next
 part:LN H Hs.dY
 inj:g.all (fun p=>g.all (fun q=>p.2 !=q.2||p.1==q.1))=true
 lt:g.all (fun p=>decide (p.1<Hin.next))=true
 nwf:nw.all (fun n=>(lk g n).isNone&&decide (n<Hin.next))=true
 gin:g.all (fun q=>(lk Hs.dY q.2).isSome)=true
 held:sH Hs g nw Hin.next Hin.dY
 seen:Seen Hs g nw fr fr'
 O1:Hin.gl=Hs.gl
 ple:decide (p≤Hin.next)=true
 map:WN p H.next g m=true
 next':H'.next=H.next+Hout.next
 back:Cv ok H g m Hout H'.dY
 gl:(Hs.gl=[]∧H'.gl=H.gl)∨(Hs.gl=H.gl∧H'.gl=Hout.gl)
 mode:(∀x,ok x→G6 x)∨((∀x,ok x→b6 x)∧H.dY.all (fun e=>g.any (fun q=>q.2==e.1)||(lk Hs.dY e.1).isNone)=true)
 ren:Ren ok m r r'

def Ctx.sub(C:Ctx)(Hs Hin:bg)(g:List (Nat×Nat))(p:Nat):Ctx:={(C.th Hs).re g Hin with tK:=p}

theorem Pass.JK{ok:AV→Prop}{fr fr':List (Nat×AV)}{H Hs Hin Hout H':bg}{g m:List (Nat×Nat)}{nw:List Nat}{p:Nat}{r r':AV}(h:Pass ok fr fr' H Hs Hin Hout H' g m nw p r r'):Part Hs H:=
 ⟨h.next,h.part.spec,fun l r hl=>by
  rcases h.gl with⟨h1,_⟩|⟨h1,_⟩
  ·rw[h1] at hl;cases hl
  ·rw[h1] at hl;exact hl⟩

theorem Pass.aej{ok:AV→Prop}{fr fr':List (Nat×AV)}{H Hs Hin Hout H':bg}{g m:List (Nat×Nat)}{nw:List Nat}{p:Nat}{r r':AV}{n:Nat}{vals:Array Value}(h:Pass ok fr fr' H Hs Hin Hout H' g m nw p r r')
  (hI:Inv W0 C)(hH:C.H=H)(hsz:vals.size=n)(hrep:∀t x,lk fr t=some x→dR C x (vals.getD t undef)):
  Rel (.of W0.w) n (lk fr') Hin ((C.th Hs).re g Hin) {tmps:=vals,defers:=[]}:=by
 have hp:=h.JK
 rw[←hH] at hp
 have Ld:Rel (.of W0.w) n (lk fr) Hs (C.th Hs) {tmps:=vals,defers:=[]}:=⟨rfl,hI.th hp,hsz,rfl,fun t x hx=>(hrep t x hx).th hp⟩
 exact(Ny (st:=⟨fr,Hs⟩) g nw h.inj h.lt h.nwf h.held h.seen (by simp[Cr]) h.O1 Ld).2

theorem za{x:AV}{v:Value}{p:Nat}(h:dR C x v):dR {C with tK:=p} x v:=
 h.sub rfl (Nat.le_refl _) (fun id es _ h=>⟨es,h⟩) (fun _ _=>rfl) (fun b h=>h)

theorem Pass.Xb{ok:AV→Prop}{fr fr':List (Nat×AV)}{H Hs Hin Hout H':bg}{g m:List (Nat×Nat)}{nw:List Nat}{p:Nat}{r r':AV}{B1:dK}{C2:Ctx}(h:Pass ok fr fr' H Hs Hin Hout H' g m nw p r r')
  (hI:Inv W0 C)(hH:C.H=H)(hB:B1.w=W0.w)(hM:Mem (C.sub Hs Hin g p) C2)(F0:Inv B1 C2)(Tl:C2.H=Hout)(L8:C2.kq=[]):
  Ext C (C.back C2 H')∧Inv W0 (C.back C2 H')∧∀v,dR C2 r v→dR (C.back C2 H') r' v:=by
 have hp:=h.JK
 subst hH Tl
 obtain⟨h1,h2,h3⟩:=aaj (ok:=ok) (H':=H') (m:=m) (nw:=nw) hI hp hB h.held (fun n hn=>by
   have:=List.all_eq_true.1 h.nwf n hn
   simp at this;exact this.1) h.inj (fun q hq=>List.all_eq_true.1 h.gin q hq) h.O1 hM (of_decide_eq_true h.ple) F0 L8 h.map h.next' h.back (fun l r hl=>by
   rcases h.gl with⟨q1,q2⟩|⟨q1,q2⟩
   ·rw[q2] at hl;exact .inr ⟨hl,by rw[q1];rfl⟩
   ·rw[q2] at hl;exact .inl hl) (h.mode.imp id fun⟨q1,q2⟩=>⟨q1,fun k v hk hq=>by
   have:=List.all_eq_true.1 q2 _ (lW hk)
   simp only[Bool.or_eq_true,List.any_eq_true,beq_iff_eq,Option.isNone_iff_eq_none] at this
   rcases this with⟨q,hq1,hq2⟩|h
   ·exact absurd hq2 (hq q hq1)
   ·exact h⟩)
 exact⟨h1,h2,fun v hv=>h3 r r' v h.ren hv⟩

theorem call3{ok:AV→Prop}{f:FuncId}{ys xs:List AV}{r r':AV}{Hs Hin Hout H':bg}{g m:List (Nat×Nat)}{nw:List Nat}{p:Nat}{B1:dK}{vals:Array Value}(hf:S3 P B1 f xs Hin r Hout)(hB:B1.w=W0.w)(hBp:B1.p=p)
  (h:Pass ok (cQ 0 ys) (cQ 0 xs) H Hs Hin Hout H' g m nw p r r')(hl:xs.length=ys.length)(hI:Inv W0 C)(hH:C.H=H)(hsz:vals.size=ys.length)(hrep:∀t x,lk (cQ 0 ys) t=some x→dR C x (vals.getD t undef))
  (hG:B1.G (C.sub Hs Hin g p)):
  Calls P f vals C.w (fun e w'=>∃v C',e=.returned v∧C'.w=w'∧Ext C C'∧Inv W0 C'∧C'.H=H'∧dR C' r' v):=by
 have h1:=h.aej hI hH hsz hrep
 have h2:Inv B1 (C.sub Hs Hin g p):=h1.inv.XM (W0:=W0) hB hBp (of_decide_eq_true h.ple) rfl hG
 refine(hf.runs (C.sub Hs Hin g p) vals h2 rfl rfl (by rw[hl];exact hsz) (fun k x hx=>za (Bp h1 k x hx))).mono ?_
 rintro e w' ⟨v,C2,rfl,rfl,hM,F0,Tl,L8,hr⟩
 obtain⟨q1,q2,q3⟩:=h.Xb hI hH hB hM F0 Tl L8
 exact⟨v,C.back C2 H',rfl,rfl,q1,q2,rfl,q3 v hr⟩

end
end Go.Av
end

section
/- Ranges over functions: the statement, its rounds, and the calls of yield. -/
namespace Go.Av

def sB:Code→List (Array Tmp×Code×Code)
 |.seq a b=>sB a++sB b
 |.cond _ a b=>sB a++sB b
 |.block _ c=>sB c
 |.loop c=>sB c
 |.scope c=>sB c
 |.rangeFunc _ ps a b=>(ps,a,b)::(sB a++sB b)
 |_=>[]

structure yM (rec:Loop) (fn:Func) (k N:Nat):Prop where
 ready:rec.state=.ready
 none:rec.pending=none
 code:(fn.body.bind fun c=>(sB c)[k]?)=some (rec.params,rec.assign,rec.body)
 size:rec.tmps.size=N

def gW(rec:Loop)(j:Code):Bool→Loop
 |true=>rec
 |false=>{rec with state:=.done,pending:=some j}

def MR(rec:Loop):Option Code→Loop
 |none=>rec
 |some c=>gW rec c false

theorem yM.params{rec:Loop}{fn:Func}{k N:Nat}{ps:Array Tmp}{BF bd:Code}(h:yM rec fn k N)(hc:(fn.body.bind fun c=>(sB c)[k]?)=some (ps,BF,bd)):rec.params=ps:=by
 have:=h.code
 rw[hc] at this
 simp only[Option.some.injEq,Prod.mk.injEq] at this
 exact this.1.symm

theorem yM.MR{rec:Loop}{fn:Func}{k N:Nat}(h:yM rec fn k N)(j:Option Code):({rec with state:=if j.isNone then .ready else .done,pending:=j}:Loop)=MR rec j:=by
 have h1:=h.ready
 have h2:=h.none
 cases rec
 simp only at h1 h2
 subst h1 h2
 cases j <;> rfl

def dK.it(W:World)(p:Nat)(rec:Loop)(frl:List (Nat×AV)):dK where
 w:=W
 p:=p
 ro:=none
 G C:=C.tK=p∧∀t x,lk frl t=some x→l9 p x∧dR C x (rec.tmps.getD t undef)
 st C C' hM hp h:=⟨hM.tK.trans h.1,fun t x hx=>⟨(h.2 t x hx).1,(h.2 t x hx).2.mem hM hp (by rw[h.1];exact(h.2 t x hx).1)⟩⟩
 dx:=[]

def dK.rd(W:World)(p:Nat)(l:Nat):dK:=⟨W,p,some l,fun _=>True,fun _ _ _ _ _=>trivial,[]⟩

section
variable {P:Program} {W0:dK} {C:Ctx} {fr:Fr} {a:Act} {H:bg} {o:Oper} {N:Nat}

theorem amv{C':Ctx}(hI:Inv W0 C){b:Nat}(hb:C.sp b){ob:Obj}(hw:C'.w=C.w.putObj b ob)(hobjs:C'.H.dY=C.H.dY)(hnext:C'.H.next=C.H.next)(hpl:C'.pl=C.pl)(hprot:C'.dW=C.dW)(hpin:C'.tK=C.tK)
  (hsp:∀b,C'.sp b→C.sp b)(hlps:∀l r,lk C'.H.gl l=some r→C'.w.heap[l]? =some (.loop r))(hdfs:∀d,d∈C'.kq→C'.w.heap[d]? =some (.deferred (some [])))(hdnd:C'.kq.Nodup)(hrod:∀l,W0.ro=some l→C'.kq=[]):
  Mem C C'∧Inv W0 C'∧∀x v,dR C x v→dR C' x v:=by
 obtain⟨ob0,hd,hnc⟩:=hI.NI hb
 have hsz:C'.w.heap.size=C.w.heap.size:=by rw[hw];simp
 have hne:∀q,q≠b→C'.w.heap[q]? =C.w.heap[q]? :=fun q hq=>by rw[hw];exact World.putObj_heap_other hq
 have hcell:∀{q:Nat} {arr:Array Value} {el:TypeId} {fz:Nat×Nat},C.w.heap[q]? =some (.cells arr el fz)→q≠b:=fun{q arr el fz} h hq=>by
  subst hq;rw[hd] at h;exact hnc _ _ _ (Option.some.inj h)
 have hcellD:∀{q:Nat} {o:Obj},C.w.heap[q]? =some o→isD o→q≠b:=fun{q o} h h2 hq=>by
  subst hq;exact hI.FO hb h h2
 have hget:∀id,C'.H.get id=C.H.get id:=fun id=>by simp[bg.get,hobjs]
 have hown:∀q,C'.own q→C.own q:=by
  rintro q (⟨id,es,h1,h2,h3⟩|h)
  ·exact .inl ⟨id,es,by rw[←hget];exact h1,by rw[←hpl];exact h2,by rw[←hpl];exact h3⟩
  ·exact .inr (hsp q h)
 have hbad:∀q,C'.bad q→C.bad q:=fun q h=>h.imp (hown q) (fun h=>by rw[←hprot];exact h)
 have hM:Mem C C':=⟨by rw[hw];exact⟨rfl,rfl,rfl,by simp,fun k hk=>absurd hk (Nat.not_lt_zero k)⟩,fun q _ hq=>hne q (fun h=>hq (.inr (h▸hb))),fun q _ h=>hown q h,hprot,hpin,fun hp=>⟨by rw[hpin,hnext];exact hp,fun k es' _ hg=>⟨⟨es',by rw[←hget];exact hg⟩,by rw[hpl]⟩⟩⟩
 have hholds:∀{q i:Nat} {v:Value},Holds C.w q i v→Holds C'.w q i v:=fun{q i v} h=>by
  refine⟨?_,h.2⟩
  have hq:q≠b:=fun hq=>by
   subst hq
   have:=h.1
   unfold World.cell? at this
   rw[hd] at this
   cases ob0 <;> first|exact hnc _ _ _ rfl|(simp at this)
  rw[World.cell?_of_block (w:=C.w) (a:=⟨q,i,none⟩) (hne q hq)]
  exact h.1
 have hrep:∀x v,dR C x v→dR C' x v:=by
  intro x v h
  induction h with
  |any v=>exact .any v
  |imm v hv=>exact .imm v hv
  |slNil a cap=>exact .slNil a cap
  |sl es q off sz cap c hlt hbd hc hf hcell _ ih=>exact .sl es q off sz cap c (by rw[hsz];exact hlt) (fun h=>hbd (hbad q h)) hc hf (fun i j e x he hx=>hholds (hcell i j e x he hx)) ih
  |clipNil a=>exact .clipNil a
  |clip es q off sz c hlt hbd hf hcell _ ih=>exact .clip es q off sz c (by rw[hsz];exact hlt) (fun h=>hbd (hbad q h)) hf (fun i j e x he hx=>hholds (hcell i j e x he hx)) ih
  |view id off len v hid hs h1=>exact .view id off len v (by rw[hnext];exact hid) (fun es he=>by rw[hpl];exact hs es (by rw[←hget];exact he)) h1
  |ref id i j v hid hs h1=>exact .ref id i j v (by rw[hnext];exact hid) (fun es he=>by rw[hpl];exact hs es (by rw[←hget];exact he)) h1
  |mref id v hid hs h1=>exact .mref id v (by rw[hnext];exact hid) (fun es he=>by rw[hpl];exact hs es (by rw[←hget];exact he)) h1
  |pp fl j q off c hlt hbd hcell _ ih=>exact .pp fl j q off c (by rw[hsz];exact hlt) (fun h=>hbd (hbad q h)) (fun k x hx=>hholds (hcell k x hx)) ih
  |agg cs vs hs h1 _ ih=>exact .agg cs vs hs h1 ih
  |tuple cs vs hs _ ih=>exact .tuple cs vs hs ih
  |ifc t x v _ ih=>exact .ifc t x v ih
  |bS fn caps vs hs _ ih=>exact .bS fn caps vs hs ih
 refine⟨hM, ?_,hrep⟩
 exact{
  fresh:=fun id es h=>by rw[hnext];exact hI.fresh id es (by rw[←hget];exact h)
  nil:=fun id es h hn=>hI.nil id es (by rw[←hget];exact h) (by rw[←hpl];exact hn)
  obj:=fun id es h hn=>by
   rw[hget] at h;rw[hpl] at hn ⊢
   have hO:=hI.obj id es h hn
   obtain⟨ob,h1,h2⟩:=hO.dat
   have hq:=hcellD h1 h2
   have hc:∀o,C'.w.cell? ⟨(C.pl id).fW,o,none⟩=C.w.cell? ⟨(C.pl id).fW,o,none⟩:=fun o=>World.cell?_of_block (w:=C.w) (a:=⟨_,o,none⟩) (hne _ hq)
   exact⟨hO.n,hO.cap,by rw[hne _ hq];exact hO.fW,fun o v hv=>hO.one o v (by rw[←hc o];exact hv),hO.flat,fun i j e x v h1 h2 h3=>hrep _ _ (hO.cell i j e x v h1 h2 (by rw[←hc];exact h3))⟩
  sep:=fun i1 i2 e1 e2 h1 h2 h3 h4 h5=>hI.sep i1 i2 e1 e2 (by rw[←hget];exact h1) (by rw[←hget];exact h2) (by rw[←hpl];exact h3) (by rw[←hpl];exact h4) (by rw[←hpl];exact h5)
  dW:=fun id es h hn hp=>hI.dW id es (by rw[←hget];exact h) (by rw[←hpl];exact hn) (by rw[hprot,hpl] at hp;exact hp)
  tB:=fun id s h hn=>by
   rw[hpl] at hn ⊢
   exact hI.tB id s (by simpa [bg.sz,hobjs] using h) hn
  fU:=fun q h=>by rw[hsz];exact hI.fU q (by rw[←hprot];exact h)
  gC:=fun q h=>hI.gC q (by rw[←hprot];exact h)
  size:=by rw[hsz];exact hI.size
  lK:=fun q h=>⟨by
   rw[←(hI.lK q h).1]
   exact hne q (fun hq=>(hI.lK q h).2 (.inr (hq▸hb))),fun ho=>(hI.lK q h).2 (hown q ho)⟩
  gl:=hlps
  kq:=hdfs
  D_:=hdnd
  ET:=hrod
  gT:=fun q h hp=>hI.gT q (hsp q h) (by rw[←hprot];exact hp)
  uh:=by rw[hpin];exact hI.uh
  iU:=by rw[hpin,hnext];exact hI.iU
  gh:=W0.st C C' hM hI.iU hI.gh}

def Ctx.Lx(C:Ctx)(l:Nat)(r:Loop):Ctx:={C with w:=C.w.putObj l (.loop r),H:={C.H with gl:=[(l,r)]}}

theorem Mm(hI:Inv W0 C){l:Nat}{r0:Loop}(r:Loop)(hl:C.H.gl=[(l,r0)]):Mem C (C.Lx l r)∧Inv W0 (C.Lx l r)∧∀x v,dR C x v→dR (C.Lx l r) x v:=by
 have h0:C.w.heap[l]? =some (.loop r0):=hI.gl l r0 (by rw[hl];simp[lk])
 have hlt:l<C.w.heap.size:=(Array.getElem?_eq_some_iff.1 h0).1
 refine amv (C':=C.Lx l r) hI (b:=l) (.inl ⟨r0,by rw[hl];simp[lk]⟩) (ob:=.loop r) rfl rfl rfl rfl rfl rfl (fun b h=> ?_) (fun l' r' h=> ?_) (fun d h=> ?_) hI.D_ hI.ET
 ·rcases h with⟨r',h⟩|h
  ·simp only[Ctx.Lx,lk] at h
   split at h
   ·rename_i hb;subst hb;exact .inl ⟨r0,by rw[hl];simp[lk]⟩
   ·cases h
  ·exact .inr h
 ·simp only[Ctx.Lx,lk] at h
  split at h
  ·rename_i hb;subst hb;cases h;exact World.putObj_heap_same hlt
  ·cases h
 ·have h1:=hI.kq d h
  rw[←h1]
  refine World.putObj_heap_other (fun hd=> ?_)
  rw[hd,h0] at h1;cases h1


def G_(P:Program)(W:World)(p:Nat)(l:Nat)(rec:Loop)(frl:List (Nat×AV))(xs:List AV)(Hin:bg)(b:Bool)(Hout:bg):Prop:=
 ∀(C:Ctx) (vals:Array Value),Inv (.rd W p l) C→C.H=Hin→vals.size=xs.length→(∀(k:Nat) (x:AV),xs[k]? =some x→dR C x (vals.getD k undef))→
  (∀t x,lk frl t=some x→dR C x (rec.tmps.getD t undef))→
  RoundIn Fence.wide 0 P l rec.fn ((rec.params.zip vals).foldl (fun tmps (t,a)=>tmps.setIfInBounds t a) rec.tmps) rec.assign rec.body C.w
   (fun e w'=>∃C',e=.returned (.bool b)∧C'.w=w'∧Mem C C'∧Inv (.rd W p l) C'∧C'.H=Hout)

def FB:Exit→Option (Option Code)
 |.normal=>some none
 |.ret=>some (some .ret)
 |.exit id=>some (some (.exit id))
 |.goto t=>some (some (.goto t))
 |_=>none

theorem JC(l:List (Nat×Value))(tm:Array Value):(l.foldl (fun tmps (t,a)=>tmps.setIfInBounds t a) tm).size=tm.size:=by
 induction l generalizing tm with
 |nil=>rfl
 |cons p l ih=>simp[ih]

theorem Lb(l:List (Nat×Value))(tm:Array Value)(t:Nat):
  (∃(k:Nat) (v:Value),l[k]? =some (t,v)∧(l.foldl (fun tmps (t,a)=>tmps.setIfInBounds t a) tm).getD t undef=(if t<tm.size then v else undef))∨
  ((∀q∈l,q.1≠t)∧(l.foldl (fun tmps (t,a)=>tmps.setIfInBounds t a) tm).getD t undef=tm.getD t undef):=by
 induction l generalizing tm with
 |nil=>exact .inr ⟨fun q h=>(by cases h),rfl⟩
 |cons p l ih=>
  obtain⟨s,u⟩:=p
  rcases ih (tm.setIfInBounds s u) with⟨k,v,h1,h2⟩|⟨h1,h2⟩
  ·left
   refine⟨k+1,v,by simpa using h1, ?_⟩
   simp only[List.foldl_cons]
   rw[h2];simp
  ·by_cases hs:s=t
   ·subst hs
    left
    refine⟨0,u,rfl, ?_⟩
    simp only[List.foldl_cons]
    rw[h2]
    by_cases hlt:s<tm.size
    ·simp[hlt,Array.getD]
    ·simp[hlt,Array.getD]
   ·right
    refine⟨fun q hq=> ?_, ?_⟩
    ·rcases List.mem_cons.1 hq with rfl|hq
     ·exact hs
     ·exact h1 q hq
    ·simp only[List.foldl_cons]
     rw[h2]
     simp only[Array.getD_eq_getD_getElem?]
     rw[Array.getElem?_setIfInBounds_ne hs]

def NB(ps:List Nat)(xs:List AV)(frl:List (Nat×AV)):List (Nat×AV):=ps.zip xs++frl

theorem xL{W:World}{p l N k:Nat}{rec:Loop}{fn:Func}{frl:List (Nat×AV)}{xs:List AV}{Hin Hout:bg}{b:Bool}{ps:Array Tmp}{BF bd:Code}(hrec:yM rec fn k N)(hcode:(fn.body.bind fun c=>(sB c)[k]?)=some (ps,BF,bd))
  (hlp:Hin.gl=[(l,rec)])(hxs:xs.length=ps.size)(hN:ps.toList.all (fun t=>decide (t<N))=true)(hnd:ps.toList.Nodup)
  (h:sN P (.rd W p l) N BF ⟨NB ps.toList xs frl,Hin⟩ (fun e s=>e=.normal∧s.H.gl=[(l,rec)]∧
   sN P (.rd W p l) N bd ⟨s.fr,{s.H with gl:=[(l,{rec with state:=.busy})]}⟩ (fun e s=>s.H.gl=[(l,{rec with state:=.busy})]∧∃j,FB e=some j∧b=j.isNone∧
    aU (.rd W p l) 0 ⟨[],{s.H with gl:=[(l,MR rec j)]}⟩ ⟨[],Hout⟩))):
  G_ P W p l rec frl xs Hin b Hout:=by
 intro C vals hI hH hsz hrep hrl
 have hc:=hrec.code
 rw[hcode] at hc
 simp only[Option.some.injEq,Prod.mk.injEq] at hc
 obtain⟨rfl,rfl,rfl⟩:=hc
 have hzip:∀(i:Nat) (t:Nat) (v:Value),(rec.params.zip vals).toList[i]? =some (t,v)→rec.params.toList[i]? =some t∧vals.toList[i]? =some v:=fun i t v h=>by
  rw[Array.toList_zip,List.getElem?_zip_eq_some] at h
  exact h
 have hfold:(rec.params.zip vals).foldl (fun tmps (t,a)=>tmps.setIfInBounds t a) rec.tmps=(rec.params.zip vals).toList.foldl (fun tmps (t,a)=>tmps.setIfInBounds t a) rec.tmps:=by
  rw[←Array.foldl_toList]
 have hsize:((rec.params.zip vals).foldl (fun tmps (t,a)=>tmps.setIfInBounds t a) rec.tmps).size=N:=by
  rw[hfold,JC,hrec.size]
 have hrel:Rel (.rd W p l) N (lk (NB rec.params.toList xs frl)) Hin C {tmps:=(rec.params.zip vals).foldl (fun tmps (t,a)=>tmps.setIfInBounds t a) rec.tmps,defers:=[]}:=by
  refine⟨hH,hI,hsize,by have:=hI.ET l rfl;simp[this,dK.rd],fun t x hx=> ?_⟩
  show dR C x (((rec.params.zip vals).foldl (fun tmps (t,a)=>tmps.setIfInBounds t a) rec.tmps).getD t undef)
  rw[hfold]
  simp only[NB] at hx
  rw[tG] at hx
  rcases Lb (rec.params.zip vals).toList rec.tmps t with⟨i,v,h1,h2⟩|⟨h1,h2⟩
  ·rw[h2]
   obtain⟨q1,q2⟩:=hzip i t v h1
   have htN:t<rec.tmps.size:=by
    rw[hrec.size]
    have:=List.all_eq_true.1 hN t (List.mem_of_getElem? q1)
    simpa using this
   rw[if_pos htN]
   have hix:i<xs.length:=by rw[hxs];simpa using (List.getElem?_eq_some_iff.1 q1).1
   have hz:lk (rec.params.toList.zip xs) t=some xs[i]:=by
    have key:∀(ps:List Nat) (xs:List AV) (i:Nat) (x:AV),ps.Nodup→ps[i]? =some t→xs[i]? =some x→lk (ps.zip xs) t=some x:=by
     intro ps
     induction ps with
     |nil=>intro xs i x _ h;simp at h
     |cons q ps ih=>
      intro xs i x hn hq hy
      cases xs with
      |nil=>simp at hy
      |cons y ys=>
       cases i with
       |zero=>simp at hq hy;subst hy;rw[hq];simp[lk]
       |succ i=>
        simp at hq hy
        have hne:q≠t:=fun he=>(List.nodup_cons.1 hn).1 (he▸List.mem_of_getElem? hq)
        simp only[List.zip_cons_cons,lk]
        rw[if_neg hne]
        exact ih ys i x (List.nodup_cons.1 hn).2 hq hy
    exact key _ _ i _ hnd q1 (List.getElem?_eq_getElem hix)
   rw[hz] at hx
   simp only[Option.some.injEq] at hx
   subst hx
   have:=hrep i xs[i] (List.getElem?_eq_getElem hix)
   have hv:vals.getD i undef=v:=by
    have:vals[i]? =some v:=by simpa using q2
    simp[Array.getD_eq_getD_getElem?,this]
   rwa [hv] at this
  ·rw[h2]
   have hz:lk (rec.params.toList.zip xs) t=none:=by
    have key:∀(ps:List Nat) (xs:List AV),(∀q∈ps,q≠t)→lk (ps.zip xs) t=none:=by
     intro ps
     induction ps with
     |nil=>intro xs _;rfl
     |cons q ps ih=>
      intro xs hq
      cases xs with
      |nil=>rfl
      |cons y ys=>
       simp only[List.zip_cons_cons,lk]
       rw[if_neg (hq q (List.mem_cons_self ..))]
       exact ih ys (fun r hr=>hq r (List.mem_cons_of_mem _ hr))
    refine key _ _ (fun q hq=> ?_)
    obtain⟨i,hi⟩:=List.getElem?_of_mem hq
    have hil:i<vals.toList.length:=by
     have:=(List.getElem?_eq_some_iff.1 hi).1
     simp at this ⊢;omega
    have hm:(q,vals.toList[i])∈(rec.params.zip vals).toList:=by
     rw[Array.toList_zip]
     refine List.mem_of_getElem? (i:=i) ?_
     rw[List.getElem?_zip_eq_some]
     exact⟨hi,List.getElem?_eq_getElem hil⟩
    exact h1 _ hm
   rw[hz] at hx
   exact hrl t x hx
 refine roundIn_of_wpIn trivial (wpIn_mono (h C _ hrel) fun e a1 w1 ⟨s,C1,g1,g2,g3,g4⟩=> ?_)
 obtain⟨rfl,hs1,hbody⟩:=g4
 subst g1
 have hl1:C1.w.heap[l]? =some (.loop rec):=g3.inv.gl l rec (by rw[g3.heap,hs1];simp[lk])
 obtain⟨m1,i1,r1⟩:=Mm g3.inv {rec with state:=.busy} (by rw[g3.heap];exact hs1)
 refine⟨C1.w.putObj l (.loop {rec with state:=.busy}),run_beginRound hl1 hrec.ready, ?_⟩
 have alJ:Rel (.rd W p l) N (lk s.fr) {s.H with gl:=[(l,{rec with state:=.busy})]} (C1.Lx l {rec with state:=.busy}) a1:=
  ⟨by simp only[Ctx.Lx,g3.heap],i1,g3.size,g3.defers,fun t x hx=>r1 _ _ (g3.rep t x hx)⟩
 refine wpIn_mono (hbody _ _ alJ) fun e a2 w2 ⟨s2,C2,q1,q2,q3,q4,j,q5,q6,q7⟩=> ?_
 subst q1
 have YB:C2.w.heap[l]? =some (.loop {rec with state:=.busy}):=q3.inv.gl l _ (by rw[q3.heap,q4];simp[lk])
 rw[←hrec.MR] at q7
 obtain⟨m2,i2,r2⟩:=Mm q3.inv {rec with state:=if j.isNone then .ready else .done,pending:=j} (by rw[q3.heap];exact q4)
 have fin:∃v w',(Instr.endRound l j).run P C2.w=.ok v w'∧∃C',Ending.returned v=.returned (.bool b)∧C'.w=w'∧Mem C C'∧Inv (.rd W p l) C'∧C'.H=Hout:=by
  obtain⟨C3,p1,p2,p3⟩:=q7 (C2.Lx l {rec with state:=if j.isNone then .ready else .done,pending:=j}) {tmps:= #[],defers:=[]} ⟨by simp only[Ctx.Lx,q3.heap],i2,rfl,by rw[i2.ET l rfl];rfl,fun t x hx=>by simp[lk] at hx⟩
  refine⟨_,_,run_endRound j YB,C3,by rw[q6], ?_,g2.trans (m1.trans (q2.trans (m2.trans p2))),p3.inv,p3.heap⟩
  rw[p1]
  rfl
 cases e with
 |normal=>simp only[FB,Option.some.injEq] at q5;subst q5;exact fin
 |ret=>simp only[FB,Option.some.injEq] at q5;subst q5;exact fin
 |exit id=>simp only[FB,Option.some.injEq] at q5;subst q5;exact fin
 |goto t=>simp only[FB,Option.some.injEq] at q5;subst q5;exact fin
 |panic c=>simp[FB] at q5
 |outgrown=>simp[FB] at q5

theorem aai{Hs Ht:bg}{g:List (Nat×Nat)}{nw:List Nat}{x x':AV}(ho:Hs.dY=Ht.dY)(h:tD Hs g nw x x'):tD Ht g nw x x':=by
 have hget:∀id,Hs.get id=Ht.get id:=fun id=>by simp[bg.get,ho]
 induction h with
 |same x h=>exact .same x h
 |any x=>exact .any x
 |view h=>exact .view h
 |viewL h h2=>exact .viewL h h2
 |ref h=>exact .ref h
 |mref h=>exact .mref h
 |nil h=>exact .nil h
 |lend h1 h2 h3 h4=>exact .lend (by rw[←hget];exact h1) h2 h3 h4
 |agg cs cs' hl _ ih=>exact .agg cs cs' hl ih
 |tuple cs cs' hl _ ih=>exact .tuple cs cs' hl ih
 |bS fn cs cs' hl _ ih=>exact .bS fn cs cs' hl ih
 |ifc t x x' _ ih=>exact .ifc t x x' ih
 |wide es h=>exact .wide es h
 |nilsl=>exact .nilsl
 |frz h1 h2 h3 h4 h5=>exact .frz (by rw[←hget];exact h1) h2 h3 h4 h5
theorem Mp{Hs Ht:bg}{g:List (Nat×Nat)}{nw:List Nat}{fr:List (Nat×AV)}(ho:Hs.dY=Ht.dY):∀{l:List (Nat×AV)},Seen Hs g nw fr l→Seen Ht g nw fr l
 |[],_=>trivial
 |_::_,⟨⟨x,h1,h2⟩,h3⟩=>⟨⟨x,h1,aai ho h2⟩,Mp ho h3⟩
theorem XV{Hs:bg}{g:List (Nat×Nat)}{nw:List Nat}{fr:List (Nat×AV)}{l:List (Nat×AV)}{ll:List (Nat×Loop)}(h:Seen {Hs with gl:=[]} g nw fr l):Seen {Hs with gl:=ll} g nw fr l:=Mp (Hs:={Hs with gl:=[]}) (Ht:={Hs with gl:=ll}) rfl h


theorem lE{ok:AV→Prop}{args:Array Operand}{tys:Array TypeId}{f:Operand}{ys xs:List AV}{Hs Hin Hout H':bg}{g m:List (Nat×Nat)}{nw:List Nat}{p l k N:Nat}{rec:Loop}{fn:Func}{b:Bool}{frl:List (Nat×AV)}{W:World}
  (ho:o.op=.call {callee:=.value f,args:=args,argTypes:=tys})(hf:bz fr f=some (.bS (.yield l) []))(hys:args.toList.mapM (bz fr)=some ys)
  (hround:G_ P W p l rec frl xs Hin b Hout)(hrec:yM rec fn k N)(hlp:Hs.gl=[(l,rec)])(hps:rec.params.size=ys.length)
  (h:Pass ok (cQ 0 ys) (cQ 0 xs) H Hs Hin Hout H' g m nw p (.imm (.bool b)) (.imm (.bool b)))(hl:xs.length=ys.length)(hg:(List.range p).all (fun k=>lk g k==some k)=true)(hnp:(List.range p).all (fun k=> !nw.contains k)=true):
  acW P (.it W p rec frl) o fr H (.imm (.bool b)) H':=by
 intro C a hI hH hop K Q hK
 have hopy:∀y∈args.toList,yW C fr a y:=fun y hy=>hop y (by rw[ho];simp[Op.operands,Call.operands];exact .inr (by simpa using hy))
 have Ld:=Dd hopy hys
 have h1:=h.aej hI hH Ld.1 Ld.2
 have h2:Inv (.rd W p l) (C.sub Hs Hin g p):=h1.inv.XM (W0:=.it W p rec frl) rfl rfl (of_decide_eq_true h.ple) rfl trivial
 have hfv:a.eval f=.func (.yield l) #[] #[]:=by
  have hmem:f∈o.op.operands:=by rw[ho];simp[Op.operands,Call.operands]
  have:=bN (hop f hmem) hf
  generalize a.eval f=v at this
  cases this with
  |bS _ _ vs hs _=>
   have:vs= #[]:=Array.eq_empty_of_size_eq_zero (by simpa using hs)
   rw[this]
 have hlr:C.w.heap[l]? =some (.loop rec):=hI.gl l rec (by
  have:=h.JK.gl l rec (by rw[hlp];simp[lk])
  rw[hH];exact this)
 have hyr:=run_yield (P:=P) (args:=args.map a.eval) hlr (by rw[Ld.1];exact hps.symm)
 have hrun:(execOp a.eval o).run P C.w=.ok (.round l rec.fn ((rec.params.zip (args.map a.eval)).foldl (fun tmps (t,a)=>tmps.setIfInBounds t a) rec.tmps) rec.assign rec.body) C.w:=by
  simp only[execOp,ho,resolve,hfv,Deferred.ofValue]
  simpa [invoke] using hyr
 -- what the rounds' frame holds, as the callee sees it
 have hfrl:∀t x,lk frl t=some x→dR (C.sub Hs Hin g p) x (rec.tmps.getD t undef):=fun t x hx=>by
  obtain⟨hu,hr⟩:=hI.gh.2 t x hx
  have hp:=h.JK
  rw[←hH] at hp
  have hle:p≤Hin.next:=of_decide_eq_true h.ple
  have key:∀x v,l9 p x→dR C x v→dR (C.sub Hs Hin g p) x v:=by
   intro x v hu hr
   have hbad:∀b,(C.sub Hs Hin g p).bad b→C.bad b:=fun b hb=>by
    have Uw:((C.th Hs).re g Hin).bad b:=hb
    rcases Uw with Uw|Uw
    ·refine .inl ?_
     rcases Uw with⟨n,es',q1,q2,q3⟩|⟨r,q⟩|q
     ·obtain⟨⟨s,e⟩,q4,q5⟩:=Option.map_eq_some_iff.1 (show(lk Hin.dY n).map (·.2)=some es' from q1)
      rcases(h.held.spec q4).1 with⟨old,es,w1,w2,_⟩|⟨w,_⟩
      ·have hpl:((C.th Hs).re g Hin).pl n=C.pl old:=by simp[Ctx.re,Ctx.th,w1]
       rw[hpl] at q2 q3
       refine .inl ⟨old,es, ?_,q2,q3⟩
       have:=hp.dY old _ w2
       simp[bg.get,this]
      ·have hno:lk g n=none:=by
        have:=List.all_eq_true.1 h.nwf n w
        simp at this;exact this.1
       have hpl:((C.th Hs).re g Hin).pl n=⟨0,0,0,0,true⟩:=by simp[Ctx.re,hno]
       rw[hpl] at q2;cases q2
     ·exact .inr (.inl ⟨r,hp.gl b r (by rw[←h.O1];exact q)⟩)
     ·simp[Ctx.re,Ctx.th] at q
    ·rcases Uw with Uw|Uw
     ·exact .inr Uw
     ·exact .inl Uw.1
   have hids:∀id,id<p→∀es',Hin.get id=some es'→∃es,C.H.get id=some es∧(C.sub Hs Hin g p).pl id=C.pl id:=fun id hid es' hes=>by
    obtain⟨⟨s,e⟩,q4,q5⟩:=Option.map_eq_some_iff.1 (show(lk Hin.dY id).map (·.2)=some es' from hes)
    have hgi:lk g id=some id:=by
     have:=List.all_eq_true.1 hg id (List.mem_range.2 hid)
     simpa using this
    rcases(h.held.spec q4).1 with⟨old,es,w1,w2,_⟩|⟨w,_⟩
    ·rw[hgi] at w1;cases w1
     have:=hp.dY id _ w2
     exact⟨es,by simp[bg.get,this],by simp[Ctx.sub,Ctx.re,Ctx.th,hgi]⟩
    ·have:=List.all_eq_true.1 hnp id (List.mem_range.2 hid)
     simp at this;exact absurd w this
   induction hr with
   |any v=>exact .any v
   |imm v hv=>exact .imm v hv
   |slNil a cap=>exact .slNil a cap
   |sl es b off sz cap c hlt hn hc hf hcell _ ih=>
    cases hu with
    |sl _ hu=>exact .sl es b off sz cap c hlt (fun h=>hn (hbad b h)) hc hf hcell (fun i j e x he hx=>ih i j e x he hx (hu e (List.mem_of_getElem? he) x (List.mem_of_getElem? hx)))
   |clipNil a=>exact .clipNil a
   |clip es b off sz c hlt hn hf hcell _ ih=>
    cases hu with
    |clip _ hu=>exact .clip es b off sz c hlt (fun h=>hn (hbad b h)) hf hcell (fun i j e x he hx=>ih i j e x he hx (hu e (List.mem_of_getElem? he) x (List.mem_of_getElem? hx)))
   |view id off len v hid hs h1=>
    cases hu with
    |view _ _ _ hu=>
    refine .view id off len v (Nat.lt_of_lt_of_le hu hle) (fun es he=> ?_) h1
    obtain⟨zL,q1,q2⟩:=hids id hu es he
    rw[q2];exact hs zL q1
   |ref id i j v hid hs h1=>
    cases hu with
    |ref _ _ _ hu=>
    refine .ref id i j v (Nat.lt_of_lt_of_le hu hle) (fun es he=> ?_) h1
    obtain⟨zL,q1,q2⟩:=hids id hu es he
    rw[q2];exact hs zL q1
   |mref id v hid hs h1=>
    cases hu with
    |mref _ hu=>
    refine .mref id v (Nat.lt_of_lt_of_le hu hle) (fun es he=> ?_) h1
    obtain⟨zL,q1,q2⟩:=hids id hu es he
    rw[q2];exact hs zL q1
   |pp fl j b off c hlt hn hcell _ ih=>
    cases hu with
    |pp _ _ hu=>exact .pp fl j b off c hlt (fun h=>hn (hbad b h)) hcell (fun k x hx=>ih k x hx (hu x (List.mem_of_getElem? hx)))
   |agg cs vs hs h1 _ ih=>cases hu with|agg _ hu=>exact .agg cs vs hs h1 (fun k x hx=>ih k x hx (hu x (List.mem_of_getElem? hx)))
   |tuple cs vs hs _ ih=>cases hu with|tuple _ hu=>exact .tuple cs vs hs (fun k x hx=>ih k x hx (hu x (List.mem_of_getElem? hx)))
   |ifc t x v _ ih=>cases hu with|ifc _ _ hu=>exact .ifc t x v (ih hu)
   |bS fn caps vs hs _ ih=>cases hu with|bS _ _ hu=>exact .bS fn caps vs hs (fun k x hx=>ih k x hx (hu x (List.mem_of_getElem? hx)))
  exact key x _ hu hr
 refine⟨fun _ _=>trivial, ?_⟩
 show o.uponIn Fence.wide 0 P a K Q ((execOp a.eval o).run P C.w)
 rw[hrun]
 refine⟨fun hd=>by simp[Fence.wide] at hd, ?_⟩
 refine(hround (C.sub Hs Hin g p) (args.map a.eval) h2 rfl (by rw[hl];exact Ld.1) (fun k x hx=>za (Bp h1 k x hx)) hfrl).mono ?_
 rintro e w' ⟨C2,rfl,rfl,hM,F0,Tl⟩
 obtain⟨q1,q2,q3⟩:=h.Xb (W0:=.it W p rec frl) (B1:=.rd W p l) hI hH rfl hM F0 Tl (F0.ET l rfl)
 exact hK _ (C.back C2 H') q1 q2 rfl (q3 _ (.imm _ rfl))


def Ctx.lay(C:Ctx)(r:Loop):Ctx:=
 {C with w:=(C.w.alloc (.deferred (some []))).alloc (.loop r),H:={C.H with gl:=[(C.w.heap.size+1,r)]},kq:=C.w.heap.size::C.kq}

theorem TC(hI:Inv W0 C)(r:Loop)(hl:C.H.gl=[])(hro:W0.ro=none):Mem C (C.lay r)∧Inv W0 (C.lay r)∧∀x v,dR C x v→dR (C.lay r) x v:=by
 have hB:RowKit.Below C.w.heap.size C.w (C.lay r).w:=((RowKit.Below.refl _ _).alloc (Nat.le_refl _) _).alloc (by simp) _
 have e1:Ext C (C.zk (C.lay r).w):=gY hB
 have i1:=hI.zk hB
 have hs:(C.lay r).w.heap.size=C.w.heap.size+2:=by show((C.w.alloc _).alloc _).heap.size=_;rw[zw,zw]
 have h0:(C.lay r).w.heap[C.w.heap.size]? =some (.deferred (some [])):=by
  show((C.w.alloc (.deferred (some []))).heap.push _)[C.w.heap.size]? =_
  rw[Array.getElem?_push_lt (by rw[zw];exact Nat.lt_succ_self _)]
  exact(Array.getElem?_eq_getElem _).symm.trans (xg C.w _)
 have h1:(C.lay r).w.heap[C.w.heap.size+1]? =some (.loop r):=by
  have:=xg (C.w.alloc (.deferred (some []))) (.loop r)
  rw[zw] at this
  exact this
 have hsp:∀b,(C.lay r).sp b→C.sp b∨C.w.heap.size≤b:=by
  rintro b (⟨r',h⟩|h)
  ·simp only[Ctx.lay,lk] at h
   split at h
   ·rename_i hb;right;omega
   ·cases h
  ·rcases List.mem_cons.1 h with h|h
   ·right;omega
   ·exact .inl (.inr h)
 have hown:∀b,(C.lay r).own b→C.own b∨C.w.heap.size≤b:=by
  rintro b (h|h)
  ·exact .inl (.inl h)
  ·exact(hsp b h).imp .inr id
 have hbadl:∀b,b<C.w.heap.size→(C.lay r).bad b→C.bad b:=fun b hb h=>by
  rcases h with h|h
  ·rcases hown b h with h|h
   ·exact .inl h
   ·omega
  ·exact .inr h
 have hM:Mem C (C.lay r):=⟨⟨rfl,rfl,rfl,by rw[hs];omega,fun k hk=>absurd hk (Nat.not_lt_zero k)⟩,fun b hb hn=>hB.block b hb,fun b hb h=>by
  rcases hown b h with h|h
  ·exact h
  ·omega,rfl,rfl,fun hp=>⟨hp,fun k es' _ hg=>⟨⟨es',hg⟩,rfl⟩⟩⟩
 have hholds:∀{b i:Nat} {v:Value},b<C.w.heap.size→Holds C.w b i v→Holds (C.lay r).w b i v:=fun{b i v} hb h=>by
  refine⟨?_,h.2⟩
  rw[World.cell?_of_block (w:=C.w) (a:=⟨b,i,none⟩) (hB.block b hb)]
  exact h.1
 have hrep:∀x v,dR C x v→dR (C.lay r) x v:=by
  intro x v h
  induction h with
  |any v=>exact .any v
  |imm v hv=>exact .imm v hv
  |slNil a cap=>exact .slNil a cap
  |sl es b off sz cap c hlt hbd hc hf hcell _ ih=>exact .sl es b off sz cap c (by rw[hs];omega) (fun h=>hbd (hbadl b hlt h)) hc hf (fun i j e x he hx=>hholds hlt (hcell i j e x he hx)) ih
  |clipNil a=>exact .clipNil a
  |clip es b off sz c hlt hbd hf hcell _ ih=>exact .clip es b off sz c (by rw[hs];omega) (fun h=>hbd (hbadl b hlt h)) hf (fun i j e x he hx=>hholds hlt (hcell i j e x he hx)) ih
  |view id off len v hid hs' h1=>exact .view id off len v hid hs' h1
  |ref id i j v hid hs' h1=>exact .ref id i j v hid hs' h1
  |mref id v hid hs' h1=>exact .mref id v hid hs' h1
  |pp fl j b off c hlt hbd hcell _ ih=>exact .pp fl j b off c (by rw[hs];omega) (fun h=>hbd (hbadl b hlt h)) (fun k x hx=>hholds hlt (hcell k x hx)) ih
  |agg cs vs hs' h1 _ ih=>exact .agg cs vs hs' h1 ih
  |tuple cs vs hs' _ ih=>exact .tuple cs vs hs' ih
  |ifc t x v _ ih=>exact .ifc t x v ih
  |bS fn caps vs hs' _ ih=>exact .bS fn caps vs hs' ih
 refine⟨hM, ?_,hrep⟩
 exact{
  fresh:=hI.fresh
  nil:=hI.nil
  obj:=fun id es h hn=>by
   have hO:=hI.obj id es h hn
   have hlt:=hI.lt h hn
   have hc:∀o,(C.lay r).w.cell? ⟨(C.pl id).fW,o,none⟩=C.w.cell? ⟨(C.pl id).fW,o,none⟩:=fun o=>World.cell?_of_block (w:=C.w) (a:=⟨_,o,none⟩) (hB.block _ hlt)
   exact⟨hO.n,hO.cap,(by have e:(C.lay r).w.heap[((C.lay r).pl id).fW]? =C.w.heap[(C.pl id).fW]? :=hB.block _ hlt;rw[e];exact hO.fW),fun o v hv=>hO.one o v (by rw[←hc o];exact hv),hO.flat,fun i j e x v h1 h2 h3=>hrep _ _ (hO.cell i j e x v h1 h2 (by rw[←hc];exact h3))⟩
  sep:=hI.sep
  dW:=hI.dW
  tB:=hI.tB
  fU:=fun b h=>Nat.lt_of_lt_of_le (hI.fU b h) hB.size
  gC:=hI.gC
  size:=Nat.le_trans hI.size hB.size
  lK:=fun b h=>⟨by rw[←(hI.lK b h).1];exact hB.block b (Nat.lt_of_lt_of_le h hI.size),fun ho=>by
   rcases hown b ho with h'|h'
   ·exact(hI.lK b h).2 h'
   ·have:=hI.size;omega⟩
  gl:=fun l r' h=>by
   simp only[Ctx.lay,lk] at h
   split at h
   ·rename_i hb;cases h;rw[←hb];exact h1
   ·cases h
  kq:=fun d h=>by
   rcases List.mem_cons.1 h with h|h
   ·rw[h];exact h0
   ·have h2:=hI.kq d h
    rw[←h2];exact hB.block d (Array.getElem?_eq_some_iff.1 h2).1
  D_:=List.nodup_cons.2 ⟨fun h=>by
   have h2:=hI.kq _ h
   have:=(Array.getElem?_eq_some_iff.1 h2).1
   omega,hI.D_⟩
  ET:=fun l h=>by rw[hro] at h;cases h
  gT:=fun b h hp=>by
   rcases hsp b h with h|h
   ·exact hI.gT b h hp
   ·have:=hI.fU b hp;omega
  uh:=hI.uh
  iU:=hI.iU
  gh:=W0.st C _ hM hI.iU hI.gh}

theorem D4{ok:AV→Prop}{Q:Exit→St→Prop}{g0:Operand}{ps:Array Tmp}{BF bd j:Code}{frl fr:List (Nat×AV)}{H:bg}{fi:FuncId}{fn:Func}{caps xs:List AV}{k p:Nat}{r:AV}{b:Bool}{Hs Hin Hout H':bg}{g m:List (Nat×Nat)}{nw:List Nat}
  (hro:W0.ro=none)(hcode:(fn.body.bind fun c=>(sB c)[k]?)=some (ps,BF,bd))(hg:bz (lk fr) g0=some (.bS (.func fi) caps))(hc:mw P fi)(hHl:H.gl=[])(hul:∀t x,lk frl t=some x→l9 p x)
  (hseen:Seen {Hs with gl:=[]} g nw fr frl)
  (hit:∀(l:Nat) (rec:Loop),yM rec fn k N→S3 P (.it W0.w p rec frl) fi (.bS (.yield l) []::xs) {Hin with gl:=[(l,rec)]} r {Hout with gl:=[(l,gW rec j b)]})
  (hpass:∀(l:Nat) (rec:Loop),Pass ok (cQ 0 (.bS (.yield l) []::caps)) (cQ 0 (.bS (.yield l) []::xs)) {H with gl:=[(l,rec)]} {Hs with gl:=[(l,rec)]} {Hin with gl:=[(l,rec)]} {Hout with gl:=[(l,gW rec j b)]} {H' with gl:=[(l,gW rec j b)]} g m nw p r .any)
  (hl:xs.length=caps.length)(hnext:b=true→Q .normal ⟨fr,{H' with gl:=[]}⟩)(hjump:b=false→sN P W0 N j ⟨fr,{H' with gl:=[]}⟩ Q):
  sN P W0 N (.rangeFunc g0 ps BF bd) ⟨fr,H⟩ Q:=fun C a hr=>by
 rw[hro,Eb]
 refine wpIn_rangeFunc fun fnid _=> ?_
 -- the record
 let rc:Loop:={state:=.ready,pending:=none,fn:=fnid,tmps:=a.tmps,params:=ps,assign:=BF,body:=bd,defers:=C.w.heap.size}
 have hrec:yM rc fn k N:=⟨rfl,rfl,hcode,hr.size⟩
 obtain⟨m1,i1,r1⟩:=TC hr.inv rc (by rw[hr.heap];exact hHl) hro
 have hgv:=bN (C:=C) (a:=a) (fun q _ av hav=>hr.rep q av hav) hg
 obtain⟨vs,hvs,hsz,hcap⟩:∃vs:Array Value,a.eval g0=.func (.func fi) #[] vs∧vs.size=caps.length∧∀(k:Nat) (x:AV),caps[k]? =some x→dR C x (vs.getD k undef):=by
  generalize a.eval g0=u at hgv
  match hgv with
  |.bS _ _ vs h1 h2=>exact⟨vs,rfl,h1,h2⟩
 refine⟨C.w.heap.size+1,[{target:=.collected C.w.heap.size,args:= #[]}],(C.lay rc).w,{target:=.fn (.func fi) vs,args:= #[.func (.yield (C.w.heap.size+1)) #[] #[]]},(C.lay rc).w,fi, #[.func (.yield (C.w.heap.size+1)) #[] #[]]++vs,(C.lay rc).w,run_enterLoop_outer fnid a.tmps ps BF bd, ?_,fun _ _=>trivial, ?_,fun h=>by simp[Fence.wide] at h, ?_⟩
 ·show(resolve a.eval (rangeCall g0 (C.w.heap.size+1)) 0).run P (C.lay rc).w=.ok {target:=.fn (.func fi) vs,args:= #[.func (.yield (C.w.heap.size+1)) #[] #[]]} (C.lay rc).w
  have e1:(#[Operand.const (.func (.yield (C.w.heap.size+1)) #[] #[])].map a.eval)= #[.func (.yield (C.w.heap.size+1)) #[] #[]]:=by simp[Act.eval]
  simp only[resolve,rangeCall,hvs,Deferred.ofValue,e1]
  rfl
 ·show(invoke (.fn (.func fi) vs) #[.func (.yield (C.w.heap.size+1)) #[] #[]]).run P (C.lay rc).w=_
  simpa [invoke] using hc (#[.func (.yield (C.w.heap.size+1)) #[] #[]]++vs) (C.lay rc).w
 ·refine callsIn_wide.2 ?_
  have hHL:(C.lay rc).H={H with gl:=[(C.w.heap.size+1,rc)]}:=by simp only[Ctx.lay,hr.heap]
  have hrep:∀t x,lk (cQ 0 (.bS (.yield (C.w.heap.size+1)) []::caps)) t=some x→dR (C.lay rc) x ((#[Value.func (.yield (C.w.heap.size+1)) #[] #[]]++vs).getD t undef):=fun t x hx=>by
   obtain⟨_,h2⟩:=xq _ 0 t x hx
   rw[Nat.sub_zero] at h2
   cases t with
   |zero=>
    simp at h2;subst h2
    have:(#[Value.func (.yield (C.w.heap.size+1)) #[] #[]]++vs).getD 0 undef=.func (.yield (C.w.heap.size+1)) #[] #[]:=by
     rw[Array.getD_eq_getD_getElem?,Array.getElem?_append_left (by simp)];rfl
    rw[this]
    exact .bS _ [] #[] rfl (fun k x h=>by simp at h)
   |succ t=>
    simp at h2
    have hlt:t<vs.size:=by rw[hsz];exact(List.getElem?_eq_some_iff.1 h2).1
    have:(#[Value.func (.yield (C.w.heap.size+1)) #[] #[]]++vs).getD (t+1) undef=vs.getD t undef:=by
     simp only[Array.getD_eq_getD_getElem?]
     rw[Array.getElem?_append_right (by simp)]
     simp
    rw[this]
    exact r1 _ _ (hcap t x h2)
  have hps:=hpass (C.w.heap.size+1) rc
  have hpart:=hps.JK
  rw[←hHL] at hpart
  have hG:(dK.it W0.w p rc frl).G ((C.lay rc).sub {Hs with gl:=[(C.w.heap.size+1,rc)]} {Hin with gl:=[(C.w.heap.size+1,rc)]} g p):=by
   refine⟨rfl,fun t x hx=>⟨hul t x hx, ?_⟩⟩
   have Ld:Rel (.of W0.w) N (lk fr) {Hs with gl:=[(C.w.heap.size+1,rc)]} ((C.lay rc).th {Hs with gl:=[(C.w.heap.size+1,rc)]}) {tmps:=a.tmps,defers:=[]}:=
    ⟨rfl,i1.th hpart,hr.size,rfl,fun t x hx=>(r1 _ _ (hr.rep t x hx)).th hpart⟩
   have hs2:Seen {Hs with gl:=[(C.w.heap.size+1,rc)]} g nw fr frl:=XV hseen
   exact za ((Ny (st:=⟨fr,{Hs with gl:=[(C.w.heap.size+1,rc)]}⟩) g nw hps.inj hps.lt hps.nwf hps.held hs2 (by simp[Cr]) rfl Ld).2.rep t x hx)
  refine(call3 (W0:=W0) (C:=C.lay rc) (hit (C.w.heap.size+1) rc hrec) rfl rfl hps (by simp[hl]) i1 hHL (by simp[hsz];omega) hrep hG).mono ?_
  rintro e w' ⟨v,C2,rfl,rfl,hE,F0,Tl,_⟩
  have YB:C2.w.heap[C.w.heap.size+1]? =some (.loop (gW rc j b)):=F0.gl _ _ (by rw[Tl];simp[lk])
  have hbusy:(gW rc j b).state≠.busy:=by cases b <;> simp[gW,rc]
  -- the record is of no more use
  let C3:Ctx:={C2 with w:=C2.w.putObj (C.w.heap.size+1) (.loop {gW rc j b with state:=.exhausted}),H:={C2.H with gl:=[]}}
  have apD:C.w.heap.size+1<C2.w.heap.size:=(Array.getElem?_eq_some_iff.1 YB).1
  obtain⟨m3,i3,r3⟩:=amv (C':=C3) F0 (b:=C.w.heap.size+1) (.inl ⟨_,by rw[Tl];simp[lk];rfl⟩) (ob:=.loop {gW rc j b with state:=.exhausted}) rfl rfl rfl rfl rfl rfl (fun b h=>by
    rcases h with⟨r',h⟩|h
    ·simp[C3,lk] at h
    ·exact .inr h) (fun l r' h=>by simp[C3,lk] at h) (fun d h=>by
    have h1:=F0.kq d h
    rw[←h1]
    refine World.putObj_heap_other (fun hd=> ?_)
    rw[hd,YB] at h1;cases h1) F0.D_ F0.ET
  have acr:Rel W0 N (lk fr) {H' with gl:=[]} C3 {a with defers:=[{target:=.collected C.w.heap.size,args:= #[]}]++a.defers}:=by
   refine⟨by simp only[C3,Tl],i3,hr.size, ?_,fun t x hx=>r3 _ _ ((r1 _ _ (hr.rep t x hx)).ext hE)⟩
   show _=C2.kq.map _++_
   rw[hE.kq]
   show _=(C.w.heap.size::C.kq).map _++_
   rw[hr.defers];rfl
  have hMM:Mem C C3:=m1.trans (hE.mem.trans m3)
  refine⟨(gW rc j b).pending,C3.w,run_endLoop YB hbusy, ?_⟩
  cases b with
  |true=>exact⟨⟨fr,{H' with gl:=[]}⟩,C3,rfl,hMM,acr,hnext rfl⟩
  |false=>
   have:=(hjump rfl).at hMM acr
   rw[hro,Eb] at this
   exact this

end

def C9(p:Nat):List (Nat×AV)→Prop
 |[]=>True
 |(_,x)::r=>l9 p x∧C9 p r
theorem C9.spec{p:Nat}:∀{l:List (Nat×AV)},C9 p l→∀t x,lk l t=some x→l9 p x
 |[],_,_,_,h=>by cases h
 |(q,u)::l,hl,t,x,h=>by
  simp only[lk] at h
  split at h
  ·rename_i hq;subst hq;cases h;exact hl.1
  ·exact C9.spec hl.2 t x h
theorem l9.B0{p:Nat}{x:AV}(h:b6 x):l9 p x:=by
 have fl:∀(e x:AV),x∈e.flat→b6 e→(∀y∈e.flat,b6 y):=fun e x _ hn y hy=>by
  cases e <;> simp only[AV.flat,List.mem_singleton] at hy
  case agg cs=>simp only[Bi] at hn;exact hn y hy
  case tU=>simp at hy
  all_goals (rw[hy];exact hn)
 have key:∀x:AV,b6 x→l9 p x∧∀y∈x.flat,l9 p y:=by
  intro x h
  induction h with
  |any=>exact⟨.any,fun y hy=>by simp only[AV.flat,List.mem_singleton] at hy;rw[hy];exact .any⟩
  |imm v=>exact⟨.imm v,fun y hy=>by simp only[AV.flat,List.mem_singleton] at hy;rw[hy];exact .imm v⟩
  |tU l=>exact⟨.tU l,fun y hy=>by simp[AV.flat] at hy⟩
  |sl es _ ih=>
   have:l9 p (.sl es):=.sl es (fun e he x hx=>(ih e he).2 x hx)
   exact⟨this,fun y hy=>by simp only[AV.flat,List.mem_singleton] at hy;rw[hy];exact this⟩
  |clip es _ ih=>
   have:l9 p (.clip es):=.clip es (fun e he x hx=>(ih e he).2 x hx)
   exact⟨this,fun y hy=>by simp only[AV.flat,List.mem_singleton] at hy;rw[hy];exact this⟩
  |pp fl j _ ih=>
   have:l9 p (.pp fl j):=.pp fl j (fun e he=>(ih e he).1)
   exact⟨this,fun y hy=>by simp only[AV.flat,List.mem_singleton] at hy;rw[hy];exact this⟩
  |agg cs _ ih=>exact⟨.agg cs (fun e he=>(ih e he).1),fun y hy=>by simp only[AV.flat] at hy;exact(ih y hy).1⟩
  |tuple cs _ ih=>
   have:l9 p (.tuple cs):=.tuple cs (fun e he=>(ih e he).1)
   exact⟨this,fun y hy=>by simp only[AV.flat,List.mem_singleton] at hy;rw[hy];exact this⟩
  |ifc t x _ ih=>
   have:l9 p (.ifc t x):=.ifc t x ih.1
   exact⟨this,fun y hy=>by simp only[AV.flat,List.mem_singleton] at hy;rw[hy];exact this⟩
  |bS fn cs _ ih=>
   have:l9 p (.bS fn cs):=.bS fn cs (fun e he=>(ih e he).1)
   exact⟨this,fun y hy=>by simp only[AV.flat,List.mem_singleton] at hy;rw[hy];exact this⟩
 exact(key x h).1
end Go.Av
end

section
/- Function values, methods behind interfaces, and loops gone through one by one. -/
namespace Go.Av

section
variable {P:Program} {W0:dK} {C:Ctx} {fr:Fr} {a:Act} {H:bg} {o:Oper} {N:Nat}

theorem Enters.bS{f:FuncId}{x:Operand}{args:Array Operand}{tys:Array TypeId}{ys caps:List AV}(ho:o.op=.call {callee:=.value x,args:=args,argTypes:=tys})(hx:bz fr x=some (.bS (.func f) caps))(hys:args.toList.mapM (bz fr)=some ys)(hc:mw P f):Enters P o fr f (ys++caps):=fun C a hop=>by
 have hopy:∀y∈args.toList,yW C fr a y:=fun y hy=>hop y (by rw[ho];simp[Op.operands,Call.operands];exact .inr (by simpa using hy))
 obtain⟨h1,h2⟩:=Dd hopy hys
 have hv:=bN (hop x (by rw[ho];simp[Op.operands,Call.operands])) hx
 obtain⟨vs,hvs,hsz,hcap⟩:∃vs:Array Value,a.eval x=.func (.func f) #[] vs∧vs.size=caps.length∧∀(k:Nat) (x:AV),caps[k]? =some x→dR C x (vs.getD k undef):=by
  generalize a.eval x=u at hv
  match hv with
  |.bS _ _ vs h1 h2=>exact⟨vs,rfl,h1,h2⟩
 refine⟨args.map a.eval++vs,fun w=> ?_,by simp[hsz] at h1 ⊢;omega,fun t z hz=> ?_⟩
 ·have:=hc (args.map a.eval++vs) w
  simp only[execOp,ho,resolve,hvs,Deferred.ofValue]
  simpa [invoke] using this
 ·obtain⟨_,h3⟩:=xq (ys++caps) 0 t z hz
  rw[Nat.sub_zero] at h3
  by_cases ht:t<ys.length
  ·rw[List.getElem?_append_left ht] at h3
   have:(args.map a.eval++vs).getD t undef=(args.map a.eval).getD t undef:=by
    rw[Array.getD_eq_getD_getElem?,Array.getElem?_append_left (by omega),←Array.getD_eq_getD_getElem?]
   rw[this]
   refine h2 t z ?_
   have key:∀(xs:List AV) (q k:Nat) (x:AV),xs[k]? =some x→lk (cQ q xs) (q+k)=some x:=by
    intro xs
    induction xs with
    |nil=>intro q k x h;simp at h
    |cons y ys ih=>
     intro q k x hk
     cases k with
     |zero=>simp at hk;subst hk;simp[cQ,lk]
     |succ k=>
      simp at hk
      simp only[cQ,lk]
      rw[if_neg (by omega)]
      have:=ih (q+1) k x hk
      rwa [show q+1+k=q+(k+1) by omega] at this
   have:=key ys 0 t z h3
   rwa [Nat.zero_add] at this
  ·rw[List.getElem?_append_right (by omega)] at h3
   have:(args.map a.eval++vs).getD t undef=vs.getD (t - ys.length) undef:=by
    rw[Array.getD_eq_getD_getElem?,Array.getElem?_append_right (by omega),h1,←Array.getD_eq_getD_getElem?]
   rw[this]
   exact hcap _ z h3

theorem Enters.iface{f:FuncId}{x:Operand}{name:String}{t:TypeId}{args:Array Operand}{tys:Array TypeId}{z:AV}{ys:List AV}(ho:o.op=.call {callee:=.invoke x name,args:=args,argTypes:=tys})(hx:bz fr x=some (.ifc t z))(hys:args.toList.mapM (bz fr)=some ys)
  (hm:∀v w,(method (P.types.size+Made.depth) t v name).run P w=.ok (f,v) w)(hc:mw P f):Enters P o fr f (z::ys):=fun C a hop=>by
 have hopy:∀y∈args.toList,yW C fr a y:=fun y hy=>hop y (by rw[ho];simp[Op.operands,Call.operands];exact .inr (by simpa using hy))
 obtain⟨h1,h2⟩:=Dd hopy hys
 have hv:=bN (hop x (by rw[ho];simp[Op.operands,Call.operands])) hx
 obtain⟨v,hvs,hrep⟩:∃v:Value,a.eval x=.iface t v∧dR C z v:=by
  generalize a.eval x=u at hv
  match hv with
  |.ifc _ _ v h1=>exact⟨v,rfl,h1⟩
 refine⟨#[v]++args.map a.eval,fun w=> ?_,by simpa [Nat.add_comm] using h1,fun k y hk=> ?_⟩
 ·have h3:=hc (#[v]++args.map a.eval) w
  have h4:=hm v w
  have e1:(#[Value.iface t v]++args.map a.eval)[0]? =some (.iface t v):=by rw[Array.getElem?_append_left (by simp)];rfl
  have e3:(args.map a.eval).extract 0 args.size=args.map a.eval:=by
   have h5:args.size=(args.map a.eval).size:=by simp
   rw[h5,Array.extract_size]
  have e4:(#[Value.iface t v]++args.map a.eval).extract 1 (#[Value.iface t v]++args.map a.eval).size=args.map a.eval:=by
   simp[e3]
  have h5:(invoke (.fn (.method name) #[]) (#[.iface t v]++args.map a.eval)).run P w=.ok (.enter f (#[v]++args.map a.eval)) w:=by
   simp only[invoke,e1,callMethod]
   rw[e4,Sem.run_bind]
   show(Result.andThen (.ok P w) _)=_
   simp only[Result.andThen_ok]
   rw[Sem.run_bind,h4]
   exact h3
  simp only[execOp,ho,resolve,hvs]
  rw[Sem.run_bind]
  exact h5
 ·obtain⟨_,h3⟩:=xq (z::ys) 0 k y hk
  rw[Nat.sub_zero] at h3
  cases k with
  |zero=>
   simp at h3;subst h3
   have:(#[v]++args.map a.eval).getD 0 undef=v:=by
    rw[Array.getD_eq_getD_getElem?,Array.getElem?_append_left (by simp)];rfl
   rw[this];exact hrep
  |succ k=>
   simp at h3
   have:(#[v]++args.map a.eval).getD (k+1) undef=(args.map a.eval).getD k undef:=by
    rw[Array.getD_eq_getD_getElem?,Array.getElem?_append_right (by simp),←Array.getD_eq_getD_getElem?];simp
   rw[this]
   refine h2 k y ?_
   have key:∀(xs:List AV) (q k:Nat) (x:AV),xs[k]? =some x→lk (cQ q xs) (q+k)=some x:=by
    intro xs
    induction xs with
    |nil=>intro q k x h;simp at h
    |cons y ys ih=>
     intro q k x hk
     cases k with
     |zero=>simp at hk;subst hk;simp[cQ,lk]
     |succ k=>
      simp at hk
      simp only[cQ,lk]
      rw[if_neg (by omega)]
      have:=ih (q+1) k x hk
      rwa [show q+1+k=q+(k+1) by omega] at this
   have:=key ys 0 k y h3
   rwa [Nat.zero_add] at this

theorem bU{ok:AV→Prop}{f:FuncId}{ys xs:List AV}{r r':AV}{Hs Hin Hout H':bg}{g m:List (Nat×Nat)}{nw:List Nat}{p:Nat}(he:Enters P o fr f ys)
  (hf:S3 P (.pinned W0.w p) f xs Hin r Hout)(h:Pass ok (cQ 0 ys) (cQ 0 xs) H Hs Hin Hout H' g m nw p r r')(hl:xs.length=ys.length):fV P W0 o fr H r' H':=by
 intro C a hI hH hop K Q hK
 obtain⟨vals,hrun,h1,h2⟩:=he C a hop
 unfold Oper.wp
 rw[hrun,Oper.upon_enter]
 refine(call3 (W0:=W0) hf rfl rfl h hl hI hH h1 h2 trivial).mono ?_
 rintro e w' ⟨v,C',rfl,rfl,h1,h2,h3,h4⟩
 exact hK v C' h1 h2 h3 h4


def Unr(P:Program)(W0:dK)(N:Nat)(c:Code)(Q:Exit→St→Prop):Nat→St→Prop
 |0,_=>False
 |n+1,s=>sN P W0 N c s (It (Unr P W0 N c Q n) Q)

theorem R8{c:Code}{st:St}{Q:Exit→St→Prop}(n:Nat)(h:Unr P W0 N c Q n st):sN P W0 N (.loop c) st Q:=by
 classical
 refine Oc (fun s=>∃m,Unr P W0 N c Q m s) (fun s=>if h:∃m,Unr P W0 N c Q m s then Classical.choose (exists_least _ h) else 0) ⟨n,h⟩ ?_
 intro s hs
 have hm:(if h:∃m,Unr P W0 N c Q m s then Classical.choose (exists_least _ h) else 0)=Classical.choose (exists_least _ hs):=dif_pos hs
 rw[hm]
 have h1:=(Classical.choose_spec (exists_least _ hs)).1
 generalize Classical.choose (exists_least _ hs)=k at h1
 cases k with
 |zero=>exact h1.elim
 |succ k=>
  refine sN.mono h1 fun e s1 h2=> ?_
  cases e with
  |normal=>
   have h3:∃m,Unr P W0 N c Q m s1:=⟨k,h2⟩
   refine⟨s1,aU.refl _,h3, ?_⟩
   rw[dif_pos h3]
   exact Nat.lt_succ_of_le ((Classical.choose_spec (exists_least _ h3)).2 k h2)
  |_=>exact h2
end


section
variable {P:Program} {W0:dK} {fr:Fr} {H:bg} {o:Oper}
theorem N8{x y:Operand}{tys:Array TypeId}{a b:Int}(ho:o.op=.call {callee:=.builtin .min,args:= #[x,y],argTypes:=tys})(hx:bz fr x=some (J a))(hy:bz fr y=some (J b)):fV P W0 o fr H (J (Sh.min a b)) H:=
 .e8 fun C a' _ _ hop=>by
  have e1:=fc (v:=.int .i64 a) rfl (bN (hop x (by simp[ho,Op.operands,Call.operands])) hx)
  have e2:=fc (v:=.int .i64 b) rfl (bN (hop y (by simp[ho,Op.operands,Call.operands])) hy)
  refine⟨.int .i64 (Sh.min a b), ?_,.imm _ rfl⟩
  obtain⟨cs,hb⟩:=vB (P:=P) ho a'
  rw[hb]
  have e:(#[x,y].map a'.eval)= #[.int .i64 a,.int .i64 b]:=by simp[e1,e2]
  rw[e]
  simp[builtin,Builtin.min_,Builtin.min2,Sh.min]
theorem Jn{x y:Operand}{tys:Array TypeId}{a b:Int}(ho:o.op=.call {callee:=.builtin .max,args:= #[x,y],argTypes:=tys})(hx:bz fr x=some (J a))(hy:bz fr y=some (J b)):fV P W0 o fr H (J (Sh.max a b)) H:=
 .e8 fun C a' _ _ hop=>by
  have e1:=fc (v:=.int .i64 a) rfl (bN (hop x (by simp[ho,Op.operands,Call.operands])) hx)
  have e2:=fc (v:=.int .i64 b) rfl (bN (hop y (by simp[ho,Op.operands,Call.operands])) hy)
  refine⟨.int .i64 (Sh.max a b), ?_,.imm _ rfl⟩
  obtain⟨cs,hb⟩:=vB (P:=P) ho a'
  rw[hb]
  have e:(#[x,y].map a'.eval)= #[.int .i64 a,.int .i64 b]:=by simp[e1,e2]
  rw[e]
  simp[builtin,Builtin.max_,Builtin.max2,Sh.max]
end
end Go.Av
namespace Go.Av
section
variable {H:bg} {g:List (Nat×Nat)} {nw:List Nat}
theorem tD.cl{fn:Fn}{cs cs':List AV}(h:Fj H g nw cs cs'):tD H g nw (.bS fn cs) (.bS fn cs'):=.bS fn cs cs' h.spec.1 h.spec.2
theorem tD.ag5{id i j:Nat}{es fl:List AV}{e:AV}(h1:H.get id=some es)(h2:g.all (fun p=>p.2 !=id)=true)(h3:es[i]? =some e)(h4:e.flat=fl)(h5:∀x∈fl,b6 x):tD H g nw (.ref id i j) (.pp fl j):=
 .frz h1 (fun p hp=>by have:=List.all_eq_true.1 h2 p hp;simpa using this) h3 h4 h5
end
end Go.Av
namespace Go.Av
theorem Gf{P:Program}{W0:dK}{N n:Nat}{c:Code}{Q:Exit→St→Prop}{s:St}(h:sN P W0 N c s (It (Unr P W0 N c Q n) Q)):It (Unr P W0 N c Q (n+1)) Q .normal s:=h
end Go.Av
namespace Go.Av
theorem tD.sm{H:bg}{g:List (Nat×Nat)}{nw:List Nat}{x:AV}(h:b6 x:=by simp):tD H g nw x x:=.same x h
theorem qK.sm{ok:AV→Prop}{n:Nat}{x:AV}(h:ok x:=by simp):qK ok n x x:=.same x h
theorem Ren.sm{m:List (Nat×Nat)}{x:AV}(h:b6 x:=by simp):Ren b6 m x x:=.same x h
end Go.Av
namespace Go.Av
theorem dt{p:Prop} [Decidable p] (h:decide p=true:=by rfl):p:=of_decide_eq_true h
theorem aU.e{W0:dK}{N:Nat}{st:St}{fr':List (Nat×AV)}{H':bg}(hfr:Seen st.H [] [] st.fr fr')(h0:H'.dY=[]:=by rfl)(hpo:Cr W0.p [] [] H'.next=true:=by rfl)(hlp:H'.gl=st.H.gl:=by rfl):aU W0 N st ⟨fr',H'⟩:=
 kE [] [] rfl rfl rfl (by rw[h0];trivial) hfr hpo hlp
end Go.Av
theorem Exists.k{H:Go.Av.bg}{g:List (Nat×Nat)}{nw:List Nat}{fr:List (Nat×Go.Av.AV)}{t:Nat}{y:Go.Av.AV}(h:Go.Av.lk fr t=some y:=by rfl)(hn:Go.Av.b6 y:=by simp):∃x,Go.Av.lk fr t=some x∧Go.Av.tD H g nw x y:=⟨y,h,.same y hn⟩
end

section
/- What an operation makes, some of it given up at once. -/
namespace Go.Av
section
variable {P:Program} {W0:dK} {fr:Fr} {H:bg} {o:Oper}
theorem fV.re{r r':AV}{H1 H2:bg}(h:fV P W0 o fr H r H1)(g:List (Nat×Nat))(hs:tD H1 g [] r r')(hH:sH H1 g [] H2.next H2.dY)(hid:g.all (fun p=>p.1==p.2)=true:=by rfl)(hnext:H1.next≤H2.next:=by exact Nat.le_refl _)
  (hinj:g.all (fun p=>g.all (fun q=>p.2 !=q.2||p.1==q.1))=true:=by rfl)(hlt:g.all (fun p=>decide (p.1<H2.next))=true:=by rfl)(hpo:Cr W0.p g [] H2.next=true:=by rfl)(hlp:H2.gl=H1.gl:=by rfl):fV P W0 o fr H r' H2:=by
 intro C a hI hCH hop K Q hK
 refine h C a hI hCH hop K Q (fun v C1 h1 h2 h3 h4=> ?_)
 have hr:Rel W0 1 (lk [(0,r)]) H1 C1 {a with tmps:= #[v],defers:=(C1.kq.map fun d=>{target:=.collected d,args:= #[]})++W0.dx}:=⟨h3,h2,rfl,rfl,fun t x hx=>by
  simp only[lk] at hx
  split at hx
  ·rename_i ht;subst ht;cases hx;exact h4
  ·cases hx⟩
 obtain⟨hM,hR⟩:=Ny (st:=⟨[(0,r)],H1⟩) (fr':=[(0,r')]) (H':=H2) g [] hinj hlt rfl hH ⟨⟨r,rfl,hs⟩,trivial⟩ hpo hlp hr
 refine hK v (C1.re g H2) (h1.trans ?_) hR.inv rfl (hR.rep 0 r' rfl)
 refine⟨hM.below,hM.keep,hM.own,by rw[h3];exact hnext,fun id es' hlt' hg=> ?_,rfl,rfl,rfl⟩
 simp only[Ctx.re,bg.get,Option.map_eq_some_iff] at hg
 obtain⟨⟨s,e⟩,hq,rfl⟩:=hg
 obtain⟨h5,_⟩:=hH.spec hq
 rcases h5 with⟨old,es,q1,q2,_⟩|⟨q,_⟩
 ·have:=List.all_eq_true.1 hid _ (lW q1)
  simp only[beq_iff_eq] at this
  subst this
  refine⟨⟨es, ?_⟩, ?_⟩
  ·rw[h3];simp only[bg.get,q2,Option.map_some]
  ·show(match lk g id with|some old=>C1.pl old|none=>_)=_
   rw[q1]
 ·cases q
theorem afm{α:Type}{t e:TypeId}{s by':Nat}{xo yo zo:Operand}{kb kc:IntKind}{b:Int}(enc:α→AV)(l L:List α)(hL:Sh.sub l 0 b=some L)(hfl:∀x:α,(enc x).flat.length=s)(ho:o.op=.slice t xo none (some yo) (some zo)){ax:AV}(hx:bz fr xo=some ax)(hax:ax=.sl (l.map enc)∨ax=.clip (l.map enc))
  (hy:bz fr yo=some (.imm (.int kb b)))(hz:bz fr zo=some (.imm (.int kc b)))(ht:BR P t=some (e,s,by')):fV P W0 o fr H (.clip (L.map enc)) H:=by
 obtain⟨m,k,h0,rfl,_,h2,rfl⟩:=Sh.Kw hL
 have hm:m=0:=by omega
 subst hm
 have hb:ja fr (some yo) (l.map enc).length=some k:=by simp[ja,hy]
 have hc:ja fr (some zo) (l.map enc).length=some k:=by simp[ja,hz]
 have h1:=Jo (P:=P) (W0:=W0) (o:=o) (fr:=fr) (H:=H) ho hx hax ht (l:=0) rfl rfl rfl hb hc (Nat.zero_le _) (by simpa using h2) (xY hfl l)
 simp only[List.drop_zero,Nat.sub_zero] at h1 ⊢
 rw[List.map_take]
 exact h1
end
end Go.Av
end

section
/- A family of objects, as many as a list is long: the rows of a slice of slices that is the proof's own. -/
namespace Go.Av
section
variable {α:Type}
def Tg(enc:α→AV)(sz:Nat):Nat→List (List α)→List (Nat×(Nat×List AV))
 |_,[]=>[]
 |M,l::L=>(M,(sz,l.map enc))::Tg enc sz (M+1) L
def sO(enc:α→AV):Nat→List (List α)→List AV
 |_,[]=>[]
 |M,l::L=>.view M 0 (l.map enc).length::sO enc (M+1) L
@[simp] theorem Ou(enc:α→AV):∀(L:List (List α)) (M:Nat),(sO enc M L).length=L.length
 |[],_=>rfl
 |_::L,M=>by simp[sO,Ou enc L]
theorem vX(enc:α→AV):∀(L:List (List α)) (M i:Nat),(sO enc M L)[i]? =L[i]?.map fun l=>.view (M+i) 0 (l.map enc).length
 |[],_,i=>by simp[sO]
 |l::L,M,0=>by simp[sO]
 |l::L,M,i+1=>by simp only[sO,List.getElem?_cons_succ,vX enc L];rw[Nat.add_assoc,Nat.add_comm 1 i]
theorem Rb(enc:α→AV)(sz:Nat):∀(L:List (List α)) (M k:Nat),lk (Tg enc sz M L) k=if M≤k then L[k - M]?.map fun l=>(sz,l.map enc) else none
 |[],M,k=>by simp[Tg,lk]
 |l::L,M,k=>by
  simp only[Tg,lk]
  by_cases h:M=k
  ·subst h;simp
  ·rw[if_neg h,Rb enc sz L]
   by_cases h1:M≤k
   ·have h2:M+1≤k:=by omega
    rw[if_pos h1,if_pos h2]
    have:k - M=(k - (M+1))+1:=by omega
    rw[this,List.getElem?_cons_succ]
   ·rw[if_neg h1,if_neg (by omega)]
abbrev xX(F:List (Nat×(Nat×List AV)))(enc:α→AV)(sz M:Nat)(L:List (List α)):bg:=⟨M+L.length,F++Tg enc sz M L,[]⟩
theorem FD{F:List (Nat×(Nat×List AV))}{M:Nat}(hF:F.all (fun p=>decide (p.1<M))=true){k:Nat}{x:Nat×List AV}(h:lk F k=some x):k<M:=by simpa using List.all_eq_true.1 hF _ (lW h)
theorem El{F:List (Nat×(Nat×List AV))}{enc:α→AV}{sz M:Nat}{L:List (List α)}(hF:F.all (fun p=>decide (p.1<M))=true){i:Nat}{l:List α}(h:L[i]? =some l):lk (F++Tg enc sz M L) (M+i)=some (sz,l.map enc):=by
 rw[tG]
 have h0:lk F (M+i)=none:=by
  cases hc:lk F (M+i) with
  |none=>rfl
  |some v=>have:=FD hF hc;omega
 rw[h0,Rb,if_pos (Nat.le_add_right _ _),Nat.add_sub_cancel_left,h];rfl
theorem Jb{F:List (Nat×(Nat×List AV))}{enc:α→AV}{sz M:Nat}{L:List (List α)}{k:Nat}(hk:k<M):lk (F++Tg enc sz M L) k=lk F k:=by
 rw[tG,Rb,if_neg (by omega)]
 cases lk F k <;> rfl

def Af(gr:Nat→Option Nat)(M:Nat):Nat→Nat→List (Nat×Nat)
 |_,0=>[]
 |i,n+1=>match gr i with
  |some o=>(M+i,o)::Af gr M (i+1) n
  |none=>Af gr M (i+1) n
def Hl(gr:Nat→Option Nat)(M:Nat):Nat→Nat→List Nat
 |_,0=>[]
 |i,n+1=>match gr i with
  |some _=>Hl gr M (i+1) n
  |none=>(M+i)::Hl gr M (i+1) n
theorem sA{gr:Nat→Option Nat}{M:Nat}:∀{n i:Nat} {p:Nat×Nat},p∈Af gr M i n↔∃j o,i≤j∧j<i+n∧gr j=some o∧p=(M+j,o)
 |0,i,p=>by simp[Af];intro j h1 h2;omega
 |n+1,i,p=>by
  unfold Af
  cases hg:gr i with
  |none=>
   simp only[sA (n:=n)]
   constructor
   ·rintro⟨j,o,h1,h2,h3⟩;exact⟨j,o,by omega,by omega,h3⟩
   ·rintro⟨j,o,h1,h2,h3,h4⟩
    by_cases h:j=i
    ·subst h;rw[hg] at h3;cases h3
    ·exact⟨j,o,by omega,by omega,h3,h4⟩
  |some o=>
   simp only[List.mem_cons,sA (n:=n)]
   constructor
   ·rintro(h|⟨j,o,h1,h2,h3⟩)
    ·exact⟨i,o,Nat.le_refl _,by omega,hg,h⟩
    ·exact⟨j,o,by omega,by omega,h3⟩
   ·rintro⟨j,o',h1,h2,h3,h4⟩
    by_cases h:j=i
    ·subst h;rw[hg] at h3;cases h3;exact .inl h4
    ·exact .inr ⟨j,o',by omega,by omega,h3,h4⟩
theorem DG{gr:Nat→Option Nat}{M:Nat}:∀{n i k:Nat},k∈Hl gr M i n↔∃j,i≤j∧j<i+n∧gr j=none∧k=M+j
 |0,i,p=>by simp[Hl];intro j h1 h2;omega
 |n+1,i,p=>by
  unfold Hl
  cases hg:gr i with
  |some o=>
   simp only[DG (n:=n)]
   constructor
   ·rintro⟨j,h1,h2,h3⟩;exact⟨j,by omega,by omega,h3⟩
   ·rintro⟨j,h1,h2,h3,h4⟩
    by_cases h:j=i
    ·subst h;rw[hg] at h3;cases h3
    ·exact⟨j,by omega,by omega,h3,h4⟩
  |none=>
   simp only[List.mem_cons,DG (n:=n)]
   constructor
   ·rintro(h|⟨j,h1,h2,h3⟩)
    ·exact⟨i,Nat.le_refl _,by omega,hg,h⟩
    ·exact⟨j,by omega,by omega,h3⟩
   ·rintro⟨j,h1,h2,h3,h4⟩
    by_cases h:j=i
    ·subst h;exact .inl h4
    ·exact .inr ⟨j,by omega,by omega,h3,h4⟩
theorem Ja{gr:Nat→Option Nat}{M:Nat}:∀{n i j:Nat},i≤j→j<i+n→lk (Af gr M i n) (M+j)=gr j
 |0,i,j,h1,h2=>by omega
 |n+1,i,j,h1,h2=>by
  unfold Af
  by_cases h:j=i
  ·subst h
   cases hg:gr j with
   |some o=>simp[lk]
   |none=>
    cases hc:lk (Af gr M (j+1) n) (M+j) with
    |none=>rfl
    |some v=>
     obtain⟨k,o,k1,_,_,k2⟩:=sA.1 (lW hc)
     simp only[Prod.mk.injEq] at k2
     omega
  ·cases hg:gr i with
   |some o=>simp only[lk];rw[if_neg (by omega),Ja (n:=n) (by omega) (by omega)]
   |none=>simp only;rw[Ja (n:=n) (by omega) (by omega)]
theorem sH.append{H:bg}{g:List (Nat×Nat)}{nw:List Nat}{next:Nat}:∀{l m:List (Nat×(Nat×List AV))},sH H g nw next l→sH H g nw next m→sH H g nw next (l++m)
 |[],_,_,h=>h
 |_::_,_,h1,h2=>⟨h1.1,h1.2.1,sH.append h1.2.2 h2⟩
theorem sH.rows{H:bg}{g:List (Nat×Nat)}{nw:List Nat}{next sz:Nat}{enc:α→AV}(hno:∀x,b6 (enc x)):∀(L:List (List α)) (M:Nat),(∀i l,L[i]? =some l→(∃o,lk g (M+i)=some o∧lk H.dY o=some (sz,l.map enc))∨(M+i∈nw∧l=[]))→M+L.length≤next→sH H g nw next (Tg enc sz M L)
 |[],M,_,_=>trivial
 |l::L,M,h,hn=>by
  simp only[List.length_cons] at hn
  refine⟨?_,by omega,sH.rows hno L (M+1) (fun i l' hi=> ?_) (by omega)⟩
  ·rcases h 0 l rfl with⟨o,h1,h2⟩|⟨h1,h2⟩
   ·rw[Nat.add_zero] at h1
    refine .inl ⟨_,_,h1,h2,.same fun e he=> ?_⟩
    obtain⟨x,_,rfl⟩:=List.mem_map.1 he;exact hno x
   ·exact .inr ⟨h1,by rw[h2];rfl⟩
  ·have:=h (i+1) l' (by simpa using hi)
   rwa [show M+(i+1)=M+1+i by omega] at this
theorem Es{H:bg}{g0:List (Nat×Nat)}{gr:Nat→Option Nat}{M:Nat}{enc:α→AV}{L:List (List α)}{es:List AV}(Tn:g0.all (fun p=>decide (p.1<M))=true)(hl:es.length=L.length)
  (h:∀i l,L[i]? =some l→(∃o,gr i=some o∧es[i]? =some (.view o 0 (l.map enc).length))∨(gr i=none∧es[i]? =some aV∧l=[])):A4 H (g0++Af gr M 0 L.length) (Hl gr M 0 L.length) es (sO enc M L):=
 ⟨by simp[hl],fun k e e' h1 h2=>by
  rw[vX] at h2
  simp only[Option.map_eq_some_iff] at h2
  obtain⟨l,h2,rfl⟩:=h2
  have hk:k<L.length:=(List.getElem?_eq_some_iff.1 h2).1
  have hlk:lk (g0++Af gr M 0 L.length) (M+k)=gr k:=by
   rw[tG]
   have:lk g0 (M+k)=none:=by
    cases hc:lk g0 (M+k) with
    |none=>rfl
    |some v=>
     have:=List.all_eq_true.1 Tn _ (lW hc)
     simp only[decide_eq_true_eq] at this
     omega
   rw[this];exact Ja (Nat.zero_le _) (by omega)
  rcases h k l h2 with⟨o,h3,h4⟩|⟨h3,h4,h5⟩
  ·rw[h1] at h4;cases h4
   exact⟨.view (hlk.trans h3),rfl⟩
  ·rw[h1] at h4;cases h4
   subst h5
   exact⟨.nil (DG.2 ⟨k,Nat.zero_le _,by omega,h3,rfl⟩),rfl⟩⟩
theorem aU.rows{W0:dK}{N:Nat}{st:St}{fr':List (Nat×AV)}{F':List (Nat×(Nat×List AV))}(g0:List (Nat×Nat)){M sz:Nat}{enc:α→AV}(L:List (List α))(gr:Nat→Option Nat)(hno:∀x,b6 (enc x))
  (hrow:∀i l,L[i]? =some l→(∃o,gr i=some o∧lk st.H.dY o=some (sz,l.map enc))∨(gr i=none∧l=[]))
  (hinj:∀i j o,i<L.length→j<L.length→gr i=some o→gr j=some o→i=j)
  (hdis:∀i o,i<L.length→gr i=some o→∀p∈g0,p.2≠o)
  (hfront:sH st.H (g0++Af gr M 0 L.length) (Hl gr M 0 L.length) (M+L.length) F')
  (hfr:Seen st.H (g0++Af gr M 0 L.length) (Hl gr M 0 L.length) st.fr fr')
  (Tn:g0.all (fun p=>decide (p.1<M))=true:=by rfl)(Gx:g0.all (fun p=>g0.all (fun q=>p.2 !=q.2||p.1==q.1))=true:=by rfl)(hp:W0.p=0:=by rfl)(hlp:st.H.gl=[]:=by rfl):
  aU W0 N st ⟨fr',⟨M+L.length,F'++Tg enc sz M L,[]⟩⟩:=by
 have M6:∀p∈g0,p.1<M:=fun p hp=>by simpa using List.all_eq_true.1 Tn p hp
 have apE:∀i,lk g0 (M+i)=none:=fun i=>by
  cases hc:lk g0 (M+i) with
  |none=>rfl
  |some v=>have:=M6 _ (lW hc);simp only at this;omega
 have hlk:∀i,i<L.length→lk (g0++Af gr M 0 L.length) (M+i)=gr i:=fun i hi=>by
  rw[tG,apE];exact Ja (Nat.zero_le _) (by omega)
 refine kE (H':=⟨M+L.length,F'++Tg enc sz M L,[]⟩) (g0++Af gr M 0 L.length) (Hl gr M 0 L.length) ?_ ?_ ?_ (sH.append hfront (sH.rows hno L M (fun i l hi=> ?_) (Nat.le_refl _))) hfr ?_ hlp.symm
 ·rw[List.all_eq_true]
  intro p hp'
  rw[List.all_eq_true]
  intro q hq
  simp only[Bool.or_eq_true,bne_iff_ne,ne_eq,beq_iff_eq]
  rcases List.mem_append.1 hp' with h1|h1 <;> rcases List.mem_append.1 hq with h2|h2
  ·simpa using List.all_eq_true.1 (List.all_eq_true.1 Gx p h1) q h2
  ·obtain⟨j,o,_,hj,ho,rfl⟩:=sA.1 h2
   exact .inl (hdis j o (by omega) ho p h1)
  ·obtain⟨j,o,_,hj,ho,rfl⟩:=sA.1 h1
   exact .inl (fun h=>hdis j o (by omega) ho q h2 h.symm)
  ·obtain⟨i,o,_,hi,ho,rfl⟩:=sA.1 h1
   obtain⟨j,o',_,hj,ho',rfl⟩:=sA.1 h2
   by_cases h:o=o'
   ·subst h;exact .inr (by rw[hinj i j o (by omega) (by omega) ho ho'])
   ·exact .inl h
 ·rw[List.all_eq_true]
  intro p hp'
  simp only[decide_eq_true_eq]
  rcases List.mem_append.1 hp' with h1|h1
  ·have:=M6 p h1;omega
  ·obtain⟨j,o,_,hj,_,rfl⟩:=sA.1 h1
   show M+j<M+L.length
   omega
 ·rw[List.all_eq_true]
  intro k hk
  obtain⟨j,_,hj,hn,rfl⟩:=DG.1 hk
  rw[hlk j (by omega),hn]
  simp;omega
 ·have hi':i<L.length:=(List.getElem?_eq_some_iff.1 hi).1
  rcases hrow i l hi with⟨o,h1,h2⟩|⟨h1,h2⟩
  ·exact .inl ⟨o,(hlk i hi').trans h1,h2⟩
  ·exact .inr ⟨DG.2 ⟨i,Nat.zero_le _,by omega,h1,rfl⟩,h2⟩
 ·rw[hp];simp[Cr]

theorem T5{F:List (Nat×(Nat×List AV))}{enc:α→AV}{sz M:Nat}{L:List (List α)}{g:List (Nat×Nat)}{nw:List Nat}(hno:∀x,b6 (enc x))(hF:F.all (fun p=>decide (p.1<M))=true:=by rfl)(hg:g.all (fun p=>decide (p.2<M))=true:=by rfl):
  A4 (xX F enc sz M L) g nw (sO enc M L) (L.map (z8 enc)):=
 ⟨by simp,fun k e e' h1 h2=>by
  rw[vX] at h1
  simp only[Option.map_eq_some_iff] at h1
  obtain⟨l,h1,rfl⟩:=h1
  rw[List.getElem?_map,h1] at h2
  cases h2
  refine⟨.lend (es:=l.map enc) (by simp only[bg.get,El hF h1,Option.map_some]) (fun p hp=> ?_) (by rw[List.drop_zero,List.take_length]) (fun e he=> ?_),rfl⟩
  ·have:=List.all_eq_true.1 hg p hp
   simp only[decide_eq_true_eq] at this
   omega
  ·obtain⟨x,_,rfl⟩:=List.mem_map.1 he;exact hno x⟩
theorem U0{F:List (Nat×(Nat×List AV))}{enc:α→AV}{sz M:Nat}{L:List (List α)}{i:Nat}{l:List α}(h:L[i]? =some l)(hF:F.all (fun p=>decide (p.1<M))=true:=by rfl):(xX F enc sz M L).get (M+i)=some (l.map enc):=by
 simp only[bg.get,El hF h,Option.map_some]
theorem Y5{F:List (Nat×(Nat×List AV))}{enc:α→AV}{sz M:Nat}{L:List (List α)}{i:Nat}{l:List α}(h:L[i]? =some l)(hF:F.all (fun p=>decide (p.1<M))=true:=by rfl):(xX F enc sz M L).sz (M+i)=some sz:=by
 simp only[bg.sz,El hF h,Option.map_some]
theorem Ot{F:List (Nat×(Nat×List AV))}{enc:α→AV}{sz M s k oid:Nat}{L:List (List α)}{es:List AV}(ho:oid<M):lk (((xX F enc sz M L).del (M+k)).push s es).dY oid=lk F oid:=by
 simp only[bg.push,bg.del,E5,JR]
 rw[if_neg (by omega),if_neg (by omega),Jb ho]
theorem L0{F:List (Nat×(Nat×List AV))}{enc:α→AV}{sz M s k oid q:Nat}{L:List (List α)}{es v:List AV}(h:lk F oid=some (q,v))(hF:F.all (fun p=>decide (p.1<M))=true:=by rfl):(((xX F enc sz M L).del (M+k)).push s es).get oid=some v:=by
 simp only[bg.get,Ot (FD hF h),h,Option.map_some]
theorem aU.ac0{W0:dK}{N:Nat}{fr fr':List (Nat×AV)}{F F':List (Nat×(Nat×List AV))}(g0:List (Nat×Nat)){M sz k oid:Nat}{enc:α→AV}{L:List (List α)}{l l':List α}(L2:List (List α))(h2:L2=L.set k l')(hno:∀x,b6 (enc x))(hl:L[k]? =some l)(ho:lk F oid=some (1,sO enc M L))
  (hfront:∀(H:bg) (g:List (Nat×Nat)) (nw:List Nat),(∀n,n<M→lk g n=lk g0 n)→(∀n x,n≠oid→lk F n=some x→lk H.dY n=some x)→
   ∀es,lk H.dY oid=some (1,es)→A4 H g nw es (sO enc M L2)→sH H g nw (M+L2.length) F'∧Seen H g nw fr fr')
  (hF:F.all (fun p=>decide (p.1<M))=true:=by rfl)(Tn:g0.all (fun p=>decide (p.1<M)&&decide (p.2<M))=true:=by rfl)(Gx:g0.all (fun p=>g0.all (fun q=>p.2 !=q.2||p.1==q.1))=true:=by rfl)(hp:W0.p=0:=by rfl):
  aU W0 N ⟨fr,(((xX F enc sz M L).del (M+k)).push sz (l'.map enc)).set oid ((sO enc M L).set k (.view (M+L.length) 0 (l'.map enc).length))⟩ ⟨fr',xX F' enc sz M L2⟩:=by
 subst h2
 have hk:k<L.length:=(List.getElem?_eq_some_iff.1 hl).1
 have hoM:=FD hF ho
 have M6:∀p∈g0,p.1<M∧p.2<M:=fun p hp=>by simpa using List.all_eq_true.1 Tn p hp
 have hg0':g0.all (fun p=>decide (p.1<M))=true:=List.all_eq_true.2 fun p hp=>by simpa using (M6 p hp).1
 have hlk:∀n,lk ((((xX F enc sz M L).del (M+k)).push sz (l'.map enc)).set oid ((sO enc M L).set k (.view (M+L.length) 0 (l'.map enc).length))).dY n=if n=oid then some (1,(sO enc M L).set k (.view (M+L.length) 0 (l'.map enc).length)) else if n=M+L.length then some (sz,l'.map enc) else if n=M+k then none else lk (F++Tg enc sz M L) n:=fun n=>by
  have hs:((((xX F enc sz M L).del (M+k)).push sz (l'.map enc)).sz oid).getD 0=1:=by
   simp only[bg.sz,Ot hoM,ho,Option.map_some,Option.getD_some]
  simp only[bg.set,E5,hs]
  split
  ·rfl
  ·simp only[bg.push,bg.del,E5,JR]
 let gr:Nat→Option Nat:=fun i=>some (if i=k then M+L.length else M+i)
 have hsee:=Es (H:=(((xX F enc sz M L).del (M+k)).push sz (l'.map enc)).set oid ((sO enc M L).set k (.view (M+L.length) 0 (l'.map enc).length))) (g0:=g0) (gr:=gr) (M:=M) (enc:=enc) (L:=L.set k l') (es:=(sO enc M L).set k (.view (M+L.length) 0 (l'.map enc).length)) hg0' (by simp) (fun i l2 hi=>.inl ⟨_,rfl,by
  rw[List.getElem?_set] at hi ⊢
  by_cases hik:k=i
  ·subst hik
   rw[if_pos rfl,if_pos hk] at hi
   cases hi
   simp[hk]
  ·rw[if_neg hik] at hi
   rw[if_neg hik,vX,hi,if_neg (Ne.symm hik)];rfl⟩)
 obtain⟨hf1,hf2⟩:=hfront ((((xX F enc sz M L).del (M+k)).push sz (l'.map enc)).set oid ((sO enc M L).set k (.view (M+L.length) 0 (l'.map enc).length))) (g0++Af gr M 0 (L.set k l').length) (Hl gr M 0 (L.set k l').length) (fun n hn=>by
   rw[tG]
   cases hc:lk g0 n with
   |some v=>rfl
   |none=>
    cases Tm:lk (Af gr M 0 (L.set k l').length) n with
    |none=>rfl
    |some v=>
     obtain⟨j,o,_,_,_,h5⟩:=sA.1 (lW Tm)
     simp only[Prod.mk.injEq] at h5
     omega) (fun n x hn hx=>by
   have:=FD hF hx
   rw[hlk,if_neg hn,if_neg (by omega),if_neg (by omega),Jb this,hx]) _ (by rw[hlk,if_pos rfl]) hsee
 refine aU.rows g0 (L.set k l') gr hno (fun i l2 hi=>.inl ⟨_,rfl, ?_⟩) (fun i j o hi hj h1 h2=> ?_) (fun i o hi h1 p hp'=> ?_) hf1 hf2 hg0' Gx hp rfl
 ·have hi':=(List.getElem?_eq_some_iff.1 hi).1
  rw[List.length_set] at hi'
  rw[List.getElem?_set] at hi
  show lk _ (if i=k then M+L.length else M+i)=_
  rw[hlk]
  by_cases hik:k=i
  ·subst hik
   rw[if_pos rfl,if_pos hk] at hi
   cases hi
   rw[if_pos rfl,if_neg (by omega),if_pos rfl]
  ·rw[if_neg hik] at hi
   rw[if_neg (Ne.symm hik),if_neg (by omega),if_neg (by omega),if_neg (by omega)]
   exact El hF hi
 ·rw[List.length_set] at hi hj
  simp only[gr,Option.some.injEq] at h1 h2
  split at h1 <;> split at h2 <;> omega
 ·rw[List.length_set] at hi
  have:=(M6 p hp').2
  simp only[gr,Option.some.injEq] at h1
  split at h1 <;> omega

theorem aU.ZN{W0:dK}{N:Nat}{fr fr':List (Nat×AV)}{H:bg}{F':List (Nat×(Nat×List AV))}(g0:List (Nat×Nat)){M sz:Nat}{enc:α→AV}{L:List (List α)}(hL:∀l∈L,l=[])(hno:∀x,b6 (enc x))
  (hfront:∀(g:List (Nat×Nat)) (nw:List Nat),(∀n,n<M→lk g n=lk g0 n)→A4 H g nw (L.map fun _=>aV) (sO enc M L)→sH H g nw (M+L.length) F'∧Seen H g nw fr fr')
  (Tn:g0.all (fun p=>decide (p.1<M))=true:=by rfl)(Gx:g0.all (fun p=>g0.all (fun q=>p.2 !=q.2||p.1==q.1))=true:=by rfl)(hp:W0.p=0:=by rfl)(hlp:H.gl=[]:=by rfl):aU W0 N ⟨fr,H⟩ ⟨fr',xX F' enc sz M L⟩:=by
 have e:∀i l,L[i]? =some l→l=[]:=fun i l h=>hL l (List.mem_of_getElem? h)
 obtain⟨hf1,hf2⟩:=hfront (g0++Af (fun _=>none) M 0 L.length) (Hl (fun _=>none) M 0 L.length) (fun n hn=>by
  rw[tG]
  cases hc:lk g0 n with
  |some v=>rfl
  |none=>
   cases Tm:lk (Af (fun _=>none) M 0 L.length) n with
   |none=>rfl
   |some v=>obtain⟨j,o,_,_,h3,_⟩:=sA.1 (lW Tm);cases h3) (Es Tn (by simp) fun i l hi=>.inr ⟨rfl,by simp[hi],e i l hi⟩)
 exact aU.rows g0 L (fun _=>none) hno (fun i l hi=>.inr ⟨rfl,e i l hi⟩) (fun _ _ _ _ _ h=>by cases h) (fun _ _ _ h=>by cases h) hf1 hf2 Tn Gx hp hlp
theorem aU.newRow{W0:dK}{N:Nat}{fr fr':List (Nat×AV)}{F F':List (Nat×(Nat×List AV))}(g0:List (Nat×Nat)){M sz oid:Nat}{enc:α→AV}{L:List (List α)}(L2:List (List α))(h2:L2=L++[[]])(hno:∀x,b6 (enc x))(ho:lk F oid=some (1,sO enc M L))
  (hfront:∀(H:bg) (g:List (Nat×Nat)) (nw:List Nat),(∀n,n<M→lk g n=lk g0 n)→(∀n x,n≠oid→lk F n=some x→lk H.dY n=some x)→
   ∀es,lk H.dY (M+L.length)=some (1,es)→A4 H g nw es (sO enc M L2)→sH H g nw (M+L2.length) F'∧Seen H g nw fr fr')
  (hF:F.all (fun p=>decide (p.1<M))=true:=by rfl)(Tn:g0.all (fun p=>decide (p.1<M))=true:=by rfl)(hg2:∀p∈g0,p.2<M∨p.2=M+L.length:=by simp)(Gx:g0.all (fun p=>g0.all (fun q=>p.2 !=q.2||p.1==q.1))=true:=by simp)(hp:W0.p=0:=by rfl):
  aU W0 N ⟨fr,(((xX F enc sz M L).del oid).push 1 (sO enc M L++[aV]))⟩ ⟨fr',xX F' enc sz M L2⟩:=by
 subst h2
 have hoM:=FD hF ho
 have hlk:∀n,lk ((((xX F enc sz M L).del oid).push 1 (sO enc M L++[aV]))).dY n=if n=M+L.length then some (1,sO enc M L++[aV]) else if n=oid then none else lk (F++Tg enc sz M L) n:=fun n=>by
  simp only[bg.push,bg.del,E5,JR]
 let gr:Nat→Option Nat:=fun i=>if i<L.length then some (M+i) else none
 have hsee:=Es (H:=(((xX F enc sz M L).del oid).push 1 (sO enc M L++[aV]))) (g0:=g0) (gr:=gr) (M:=M) (enc:=enc) (L:=L++[[]]) (es:=sO enc M L++[aV]) Tn (by simp) (fun i l2 hi=>by
  rw[List.getElem?_append] at hi ⊢
  rw[Ou]
  by_cases hik:i<L.length
  ·rw[if_pos hik] at hi ⊢
   rw[vX,hi]
   exact .inl ⟨M+i,if_pos hik,rfl⟩
  ·rw[if_neg hik] at hi ⊢
   have h0:i - L.length=0:=by
    have:=(List.getElem?_eq_some_iff.1 hi).1
    simp at this;omega
   rw[h0] at hi ⊢
   simp at hi
   exact .inr ⟨if_neg hik,rfl,hi⟩)
 obtain⟨hf1,hf2⟩:=hfront (((xX F enc sz M L).del oid).push 1 (sO enc M L++[aV])) (g0++Af gr M 0 (L++[[]]).length) (Hl gr M 0 (L++[[]]).length) (fun n hn=>by
   rw[tG]
   cases hc:lk g0 n with
   |some v=>rfl
   |none=>
    cases Tm:lk (Af gr M 0 (L++[[]]).length) n with
    |none=>rfl
    |some v=>
     obtain⟨j,o,_,_,_,h5⟩:=sA.1 (lW Tm)
     simp only[Prod.mk.injEq] at h5
     omega) (fun n x hn hx=>by
   have:=FD hF hx
   rw[hlk,if_neg (by omega),if_neg hn,Jb this,hx]) _ (by rw[hlk,if_pos rfl]) hsee
 refine aU.rows g0 (L++[[]]) gr hno (fun i l2 hi=> ?_) (fun i j o hi hj h1 h2=> ?_) (fun i o hi h1 p hp'=> ?_) hf1 hf2 Tn Gx hp rfl
 ·rw[List.getElem?_append] at hi
  by_cases hik:i<L.length
  ·rw[if_pos hik] at hi
   refine .inl ⟨M+i,if_pos hik, ?_⟩
   rw[hlk,if_neg (by omega),if_neg (by omega)]
   exact El hF hi
  ·rw[if_neg hik] at hi
   have:=List.mem_of_getElem? hi
   simp at this
   exact .inr ⟨if_neg hik,this⟩
 ·simp only[gr] at h1 h2
  split at h1 <;> split at h2
  ·rw[Option.some.injEq] at h1 h2;omega
  ·cases h2
  ·cases h1
  ·cases h1
 ·simp only[gr] at h1
  split at h1
  ·cases h1
   rcases hg2 p hp' with k|k <;> omega
  ·cases h1
theorem aU.UX{W0:dK}{N:Nat}{fr fr':List (Nat×AV)}{F F':List (Nat×(Nat×List AV))}(g0:List (Nat×Nat)){M sz s:Nat}{enc:α→AV}{L:List (List α)}{es es':List AV}(hno:∀x,b6 (enc x))
  (hfront:∀(H:bg) (g:List (Nat×Nat)) (nw:List Nat),(∀n,n<M→lk g n=lk g0 n)→(∀n x,lk F n=some x→lk H.dY n=some x)→H.get (M+L.length)=some es'→(∀p∈g,p.2≠M+L.length)→A4 H g nw (sO enc M L) (sO enc M L)→sH H g nw (M+L.length) F'∧Seen H g nw fr fr')
  (hF:F.all (fun p=>decide (p.1<M))=true:=by rfl)(Tn:g0.all (fun p=>decide (p.1<M)&&decide (p.2<M))=true:=by rfl)(Gx:g0.all (fun p=>g0.all (fun q=>p.2 !=q.2||p.1==q.1))=true:=by rfl)(hp:W0.p=0:=by rfl):
  aU W0 N ⟨fr,((xX F enc sz M L).push s es).set (M+L.length) es'⟩ ⟨fr',xX F' enc sz M L⟩:=by
 have M6:∀p∈g0,p.1<M∧p.2<M:=fun p hp=>by simpa using List.all_eq_true.1 Tn p hp
 have hg0':g0.all (fun p=>decide (p.1<M))=true:=List.all_eq_true.2 fun p hp=>by simpa using (M6 p hp).1
 have hlk:∀n,n≠M+L.length→lk (((xX F enc sz M L).push s es).set (M+L.length) es').dY n=lk (F++Tg enc sz M L) n:=fun n hn=>by
  simp only[bg.set,bg.push,E5]
  rw[if_neg hn,if_neg hn]
 let gr:Nat→Option Nat:=fun i=>some (M+i)
 obtain⟨hf1,hf2⟩:=hfront (((xX F enc sz M L).push s es).set (M+L.length) es') (g0++Af gr M 0 L.length) (Hl gr M 0 L.length) (fun n hn=>by
   rw[tG]
   cases hc:lk g0 n with
   |some v=>rfl
   |none=>
    cases Tm:lk (Af gr M 0 L.length) n with
    |none=>rfl
    |some v=>
     obtain⟨j,o,_,_,_,h5⟩:=sA.1 (lW Tm)
     simp only[Prod.mk.injEq] at h5
     omega) (fun n x hx=>by
   have:=FD hF hx
   rw[hlk n (by omega),Jb this,hx]) (by rw[bg.Ef,if_pos rfl]) (fun p hp'=>by
   rcases List.mem_append.1 hp' with k|k
   ·have:=(M6 p k).2;omega
   ·obtain⟨j,o,_,hj,ho,rfl⟩:=sA.1 k
    simp only[gr,Option.some.injEq] at ho
    show o≠_
    omega) (Es hg0' (by simp) fun i l hi=>.inl ⟨M+i,rfl,by rw[vX,hi];rfl⟩)
 refine aU.rows g0 L gr hno (fun i l hi=>.inl ⟨M+i,rfl, ?_⟩) (fun i j o _ _ h1 h2=> ?_) (fun i o _ h1 p hp'=> ?_) hf1 hf2 hg0' Gx hp rfl
 ·have:=(List.getElem?_eq_some_iff.1 hi).1
  rw[hlk _ (by omega)]
  exact El hF hi
 ·simp only[gr,Option.some.injEq] at h1 h2;omega
 ·have:=(M6 p hp').2
  simp only[gr,Option.some.injEq] at h1;omega
end

section
variable {P:Program} {W0:dK} {fr:Fr} {H:bg} {o:Oper} {α:Type} {i:Int} {x:List α} {ki:IntKind}
theorem aam{t e:TypeId}{s by':Nat}{xo yo:Operand}{kl kc:IntKind}{nl nc:Int}(enc:α→AV)(L:List (List α))(hL:Sh.mk by' nl nc []=some L)(ho:o.op=.makeSlice t xo yo)(hx:bz fr xo=some (.imm (.int kl nl)))(hy:bz fr yo=some (.imm (.int kc nc)))
  (ht:BR P t=some (e,s,by'))(hz:yV P e=some (.slice none 0 0))(hs:1=s):fV P W0 o fr H (.view H.next 0 (L.map (z8 enc)).length) (H.push s (L.map fun _=>aV)):=by
 subst hs
 obtain⟨m,c,h1,h2,h3,h4,h5,rfl⟩:=Sh.Nj hL
 have:=EZ (P:=P) (W0:=W0) (o:=o) (fr:=fr) (H:=H) ho hx hy h1 h2 h3 ht h4 h5 hz rfl rfl (by decide)
 simp only[List.length_map,List.length_replicate,List.map_replicate]
 exact this
theorem WM{by':Nat}{nl nc:Int}{L:List (List α)}(hL:Sh.mk by' nl nc []=some L):∀l∈L,l=[]:=fun l hl=>by
 obtain⟨m,c,_,_,_,_,_,rfl⟩:=Sh.Nj hL
 exact(List.mem_replicate.1 hl).2
theorem Ip{t e:TypeId}{by' id n:Nat}{xo io:Operand}{k:Nat}(enc:α→AV)(M:Nat)(L:List (List α))(hi:i=k)(hl:L[k]? =some x)(hn:n=(L.map (z8 enc)).length)(ho:o.op=.indexAddr t xo io)(hx:bz fr xo=some (.view id 0 n))(hid:H.get id=some (sO enc M L))(hio:bz fr io=some (.imm (.int ki i)))
  (ht:BR P t=some (e,1,by')):fV P W0 o fr H (.ref id k 0) H:=by
 have hk:k<n:=by rw[hn,List.length_map];exact(List.getElem?_eq_some_iff.1 hl).1
 have:=Da (P:=P) (W0:=W0) (o:=o) (fr:=fr) (H:=H) ho hx hid hio ht hi hk (el:=.view (M+k) 0 (x.map enc).length) (by rw[Nat.zero_add,vX,hl];rfl) rfl
 rwa [Nat.zero_add] at this
theorem RL{t:TypeId}{xo:Operand}{id k:Nat}{g:Bool}(enc:α→AV)(M:Nat)(L:List (List α))(hl:L[k]? =some x)(ho:o.op=.load t xo)(hx:bz fr xo=some (.ref id k 0))(hid:H.get id=some (sO enc M L))(ht:zf P t=some (1,g))(hg:g=false):fV P W0 o fr H (.view (M+k) 0 (x.map enc).length) H:=by
 subst hg
 exact aR ho hx hid (by rw[vX,hl];rfl) ht rfl
theorem P9{t:TypeId}{xo yo:Operand}{id k a b:Nat}{g:Bool}(enc:α→AV)(M:Nat)(L:List (List α))(hl:L[k]? =some x)(ho:o.op=.store t xo yo)(hx:bz fr xo=some (.ref id k 0))(hy:bz fr yo=some (.view a 0 b))(hid:H.get id=some (sO enc M L))(ht:zf P t=some (1,g)):
  fV P W0 o fr H .any (H.set id ((sO enc M L).set k (.view a 0 b))):=
 a_ ho hx hy rfl hid (by rw[vX,hl];rfl) ht rfl (Nat.le_refl _) rfl
theorem Xm{s:Nat}{es:List AV}:(H.push s es).get H.next=some es:=by rw[bg.Dj,if_pos rfl]
end
end Go.Av
end

section
/- Maps of the proof's own. -/
namespace Go.Av
open Go.RowKit (Below)
section
variable {P:Program} {W0:dK} {C:Ctx} {fr:Fr} {a:Act} {H:bg} {o:Oper}

def kvE(e:List Int×Bool):Value×Value:=(.agg (e.1.map fun n=>Value.int .i64 n).toArray,.bool e.2)
def mpE(L:List (List Int×Bool)):AV:=.tU (L.map kvE)
end
end Go.Av
end

section
/- Pointers and slices against nil, slices.Clone, maps whose keys are structs of numbers. -/
namespace Go.Sh
def either{α β γ:Type}(s:α⊕β)(f:α→Option γ)(g:β→Option γ):Option γ:=match s with|.inl a=>f a|.inr b=>g b
end Go.Sh
namespace Go.Av
open Go
section
variable {P:Program} {W0:dK} {fr:Fr} {H:bg} {o:Oper}

theorem N6{t:TypeId}{x:Operand}(ho:o.op=.box t x):fV P W0 o fr H .any H:=
 .DH fun C a hI hH _=>by
  have hb:=De C.w (.cells (a.eval x).cells t)
  refine⟨.pointer (some ⟨C.w.heap.size,0,none⟩),C.zk (C.w.alloc (.cells (a.eval x).cells t)), ?_,gY hb,hI.zk hb,hH,.any _⟩
  simp[execOp,ho,Instr.box,newVar,newRow,newObj]
  rfl

theorem P5{α:Type}{enc:α→AV}{t ty e:TypeId}{s by':Nat}{z:Value}{xo yo:Operand}{ay:AV}(m L:List α)(hL:Sh.app by' [] m=some L)(hT:Mz P t e s by' z)(hfl:∀x:α,(enc x).flat.length=s)(ho:o.op=.call {callee:=.builtin .append,args:= #[xo,yo],argTypes:= #[t,t]})(hty:o.type=ty)
  (hx:bz fr xo=some (.clip []))(hy:bz fr yo=some ay)(hys:ay.elems H=some (m.map enc)):fV P W0 o fr H (.view H.next 0 (L.map enc).length) (H.push s (L.map enc)):=by
 obtain⟨h1,rfl⟩:=Sh.Dc hL
 have:=C_ (P:=P) (W0:=W0) (o:=o) (fr:=fr) (H:=H) hT ho hty hx (.inr rfl) hy hys (xY hfl _) (by simpa using h1)
 simpa using this

def mpC{κ:Type}(ky:κ→List Int)(L:List (κ×Bool)):AV:=mpE (L.map fun e=>(ky e.1,e.2))
@[simp] theorem amg{κ:Type}(ky:κ→List Int)(L:List (κ×Bool)):b6 (mpC ky L):=.tU _
@[simp] theorem ag4{κ:Type}(ky:κ→List Int)(L:List (κ×Bool)):(mpC ky L).flat=[]:=rfl

end

section
variable {P:Program} {W0:dK} {N:Nat} {st:St} {Q:Exit→St→Prop}

theorem S_{id d1 d2:Nat}{t t' e:TypeId}{x:Operand}{es:List AV}{o1 o2:Oper}(h1:o1.op=.move x)(g1:o1.guard=none)(q1:o1.dst=some d1)(h2:o2.op=.binOp .eql t (.tmp d1) (.const (.slice none 0 0)) t')(g2:o2.guard=none)(q2:o2.dst=some d2)
  (l1:d1<N)(l2:d2<N)(hu:P.underlying t=some (.slice e))(hx:bz (lk st.fr) x=some (.sl es))
  (hQ:∀b,(b=true→es=[])→Q .normal ⟨s9 (s9 st.fr (some d1) (.sl es)) (some d2) (bl b),st.H⟩):sN P W0 N (.region id [o1,o2].toArray false) st Q:=by
 intro C a hr
 refine wpIn_region_lit ?_
 unfold wpListIn
 have w1:Region.wanted o1 (yielded [o1,o2].toArray a.tmps)=true:=by simp[Region.wanted,g1]
 rw[w1]
 simp only[if_true]
 refine vk (fun c hc=>by rw[h1] at hc;cases hc) (tX (.inl h1) hx C a hr.inv hr.heap (fun y _ t _ av hav=>hr.rep t av hav) _ _ (fun v C1 he hi hH hv=> ?_))
 rw[q1]
 have Zu:Rel W0 N (Fr.put (lk st.fr) (some d1) (.sl es)) st.H C1 (a.put (some d1) v):=hr.put he hi hH hv (fun d hd=>by cases hd;exact l1)
 unfold wpListIn
 have w2:Region.wanted o2 (yielded [o1,o2].toArray (a.put (some d1) v).tmps)=true:=by simp[Region.wanted,g2]
 rw[w2]
 simp only[if_true]
 have hsl:∃ad n c,v=.slice ad n c∧(ad=none→es=[]):=by
  cases hv with
  |slNil ad c=>exact⟨ad,0,c,rfl,fun _=>rfl⟩
  |sl _ b off sz cap c=>exact⟨_,_,_,rfl,fun h=>by cases h⟩
 obtain⟨ad,n,c,rfl,hnil⟩:=hsl
 have hev:(a.put (some d1) (.slice ad n c)).eval (.tmp d1)=.slice ad n c:=by
  have hlt:d1<a.tmps.size:=by rw[hr.size];exact l1
  simp[Act.eval,Act.put,Array.getD,hlt]
 have hrun:(execOp (a.put (some d1) (.slice ad n c)).eval o2).run P C1.w=.ok (.value (.bool ad.isNone)) C1.w:=by
  have hc:(a.put (some d1) (.slice ad n c)).eval (.const (.slice none 0 0))=.slice none 0 0:=rfl
  simp only[execOp,h2,hev,hc,Sem.run_bind,eqGuard]
  simp only[binOp]
  simp[run_equal_slice_nil (P:=P) C1.w t e ad n c hu]
 refine vk (fun c hc=>by rw[h2] at hc;cases hc) ?_
 unfold Oper.wp
 rw[hrun]
 unfold Oper.upon
 rw[q2]
 unfold wpListIn
 have hr2:Rel W0 N (Fr.put (Fr.put (lk st.fr) (some d1) (.sl es)) (some d2) (bl ad.isNone)) st.H C1 ((a.put (some d1) (.slice ad n c)).put (some d2) (.bool ad.isNone)):=
  Zu.put (.refl C1) Zu.inv Zu.heap (.imm _ rfl) (fun d hd=>by cases hd;exact l2)
 refine⟨_,C1,rfl,he.mem, ?_,hQ ad.isNone (fun h=>hnil (by cases ad <;> simp_all))⟩
 rw[y9,y9]
 exact hr2
end
end Go.Av
end
