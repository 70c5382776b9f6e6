/- What a proof sees of a run, and the rules by which it goes through a text. -/
import Derived.Test.YtleihjegenjacaaGreatBase
import Derived.RangeFuncRecord
import Derived.ScopeJumps
import Derived.Laws.StructEq
import Derived.KernelRfl
import Derived.WideKeyRuns
import Derived.Laws.Pointers
import Derived.Laws.Cover3
set_option linter.unusedSimpArgs false
set_option linter.unusedVariables false
section
/- Loops by their own rounds; functions that hand back what is their own. -/
namespace Go.Av
open Go.RowKit (Below)

section
variable {P:Program} {W0:eo} {N:Nat} {st:St} {Q:Exit→St→Prop}

theorem bG{c:Code}{σ α:Type}(b:σ→Option (σ⊕α))(S:σ→St){s0:σ}{r:α}(h:Sh.loop b s0=some r)(hw:bq W0 N st (S s0))
  (round:∀s o,b s=some o→(∀x,o=.inr x→x=r)→ec P W0 N c (S s) (Gm (fun s1=>∃s',o=.inl s'∧bq W0 N s1 (S s')) Q)):ec P W0 N (.loop c) st Q:=by
 refine QA (σ:=σ×Nat) (fun p=>S p.1) (fun p=>Sh.iter b p.2 p.1=some r) (fun p=>p.2) (s0,Sh.sL) h hw ?_
 rintro⟨s,n⟩ hn
 cases n with
 |zero=>cases hn
 |succ n=>
  simp only[Sh.iter] at hn
  cases hb:b s with
  |none=>simp[hb] at hn
  |some o=>
   rw[hb] at hn
   refine(round s o hb (fun x hx=> ?_)).mono fun e s1 h1=> ?_
   ·subst hx;simpa using hn
   ·cases e with
    |normal=>
     obtain⟨s',rfl,h2⟩:=h1
     exact⟨(s',n),hn,Nat.lt_succ_self n,h2⟩
    |_=>exact h1


inductive oV (ok:AV→Prop) (n:Nat):AV→AV→Prop
 |same (x:AV):ok x→oV ok n x x
 |view (id off len:Nat):oV ok n (.view id off len) (.view (n+id) off len)
 |ref (id i j:Nat):oV ok n (.ref id i j) (.ref (n+id) i j)
 |mref (id:Nat):oV ok n (.mref id) (.mref (n+id))
 |agg (cs cs':List AV):cs.length=cs'.length→(∀(k:Nat) (x x':AV),cs[k]? =some x→cs'[k]? =some x'→oV ok n x x')→oV ok n (.agg cs) (.agg cs')
 |tuple (cs cs':List AV):cs.length=cs'.length→(∀(k:Nat) (x x':AV),cs[k]? =some x→cs'[k]? =some x'→oV ok n x x')→oV ok n (.tuple cs) (.tuple cs')
 |bI (fn:Fn) (cs cs':List AV):cs.length=cs'.length→(∀(k:Nat) (x x':AV),cs[k]? =some x→cs'[k]? =some x'→oV ok n x x')→oV ok n (.bI fn cs) (.bI fn cs')
 |ifc (t:TypeId) (x x':AV):oV ok n x x'→oV ok n (.ifc t x) (.ifc t x')

structure Fx (ok:AV→Prop) (n:Nat) (es es':List AV):Prop where
 len:es.length=es'.length
 see:∀(k:Nat) (e e':AV),es[k]? =some e→es'[k]? =some e'→e.flat.length=e'.flat.length∧∀(j:Nat) (x x':AV),e.flat[j]? =some x→e'.flat[j]? =some x'→oV ok n x x'
 rz:∀l,es'=[.rz l]→es=[.rz l]

def Joined(ok:AV→Prop)(n:Nat):List (Nat×(Nat×List AV))→List (Nat×(Nat×List AV))→Prop
 |[],[]=>True
 |(i,(s,es))::l,(j,(s',es'))::l'=>j=n+i∧s=s'∧Fx ok n es es'∧Joined ok n l l'
 |_,_=>False

theorem Fx.same{ok:AV→Prop}{n:Nat}{es:List AV}(h:∀e∈es,∀x∈e.flat,ok x):Fx ok n es es:=
 ⟨rfl,fun k e e' h1 h2=>by
  rw[h1] at h2;cases h2
  exact⟨rfl,fun j x x' h3 h4=>by rw[h3] at h4;cases h4;exact .same x (h e (List.mem_of_getElem? h1) x (List.mem_of_getElem? h3))⟩,fun _ h=>h⟩

theorem Joined.at{ok:AV→Prop}{n:Nat}:∀{l l':List (Nat×(Nat×List AV))},Joined ok n l l'→∀{k s:Nat} {es':List AV},lk l' k=some (s,es')→∃i es,k=n+i∧lk l i=some (s,es)∧Fx ok n es es'
 |[],[],_,_,_,_,h=>by cases h
 |(i,(s,es))::l,(j,(s',es'))::l',h,k,q,V2,hk=>by
  obtain⟨rfl,rfl,h1,h2⟩:=h
  simp only[lk] at hk
  split at hk
  ·rename_i e;subst e;cases hk
   exact⟨i,es,rfl,by simp[lk],h1⟩
  ·rename_i e
   obtain⟨i',es3,rfl,h3,h4⟩:=Joined.at h2 hk
   refine⟨i',es3,rfl, ?_,h4⟩
   simp only[lk]
   rw[if_neg (by omega)];exact h3
 |[],_::_,h,_,_,_,_=>h.elim
 |_::_,[],h,_,_,_,_=>h.elim

theorem qM{α:Type}(l1 l2:List (Nat×α))(k:Nat):lk (l1++l2) k=match lk l1 k with|some x=>some x|none=>lk l2 k:=by
 induction l1 with
 |nil=>rfl
 |cons p l ih=>
  obtain⟨s,u⟩:=p
  simp only[List.cons_append,lk]
  split <;> simp[*]

structure dX (P:Program) (W0:World) (f:FuncId) (xs:List AV) (r:AV) (Hr:bu):Prop where
 call:lE P f
 runs:∀(C:Ctx) (vals:Array Value),Inv (.of W0) C→C.H=.empty→C.jX=[]→vals.size=xs.length→(∀(k:Nat) (x:AV),xs[k]? =some x→eB C x (vals.getD k undef))→
  Calls P f vals C.w (fun e w'=>∃v C',e=.returned v∧C'.w=w'∧Ext C C'∧Inv (.of W0) C'∧C'.H=Hr∧eB C' r v)

variable {C C1:Ctx}

def Ctx.join(C C1:Ctx)(objs':List (Nat×(Nat×List AV))):Ctx:=
 {w:=C1.w,H:={next:=C.H.next+C1.H.next,eZ:=C.H.eZ++objs',d_:=C.H.d_},pl:=fun k=>if k<C.H.next then C.pl k else C1.pl (k - C.H.next),eC:=C.eC,jX:=C.jX,qU:=C.qU}

theorem OP{ok:AV→Prop}{pr:Nat→Prop}{objs':List (Nat×(Nat×List AV))}(hI:Inv W0 C)(OC:Inv (.of W0.w) C1)(hE:Ext (C.bare pr) C1)(hpr:∀b,C.eC b→pr b)(hJ:Joined ok C.H.next C1.H.eZ objs')
  (hok:∀x v,ok x→eB C1 x v→(∀b,b<C1.w.heap.size→¬C1.bad b→¬(C.join C1 objs').bad b∨∀C':Ctx,eB C' x v)→eB (C.join C1 objs') x v)(hbad:(∀b,C.own b→pr b)∨∀x,ok x→Fu x):
  Ext C (C.join C1 objs')∧Inv W0 (C.join C1 objs')∧∀x x' v,oV ok C.H.next x x'→eB C1 x v→eB (C.join C1 objs') x' v:=by
 have hkeep:∀b,b<C.w.heap.size→C1.w.heap[b]? =C.w.heap[b]? :=fun b hb=>hE.keep b hb (yU _ b)
 have hnew:∀b,C1.own b→C.w.heap.size≤b:=fun b hb=>by
  rcases Nat.lt_or_ge b C.w.heap.size with h|h
  ·exact absurd (hE.own b h hb) (yU _ b)
  ·exact h
 have OJ:C1.eC=pr:=hE.eC
 have hold:∀{k:Nat} {p:Nat×List AV},lk C.H.eZ k=some p→k<C.H.next:=fun{k p} h=>hI.fresh k p.2 (by simp[bu.get,h])
 -- an object of the joined heap
 have getJ:∀{k s:Nat} {es':List AV},lk (C.H.eZ++objs') k=some (s,es')→(lk C.H.eZ k=some (s,es')∧k<C.H.next)∨∃i es,k=C.H.next+i∧lk C1.H.eZ i=some (s,es)∧Fx ok C.H.next es es':=fun{k s es'} h=>by
  rw[qM] at h
  cases hk:lk C.H.eZ k with
  |some p=>rw[hk] at h;simp only[Option.some.injEq] at h;subst h;exact .inl ⟨rfl,hold hk⟩
  |none=>rw[hk] at h;exact .inr (hJ.at h)
 have plO:∀{k:Nat},k<C.H.next→(C.join C1 objs').pl k=C.pl k:=fun{k} h=>by simp[Ctx.join,h]
 have plN:∀i,(C.join C1 objs').pl (C.H.next+i)=C1.pl i:=fun i=>by
  have h1:¬C.H.next+i<C.H.next:=by omega
  have h2:C.H.next+i - C.H.next=i:=by omega
  show(if C.H.next+i<C.H.next then _ else _)=_
  rw[if_neg h1,h2]
 have getG:∀{k:Nat} {es':List AV},(C.join C1 objs').H.get k=some es'→∃s,lk (C.H.eZ++objs') k=some (s,es'):=fun{k es'} h=>by
  simp only[Ctx.join,bu.get,Option.map_eq_some_iff] at h
  obtain⟨⟨s,e⟩,h1,rfl⟩:=h
  exact⟨s,h1⟩
 have ownJ:∀b,(C.join C1 objs').own b→C.own b∨C1.own b:=by
  rintro b (⟨k,es',h1,h2,h3⟩|h)
  ·obtain⟨s,h4⟩:=getG h1
   rcases getJ h4 with⟨h5,h6⟩|⟨i,es,rfl,h5,_⟩
   ·rw[plO h6] at h2 h3;exact .inl (.inl ⟨k,es',by simp[bu.get,h5],h2,h3⟩)
   ·rw[plN] at h2 h3;exact .inr (.inl ⟨i,es,by simp[bu.get,h5],h2,h3⟩)
  ·exact .inl (.inr h)
 have ext:Ext C (C.join C1 objs'):={
  below:=hE.below
  keep:=fun b hb _=>hkeep b hb
  own:=fun b hb h=>by
   rcases ownJ b h with h|h
   ·exact h
   ·have:=hnew b h;omega
  next:=Nat.le_add_right _ _
  id:=fun k es' hk h=>by
   obtain⟨s,h4⟩:=getG h
   rcases getJ h4 with⟨h5,h6⟩|⟨i,es,rfl,_,_⟩
   ·exact⟨⟨es',by simp[bu.get,h5]⟩,plO h6⟩
   ·omega
  eC:=rfl
  jX:=rfl
  qU:=rfl}
 have badJ:∀b,b<C1.w.heap.size→¬C1.bad b→∀(x:AV) (v:Value),ok x→eB C1 x v→¬(C.join C1 objs').bad b∨∀C':Ctx,eB C' x v:=fun b _ hb x v hx hr=>by
  rcases hbad with h|h
  ·left
   rintro(h1|h1)
   ·rcases ownJ b h1 with h2|h2
    ·exact hb (.inr (by rw[OJ];exact h b h2))
    ·exact hb (.inl h2)
   ·exact hb (.inr (by rw[OJ];exact hpr b h1))
  ·right;intro C';exact(h x hx).rep hr
 have repJ:∀x x' v,oV ok C.H.next x x'→eB C1 x v→eB (C.join C1 objs') x' v:=by
  intro x x' v hs
  induction hs generalizing v with
  |same x hx=>intro h;exact hok x v hx h (fun b hb hn=>badJ b hb hn x v hx h)
  |view id off len=>
   intro h
   match h with
   |.view _ _ _ _ h1 h2 h3=>
   refine .view _ _ _ _ (by show C.H.next+id<C.H.next+C1.H.next;omega) (fun es' he=> ?_) h3
   obtain⟨s,h4⟩:=getG he
   rw[plN]
   rcases getJ h4 with⟨h5,h6⟩|⟨i,es,h5,h6,_⟩
   ·omega
   ·have:i=id:=by omega
    subst this;exact h2 es (by simp[bu.get,h6])
  |ref id i j=>
   intro h
   match h with
   |.ref _ _ _ _ h1 h2 h3=>
   refine .ref _ _ _ _ (by show C.H.next+id<C.H.next+C1.H.next;omega) (fun es' he=> ?_) h3
   obtain⟨s,h4⟩:=getG he
   rw[plN]
   rcases getJ h4 with⟨h5,h6⟩|⟨i,es,h5,h6,_⟩
   ·omega
   ·have:i=id:=by omega
    subst this;exact h2 es (by simp[bu.get,h6])
  |mref id=>
   intro h
   match h with
   |.mref _ _ h1 h2 h3=>
   refine .mref _ _ (by show C.H.next+id<C.H.next+C1.H.next;omega) (fun es' he=> ?_) h3
   obtain⟨s,h4⟩:=getG he
   rw[plN]
   rcases getJ h4 with⟨h5,h6⟩|⟨i,es,h5,h6,_⟩
   ·omega
   ·have:i=id:=by omega
    subst this;exact h2 es (by simp[bu.get,h6])
  |agg cs cs' hl _ ih=>
   intro h
   match h with
   |.agg _ vs h1 h2 h3=>
   refine .agg cs' vs (h1.trans hl) h2 (fun k x' hx'=> ?_)
   have hk:k<cs.length:=by rw[hl];exact(List.getElem?_eq_some_iff.1 hx').1
   exact ih k cs[k] x' (List.getElem?_eq_getElem hk) hx' _ (h3 k _ (List.getElem?_eq_getElem hk))
  |tuple cs cs' hl _ ih=>
   intro h
   match h with
   |.tuple _ vs h1 h3=>
   refine .tuple cs' vs (h1.trans hl) (fun k x' hx'=> ?_)
   have hk:k<cs.length:=by rw[hl];exact(List.getElem?_eq_some_iff.1 hx').1
   exact ih k cs[k] x' (List.getElem?_eq_getElem hk) hx' _ (h3 k _ (List.getElem?_eq_getElem hk))
  |bI fn cs cs' hl _ ih=>
   intro h
   match h with
   |.bI _ _ vs h1 h3=>
   refine .bI fn cs' vs (h1.trans hl) (fun k x' hx'=> ?_)
   have hk:k<cs.length:=by rw[hl];exact(List.getElem?_eq_some_iff.1 hx').1
   exact ih k cs[k] x' (List.getElem?_eq_getElem hk) hx' _ (h3 k _ (List.getElem?_eq_getElem hk))
  |ifc t x x' _ ih=>
   intro h
   match h with
   |.ifc _ _ v h1=>exact .ifc t x' v (ih v h1)
 refine⟨ext, ?_,repJ⟩
 have ak6:∀{i s:Nat} {es es':List AV},lk C1.H.eZ i=some (s,es)→Fx ok C.H.next es es'→(C1.pl i).nil=false→wI (C.join C1 objs') (C1.pl i) es':=fun{i s es es'} h hS hn=>by
  have hO:=OC.obj i es (by simp[bu.get,h]) hn
  have back:∀{q:Nat} {e':AV},es'[q]? =some e'→∃e,es[q]? =some e∧e.flat.length=e'.flat.length∧∀(j:Nat) (x x':AV),e.flat[j]? =some x→e'.flat[j]? =some x'→oV ok C.H.next x x':=fun{q e'} hq=>by
   have hk:q<es.length:=by rw[hS.len];exact(List.getElem?_eq_some_iff.1 hq).1
   exact⟨es[q],List.getElem?_eq_getElem hk,hS.see q _ e' (List.getElem?_eq_getElem hk) hq⟩
  refine⟨hO.n.trans hS.len,hO.cap,hO.Oq hS.rz,hO.one,fun q e' he'=> ?_,fun q j e' x' v he' hx' hv=> ?_⟩
  ·obtain⟨e,h1,h2,_⟩:=back he'
   rw[←h2];exact hO.flat q e h1
  ·obtain⟨e,h1,h2,h3⟩:=back he'
   have hj:j<e.flat.length:=by rw[h2];exact(List.getElem?_eq_some_iff.1 hx').1
   exact repJ _ _ _ (h3 j _ x' (List.getElem?_eq_getElem hj) hx') (hO.cell q j e _ v h1 (List.getElem?_eq_getElem hj) hv)
 exact{
  fresh:=fun k es' h=>by
   obtain⟨s,h4⟩:=getG h
   show k<C.H.next+C1.H.next
   rcases getJ h4 with⟨h5,h6⟩|⟨i,es,rfl,h5,_⟩
   ·omega
   ·have:=OC.fresh i es (by simp[bu.get,h5]);omega
  nil:=fun k es' h hn=>by
   obtain⟨s,h4⟩:=getG h
   rcases getJ h4 with⟨h5,h6⟩|⟨i,es,rfl,h5,h6⟩
   ·rw[plO h6] at hn;exact hI.nil k es' (by simp[bu.get,h5]) hn
   ·rw[plN] at hn
    have:=OC.nil i es (by simp[bu.get,h5]) hn
    subst this
    exact List.eq_nil_of_length_eq_zero h6.len.symm
  obj:=fun k es' h hn=>by
   obtain⟨s,h4⟩:=getG h
   rcases getJ h4 with⟨h5,h6⟩|⟨i,es,rfl,h5,h6⟩
   ·rw[plO h6] at hn ⊢
    have hg:C.H.get k=some es':=by simp[bu.get,h5]
    exact(hI.obj k es' hg hn).ext ext (hkeep _ (hI.lt hg hn))
   ·rw[plN] at hn ⊢;exact ak6 h5 h6 hn
  sep:=fun k1 k2 e1 e2 h1 h2 n1 n2 hb=>by
   obtain⟨s1,g1⟩:=getG h1
   obtain⟨s2,g2⟩:=getG h2
   rcases getJ g1 with⟨a1,a2⟩|⟨i1,es1,rfl,a1,_⟩ <;> rcases getJ g2 with⟨b1,b2⟩|⟨i2,V2,rfl,b1,_⟩
   ·rw[plO a2] at n1 hb;rw[plO b2] at n2 hb
    exact hI.sep k1 k2 e1 e2 (by simp[bu.get,a1]) (by simp[bu.get,b1]) n1 n2 hb
   ·rw[plO a2] at n1 hb;rw[plN] at n2 hb
    have h3:=hI.lt (id:=k1) (es:=e1) (by simp[bu.get,a1]) n1
    have h4:=hnew (C1.pl i2).gf (.inl ⟨i2,V2,by simp[bu.get,b1],n2,rfl⟩)
    omega
   ·rw[plN] at n1 hb;rw[plO b2] at n2 hb
    have h3:=hI.lt (id:=k2) (es:=e2) (by simp[bu.get,b1]) n2
    have h4:=hnew (C1.pl i1).gf (.inl ⟨i1,es1,by simp[bu.get,a1],n1,rfl⟩)
    omega
   ·rw[plN] at n1 n2 hb;rw[plN] at hb
    have:=OC.sep i1 i2 es1 V2 (by simp[bu.get,a1]) (by simp[bu.get,b1]) n1 n2 hb
    omega
  eC:=fun k es' h hn=>by
   obtain⟨s,h4⟩:=getG h
   rcases getJ h4 with⟨h5,h6⟩|⟨i,es,rfl,h5,h6⟩
   ·rw[plO h6] at hn ⊢;exact hI.eC k es' (by simp[bu.get,h5]) hn
   ·rw[plN] at hn ⊢
    have:=OC.eC i es (by simp[bu.get,h5]) hn
    rw[OJ] at this
    exact fun hp=>this (hpr _ hp)
  qH:=fun k s h hn=>by
   simp only[Ctx.join,bu.sz,Option.map_eq_some_iff] at h
   obtain⟨⟨s',es'⟩,h1,rfl⟩:=h
   rcases getJ h1 with⟨h5,h6⟩|⟨i,es,rfl,h5,_⟩
   ·rw[plO h6] at hn ⊢;exact hI.qH k _ (by simp[bu.sz,h5]) hn
   ·rw[plN] at hn ⊢;exact OC.qH i _ (by simp[bu.sz,h5]) hn
  f_:=fun b hb=>Nat.lt_of_lt_of_le (hI.f_ b hb) hE.below.size
  gA:=hI.gA
  size:=OC.size
  kK:=fun b hb=>⟨(OC.kK b hb).1,fun ho=>by
   rcases ownJ b ho with h|h
   ·exact(hI.kK b hb).2 h
   ·exact(OC.kK b hb).2 h⟩
  d_:=fun l r h=>by
   have h1:=hI.d_ l r h
   rw[←h1];exact hkeep l (Array.getElem?_eq_some_iff.1 h1).1
  jX:=fun d h=>by
   have h1:=hI.jX d h
   rw[←h1];exact hkeep d (Array.getElem?_eq_some_iff.1 h1).1
  CN:=hI.CN
  Dt:=hI.Dt
  gQ:=hI.gQ
  rX:=hI.rX
  iN:=Nat.le_trans hI.iN (Nat.le_add_right _ _)
  gh:=W0.st C _ ext.mem hI.iN hI.gh}

variable {fr:Fr} {a:Act} {H:bu} {o:Oper}

theorem oV.mono{ok ok':AV→Prop}{n:Nat}{x x':AV}(h:oV ok n x x')(hk:∀x,ok x→ok' x):oV ok' n x x':=by
 induction h with
 |same x hx=>exact .same x (hk x hx)
 |view id off len=>exact .view id off len
 |ref id i j=>exact .ref id i j
 |mref id=>exact .mref id
 |agg cs cs' hl _ ih=>exact .agg cs cs' hl ih
 |tuple cs cs' hl _ ih=>exact .tuple cs cs' hl ih
 |bI fn cs cs' hl _ ih=>exact .bI fn cs cs' hl ih
 |ifc t x x' _ ih=>exact .ifc t x x' ih

theorem Bw{args:Array Operand}{ys:List AV}(hop:∀y∈args.toList,wh C fr a y)(hys:args.toList.mapM (bH fr)=some ys):(args.map a.eval).size=ys.length∧∀t x,lk (dB 0 ys) t=some x→eB C x ((args.map a.eval).getD t undef):=by
 obtain⟨m1,m2⟩:=FI args.toList ys hys
 refine⟨by simpa using m1.symm,fun t x hx=> ?_⟩
 obtain⟨_,h2⟩:=u0 ys 0 t x hx
 rw[Nat.sub_zero] at h2
 obtain⟨y,g1,g2⟩:=m2 t x h2
 have hy:args[t]? =some y:=by simpa using g1
 have hlt:t<(args.map a.eval).size:=by have:=(Array.getElem?_eq_some_iff.1 hy).1;simpa using this
 have e:(args.map a.eval).getD t undef=a.eval y:=by
  have:=om hlt
  rw[Array.getElem?_map,hy] at this
  exact(Option.some.inj this).symm
 rw[e]
 exact bV (hop y (List.mem_of_getElem? g1)) g2

theorem eB.sub{C':Ctx}{x:AV}{v:Value}(h:eB C x v)(hw:C'.w=C.w)(hn:C.H.next≤C'.H.next)(hg:∀id es,id<C.H.next→C'.H.get id=some es→∃wV,C.H.get id=some wV)(hpl:∀id,id<C.H.next→C'.pl id=C.pl id)(hb:∀b,C'.bad b→C.bad b):eB C' x v:=by
 induction h with
 |any v=>exact .any v
 |imm v hv=>exact .imm v hv
 |slNil a cap=>exact .slNil a cap
 |sl es b off sz cap c hlt hbad hc hf hcell _ ih=>exact .sl es b off sz cap c (by rw[hw];exact hlt) (fun h=>hbad (hb b h)) hc hf (fun i j e x he hx=>by rw[hw];exact hcell i j e x he hx) ih
 |clipNil a=>exact .clipNil a
 |clip es b off sz c hlt hbad hf hcell _ ih=>exact .clip es b off sz c (by rw[hw];exact hlt) (fun h=>hbad (hb b h)) hf (fun i j e x he hx=>by rw[hw];exact hcell i j e x he hx) ih
 |view id off len v hid hs h1=>
  refine .view id off len v (by omega) (fun es he=> ?_) h1
  obtain⟨wV,h0⟩:=hg id es hid he
  rw[hpl id hid];exact hs wV h0
 |ref id i j v hid hs h1=>
  refine .ref id i j v (by omega) (fun es he=> ?_) h1
  obtain⟨wV,h0⟩:=hg id es hid he
  rw[hpl id hid];exact hs wV h0
 |mref id v hid hs h1=>
  refine .mref id v (by omega) (fun es he=> ?_) h1
  obtain⟨wV,h0⟩:=hg id es hid he
  rw[hpl id hid];exact hs wV h0
 |pp fl j b off c hlt hbad hcell _ ih=>exact .pp fl j b off c (by rw[hw];exact hlt) (fun h=>hbad (hb b h)) (fun k x hx=>by rw[hw];exact hcell k x hx) ih
 |agg cs vs hs h1 _ ih=>exact .agg cs vs hs h1 ih
 |tuple cs vs hs _ ih=>exact .tuple cs vs hs ih
 |ifc t x v _ ih=>exact .ifc t x v ih
 |bI fn caps vs hs _ ih=>exact .bI fn caps vs hs ih

def Ctx.plain(C:Ctx):Ctx:={C with H:={C.H with d_:=[]},jX:=[],qU:=0}

theorem JX{b:Nat}(h:C.plain.own b):C.own b:=by
 rcases h with⟨id,es,h1,h2,h3⟩|⟨r,h⟩|h
 ·exact .inl ⟨id,es,h1,h2,h3⟩
 ·simp[Ctx.plain,lk] at h
 ·simp[Ctx.plain] at h

theorem eB.plain{x:AV}{v:Value}(h:eB C x v):eB C.plain x v:=
 h.sub rfl (Nat.le_refl _) (fun id es _ h=>⟨es,h⟩) (fun _ _=>rfl) (fun b h=>h.imp JX id)

theorem Inv.plain(hI:Inv W0 C):Inv (.of W0.w) C.plain where
 fresh:=hI.fresh
 nil:=hI.nil
 obj id es h hn:=by
  have hO:=hI.obj id es h hn
  exact⟨hO.n,hO.cap,hO.gf,hO.one,hO.flat,fun i j e x v h1 h2 h3=>(hO.cell i j e x v h1 h2 h3).plain⟩
 sep:=hI.sep
 eC:=hI.eC
 qH:=hI.qH
 f_:=hI.f_
 gA:=hI.gA
 size:=hI.size
 kK b h:=⟨(hI.kK b h).1,fun ho=>(hI.kK b h).2 (JX ho)⟩
 d_ l r h:=by simp[Ctx.plain,lk] at h
 jX d h:=by simp[Ctx.plain] at h
 CN:=.nil
 Dt:=fun _ _=>rfl
 gQ b h:=by
  rcases h with⟨r,h⟩|h
  ·simp[Ctx.plain,lk] at h
  ·simp[Ctx.plain] at h
 rX:=rfl
 iN:=Nat.zero_le _
 gh:=trivial

theorem zi{vals:Array Value}{xs:List AV}{n:Nat}{H:bu}(h:Rel W0 n (lk (dB 0 xs)) H C {tmps:=vals,defers:=[]}):∀(k:Nat) (x:AV),xs[k]? =some x→eB C x (vals.getD k undef):=by
 have key:∀(xs:List AV) (q k:Nat) (x:AV),xs[k]? =some x→lk (dB q xs) (q+k)=some x:=by
  intro xs
  induction xs with
  |nil=>intro q k x h;simp at h
  |cons y ys ih=>
   intro q k x hk
   cases k with
   |zero=>simp at hk;subst hk;simp[dB,lk]
   |succ k=>
    simp at hk
    simp only[dB,lk]
    rw[if_neg (by omega)]
    have:=ih (q+1) k x hk
    rwa [show q+1+k=q+(k+1) by omega] at this
 intro k x hx
 have:=key xs 0 k x hx
 rw[Nat.zero_add] at this
 exact h.rep k x this

theorem ND{vals:Array Value}{ys:List AV}{pr:Nat→Prop}(hsz:vals.size=ys.length)(h:∀t x,lk (dB 0 ys) t=some x→eB C x (vals.getD t undef))(hno:∀y∈ys,b_ y)(OC:Inv (.of W0.w) (C.bare pr))(hp:∀b,¬C.bad b→¬pr b):Rel (.of W0.w) ys.length (lk (dB 0 ys)) .empty (C.bare pr) {tmps:=vals,defers:=[]}:=
 ⟨rfl,OC,hsz,rfl,fun t x hx=>by
  obtain⟨_,h2⟩:=u0 ys 0 t x hx
  exact(h t x hx).bare (hno x (List.mem_of_getElem? h2)) hp⟩
theorem Rq{vals:Array Value}{ys:List AV}(hI:Inv W0 C)(hsz:vals.size=ys.length)(h:∀t x,lk (dB 0 ys) t=some x→eB C x (vals.getD t undef)):Rel (.of W0.w) ys.length (lk (dB 0 ys)) {C.H with d_:=[]} C.plain {tmps:=vals,defers:=[]}:=
 ⟨rfl,hI.plain,hsz,rfl,fun t x hx=>(h t x hx).plain⟩

theorem vg{n:Nat}{f:Fr}{vals:Array Value}(h:Rel W0 n f H C {tmps:=vals,defers:=W0.dx}):C.jX=[]:=by
 have:=congrArg List.length h.defers
 simp only[List.length_append,List.length_map] at this
 exact List.eq_nil_of_length_eq_zero (by omega)

theorem LR{f:FuncId}{args:Array Operand}{tys:Array TypeId}(ho:o.op=.call {callee:=.value (.func f),args:=args,argTypes:=tys})(hop:∀x∈o.op.operands,wh C fr a x):∀y∈args.toList,wh C fr a y:=fun y hy=>
 hop y (by rw[ho];simp[Op.operands,Call.operands];exact .inr (by simpa using hy))

def Enters(P:Program)(o:Oper)(fr:Fr)(f:FuncId)(ys:List AV):Prop:=
 ∀(C:Ctx) (a:Act),(∀x∈o.op.operands,wh C fr a x)→∃vals:Array Value,(∀w,(execOp a.eval o).run P w=.ok (.enter f vals) w)∧vals.size=ys.length∧∀t x,lk (dB 0 ys) t=some x→eB C x (vals.getD t undef)

theorem Enters.func{f:FuncId}{args:Array Operand}{tys:Array TypeId}{ys:List AV}(ho:o.op=.call {callee:=.value (.func f),args:=args,argTypes:=tys})(hys:args.toList.mapM (bH fr)=some ys)(hc:lE P f):Enters P o fr f ys:=fun C a hop=>
 ⟨args.map a.eval,fun w=>um ho hc w,Bw (LR ho hop) hys⟩

theorem JQ(hI:Inv W0 C):Inv (.of W0.w) (C.bare (fun b=>C.eC b∨C.own b)):=hI.bare (fun b hb=>by
  rcases hb with h|h
  ·exact hI.f_ b h
  ·exact hI.Ig h) (fun b hb=>by
  rcases hb with h|h
  ·exact hI.gA b h
  ·exact hI.O4 h)

theorem iQ{f:FuncId}{ys xs:List AV}{r:AV}(he:Enters P o fr f ys)(hw:bq (.of W0.w) ys.length ⟨dB 0 ys,.empty⟩ ⟨dB 0 xs,.empty⟩)(hl:xs.length=ys.length)(hno:∀y∈ys,b_ y)
  (hf:bW P W0.w f xs r):fO P W0 o fr H r H:=by
 intro C a hI hH hop K Q hK
 obtain⟨vals,hrun,Jf⟩:=he C a hop
 unfold Oper.wp
 rw[hrun,Oper.upon_enter]
 have Wg:=ND (pr:=fun b=>C.eC b∨C.own b) Jf.1 Jf.2 hno (JQ hI) (fun b hb h=>hb (h.elim .inr .inl))
 obtain⟨C0,q1,q2,q3⟩:=hw _ _ Wg
 have PT:C0.w=C.w:=q1
 have hsz:vals.size=xs.length:=by rw[hl];exact q3.size
 have:=hf.runs C0 vals q3.inv q3.heap (vg q3) hsz (zi q3)
 rw[PT] at this
 refine this.mono ?_
 rintro e w' ⟨v,C1,rfl,rfl,hE,hI',hr⟩
 have Tw:∀b,¬C0.own b:=EX q3.heap (vg q3)
 have hB':RowKit.Below C.w.heap.size C.w C1.w:=by have:=wm hE Tw;rwa [PT] at this
 have hp1:C1.eC=fun b=>C.eC b∨C.own b:=by rw[hE.eC];exact q2.eC
 refine hK v (C.xB C1.w) (gY hB') (hI.xB hB') hH (hr.move hf.Ad (Nat.le_refl _) (fun b hb hn=>⟨rfl,fun h=>hn ?_⟩))
 refine .inr ?_
 rw[hp1]
 rcases h with h|h
 ·exact .inr h
 ·exact .inl h
theorem oN{f:FuncId}{args:Array Operand}{tys:Array TypeId}{ys xs:List AV}{r:AV}(ho:o.op=.call {callee:=.value (.func f),args:=args,argTypes:=tys})(hys:args.toList.mapM (bH fr)=some ys)(hw:bq (.of W0.w) ys.length ⟨dB 0 ys,.empty⟩ ⟨dB 0 xs,.empty⟩)(hl:xs.length=ys.length)(hno:∀y∈ys,b_ y)
  (hf:bW P W0.w f xs r):fO P W0 o fr H r H:=
 iQ (.func ho hys hf.call) hw hl hno hf

theorem Oi{f:FuncId}{ys xs:List AV}{r:AV}(he:Enters P o fr f ys)(hw:bq (.of W0.w) ys.length ⟨dB 0 ys,{H with d_:=[]}⟩ ⟨dB 0 xs,.empty⟩)(hl:xs.length=ys.length)
  (hf:bW P W0.w f xs r)(hd:Fu r):fO P W0 o fr H r H:=by
 intro C a hI hH hop K Q hK
 subst hH
 obtain⟨vals,hrun,Jf⟩:=he C a hop
 unfold Oper.wp
 rw[hrun,Oper.upon_enter]
 obtain⟨C0,q1,q2,q3⟩:=hw _ _ (Rq hI Jf.1 Jf.2)
 have PT:C0.w=C.w:=q1
 have hsz:vals.size=xs.length:=by rw[hl];exact q3.size
 have:=hf.runs C0 vals q3.inv q3.heap (vg q3) hsz (zi q3)
 rw[PT] at this
 refine this.mono ?_
 rintro e w' ⟨v,C1,rfl,rfl,hE,hI',hr⟩
 have Tw:∀b,¬C0.own b:=EX q3.heap (vg q3)
 have hB':RowKit.Below C.w.heap.size C.w C1.w:=by have:=wm hE Tw;rwa [PT] at this
 exact hK v (C.xB C1.w) (gY hB') (hI.xB hB') rfl (hd.rep hr)
theorem Qv{f:FuncId}{args:Array Operand}{tys:Array TypeId}{ys xs:List AV}{r:AV}(ho:o.op=.call {callee:=.value (.func f),args:=args,argTypes:=tys})(hys:args.toList.mapM (bH fr)=some ys)(hw:bq (.of W0.w) ys.length ⟨dB 0 ys,{H with d_:=[]}⟩ ⟨dB 0 xs,.empty⟩)(hl:xs.length=ys.length)
  (hf:bW P W0.w f xs r)(hd:Fu r):fO P W0 o fr H r H:=
 Oi (.func ho hys hf.call) hw hl hf hd

def yS(ok:AV→Prop)(n:Nat):List AV→List AV→Prop
 |[],[]=>True
 |x::l,y::m=>oV ok n x y∧yS ok n l m
 |_,_=>False

theorem yS.spec{ok:AV→Prop}{n:Nat}:∀{l m:List AV},yS ok n l m→l.length=m.length∧∀(k:Nat) (x x':AV),l[k]? =some x→m[k]? =some x'→oV ok n x x'
 |[],[],_=>⟨rfl,fun k x x' h=>by simp at h⟩
 |x::l,y::m,h=>by
  obtain⟨h1,h2⟩:=yS.spec h.2
  refine⟨by simp[h1],fun k u v hu hv=> ?_⟩
  cases k with
  |zero=>simp at hu hv;subst hu hv;exact h.1
  |succ k=>simp at hu hv;exact h2 k u v hu hv
 |[],_::_,h=>h.elim
 |_::_,[],h=>h.elim
theorem oV.ag{ok:AV→Prop}{n:Nat}{cs cs':List AV}(h:yS ok n cs cs'):oV ok n (.agg cs) (.agg cs'):=.agg cs cs' h.spec.1 h.spec.2
theorem oV.tp{ok:AV→Prop}{n:Nat}{cs cs':List AV}(h:yS ok n cs cs'):oV ok n (.tuple cs) (.tuple cs'):=.tuple cs cs' h.spec.1 h.spec.2

theorem Sp{C0:Ctx}{pr:Nat→Prop}(hw:C0.w=C.w)(hp:C0.eC=pr)(hd0:C0.jX=[])(hp0:C0.qU=0)(Tw:∀b,¬C0.own b)(hE:Ext C0 C1):Ext (C.bare pr) C1 where
 below:=by have:=hE.below;rw[hw] at this;exact this
 keep b hb _:=by have:=hE.keep b (by rw[hw];exact hb) (Tw b);rw[this,hw];rfl
 own b hb h:=absurd (hE.own b (by rw[hw];exact hb) h) (Tw b)
 next:=Nat.zero_le _
 id i es hi _:=absurd hi (Nat.not_lt_zero _)
 eC:=hE.eC.trans hp
 jX:=hE.jX.trans hd0
 qU:=hE.qU.trans hp0

theorem LL{f:FuncId}{ys xs:List AV}{r:AV}{Hr:bu}(r':AV)(objs':List (Nat×(Nat×List AV)))(he:Enters P o fr f ys)(hw:bq (.of W0.w) ys.length ⟨dB 0 ys,.empty⟩ ⟨dB 0 xs,.empty⟩)(hl:xs.length=ys.length)(hno:∀y∈ys,b_ y)
  (hf:dX P W0.w f xs r Hr)(hr:oV b_ H.next r r')(hJ:Joined b_ H.next Hr.eZ objs'):fO P W0 o fr H r' {next:=H.next+Hr.next,eZ:=H.eZ++objs',d_:=H.d_}:=by
 intro C a hI hH hop K Q hK
 subst hH
 obtain⟨vals,hrun,Jf⟩:=he C a hop
 unfold Oper.wp
 rw[hrun,Oper.upon_enter]
 have Wg:=ND (pr:=fun b=>C.eC b∨C.own b) Jf.1 Jf.2 hno (JQ hI) (fun b hb h=>hb (h.elim .inr .inl))
 obtain⟨C0,q1,q2,q3⟩:=hw _ _ Wg
 have PT:C0.w=C.w:=q1
 have hsz:vals.size=xs.length:=by rw[hl];exact q3.size
 have:=hf.runs C0 vals q3.inv q3.heap (vg q3) hsz (zi q3)
 rw[PT] at this
 refine this.mono ?_
 rintro e w' ⟨v,C1,rfl,rfl,hE0,hI',hH1,Wg⟩
 subst hH1
 have Tw:∀b,¬C0.own b:=EX q3.heap (vg q3)
 have hE:=Sp (C:=C) (pr:=fun b=>C.eC b∨C.own b) PT q2.eC (vg q3) q3.inv.rX Tw hE0
 obtain⟨h1,h2,h3⟩:=OP (ok:=b_) (pr:=fun b=>C.eC b∨C.own b) hI hI' hE (fun b h=>.inl h) hJ (fun x v hx hrx hb=>by
  by_cases hd:∃b,b<C1.w.heap.size∧¬C1.bad b∧(C.join C1 objs').bad b
  ·obtain⟨b,q1,q2,q3⟩:=hd
   rcases hb b q1 q2 with h|h
   ·exact absurd q3 h
   ·exact h _
  ·exact hrx.move hx (Nat.le_refl _) (fun b q1 q2=>⟨rfl,fun q3=>hd ⟨b,q1,q2,q3⟩⟩)) (.inl fun b h=>.inr h)
 exact hK v (C.join C1 objs') h1 h2 rfl (h3 r r' v hr Wg)
theorem jH{f:FuncId}{args:Array Operand}{tys:Array TypeId}{ys xs:List AV}{r:AV}{Hr:bu}(r':AV)(objs':List (Nat×(Nat×List AV)))(ho:o.op=.call {callee:=.value (.func f),args:=args,argTypes:=tys})(hys:args.toList.mapM (bH fr)=some ys)(hw:bq (.of W0.w) ys.length ⟨dB 0 ys,.empty⟩ ⟨dB 0 xs,.empty⟩)(hl:xs.length=ys.length)(hno:∀y∈ys,b_ y)
  (hf:dX P W0.w f xs r Hr)(hr:oV b_ H.next r r')(hJ:Joined b_ H.next Hr.eZ objs'):fO P W0 o fr H r' {next:=H.next+Hr.next,eZ:=H.eZ++objs',d_:=H.d_}:=
 LL r' objs' (.func ho hys hf.call) hw hl hno hf hr hJ


theorem K_{W0:eo}{C:Ctx}{q:AV}{v:Value}(hI:Inv W0 C)(hd:C.jX=[])(h:eB C q v):Rel W0 1 (lk [(0,q)]) C.H C {tmps:= #[v],defers:=W0.dx}:=
 ⟨rfl,hI,rfl,by simp[hd],fun t x hx=>by
  simp only[lk] at hx
  split at hx
  ·rename_i ht;subst ht;cases hx;exact h
  ·cases hx⟩

theorem FU{W0:eo}{C:Ctx}{fn:Func}{xs:List AV}{vals:Array Value}{H:bu}{N:Nat}(hI:Inv W0 C)(hH:C.H=H)(hd:C.jX=[])(hN:fn.ntmps=N)(hxN:xs.length≤N)(hsz:vals.size=xs.length)(hrep:∀(k:Nat) (x:AV),xs[k]? =some x→eB C x (vals.getD k undef))(hdx:W0.dx=[]):
  Rel W0 N (lk (dB 0 xs)) H C {tmps:=vals++Array.replicate (fn.ntmps - vals.size) undef,defers:=[]}:=by
 refine⟨hH,hI,by simp[hN];omega,by simp[hd,hdx],fun t x hx=> ?_⟩
 obtain⟨_,h2⟩:=u0 xs 0 t x hx
 have hlt:t<vals.size:=by rw[hsz];exact(List.getElem?_eq_some_iff.1 h2).1
 have:=hrep t x h2
 have e:(vals++Array.replicate (fn.ntmps - vals.size) undef).getD t undef=vals.getD t undef:=by
  rw[Array.getD_eq_getD_getElem?,Array.getElem?_append_left hlt,←Array.getD_eq_getD_getElem?]
 rw[e];exact this

theorem drain{W0:eo}{fn:Func}{tmps:Array Value}{R:Ending→World→Prop}{H:bu}{Q:Ctx→Prop}{u:FrameMode}(hu:u≠.run){ds:List Deferred}(hQ:∀C2,Q C2→C2.jX=[]→LeavesInM Fence.wide 0 P fn tmps R ds u C2.w):
  ∀(l:List Nat) (C:Ctx),C.jX=l→Inv W0 C→C.H=H→(∀C2,C2.H=C.H→C2.pl=C.pl→Mem C C2→Inv W0 C2→C2.jX=[]→(∀x v,eB C x v→eB C2 x v)→Q C2)→
   LeavesInM Fence.wide 0 P fn tmps R ((l.map fun d=>{target:=.collected d,args:= #[]})++ds) u C.w
 |[],C,hl,hI,hH,hq=>hQ C (hq C rfl rfl (.refl C) hI hl (fun _ _ h=>h)) hl
 |d::l,C,hl,hI,hH,hq=>by
  have hd:C.w.heap[d]? =some (.deferred (some [])):=hI.jX d (by rw[hl];exact List.mem_cons_self ..)
  have hdlt:d<C.w.heap.size:=(Array.getElem?_eq_some_iff.1 hd).1
  have hnd:d∉l:=by have:=hI.CN;rw[hl] at this;exact(List.nodup_cons.1 this).1
  refine⟨hu,.inl ⟨d,C.w.putObj d (.deferred none),rfl,run_takeDeferred hd, ?_⟩⟩
  -- the context behind it
  let C1:Ctx:={C with w:=C.w.putObj d (.deferred none),jX:=l}
  have hne:∀b,b≠d→C1.w.heap[b]? =C.w.heap[b]? :=fun b hb=>World.putObj_heap_other hb
  have hcell:∀{b:Nat} {arr:Array Value} {el:TypeId} {fz:Nat×Nat},C.w.heap[b]? =some (.cells arr el fz)→b≠d:=fun{b arr el fz} h hb=>by
   subst hb;rw[hd] at h;cases h
  have hcellD:∀{b:Nat} {o:Obj},C.w.heap[b]? =some o→isD o→b≠d:=fun{b o} h h2 hb=>by
   subst hb;rw[hd] at h;cases h;rcases h2 with⟨_,_,h⟩|⟨_,_,h⟩ <;> cases h
  have hown:∀b,C1.own b→C.own b:=by
   rintro b (⟨id,es,h1,h2,h3⟩|h|h)
   ·exact .inl ⟨id,es,h1,h2,h3⟩
   ·exact .inr (.inl h)
   ·exact .inr (.inr (by rw[hl];exact List.mem_cons_of_mem _ h))
  have hM:Mem C C1:=⟨⟨rfl,rfl,rfl,by simp[C1],fun k hk=>absurd hk (Nat.not_lt_zero k)⟩,fun b _ hb=>hne b (fun h=>hb (.inr (.inr (by rw[h,hl];exact List.mem_cons_self ..)))),fun b _ h=>hown b h,rfl,rfl,fun hp=>⟨hp,fun k es' _ hg=>⟨⟨es',hg⟩,rfl⟩⟩⟩
  have hholds:∀{b o:Nat} {v:Value},Holds C.w b o v→Holds C1.w b o v:=fun{b o v} h=>by
   refine⟨?_,h.2⟩
   have hb:b≠d:=fun hb=>by
    subst hb
    have:=h.1
    simp[World.cell?,hd] at this
   rw[World.cell?_of_block (w:=C.w) (a:=⟨b,o,none⟩) (hne b hb)]
   exact h.1
  have hrep:∀x v,eB C x v→eB C1 x v:=by
   intro x v h
   induction h with
   |any v=>exact .any v
   |imm v hv=>exact .imm v hv
   |slNil a cap=>exact .slNil a cap
   |sl es b off sz cap c hlt hbad hc hf hcell _ ih=>exact .sl es b off sz cap c (by simpa [C1] using hlt) (fun h=>hbad (h.imp (hown b) id)) hc hf (fun i j e x he hx=>hholds (hcell i j e x he hx)) ih
   |clipNil a=>exact .clipNil a
   |clip es b off sz c hlt hbad hf hcell _ ih=>exact .clip es b off sz c (by simpa [C1] using hlt) (fun h=>hbad (h.imp (hown b) id)) hf (fun i j e x he hx=>hholds (hcell i j e x he hx)) ih
   |view id off len v hid hs h1=>exact .view id off len v hid hs h1
   |ref id i j v hid hs h1=>exact .ref id i j v hid hs h1
   |mref id v hid hs h1=>exact .mref id v hid hs h1
   |pp fl j b off c hlt hbad hcell _ ih=>exact .pp fl j b off c (by simpa [C1] using hlt) (fun h=>hbad (h.imp (hown b) id)) (fun k x hx=>hholds (hcell k x hx)) ih
   |agg cs vs hs h1 _ ih=>exact .agg cs vs hs h1 ih
   |tuple cs vs hs _ ih=>exact .tuple cs vs hs ih
   |ifc t x v _ ih=>exact .ifc t x v ih
   |bI fn caps vs hs _ ih=>exact .bI fn caps vs hs ih
  have OC:Inv W0 C1:={
   fresh:=hI.fresh
   nil:=hI.nil
   obj:=fun id es h hn=>by
    have hO:=hI.obj id es h hn
    obtain⟨ob,h1,h2⟩:=hO.dat
    have hb:=hcellD h1 h2
    have hc:∀o,C1.w.cell? ⟨(C.pl id).gf,o,none⟩=C.w.cell? ⟨(C.pl id).gf,o,none⟩:=fun o=>World.cell?_of_block (w:=C.w) (a:=⟨_,o,none⟩) (hne _ hb)
    exact⟨hO.n,hO.cap,by rw[hne _ hb];exact hO.gf,fun o v hv=>hO.one o v (by rw[←hc o];exact hv),hO.flat,fun i j e x v h1 h2 h3=>hrep _ _ (hO.cell i j e x v h1 h2 (by rw[←hc];exact h3))⟩
   sep:=hI.sep
   eC:=hI.eC
   qH:=hI.qH
   f_:=fun b h=>by simpa [C1] using hI.f_ b h
   gA:=hI.gA
   size:=by simpa [C1] using hI.size
   kK:=fun b h=>⟨by
    rw[←(hI.kK b h).1]
    exact hne b (fun hb=>(hI.kK b h).2 (.inr (.inr (by rw[hb,hl];exact List.mem_cons_self ..)))),fun ho=>(hI.kK b h).2 (hown b ho)⟩
   d_:=fun q r h=>by
    rw[←hI.d_ q r h]
    refine hne q (fun hq=> ?_)
    have:=hI.d_ q r h
    rw[hq,hd] at this;cases this
   jX:=fun q h=>by
    rw[←hI.jX q (by rw[hl];exact List.mem_cons_of_mem _ h)]
    exact hne q (fun hq=>hnd (hq▸h))
   CN:=by have:=hI.CN;rw[hl] at this;exact(List.nodup_cons.1 this).2
   Dt:=fun q h=>by have:=hI.Dt q h;rw[hl] at this;cases this
   gQ:=fun b h=>hI.gQ b (by
    rcases h with h|h
    ·exact .inl h
    ·exact .inr (by rw[hl];exact List.mem_cons_of_mem _ h))
   rX:=hI.rX
   iN:=hI.iN
   gh:=W0.st C C1 hM hI.iN hI.gh}
  exact drain hu hQ l C1 rfl OC hH (fun C2 h1 h2 h3 h4 h5 h6=>hq C2 h1 h2 (hM.trans h3) h4 h5 (fun x v h=>h6 x v (hrep x v h)))

theorem Ex{W0:eo}{N:Nat}{f:FuncId}{fn:Func}{c:Code}{xs:List AV}{r:AV}{Hin Hr:bu}(hf:P.funcs[f]? =some fn)(hb:fn.body=some c)(hN:fn.ntmps=N)(hxN:xs.length≤N)(hro:W0.ro=none)
  (h:ec P W0 N c ⟨dB 0 xs,Hin⟩ (fun e s=>(e=.normal∨e=.ret)∧∃q,NF P fn.results.toList s=some q∧bq W0 1 ⟨[(0,q)],s.H⟩ ⟨[(0,r)],Hr⟩))
  (C:Ctx)(vals:Array Value)(hI:Inv W0 C)(hH:C.H=Hin)(hd:C.jX=[])(hsz:vals.size=xs.length)(hrep:∀(k:Nat) (x:AV),xs[k]? =some x→eB C x (vals.getD k undef))(hdx:W0.dx=[]:=by rfl):
  Calls P f vals C.w (fun e w'=>∃v C',e=.returned v∧C'.w=w'∧Mem C C'∧Inv W0 C'∧C'.H=Hr∧C'.jX=[]∧eB C' r v):=by
 refine(callsIn_wide (n:=0)).1 (callsIn_of_wp_marks hf hb trivial ?_)
 have hrel:=FU (W0:=W0) hI hH hd hN hxN hsz hrep hdx
 have key:=h C _ hrel
 rw[hro,EF] at key
 refine wpIn_mono key fun e a' w' ⟨s,C',g1,g2,g3,g4,q,g5,g6⟩=> ?_
 subst g1
 have main:LeavesInM Fence.wide 0 P fn a'.tmps (fun e w'=>∃v C',e=.returned v∧C'.w=w'∧Mem C C'∧Inv W0 C'∧C'.H=Hr∧C'.jX=[]∧eB C' r v) a'.defers .returning C'.w:=by
  rw[g3.defers,hdx]
  refine drain (W0:=W0) (u:=.returning) (by simp) (ds:=[]) (Q:=fun C2=>Rel W0 N (lk s.fr) s.H C2 {tmps:=a'.tmps,defers:=[]}∧Mem C C2) (fun C2 hq EO=> ?_) C'.jX C' rfl g3.inv g3.heap (fun C2 h1 h2 h3 h4 h5 h6=>⟨⟨h1.trans g3.heap,h4,g3.size,by simp[h5,hdx],fun t x hx=>h6 x _ (g3.rep t x hx)⟩,g2.trans h3⟩)
  obtain⟨hq,hm⟩:=hq
  obtain⟨v,g7,g8⟩:=Gh hq g5
  have g9:=K_ hq.inv EO g8
  rw[hq.heap] at g9
  obtain⟨C3,q1,q2,q3⟩:=g6 C2 _ g9
  exact⟨v,g7,v,C3,rfl,q1,hm.trans q2,q3.inv,q3.heap,vg q3,q3.rep 0 r rfl⟩
 rcases g4 with rfl|rfl
 ·exact main
 ·exact main

theorem aU{W0:World}{N:Nat}{f:FuncId}{fn:Func}{c:Code}{xs:List AV}{r:AV}{Hr:bu}(hf:P.funcs[f]? =some fn)(hb:fn.body=some c)(hname:(fn.name== "runtime.NumGoroutine")=false)(hN:fn.ntmps=N)(hxN:xs.length≤N)
  (h:ec P (.of W0) N c ⟨dB 0 xs,.empty⟩ (fun e s=>(e=.normal∨e=.ret)∧∃q,NF P fn.results.toList s=some q∧bq (.of W0) 1 ⟨[(0,q)],s.H⟩ ⟨[(0,r)],Hr⟩)):dX P W0 f xs r Hr where
 call:=nj hf hname hb
 runs C vals hI hH hd hsz hrep:=(Ex hf hb hN hxN rfl h C vals hI hH hd hsz hrep).mono fun e w' ⟨v,C',h1,h2,h3,h4,h5,h6,h7⟩=>
  ⟨v,C',h1,h2,⟨h3.below,h3.keep,h3.own,by rw[hH];exact Nat.zero_le _,fun id es hi _=>by rw[hH] at hi;exact absurd hi (Nat.not_lt_zero _),h3.eC,h6.trans hd.symm,h3.qU⟩,h4,h5,h7⟩

theorem dX.yu{W0:World}{f:FuncId}{xs:List AV}{r r':AV}{Hr:bu}(h:dX P W0 f xs r Hr)(hw:bq (.of W0) 1 ⟨[(0,r)],Hr⟩ ⟨[(0,r')],.empty⟩)(hn:b_ r'):bW P W0 f xs r' where
 call:=h.call
 Ad:=hn
 runs C vals hI hH hd hsz hrep:=(h.runs C vals hI hH hd hsz hrep).mono fun e w' ⟨v,C',h1,h2,h3,h4,h5,h6⟩=>by
  have g:=K_ h4 (h3.jX.trans hd) h6
  rw[h5] at g
  obtain⟨C2,q1,q2,q3⟩:=hw C' _ g
  refine⟨v,C2,h1,q1.trans h2, ?_,q3.inv,q3.rep 0 r' rfl⟩
  have hm:=h3.mem.trans q2
  refine⟨hm.below,hm.keep,hm.own,by rw[hH];exact Nat.zero_le _,fun id es hi _=> ?_,hm.eC,(vg q3).trans hd.symm,hm.qU⟩
  rw[hH] at hi;exact absurd hi (Nat.not_lt_zero _)

theorem bW.two{W0:World}{f:FuncId}{xs:List AV}{r:AV}(h:dX P W0 f xs r .empty)(hn:b_ r):bW P W0 f xs r:=h.yu (bq.refl _) hn
end
end Go.Av
end

section
/- Sets of numbers as bits: plain facts on 64 bits. -/
namespace Bv

theorem tb(k a b i:Nat)(hb:b<2 ^ k):(2 ^ k*a+b).testBit i=if i<k then b.testBit i else a.testBit (i - k):=Nat.testBit_two_pow_mul_add a hb i

def list(s:BitVec 64):List Nat:=(List.range 64).filter fun i=>s.getLsbD i

def has(s:BitVec 64)(i:Int):Bool:=decide (0≤i)&&decide (i<64)&&s.getLsbD i.toNat
def bit(i:Int):BitVec 64:=if 0≤i∧i<64 then 1#64<<<i.toNat else 0#64
def least(s:BitVec 64):Int:=match list s with|[]=> -1|i::_=>i
theorem ext{s t:BitVec 64}(h:∀i,i<64→s.getLsbD i=t.getLsbD i):s=t:=BitVec.eq_of_getLsbD_eq (fun i hi=>h i hi)

def tab:List Nat:=[0,1,56,2,57,49,28,3,61,58,42,50,38,29,17,4,62,47,59,36,45,43,51,22,53,39,33,30,24,18,12,5,63,55,48,27,60,41,37,16,46,35,44,21,52,32,23,11,54,26,40,15,34,20,31,10,25,14,19,9,13,8,7,6]
end Bv
end

section
/- The table of math/bits, as numbers. -/
namespace Go.Sh
end Go.Sh
end

section
/- The rules once more, over lists of plain data. -/
namespace Go.Av
abbrev gJ(n:Int):Int:=IntKind.i64.wrap n
abbrev kA(k:IntKind)(n:Int):AV:=.imm (.int k n)
abbrev YH{α:Type}(enc:α→AV)(l:List α):AV:=.agg (l.map enc)
abbrev xh{α:Type}(enc:α→AV)(l:List α):AV:=.sl (l.map enc)

section
variable {P:Program} {W0:eo} {fr:Fr} {H:bu} {o:Oper} {α:Type} {enc:α→AV} {l:List α} {i:Int} {x:α} {ki:IntKind}

theorem getM{k:Nat}(h:l[k]? =some x):(l.map enc)[k]? =some (enc x):=by simp[h]

theorem aR{t e:TypeId}{s by':Nat}{xo io:Operand}{k:Nat}(enc:α→AV)(l:List α)(hi:i=k)(hl:l[k]? =some x)(ho:o.op=.indexAddr t xo io)(hx:bH fr xo=some (.sl (l.map enc)))(hio:bH fr io=some (.imm (.int ki i)))
  (ht:AT P t=some (e,s,by'))(hs:(enc x).flat.length=s):fO P W0 o fr H (.pp (enc x).flat 0) H:=
 tT ho hx (.inl rfl) hio ht hi (getM hl) hs
theorem ef{t e:TypeId}{s by' id n:Nat}{xo io:Operand}{k:Nat}(enc:α→AV)(l:List α)(hi:i=k)(hl:l[k]? =some x)(hn:n=(l.map enc).length)(ho:o.op=.indexAddr t xo io)(hx:bH fr xo=some (.view id 0 n))(hid:H.get id=some (l.map enc))(hio:bH fr io=some (.imm (.int ki i)))
  (ht:AT P t=some (e,s,by'))(hs:(enc x).flat.length=s):fO P W0 o fr H (.ref id k 0) H:=by
 subst hn
 have hk:k<(l.map enc).length:=by have:=(List.getElem?_eq_some_iff.1 hl).1;simpa using this
 have:=Bt (P:=P) (W0:=W0) (o:=o) (fr:=fr) (H:=H) ho hx hid hio ht hi hk (el:=enc x) (by rw[Nat.zero_add];exact getM hl) hs
 rwa [Nat.zero_add] at this
theorem qO{t:TypeId}{xo:Operand}{id k j n:Nat}{g:Bool}{r:AV}(enc:α→AV)(l:List α)(hl:l[k]? =some x)(ho:o.op=.load t xo)(hx:bH fr xo=some (.ref id k j))(hid:H.get id=some (l.map enc))
  (ht:xx P t=some (n,g))(hr:vB (enc x).flat j n g=some r):fO P W0 o fr H r H:=aJ ho hx hid (getM hl) ht hr
theorem od{t:TypeId}{xo yo:Operand}{id k j n:Nat}{g:Bool}{ay:AV}(enc:α→AV)(l:List α)(x':α)(hi:i=k)(hl:l[k]? =some x)(ho:o.op=.store t xo yo)(hx:bH fr xo=some (.ref id k j))(hy:bH fr yo=some ay)(hsol:ay.eY=true)
  (hid:H.get id=some (l.map enc))(ht:xx P t=some (n,g))(hn:ay.flat.length=n)(hj:j+n≤(enc x).flat.length)(he':(enc x').flat=(enc x).flat.take j++ay.flat++(enc x).flat.drop (j+n))(Tw:0<n:=by decide):
  fO P W0 o fr H .any (H.set id ((Sh.set l i x').map enc)):=by
 have:=aY (P:=P) (W0:=W0) (o:=o) (fr:=fr) (H:=H) ho hx hy hsol hid (getM hl) ht hn hj he' Tw
 have e:(Sh.set l i x').map enc=(l.map enc).set k (enc x'):=by subst hi;simp[Sh.set,List.map_set]
 rw[e];exact this

theorem bg{t e:TypeId}{s by':Nat}{xo:Operand}(enc:α→AV)(l:List α)(ho:o.op=.call {callee:=.builtin .len,args:= #[xo],argTypes:= #[t]})(hx:bH fr xo=some (.sl (l.map enc)))(ht:AT P t=some (e,s,by')):fO P W0 o fr H (J (Sh.len l)) H:=
 (Kj ho hx rfl ht).conv (by simp[Sh.len])
theorem Eh{t e:TypeId}{s by' id off n:Nat}{es:List AV}{xo:Operand}(enc:α→AV)(l:List α)(hn:n=(l.map enc).length)(ho:o.op=.call {callee:=.builtin .len,args:= #[xo],argTypes:= #[t]})(hx:bH fr xo=some (.view id off n))(hid:H.get id=some es)(ht:AT P t=some (e,s,by')):fO P W0 o fr H (J (Sh.len l)) H:=by
 subst hn
 exact(Kk ho hx hid ht).conv (by simp[Sh.len])

theorem vv{s:Nat}(h:∀x:α,(enc x).flat.length=s)(l:List α):∀y∈l.map enc,y.flat.length=s:=fun y hy=>by
 obtain⟨x,_,rfl⟩:=List.mem_map.1 hy;exact h x
theorem FX{t ty e:TypeId}{s by':Nat}{z:Value}{xo yo:Operand}{ay:AV}(enc:α→AV)(m L:List α)(hL:Sh.app by' [] m=some L)(hT:Kf P t e s by' z)(hfl:∀x:α,(enc x).flat.length=s)(ho:o.op=.call {callee:=.builtin .append,args:= #[xo,yo],argTypes:= #[t,t]})(hty:o.type=ty)
  (hx:bH fr xo=some aN)(hy:bH fr yo=some ay)(hys:ay.elems H=some (m.map enc)):fO P W0 o fr H (.view H.next 0 (L.map enc).length) (H.push s (L.map enc)):=by
 obtain⟨h1,rfl⟩:=Sh.Bu hL
 have:=Br (P:=P) (W0:=W0) (o:=o) (fr:=fr) (H:=H) hT ho hty hx (.inl rfl) hy hys (vv hfl _) (by simpa using h1)
 simpa using this
theorem IL{t ty e:TypeId}{s by':Nat}{z:Value}{xo yo:Operand}{ay:AV}(enc:α→AV)(l m L:List α)(hL:Sh.app by' l m=some L)(hne:m≠[])(hT:Kf P t e s by' z)(hfl:∀x:α,(enc x).flat.length=s)(ho:o.op=.call {callee:=.builtin .append,args:= #[xo,yo],argTypes:= #[t,t]})(hty:o.type=ty)
  (hx:bH fr xo=some (.clip (l.map enc)))(hy:bH fr yo=some ay)(hys:ay.elems H=some (m.map enc)):fO P W0 o fr H (.view H.next 0 (L.map enc).length) (H.push s (L.map enc)):=by
 obtain⟨h1,rfl⟩:=Sh.Bu hL
 have:=Gn (P:=P) (W0:=W0) (o:=o) (fr:=fr) (H:=H) hT ho hty hx hy hys (by simpa using hne) (vv hfl l) (vv hfl m) (by simpa using h1)
 simpa using this
theorem cm{t ty e:TypeId}{s by' id n:Nat}{z:Value}{xo yo:Operand}{ay:AV}(enc:α→AV)(l m L:List α)(hL:Sh.app by' l m=some L)(hn:n=(l.map enc).length)(hT:Kf P t e s by' z)(hfl:∀x:α,(enc x).flat.length=s)(ho:o.op=.call {callee:=.builtin .append,args:= #[xo,yo],argTypes:= #[t,t]})(hty:o.type=ty)
  (hx:bH fr xo=some (.view id 0 n))(hid:H.get id=some (l.map enc))(hs:H.sz id=some s)(hy:bH fr yo=some ay)(hys:ay.elems H=some (m.map enc)):fO P W0 o fr H (.view H.next 0 (L.map enc).length) ((H.del id).push s (L.map enc)):=by
 subst hn
 obtain⟨h1,rfl⟩:=Sh.Bu hL
 have:=Gp (P:=P) (W0:=W0) (o:=o) (fr:=fr) (H:=H) hT ho hty hx hid hs hy hys (vv hfl l) (vv hfl m) (by simpa using h1)
 simpa using this
theorem aaC{t e:TypeId}{s by':Nat}{xo yo:Operand}{kl kc:IntKind}{nl nc:Int}{z:Value}(enc:α→AV)(zx:α)(L:List α)(hL:Sh.mk by' nl nc zx=some L)(ho:o.op=.makeSlice t xo yo)(hx:bH fr xo=some (.imm (.int kl nl)))(hy:bH fr yo=some (.imm (.int kc nc)))
  (ht:AT P t=some (e,s,by'))(hz:xJ P e=some z)(hk:z.ZX=true)(hs:(AV.Lw z).flat.length=s)(hzx:enc zx=AV.Lw z)(Ob:s≠0:=by decide):fO P W0 o fr H (.view H.next 0 (L.map enc).length) (H.push s (L.map enc)):=by
 obtain⟨m,c,h1,h2,h3,h4,h5,rfl⟩:=Sh.KN hL
 have:=DA (P:=P) (W0:=W0) (o:=o) (fr:=fr) (H:=H) ho hx hy h1 h2 h3 ht h4 h5 hz hk hs Ob
 simpa [hzx] using this

theorem U_{t e:TypeId}{s by':Nat}{xo:Operand}{lo hi:Option Operand}{ax:AV}{a b:Int}(enc:α→AV)(l L:List α)(hL:Sh.sub l a b=some L)(hfl:∀x:α,(enc x).flat.length=s)(ho:o.op=.slice t xo lo hi none)(hx:bH fr xo=some ax)(hax:ax=.sl (l.map enc)∨ax=.clip (l.map enc))
  (hlo:(lo=none∧a=0)∨∃y k,lo=some y∧bH fr y=some (.imm (.int k a)))(hhi:(hi=none∧b=Sh.len l)∨∃y k,hi=some y∧bH fr y=some (.imm (.int k b)))(ht:AT P t=some (e,s,by')):fO P W0 o fr H (.sl (L.map enc)) H:=by
 obtain⟨m,k,rfl,rfl,h1,h2,rfl⟩:=Sh.IJ hL
 have g1:∀d,(hlo':(lo=none∧((m:Int))=0)∨∃y k,lo=some y∧bH fr y=some (.imm (.int k (m:Int))))→d=0→iV fr lo d=some m:=fun d hlo' hd=>by
  rcases hlo' with⟨rfl,h⟩|⟨y,q,rfl,h⟩
  ·have:m=0:=by omega
   subst this;subst hd;rfl
  ·simp[iV,h]
 have g2:iV fr hi (l.map enc).length=some k:=by
  rcases hhi with⟨rfl,h⟩|⟨y,q,rfl,h⟩
  ·simp only[Sh.len] at h
   have:k=l.length:=by omega
   subst this;simp[iV]
  ·simp[iV,h]
 have:=Kl (P:=P) (W0:=W0) (o:=o) (fr:=fr) (H:=H) ho hx hax ht (g1 0 hlo rfl) g2 h1 (by simpa using h2) (vv hfl l)
 rwa [←List.map_drop,←List.map_take] at this

end

theorem aaD{P:Program}{W0:eo}{fr:Fr}{H:bu}{o:Oper}{t t':TypeId}{x y:Operand}{a b r:BitVec 64}(h:Sh.udiv a b=some r)(ho:o.op=.binOp .quo t x y t')(hx:bH fr x=some (u64 a))(hy:bH fr y=some (u64 b)):fO P W0 o fr H (u64 r) H:=by
 obtain⟨h1,rfl⟩:=Sh.RF h;exact Qx ho hx hy h1
theorem aaE{P:Program}{W0:eo}{fr:Fr}{H:bu}{o:Oper}{t t':TypeId}{x y:Operand}{a b r:BitVec 64}(h:Sh.umod a b=some r)(ho:o.op=.binOp .rem t x y t')(hx:bH fr x=some (u64 a))(hy:bH fr y=some (u64 b)):fO P W0 o fr H (u64 r) H:=by
 obtain⟨h1,rfl⟩:=Sh.RG h;exact Qy ho hx hy h1

section
variable {W0:eo} {N:Nat} {H:bu} {g:List (Nat×Nat)} {nw:List Nat}

def DM(H:bu)(g:List (Nat×Nat))(nw:List Nat):List AV→List AV→Prop
 |[],[]=>True
 |x::l,y::m=>wC H g nw x y∧DM H g nw l m
 |_,_=>False

theorem DM.spec:∀{l m:List AV},DM H g nw l m→l.length=m.length∧∀(k:Nat) (x x':AV),l[k]? =some x→m[k]? =some x'→wC H g nw x x'
 |[],[],_=>⟨rfl,fun k x x' h=>by simp at h⟩
 |x::l,y::m,h=>by
  obtain⟨h1,h2⟩:=DM.spec h.2
  refine⟨by simp[h1],fun k u v hu hv=> ?_⟩
  cases k with
  |zero=>simp at hu hv;subst hu hv;exact h.1
  |succ k=>simp at hu hv;exact h2 k u v hu hv
 |[],_::_,h=>h.elim
 |_::_,[],h=>h.elim

theorem wC.ag{cs cs':List AV}(h:DM H g nw cs cs'):wC H g nw (.agg cs) (.agg cs'):=.agg cs cs' h.spec.1 h.spec.2
theorem wC.tp{cs cs':List AV}(h:DM H g nw cs cs'):wC H g nw (.tuple cs) (.tuple cs'):=.tuple cs cs' h.spec.1 h.spec.2
theorem wC.dn{id:Nat}{es:List AV}(h1:H.get id=some es)(h2:g.all (fun p=>p.2 !=id)=true)(h3:∀e∈es,b_ e):wC H g nw (.view id 0 es.length) (.sl es):=
 .lend h1 (fun p hp=>by have:=List.all_eq_true.1 h2 p hp;simpa using this) (by simp) h3
theorem wC.Ye{id n:Nat}{es:List AV}(h1:H.get id=some es)(h2:g.all (fun p=>p.2 !=id)=true)(hn:n=es.length)(h3:∀e∈es,b_ e):wC H g nw (.view id 0 n) (.sl es):=by
 subst hn;exact .dn h1 h2 h3
theorem C9.one{x x':AV}(h:wC H g nw x x')(hl:x.flat.length=x'.flat.length):C9 H g nw [x] [x']:=
 ⟨rfl,fun k e e' h1 h2=>by
  cases k with
  |zero=>simp at h1 h2;subst h1 h2;exact⟨h,hl⟩
  |succ k=>simp at h1⟩
theorem si.cons{n old s next:Nat}{es es':List AV}{r:List (Nat×(Nat×List AV))}(h1:lk g n=some old)(h2:lk H.eZ old=some (s,es))(h3:C9 H g nw es es')(h4:n<next)(h5:si H g nw next r):si H g nw next ((n,(s,es'))::r):=
 ⟨.inl ⟨old,es,h1,h2,h3⟩,h4,h5⟩
theorem si.fresh{n s next:Nat}{r:List (Nat×(Nat×List AV))}(h1:n∈nw)(h4:n<next)(h5:si H g nw next r):si H g nw next ((n,(s,[]))::r):=
 ⟨.inr ⟨h1,rfl⟩,h4,h5⟩
end

section
variable {P:Program} {W0:eo} {N:Nat} {st:St} {Q:Exit→St→Prop}

theorem aX{x y:Code}{ι:Type}(S:ι→St)(ok:ι→Prop)(hJ:∀i,ok i→ec P W0 N y (S i) Q)(h:∀K:St→Prop,(∀i s,ok i→bq W0 N s (S i)→K s)→ec P W0 N x st (Gm K Q)):ec P W0 N (.seq x y) st Q:=
 Kp (h _ fun i _ hi hw=>ec.Vj hw (hJ i hi))

end
end Go.Av
end

section
/- Regions in whatever order is drawn: what writes stands where it must; what only computes may stand elsewhere. -/
namespace Go.Av
open Go.RowKit (Below)

abbrev Flags:=List (Bool×Bool)
def Flags.calm(fs:Flags)(i:Nat):Bool:=(fs.getD i (false,true)).1&& !(fs.getD i (false,true)).2
def Flags.zb(fs:Flags)(i:Nat):Bool:=(fs.getD i (false,true)).2

def PI(md:Region.Mode)(ops:Array Oper)(fs:Flags)(listed:Array Bool)(i:Nat):Bool:=
 (List.range ops.size).all fun j=>j==i||listed.getD j true||match ops[j]? with
  |some oj=>oj.after.any (fun e=>Region.binds md e&&e.on==i)||((!fs.zb j||fs.calm i)&&(!fs.zb i||fs.calm j))
  |none=>true

def kY(md:Region.Mode)(ops:Array Oper)(i:Nat):Nat→List Bool
 |0=>[]
 |k+1=>(kY md ops i k)++[match ops[k]? with
  |some o=>o.after.any fun e=>Region.binds md e&&(e.on==i||(kY md ops i k).getD e.on false)
  |none=>false]
def PJ(md:Region.Mode)(ops:Array Oper)(fs:Flags)(listed:Array Bool)(i:Nat):Bool:=
 (fun B:List Bool=>(List.range ops.size).all fun j=>j==i||(if listed.getD j true then !B.getD j false else B.getD j false||((!fs.zb j||fs.calm i)&&(!fs.zb i||fs.calm j)))) (kY md ops i ops.size)

def Q4(md:Region.Mode)(ops:Array Oper)(fs:Flags)(stop:Option Nat):Nat→Nat→Array Bool→Bool
 |0,_,listed=>(Region.ready md ops listed).isEmpty
 |f+1,k,listed=>stop==some k||((match ops[k]? with
   |some _=>decide (Region.ready md ops listed=[k])||((Region.ready md ops listed).contains k&&Region.free md ops listed k&&(PI md ops fs listed k||PJ md ops fs listed k))
   |none=>false)&&Q4 md ops fs stop f (k+1) (listed.setIfInBounds k true))

def Sk(fs:Flags)(stop:Option Nat)(ops:Array Oper):Bool:=Q4 .any ops fs stop ops.size 0 (Array.replicate ops.size false)
def T3(n:Nat):Nat→Array Bool
 |0=>Array.replicate n false
 |k+1=>(T3 n k).setIfInBounds k true

section
variable {P:Program} {W0:eo} {N:Nat} {C:Ctx} {fr:Fr} {a:Act} {H:bu} {ops:Array Oper} {md:Region.Mode} {fs:Flags}

def jG(P:Program)(W0:eo)(ops:Array Oper)(fs:Flags)(i:Nat)(o:Oper)(r:AV)(H1:bu)(fr:Fr)(H:bu):Prop:=
 (jW ops fr o=some true∧fO P W0 o fr H r H1∧(fs.zb i=false→H1=H)∧(fs.calm i=true→∀H',fO P W0 o fr H' r H'))∨(jW ops fr o=some false∧r=.tuple []∧H1=H)

theorem jG.quiet{i:Nat}{o:Oper}{r:AV}{H1:bu}(h:jG P W0 ops fs i o r H1 fr H)(hq:fs.zb i=false):H1=H:=by
 rcases h with⟨_,_,h,_⟩|⟨_,_,h⟩
 ·exact h hq
 ·exact h

theorem G_{i:Nat}(h:fs.calm i=true):fs.zb i=false:=by
 simp only[Flags.calm,Bool.and_eq_true,Bool.not_eq_true'] at h
 exact h.2

theorem jG.Hh{i:Nat}{o:Oper}{r:AV}{H1:bu}(h:jG P W0 ops fs i o r H1 fr H)(hd:fs.calm i=true)(H':bu):jG P W0 ops fs i o r H' fr H':=by
 rcases h with⟨h1,_,_,h2⟩|⟨h1,h2,_⟩
 ·exact .inl ⟨h1,h2 hd H',fun _=>rfl,h2⟩
 ·exact .inr ⟨h1,h2,rfl⟩

theorem PD{o:Oper}{r:AV}{H1:bu}{dst:Option Nat}{s:AV}(hd:∀d,dst=some d→d∉o.looksAt ops):fO P W0 o (fr.put dst s) H r H1↔fO P W0 o fr H r H1:=by
 have hR:∀C (a:Act) (x:Operand),x∈o.op.operands→(wh C (fr.put dst s) a x↔wh C fr a x):=fun C a x hx=>by
  unfold wh
  constructor
  ·intro h t ht av hav
   subst ht
   exact h t rfl av (by rw[Fr.FQ (fun he=>hd t he (AI hx))];exact hav)
  ·intro h t ht av hav
   subst ht
   rw[Fr.FQ (fun he=>hd t he (AI hx))] at hav
   exact h t rfl av hav
 unfold fO
 constructor
 ·exact fun h2 C a hI hH hx=>h2 C a hI hH (fun x hm=>(hR C a x hm).2 (hx x hm))
 ·exact fun h2 C a hI hH hx=>h2 C a hI hH (fun x hm=>(hR C a x hm).1 (hx x hm))

theorem RJ{o:Oper}{dst:Option Nat}{s:AV}(hd:∀d,dst=some d→d∉o.looksAt ops):jW ops (fr.put dst s) o=jW ops fr o:=by
 unfold jW
 cases hg:o.guard with
 |none=>rfl
 |some p=>
  obtain⟨j,b⟩:=p
  simp only
  cases hj:(ops[j]?).bind (·.dst) with
  |none=>rfl
  |some d=>
   simp only
   rw[Fr.FQ]
   intro he
   exact hd d he (by unfold Oper.looksAt;exact List.mem_append_right _ (by simp[hg,hj]))

theorem jG.put{i:Nat}{o:Oper}{r:AV}{H1:bu}{dst:Option Nat}{s:AV}(hd:∀d,dst=some d→d∉o.looksAt ops):jG P W0 ops fs i o r H1 (fr.put dst s) H↔jG P W0 ops fs i o r H1 fr H:=by
 unfold jG
 rw[RJ hd,PD hd]
 have:(∀H',fO P W0 o (fr.put dst s) H' r H')↔∀H',fO P W0 o fr H' r H':=forall_congr' fun H'=>PD hd
 rw[this]

def LA(P:Program)(W0:eo)(ops:Array Oper)(fs:Flags)(i:Nat)(K:Fr→bu→Prop)(fr:Fr)(H:bu):Prop:=
 match ops[i]? with
 |none=>K fr H
 |some o=>∃r H1,jG P W0 ops fs i o r H1 fr H∧K (fr.put o.dst r) H1

theorem LA.of{i:Nat}{o:Oper}{r:AV}{H1:bu}{K:Fr→bu→Prop}(hi:ops[i]? =some o)(hy:jG P W0 ops fs i o r H1 fr H)(h:K (fr.put o.dst r) H1):LA P W0 ops fs i K fr H:=by
 unfold LA
 simp only[hi]
 exact⟨r,H1,hy,h⟩

def wH(P:Program)(W0:eo)(md:Region.Mode)(ops:Array Oper)(fs:Flags)(L:Fr→bu→Prop):Nat→Array Bool→Fr→bu→Prop
 |0,listed,fr,H=>Region.ready md ops listed=[]∧L fr H
 |f+1,listed,fr,H=>Region.ready md ops listed≠[]∧∀i∈Region.ready md ops listed,LA P W0 ops fs i (wH P W0 md ops fs L f (listed.setIfInBounds i true)) fr H

theorem IQ{o:Oper}{En:Fr}{b:Bool}(hk:∀t x,En t=some x→fr t=some x)(h:jW ops En o=some b):jW ops fr o=some b:=by
 unfold jW at*
 split at h
 ·assumption
 ·split at h
  ·split at h
   ·rename_i hc;simp only[hk _ _ hc];exact h
   ·rename_i hc;simp only[hk _ _ hc];exact h
   ·cases h
  ·cases h

theorem fO.mono{o:Oper}{En:Fr}{r:AV}{H1:bu}(hk:∀t x,En t=some x→fr t=some x)(h:fO P W0 o En H r H1):fO P W0 o fr H r H1:=
 fun C a hI hH hx=>h C a hI hH (fun x hm t ht av hav=>hx x hm t ht av (hk t av hav))

theorem jG.mono{i:Nat}{o:Oper}{En:Fr}{r:AV}{H1:bu}(hk:∀t x,En t=some x→fr t=some x)(h:jG P W0 ops fs i o r H1 En H):jG P W0 ops fs i o r H1 fr H:=by
 rcases h with⟨h1,h2,h3,h4⟩|⟨h1,h2⟩
 ·exact .inl ⟨IQ hk h1,h2.mono hk,h3,fun hd H'=>(h4 hd H').mono hk⟩
 ·exact .inr ⟨IQ hk h1,h2⟩

theorem Uy{En:Fr}{dst:Option Nat}{r:AV}(hk:∀t x,En t=some x→fr t=some x):∀t x,En.put dst r t=some x→fr.put dst r t=some x:=by
 cases dst with
 |none=>exact hk
 |some d=>
  intro t x h
  simp only[Fr.put] at*
  split at h
  ·rename_i ht;rw[if_pos ht];exact h
  ·rename_i ht;rw[if_neg ht];exact hk t x h

theorem wH.mono{L:Fr→bu→Prop}(hL:∀En fr H,(∀t x,En t=some x→fr t=some x)→L En H→L fr H):∀(f:Nat) (listed:Array Bool) (En fr:Fr) (H:bu),(∀t x,En t=some x→fr t=some x)→wH P W0 md ops fs L f listed En H→wH P W0 md ops fs L f listed fr H
 |0,_,_,_,_,hk,h=>⟨h.1,hL _ _ _ hk h.2⟩
 |f+1,listed,En,fr,H,hk,h=>⟨h.1,fun i hi=>by
  have h1:=h.2 i hi
  unfold LA at*
  split
  ·rename_i ho;simp only[ho] at h1;exact wH.mono hL f _ _ _ _ hk h1
  ·rename_i o ho
   simp only[ho] at h1
   obtain⟨r,H1,hy,hK⟩:=h1
   exact⟨r,H1,hy.mono hk,wH.mono hL f _ _ _ _ (Uy hk) hK⟩⟩

theorem xK{i:Nat}{oi:Oper}{v:AV}{L:Fr→bu→Prop}(B B':Nat→Bool)(hBB:∀j,B' j=true→B j=true)
  (hB:∀j oj,ops[j]? =some oj→B j=true→∃e∈oj.after,Region.binds md e=true∧(e.on=i∨B' e.on=true))(hi:ops[i]? =some oi):
  ∀(f:Nat) (listed:Array Bool) (fr:Fr) (H H1:bu),(∀j,B' j=true→listed.getD j true=false)→
   (∀j oj,ops[j]? =some oj→j≠i→listed.getD j true=false→B j=false→oi.apart ops oj=true∧(fs.zb j=true→fs.calm i=true)∧(fs.zb i=true→fs.calm j=true))→
   i∈Region.ready md ops listed→jG P W0 ops fs i oi v H1 fr H→
   wH P W0 md ops fs L f (listed.setIfInBounds i true) (fr.put oi.dst v) H1→wH P W0 md ops fs L (f+1) listed fr H:=by
 intro f
 induction f with
 |zero=>
  intro listed fr H H1 _ _ hr hy HL
  refine⟨fun h=>(by rw[h] at hr;cases hr),fun j hjr=> ?_⟩
  by_cases hji:j=i
  ·subst hji;exact .of hi hy HL
  ·have h1:=ready_mono hjr hji
   rw[HL.1] at h1;cases h1
 |succ f ih=>
  intro listed fr H H1 hBl hfree hr hy HL
  have hun:=(mem_ready.1 hr).1
  refine⟨fun h=>(by rw[h] at hr;cases hr),fun j hjr=> ?_⟩
  by_cases hji:j=i
  ·subst hji;exact .of hi hy HL
  ·have h1:=HL.2 j (ready_mono hjr hji)
   obtain⟨hjun,oj,hoj,hall⟩:=mem_ready.1 hjr
   have hnot:B j=false:=by
    cases hbj:B j with
    |false=>rfl
    |true=>
     obtain⟨e,he,hb,heq⟩:=hB j oj hoj hbj
     have h2:=hall e he hb
     rcases heq with heq|heq
     ·rw[heq,getD_both hun] at h2
      cases h2
     ·rw[getD_both (hBl _ heq)] at h2
      cases h2
   have ab0:∀k,B' k=true→(listed.setIfInBounds j true).getD k true=false:=fun k hk=>by
    have hjk:j≠k:=fun e=>by subst e;rw[hBB _ hk] at hnot;cases hnot
    rw[getD_set_ne true hjk];exact hBl k hk
   obtain⟨hap,hdr,aiK⟩:=hfree j oj hoj hji hjun hnot
   obtain⟨a1,a2,a3⟩:=Oper.apart_spec hap
   unfold LA at h1
   simp only[hoj] at h1
   obtain⟨s,H2,hs,hK⟩:=h1
   rw[jG.put a1] at hs
   have rest:∀k ok,ops[k]? =some ok→k≠i→(listed.setIfInBounds j true).getD k true=false→B k=false→oi.apart ops ok=true∧(fs.zb k=true→fs.calm i=true)∧(fs.zb i=true→fs.calm k=true):=fun k ok hk hki hku hno=>by
    refine hfree k ok hk hki ?_ hno
    by_cases hjk:j=k
    ·subst hjk;exact hjun
    ·rw[getD_set_ne true hjk] at hku;exact hku
   cases hli:fs.zb i with
   |true=>
    -- what turns the heap stays where it is; the other one does the same in any heap
    have hcj:=aiK hli
    have QM:=hs.quiet (G_ hcj)
    subst QM
    refine .of hoj (hs.Hh hcj H) (ih (listed.setIfInBounds j true) (fr.put oj.dst s) H H2 ab0 rest (ready_mono hr (Ne.symm hji)) ((jG.put a3).2 hy) ?_)
    rw[Array.setIfInBounds_comm _ _ hji,←Fr.put_comm fr v s a2]
    exact hK
   |false=>
    have hH1:=hy.quiet hli
    subst hH1
    have hy':jG P W0 ops fs i oi v H2 fr H2:=by
     cases hl:fs.zb j with
     |true=>exact hy.Hh (hdr hl) H2
     |false=>rw[hs.quiet hl];exact hy
    refine .of hoj hs (ih (listed.setIfInBounds j true) (fr.put oj.dst s) H2 H2 ab0 rest (ready_mono hr (Ne.symm hji)) ((jG.put a3).2 hy') ?_)
    rw[Array.setIfInBounds_comm _ _ hji,←Fr.put_comm fr v s a2]
    exact hK

inductive AA (P:Program) (W0:eo) (ops:Array Oper) (fs:Flags) (stop:Option Nat) (L:Fr→bu→Prop):Nat→List Oper→Fr→bu→Prop
 |nil (k:Nat) (fr:Fr) (H:bu):L fr H→AA P W0 ops fs stop L k [] fr H
 |op {k:Nat} {o:Oper} {rest:List Oper} {fr:Fr} {H H1:bu} {r:AV}:(stop==some k)=false→jG P W0 ops fs k o r H1 fr H→AA P W0 ops fs stop L (k+1) rest (fr.put o.dst r) H1→AA P W0 ops fs stop L k (o::rest) fr H
 |drop {k:Nat} {l:List Oper} {fr En:Fr} {H:bu}:(∀t x,En t=some x→fr t=some x)→AA P W0 ops fs stop L k l En H→AA P W0 ops fs stop L k l fr H
 |fork {k:Nat} {l:List Oper} {fr:Fr} {H:bu}:wH P W0 .any ops fs L l.length (T3 ops.size k) fr H→AA P W0 ops fs stop L k l fr H

theorem JG{i:Nat}{listed:Array Bool}(h:PI md ops fs listed i=true)(j:Nat)(oj:Oper)
  (hj:ops[j]? =some oj)(hne:j≠i)(hun:listed.getD j true=false)(hno:∀e∈oj.after,Region.binds md e=true→e.on≠i):(fs.zb j=true→fs.calm i=true)∧(fs.zb i=true→fs.calm j=true):=by
 simp only[PI,List.all_eq_true,List.mem_range] at h
 have h1:=h j (Array.getElem?_eq_some_iff.1 hj).1
 simp only[hj,Bool.or_eq_true,beq_iff_eq,hne,false_or,hun,Bool.false_eq_true] at h1
 rcases h1 with h1|h1
 ·obtain⟨e,he,hb⟩:=Array.any_eq_true'.1 h1
  simp only[Bool.and_eq_true,beq_iff_eq] at hb
  exact absurd hb.2 (hno e he hb.1)
 ·simp only[Bool.and_eq_true,Bool.or_eq_true,Bool.not_eq_true'] at h1
  refine⟨fun h=> ?_,fun h=> ?_⟩
  ·rcases h1.1 with h2|h2
   ·rw[h] at h2;cases h2
   ·exact h2
  ·rcases h1.2 with h2|h2
   ·rw[h] at h2;cases h2
   ·exact h2

def direct(md:Region.Mode)(ops:Array Oper)(i j:Nat):Bool:=match ops[j]? with
 |some oj=>oj.after.any fun e=>Region.binds md e&&e.on==i
 |none=>false
theorem CM{i j:Nat}{oj:Oper}(hj:ops[j]? =some oj)(h:direct md ops i j=false):∀e∈oj.after,Region.binds md e=true→e.on≠i:=by
 unfold direct at h
 simp only[hj] at h
 intro e he hb heq
 have:(oj.after.any fun e=>Region.binds md e&&e.on==i)=true:=Array.any_eq_true'.2 ⟨e,he,by simp[hb,heq]⟩
 rw[h] at this;cases this
theorem tA{i j:Nat}{oj:Oper}(hj:ops[j]? =some oj)(h:direct md ops i j=true):∃e∈oj.after,Region.binds md e=true∧e.on=i:=by
 unfold direct at h
 simp only[hj] at h
 obtain⟨e,he,hb⟩:=Array.any_eq_true'.1 h
 simp only[Bool.and_eq_true,beq_iff_eq] at hb
 exact⟨e,he,hb.1,hb.2⟩
theorem wN(i:Nat):∀k,(kY md ops i k).length=k
 |0=>rfl
 |k+1=>by simp[kY,wN i k]
theorem CK(i:Nat):∀k j,j<k→(kY md ops i k).getD j false=(kY md ops i (j+1)).getD j false:=by
 intro k
 induction k with
 |zero=>intro j h;omega
 |succ k ih=>
  intro j h
  by_cases hj:j=k
  ·subst hj;rfl
  ·rw[←ih j (by omega)]
   have hl:=wN (md:=md) (ops:=ops) i k
   simp only[kY,List.getD]
   rw[List.getElem?_append_left (by omega)]
theorem F5(i j:Nat){oj:Oper}(hj:ops[j]? =some oj):(kY md ops i (j+1)).getD j false=oj.after.any fun e=>Region.binds md e&&(e.on==i||(kY md ops i j).getD e.on false):=by
 have hl:=wN (md:=md) (ops:=ops) i j
 simp only[kY,hj,List.getD]
 rw[List.getElem?_append_right (by omega),hl]
 simp
theorem JF{i j:Nat}{oj:Oper}(hj:ops[j]? =some oj)(h:(kY md ops i ops.size).getD j false=true):∃e∈oj.after,Region.binds md e=true∧(e.on=i∨(kY md ops i ops.size).getD e.on false=true):=by
 have hlt:j<ops.size:=(Array.getElem?_eq_some_iff.1 hj).1
 rw[CK i _ j hlt,F5 i j hj] at h
 obtain⟨e,he,hb⟩:=Array.any_eq_true'.1 h
 simp only[Bool.and_eq_true,Bool.or_eq_true,beq_iff_eq] at hb
 refine⟨e,he,hb.1,hb.2.imp id fun h2=> ?_⟩
 have hej:e.on<j:=by
  rcases Nat.lt_or_ge e.on j with h3|h3
  ·exact h3
  ·have hl:=wN (md:=md) (ops:=ops) i j
   simp only[List.getD] at h2
   rw[List.getElem?_eq_none (by omega)] at h2
   cases h2
 rw[CK i _ _ hej] at h2
 rw[CK i _ _ (show e.on<ops.size by omega)]
 exact h2
theorem DB{i j:Nat}{oj:Oper}(hj:ops[j]? =some oj)(h:(kY md ops i ops.size).getD j false=false):∀e∈oj.after,Region.binds md e=true→e.on≠i:=by
 have hlt:j<ops.size:=(Array.getElem?_eq_some_iff.1 hj).1
 rw[CK i _ j hlt,F5 i j hj] at h
 intro e he hb heq
 have:(oj.after.any fun e=>Region.binds md e&&(e.on==i||(kY md ops i j).getD e.on false))=true:=Array.any_eq_true'.2 ⟨e,he,by simp[hb,heq]⟩
 rw[h] at this;cases this
theorem G9{i:Nat}{listed:Array Bool}(h:PJ md ops fs listed i=true):(∀j,(kY md ops i ops.size).getD j false=true→j=i∨listed.getD j true=false)∧
  ∀j oj,ops[j]? =some oj→j≠i→listed.getD j true=false→(kY md ops i ops.size).getD j false=false→(fs.zb j=true→fs.calm i=true)∧(fs.zb i=true→fs.calm j=true):=by
 simp only[PJ,List.all_eq_true,List.mem_range] at h
 constructor
 ·intro j hj
  have hlt:j<ops.size:=by
   rcases Nat.lt_or_ge j ops.size with h3|h3
   ·exact h3
   ·have hl:=wN (md:=md) (ops:=ops) i ops.size
    simp only[List.getD] at hj
    rw[List.getElem?_eq_none (by omega)] at hj
    cases hj
  have h1:=h j hlt
  rw[hj] at h1
  simp only[Bool.or_eq_true,beq_iff_eq] at h1
  rcases h1 with h1|h1
  ·exact .inl h1
  ·right
   cases hl:listed.getD j true with
   |false=>rfl
   |true=>rw[hl] at h1;simp at h1
 ·intro j oj hj hne hl hb
  have h1:=h j (Array.getElem?_eq_some_iff.1 hj).1
  rw[hl,hb] at h1
  simp only[Bool.or_eq_true,beq_iff_eq,hne,false_or,Bool.false_eq_true,if_false,Bool.and_eq_true,Bool.not_eq_true'] at h1
  refine⟨fun h=> ?_,fun h=> ?_⟩
  ·rcases h1.1 with h2|h2
   ·rw[h] at h2;cases h2
   ·exact h2
  ·rcases h1.2 with h2|h2
   ·rw[h] at h2;cases h2
   ·exact h2

theorem Qq{L:Fr→bu→Prop}{stop:Option Nat}(hL:∀En fr H,(∀t x,En t=some x→fr t=some x)→L En H→L fr H){k:Nat}{l:List Oper}{fr:Fr}{H:bu}(h:AA P W0 ops fs stop L k l fr H):(∀j,j<l.length→l[j]? =ops[k+j]?)→Q4 .any ops fs stop l.length k (T3 ops.size k)=true→
   wH P W0 .any ops fs L l.length (T3 ops.size k) fr H:=by
 induction h with
 |nil k fr H hQ=>intro _ hc;exact⟨by simpa [Q4] using hc,hQ⟩
 |drop hk _ ih=>intro hl hc;exact wH.mono hL _ _ _ _ _ hk (ih hl hc)
 |fork h=>intro _ _;exact h
 | @op k o l fr H H1 r hs hy h' ih=>
  intro hl hc
  have h0:ops[k]? =some o:=by simpa using (hl 0 (by simp)).symm
  simp only[List.length_cons,Q4,h0,hs,Bool.false_or,Bool.and_eq_true] at hc
  obtain⟨PM,QN⟩:=hc
  have rest:=ih (fun j hjl=>by have:=hl (j+1) (by simp;omega);simpa [Nat.add_assoc,Nat.add_comm 1 j] using this) QN
  simp only[Bool.or_eq_true,decide_eq_true_eq,Bool.and_eq_true] at PM
  rcases PM with PM|⟨⟨g1,g2⟩,g3⟩
  ·refine⟨fun he=>(by rw[PM] at he;cases he),fun j hj=> ?_⟩
   rw[PM] at hj
   have:j=k:=by simpa using hj
   subst this
   exact .of h0 hy rest
  ·have hr:k∈Region.ready .any ops (T3 ops.size k):=by simpa using g1
   have hun:=(mem_ready.1 hr).1
   rcases g3 with g3|g3
   ·exact xK (direct .any ops k) (fun _=>false) (fun _ h=>by cases h) (fun j oj hj h=>by
     obtain⟨e,h1,h2,h3⟩:=tA hj h
     exact⟨e,h1,h2,.inl h3⟩) h0 l.length (T3 ops.size k) fr _ _ (fun _ h=>by cases h) (fun j oj hj hne hun hno=>⟨Region.free_spec h0 g2 j oj hj hne hun (CM hj hno),JG g3 j oj hj hne hun (CM hj hno)⟩) hr hy rest
   ·obtain⟨c1,c2⟩:=G9 g3
    exact xK (fun j=>(kY .any ops k ops.size).getD j false) (fun j=>(kY .any ops k ops.size).getD j false) (fun _ h=>h) (fun j oj hj h=>JF hj h) h0 l.length (T3 ops.size k) fr _ _ (fun j h=>(c1 j h).elim (fun e=>by rw[e];exact hun) id) (fun j oj hj hne hun hno=>⟨Region.free_spec h0 g2 j oj hj hne hun (DB hj hno),c2 j oj hj hne hun hno⟩) hr hy rest

theorem xm{L:Fr→bu→Prop}{Q:Exit→Act→World→Prop}(hN:∀o∈ops,nE N o=true):
  ∀(f:Nat) (listed:Array Bool) (fr:Fr) (H:bu) (C:Ctx) (a:Act),Rel W0 N fr H C a→
   (∀fr H C' a',Ext C C'→Rel W0 N fr H C' a'→L fr H→Q .normal a' C'.w)→wH P W0 md ops fs L f listed fr H→wpAny P md ops Q f listed a C.w
 |0,listed,fr,H,C,a,hr,hL,h=>⟨h.1,hL _ _ C a (.refl C) hr h.2⟩
 |f+1,listed,fr,H,C,a,hr,hL,h=>by
  refine⟨fun h0=>absurd h0 h.1,fun i hi=> ?_⟩
  have h1:=h.2 i hi
  obtain⟨_,o,ho,_⟩:=mem_ready.1 hi
  unfold LA at h1
  simp only[ho] at h1
  obtain⟨r,H1,hy,hK⟩:=h1
  have hd:∀d,o.dst=some d→d<N:=nE.lt (hN o (Array.mem_of_getElem? ho))
  unfold wpOp
  simp only[ho]
  rcases hy with⟨hw,hop,_,_⟩|⟨hw,rfl,rfl⟩
  ·rw[mH hr.rep hw]
   simp only[if_true]
   refine .inl (hop C a hr.inv hr.heap (fun x _ t _ av hav=>hr.rep t av hav) _ _ (fun v C' he hi' hH hv=> ?_))
   exact xm hN f _ _ _ C' _ (hr.put he hi' hH hv hd) (fun f2 H2 C2 a2 h2=>hL f2 H2 C2 a2 (he.trans h2)) hK
  ·rw[mH hr.rep hw]
   simp only[Bool.false_eq_true,if_false]
   exact xm hN f _ _ _ C _ (hr.put (.refl C) hr.inv hr.heap E8 hd) hL hK

def LK(K:List (Nat×AV)→bu→Prop)(f:Fr)(g:bu):Prop:=∃frl,(∀t x,lk frl t=some x→f t=some x)∧K frl g
theorem LK.mono{K:List (Nat×AV)→bu→Prop}(En fr:Fr)(H:bu)(hk:∀t x,En t=some x→fr t=some x)(h:LK K En H):LK K fr H:=by
 obtain⟨frl,h1,h2⟩:=h
 exact⟨frl,fun t x h=>hk t x (h1 t x h),h2⟩

def Bn(P:Program)(W0:eo)(ops:Array Oper)(fs:Flags)(stop:Option Nat)(k:Nat)(l:List Oper)(fr:List (Nat×AV))(H:bu)(K:List (Nat×AV)→bu→Prop):Prop:=
 AA P W0 ops fs stop (LK K) k l (lk fr) H

variable {Q:Exit→St→Prop} {frl:List (Nat×AV)} {K:List (Nat×AV)→bu→Prop} {o:Oper} {rest:List Oper} {k:Nat} {stop:Option Nat}

theorem bS(h:K frl H):Bn P W0 ops fs stop k [] frl H K:=AA.nil _ _ _ ⟨frl,fun _ _ h=>h,h⟩
theorem Bn.drop{l:List Oper}{frx:List (Nat×AV)}(h:v8 frl frx)(h2:Bn P W0 ops fs stop k l frx H K):Bn P W0 ops fs stop k l frl H K:=AA.drop (v8.lk h) h2
theorem Qr(ts:List Nat){l:List Oper}{frx:List (Nat×AV)}(h:pick frl ts=some frx)(h2:Bn P W0 ops fs stop k l frx H K):Bn P W0 ops fs stop k l frl H K:=Bn.drop (w9 h) h2
theorem Bn.step{r:AV}{H1:bu}(h:jG P W0 ops fs k o r H1 (lk frl) H)(h2:Bn P W0 ops fs stop (k+1) rest (td frl o.dst r) H1 K)(hs:(stop==some k)=false:=by rfl):Bn P W0 ops fs stop k (o::rest) frl H K:=by
 unfold Bn at h2
 rw[xV] at h2
 exact AA.op hs h h2
theorem Qs(hw:jW ops (lk frl) o=some false)(h2:Bn P W0 ops fs stop (k+1) rest (td frl o.dst (.tuple [])) H K)(hs:(stop==some k)=false:=by rfl):Bn P W0 ops fs stop k (o::rest) frl H K:=.step (.inr ⟨hw,rfl,rfl⟩) h2 hs
theorem aP{r:AV}(hw:jW ops (lk frl) o=some true)(h:∀H',fO P W0 o (lk frl) H' r H')(h2:Bn P W0 ops fs stop (k+1) rest (td frl o.dst r) H K)(hs:(stop==some k)=false:=by rfl):Bn P W0 ops fs stop k (o::rest) frl H K:=
 .step (.inl ⟨hw,h H,fun _=>rfl,fun _=>h⟩) h2 hs
theorem bR{r:AV}(hw:jW ops (lk frl) o=some true)(hd:fs.calm k=false)(h:fO P W0 o (lk frl) H r H)(h2:Bn P W0 ops fs stop (k+1) rest (td frl o.dst r) H K)(hs:(stop==some k)=false:=by rfl):Bn P W0 ops fs stop k (o::rest) frl H K:=
 .step (.inl ⟨hw,h,fun _=>rfl,fun he=>by rw[hd] at he;cases he⟩) h2 hs
theorem Gk{r:AV}{H1:bu}(hw:jW ops (lk frl) o=some true)(hl:fs.zb k=true)(h:fO P W0 o (lk frl) H r H1):jG P W0 ops fs k o r H1 (lk frl) H:=
 .inl ⟨hw,h,(fun he=>by rw[hl] at he;cases he),(fun he=>by have:=G_ he;rw[hl] at this;cases this)⟩
theorem eP{r:AV}{H1:bu}(hw:jW ops (lk frl) o=some true)(hl:fs.zb k=true)(h:fO P W0 o (lk frl) H r H1)(h2:Bn P W0 ops fs stop (k+1) rest (td frl o.dst r) H1 K)(hs:(stop==some k)=false:=by rfl):Bn P W0 ops fs stop k (o::rest) frl H K:=
 .step (Gk hw hl h) h2 hs

def AF(P:Program)(W0:eo)(ops:Array Oper)(fs:Flags)(f:Nat)(listed:Array Bool)(fr:List (Nat×AV))(H:bu)(K:List (Nat×AV)→bu→Prop):Prop:=
 wH P W0 .any ops fs (LK K) f listed (lk fr) H
def AF1(P:Program)(W0:eo)(ops:Array Oper)(fs:Flags)(f:Nat)(listed:Array Bool)(fr:List (Nat×AV))(H:bu)(K:List (Nat×AV)→bu→Prop)(i:Nat):Prop:=
 LA P W0 ops fs i (wH P W0 .any ops fs (LK K) f (listed.setIfInBounds i true)) (lk fr) H
def AFs(P:Program)(W0:eo)(ops:Array Oper)(fs:Flags)(f:Nat)(listed:Array Bool)(fr:List (Nat×AV))(H:bu)(K:List (Nat×AV)→bu→Prop):List Nat→Prop
 |[]=>True
 |i::l=>AF1 P W0 ops fs f listed fr H K i∧AFs P W0 ops fs f listed fr H K l
theorem AFs.spec{f:Nat}{listed:Array Bool}:∀{l:List Nat},AFs P W0 ops fs f listed frl H K l→∀i∈l,AF1 P W0 ops fs f listed frl H K i
 |i::l,h,j,hj=>by
  rcases List.mem_cons.1 hj with rfl|hj
  ·exact h.1
  ·exact AFs.spec h.2 j hj
theorem Bn.fork{l:List Oper}(h:AF P W0 ops fs l.length (T3 ops.size k) frl H K):Bn P W0 ops fs stop k l frl H K:=AA.fork h
theorem AF.done{listed:Array Bool}(hr:(Region.ready .any ops listed).isEmpty=true)(h:K frl H):AF P W0 ops fs 0 listed frl H K:=⟨by simpa using hr,frl,fun _ _ h=>h,h⟩
theorem AF.many{f:Nat}{listed:Array Bool}(i:Nat)(is:List Nat)(hr:Region.ready .any ops listed=i::is)(h:AFs P W0 ops fs f listed frl H K (i::is)):AF P W0 ops fs (f+1) listed frl H K:=
 ⟨by rw[hr];simp,fun j hj=>by rw[hr] at hj;exact AFs.spec h j hj⟩
theorem bt{f i:Nat}{listed:Array Bool}{r:AV}{H1:bu}(o:Oper)(ho:ops[i]? =some o)(hw:jW ops (lk frl) o=some true)(hl:fs.zb i=true)(h:fO P W0 o (lk frl) H r H1)(h2:AF P W0 ops fs f (listed.setIfInBounds i true) (td frl o.dst r) H1 K):AF1 P W0 ops fs f listed frl H K i:=by
 refine .of ho (Gk hw hl h) ?_
 unfold AF at h2
 rw[xV] at h2
 exact h2

theorem AF.keep(ts:List Nat){f:Nat}{listed:Array Bool}{frx:List (Nat×AV)}(h:pick frl ts=some frx)(h2:AF P W0 ops fs f listed frx H K):AF P W0 ops fs f listed frl H K:=wH.mono LK.mono _ _ _ _ _ (v8.lk (w9 h)) h2
theorem AF.Hh{f:Nat}{listed:Array Bool}{r:AV}(i:Nat){o:Oper}(ho:ops[i]? =some o)(hc:((Region.ready .any ops listed).contains i&&Region.free .any ops listed i&&(fs.calm i&&(PI .any ops fs listed i||PJ .any ops fs listed i)))=true)(hw:jW ops (lk frl) o=some true)(h:∀H',fO P W0 o (lk frl) H' r H')
  (h2:AF P W0 ops fs f (listed.setIfInBounds i true) (td frl o.dst r) H K):AF P W0 ops fs (f+1) listed frl H K:=by
 simp only[Bool.and_eq_true,Bool.or_eq_true] at hc
 obtain⟨⟨g1,g2⟩,_,g3⟩:=hc
 have hr:i∈Region.ready .any ops listed:=by simpa using g1
 have hun:=(mem_ready.1 hr).1
 unfold AF at h2
 rw[xV] at h2
 have hy:jG P W0 ops fs i o r H (lk frl) H:=.inl ⟨hw,h H,fun _=>rfl,fun _=>h⟩
 rcases g3 with g3|g3
 ·exact xK (direct .any ops i) (fun _=>false) (fun _ h=>by cases h) (fun j oj hj h=>by
   obtain⟨e,h1,h2,h3⟩:=tA hj h
   exact⟨e,h1,h2,.inl h3⟩) ho f listed (lk frl) _ _ (fun _ h=>by cases h) (fun j oj hj hne hun hno=>⟨Region.free_spec ho g2 j oj hj hne hun (CM hj hno),JG g3 j oj hj hne hun (CM hj hno)⟩) hr hy h2
 ·obtain⟨c1,c2⟩:=G9 g3
  exact xK (fun j=>(kY .any ops i ops.size).getD j false) (fun j=>(kY .any ops i ops.size).getD j false) (fun _ h=>h) (fun j oj hj h=>JF hj h) ho f listed (lk frl) _ _ (fun j h=>(c1 j h).elim (fun e=>by rw[e];exact hun) id) (fun j oj hj hne hun hno=>⟨Region.free_spec ho g2 j oj hj hne hun (DB hj hno),c2 j oj hj hne hun hno⟩) hr hy h2

theorem G8(fs:Flags)(stop:Option Nat){id:Nat}{l:List Oper}(hm:P.follows .mixedOrders=true)(hB:Sk fs stop l.toArray=true)(hN:l.all (nE N)=true)(h:Bn P W0 l.toArray fs stop 0 l frl H (fun f g=>Q .normal ⟨f,g⟩))(hro:W0.ro=none:=by rfl):ec P W0 N (.region id l.toArray true) ⟨frl,H⟩ Q:=fun C a hr=>by
 obtain⟨hE,hR⟩:=US hr
 rw[hro,EF]
 refine wpIn_wide.2 (wp_region_any hm ?_)
 have hB':Q4 .any l.toArray fs stop l.length 0 (T3 l.toArray.size 0)=true:=by simpa [Sk,T3] using hB
 have key:=Qq (P:=P) (W0:=W0) (ops:=l.toArray) LK.mono h (fun j _=>by simp) hB'
 have:=xm (P:=P) (Q:=VL W0 N C Q) (fun o ho=>List.all_eq_true.1 hN o (by simpa using ho)) _ _ _ _ _ _ hR (fun f g C' a' he hrel hL=>by
  obtain⟨fr',hk,hq⟩:=hL
  exact⟨⟨fr',g⟩,C',rfl,(hE.trans he).mem,⟨hrel.heap,hrel.inv,hrel.size,hrel.defers,fun t x hx=>hrel.rep t x (hk t x hx)⟩,hq⟩) key
 simpa [Ctx.xB,T3] using this
theorem dK(fs:Flags){id:Nat}{l:List Oper}(hm:P.follows .mixedOrders=true)(hB:Sk fs none l.toArray=true)(hN:l.all (nE N)=true)(h:Bn P W0 l.toArray fs none 0 l frl H (fun f g=>Q .normal ⟨f,g⟩))(hro:W0.ro=none:=by rfl):ec P W0 N (.region id l.toArray true) ⟨frl,H⟩ Q:=G8 fs none hm hB hN h hro

theorem QB{x y:Code}{st:St}(h:∀K:St→Prop,(∀s s',bq W0 N s s'→K s'→K s)→(∀s,ec P W0 N y s Q→K s)→ec P W0 N x st (Gm K Q)):ec P W0 N (.seq x y) st Q:=
 Kp (h _ (fun _ _ hw h=>ec.Vj hw h) fun _ h=>h)
end
end Go.Av
end

section
/- Structs of numbers, held against each other. -/
namespace Go.Av
open Go

def JP(P:Program)(t:TypeId)(n:Nat):Bool:=
 (match P.underlying t with
  |some (.struct fs)=>decide (fs.size=n)&&(fs.toList.zipIdx.all fun p=>p.1.offset==p.2&&p.1.name != "_" &&(match P.underlying p.1.type with|some (.int .i64)=>true|_=>false))
  |_=>false)&& !P.stoodInHeld t&& !P.eqGuardType P.depth t

section
variable {P:Program} {W0:eo} {fr:Fr} {H:bu} {o:Oper}

theorem Nu{t:TypeId}{cs:Array Value}{off:Nat}{v:Value}(ht:P.underlying t=some (.int .i64))(hv:cs[off]? =some v)(w:World):(part t cs off).run P w=.ok v w:=by
 have h:(isAgg t).run P w=.ok false w:=by
  simp only[isAgg,Sem.run_bind,run_underlying ht,Result.andThen_ok]
  rfl
 unfold part
 rw[Sem.run_bind,h]
 simp[hv]

theorem Fc(d:Nat)(w:World)(zA bs:List Int)(hl:zA.length=bs.length):∀(fs:List Field) (k:Nat),(fs.zipIdx k).all (fun p=>p.1.offset==p.2&&p.1.name != "_" &&(match P.underlying p.1.type with|some (.int .i64)=>true|_=>false))=true→k+fs.length=zA.length→
  (Op.eqFields (d+1) (zA.map fun n=>Value.int .i64 n).toArray (bs.map fun n=>Value.int .i64 n).toArray fs).run P w=.ok (decide (zA.drop k=bs.drop k)) w
 |[],k,_,hk=>by
  have h1:zA.drop k=[]:=List.drop_eq_nil_of_le (by simp at hk;omega)
  have h2:bs.drop k=[]:=List.drop_eq_nil_of_le (by simp at hk;omega)
  simp[Op.eqFields,h1,h2]
 |f::fs,k,h,hk=>by
  simp only[List.zipIdx_cons,List.all_cons,Bool.and_eq_true,beq_iff_eq,bne_iff_ne] at h
  obtain⟨⟨⟨h1,h2⟩,h3⟩,h4⟩:=h
  have hu:P.underlying f.type=some (.int .i64):=by
   split at h3
   ·assumption
   ·cases h3
  simp only[List.length_cons] at hk
  have hka:k<zA.length:=by omega
  have hkb:k<bs.length:=by omega
  have ga:(zA.map fun n=>Value.int .i64 n).toArray[f.offset]? =some (.int .i64 zA[k]):=by simp[h1,hka]
  have gb:(bs.map fun n=>Value.int .i64 n).toArray[f.offset]? =some (.int .i64 bs[k]):=by simp[h1,hkb]
  have ih:=Fc d w zA bs hl fs (k+1) h4 (by omega)
  rw[List.drop_eq_getElem_cons hka,List.drop_eq_getElem_cons hkb]
  unfold Op.eqFields
  rw[if_pos h2,Sem.run_bind,Nu hu ga]
  simp only[Result.andThen_ok]
  rw[Sem.run_bind,Nu hu gb]
  simp only[Result.andThen_ok]
  rw[Sem.run_bind,run_equalIn_int w d f.type .i64 .i64 zA[k] bs[k] hu]
  simp only[Result.andThen_ok]
  generalize zA.drop (k+1)=A at ih ⊢
  generalize bs.drop (k+1)=B at ih ⊢
  generalize zA[k]=x
  generalize bs[k]=y
  by_cases he:x=y
  ·simp[he,ih]
  ·simp[he]

theorem Gg{t:TypeId}{n:Nat}(ht:JP P t n=true)(zA bs:List Int)(ha:zA.length=n)(hb:bs.length=n)(w:World):
  (Op.equalIn 10000 t (.agg (zA.map fun n=>Value.int .i64 n).toArray) (.agg (bs.map fun n=>Value.int .i64 n).toArray)).run P w=.ok (decide (zA=bs)) w∧P.eqGuardType P.depth t=false:=by
 simp only[JP,Bool.and_eq_true,Bool.not_eq_true'] at ht
 obtain⟨⟨h1,h2⟩,h3⟩:=ht
 refine⟨?_,h3⟩
 split at h1
 ·rename_i fs hu
  simp only[Bool.and_eq_true,decide_eq_true_eq] at h1
  obtain⟨h4,h5⟩:=h1
  have hf:P.fieldsOf t=fs:=by simp[Program.fieldsOf,hu]
  have h6:=run_equalIn_struct (P:=P) w 9999 t (zA.map fun n=>Value.int .i64 n).toArray (bs.map fun n=>Value.int .i64 n).toArray (by rw[hf];exact hu) h2
  rw[h6,hf]
  have:=Fc (P:=P) 9998 w zA bs (by omega) fs.toList 0 h5 (by simp;omega)
  simpa using this
 ·cases h1

theorem E6{C:Ctx}{l:List Int}{v:Value}(h:eB C (.agg (l.map J)) v):v=.agg (l.map fun n=>Value.int .i64 n).toArray:=by
 refine fq (x:=.agg (l.map J)) ?_ h
 have:Pr (l.map J)=some (l.map fun n=>Value.int .i64 n):=by
  clear h
  induction l with
  |nil=>rfl
  |cons a l ih=>simp[Pr,ih]
 simp[AV.toV,this]

theorem RA{t t':TypeId}{n:Nat}{x y:Operand}(zA bs:List Int)(ht:JP P t n=true)(ha:zA.length=n)(hb:bs.length=n)(ho:o.op=.binOp .eql t x y t')(hx:bH fr x=some (.agg (zA.map J)))(hy:bH fr y=some (.agg (bs.map J))):fO P W0 o fr H (bl (decide (zA=bs))) H:=
 .fo fun C a _ _ hr=>by
  have e1:=E6 (bV (hr x (by simp[ho,Op.operands])) hx)
  have e2:=E6 (bV (hr y (by simp[ho,Op.operands])) hy)
  obtain⟨h1,h2⟩:=Gg (P:=P) ht zA bs ha hb C.w
  refine⟨.bool (decide (zA=bs)), ?_,.imm _ rfl⟩
  simp only[execOp,ho,e1,e2,Sem.run_bind,run_eqGuard_agg _ _ _ _ _ _ _ h2,Result.andThen_ok,run_eql_struct,h1]
  rfl
theorem J8{t t':TypeId}{n:Nat}{x y:Operand}(zA bs:List Int)(ht:JP P t n=true)(ha:zA.length=n)(hb:bs.length=n)(ho:o.op=.binOp .neq t x y t')(hx:bH fr x=some (.agg (zA.map J)))(hy:bH fr y=some (.agg (bs.map J))):fO P W0 o fr H (bl (!decide (zA=bs))) H:=
 .fo fun C a _ _ hr=>by
  have e1:=E6 (bV (hr x (by simp[ho,Op.operands])) hx)
  have e2:=E6 (bV (hr y (by simp[ho,Op.operands])) hy)
  obtain⟨h1,h2⟩:=Gg (P:=P) ht zA bs ha hb C.w
  refine⟨.bool (!decide (zA=bs)), ?_,.imm _ rfl⟩
  simp only[execOp,ho,e1,e2,Sem.run_bind,run_eqGuard_agg _ _ _ _ _ _ _ h2,Result.andThen_ok,run_neq_struct,h1]
  rfl
end
end Go.Av
end

section
/- Arrays of things of one cell: as values of one element of the proof's own; literals of the proof's own. -/
namespace Go.Av
open Go.RowKit (Below)
section
variable {P:Program} {W0:eo} {C:Ctx} {fr:Fr} {a:Act} {H:bu} {o:Oper}

end
end Go.Av
namespace Go.Sh
def whole{α:Type}(n:Nat)(l:List α):Option (List α):=if l.length=n then some l else none
def I9{α:Type}(n:Nat)(l:List α)(i:Int):Option α:=if l.length=n then idx l i else none
theorem wD{α:Type}{n:Nat}{l:List α}{i:Int}{x:α}(h:I9 n l i=some x):l.length=n∧∃k:Nat,i=k∧l[k]? =some x:=by
 unfold I9 at h
 split at h
 ·rename_i h0;exact⟨h0,aV h⟩
 ·cases h
end Go.Sh
namespace Go.Av
section
variable {P:Program} {W0:eo} {fr:Fr} {H:bu} {o:Oper} {α:Type} {enc:α→AV} {l:List α} {i:Int} {x:α} {ki:IntKind}

theorem tN{t:TypeId}{N id k:Nat}{xo io:Operand}(enc:α→AV)(l:List α)(hi:i=k)(hl:l[k]? =some x)(hN:l.length=N)(ho:o.op=.indexAddr t xo io)(hx:bH fr xo=some (.ref id 0 0))(hid:H.get id=some [YH enc l])(hio:bH fr io=some (.imm (.int ki i)))
  (ht:tv P t=some (N,1)):fO P W0 o fr H (.ref id 0 k) H:=
 (Eu ho hx hid hio ht hi (by have:=(List.getElem?_eq_some_iff.1 hl).1;omega)).conv (by simp)
theorem Ei{t:TypeId}{xo:Operand}{id k:Nat}(enc:α→AV)(l:List α)(hl:l[k]? =some x)(ho:o.op=.load t xo)(hx:bH fr xo=some (.ref id 0 k))(hid:H.get id=some [YH enc l])
  (ht:xx P t=some (1,false)):fO P W0 o fr H (enc x) H:=
 aJ ho hx hid (i:=0) (e:=YH enc l) rfl ht (by simp[vB,AV.flat,hl])
theorem Cz{t:TypeId}{xo yo:Operand}{id k:Nat}(enc:α→AV)(l:List α)(x':α)(hi:i=k)(hl:l[k]? =some x)(hfl:(enc x').flat=[enc x'])(hsol:(enc x').eY=true)(ho:o.op=.store t xo yo)(hx:bH fr xo=some (.ref id 0 k))(hy:bH fr yo=some (enc x'))
  (hid:H.get id=some [YH enc l])(ht:xx P t=some (1,false)):fO P W0 o fr H .any (H.set id [YH enc (Sh.set l i x')]):=by
 have hk:=(List.getElem?_eq_some_iff.1 hl).1
 have:=aY (P:=P) (W0:=W0) (o:=o) (fr:=fr) (H:=H) (e:=YH enc l) (e':=YH enc (Sh.set l i x')) (i:=0) ho hx hy hsol hid rfl ht (by rw[hfl];rfl) (by simp[AV.flat];omega) (by
  subst hi
  rw[hfl]
  simp only[AV.flat,Sh.set,Int.toNat_natCast,List.map_set]
  rw[List.set_eq_take_append_cons_drop,if_pos (by simpa using hk)]
  simp)
 exact this
end
end Go.Av
end

section
/- Literals with empty slices in them, or slices of a known end. -/
namespace Go.Av
inductive YE:AV→AV→Prop
 |same (x:AV):YE x x
 |clip (es:List AV):YE (.clip es) (.sl es)
 |nil:YE (.imm (.slice none 0 0)) (.sl [])
def RL:List AV→List AV→Prop
 |[],[]=>True
 |x::xs,y::ys=>YE x y∧RL xs ys
 |_,_=>False
def Kb:List AV→List AV→Prop
 |[],[]=>True
 |e::es,y::ys=>RL e.flat y.flat∧Kb es ys
 |_,_=>False
section
variable {P:Program} {W0:eo} {C:Ctx} {fr:Fr} {H H':bu} {o:Oper}

theorem YE.rep{a b:AV}{v:Value}(h:YE a b)(r:eB C a v):eB C b v:=by
 cases h with
 |same=>exact r
 |clip es=>
  match r with
  |.clipNil a=>exact .slNil a 0
  |.clip _ b off sz c h1 h2 h3 h4 h5=>exact .sl es b off sz es.length c h1 h2 (Nat.le_refl _) h3 h4 h5
 |nil=>
  have:=fq (v:=.slice none 0 0) rfl r
  subst this
  exact .slNil _ _
theorem RL.spec:∀{xs ys:List AV},RL xs ys→xs.length=ys.length∧∀(j:Nat) (y:AV),ys[j]? =some y→∃x,xs[j]? =some x∧YE x y
 |[],[],_=>⟨rfl,fun j y h=>by simp at h⟩
 |x::xs,y::ys,h=>by
  obtain⟨a,b⟩:=RL.spec h.2
  refine⟨by simp[a],fun j z hz=> ?_⟩
  cases j with
  |zero=>simp at hz;subst hz;exact⟨x,rfl,h.1⟩
  |succ j=>simpa using b j z (by simpa using hz)
 |[],_::_,h=>h.elim
 |_::_,[],h=>h.elim
theorem Kb.spec:∀{es ys:List AV},Kb es ys→es.length=ys.length∧∀(i:Nat) (y:AV),ys[i]? =some y→∃e,es[i]? =some e∧RL e.flat y.flat
 |[],[],_=>⟨rfl,fun j y h=>by simp at h⟩
 |x::xs,y::ys,h=>by
  obtain⟨a,b⟩:=Kb.spec h.2
  refine⟨by simp[a],fun j z hz=> ?_⟩
  cases j with
  |zero=>simp at hz;subst hz;exact⟨x,rfl,h.1⟩
  |succ j=>simpa using b j z (by simpa using hz)
 |[],_::_,h=>h.elim
 |_::_,[],h=>h.elim
theorem Sg{es ys:List AV}{v:Value}(h:Kb es ys)(r:eB C (.clip es) v):eB C (.clip ys) v:=by
 obtain⟨hl,hs⟩:=h.spec
 match r with
 |.clipNil a=>
  have:ys=[]:=List.eq_nil_of_length_eq_zero (by simpa using hl.symm)
  subst this
  exact .clipNil a
 |.clip _ b off sz c h1 h2 h3 h4 h5=>
  rw[hl]
  refine .clip ys b off sz c h1 h2 (fun i y hy=> ?_) (fun i j y z hy hz=> ?_) (fun i j y z hy hz=> ?_)
  ·obtain⟨e,he,hw⟩:=hs i y hy
   rw[←hw.spec.1];exact h3 i e he
  ·obtain⟨e,he,hw⟩:=hs i y hy
   obtain⟨x,hx,_⟩:=hw.spec.2 j z hz
   exact h4 i j e x he hx
  ·obtain⟨e,he,hw⟩:=hs i y hy
   obtain⟨x,hx,hxy⟩:=hw.spec.2 j z hz
   exact hxy.rep (h5 i j e x he hx)
theorem fO.abS{es ys:List AV}(h:fO P W0 o fr H (.clip es) H')(hw:Kb es ys):fO P W0 o fr H (.clip ys) H':=by
 intro C a hI hH hop K Q hK
 exact h C a hI hH hop K Q (fun v C' h1 h2 h3 h4=>hK v C' h1 h2 h3 (Sg hw h4))
end
end Go.Av
namespace Go.Av
section
variable {P:Program} {W0:eo} {C:Ctx} {fr:Fr} {H:bu} {o:Oper}

end
end Go.Av
end

section
/- Calls of what writes into what is the caller's own: a part of the heap is handed over, and comes back. -/
namespace Go.Av

structure qy (P:Program) (B:eo) (f:FuncId) (xs:List AV) (Hin:bu) (r:AV) (Hout:bu):Prop where
 call:lE P f
 runs:∀(C:Ctx) (vals:Array Value),Inv B C→C.H=Hin→C.jX=[]→vals.size=xs.length→(∀(k:Nat) (x:AV),xs[k]? =some x→eB C x (vals.getD k undef))→
  Calls P f vals C.w (fun e w'=>∃v C',e=.returned v∧C'.w=w'∧Mem C C'∧Inv B C'∧C'.H=Hout∧C'.jX=[]∧eB C' r v)

section
variable {P:Program} {W0:eo} {C:Ctx} {fr:Fr} {a:Act} {H:bu} {o:Oper} {N:Nat}

theorem dO{B:eo}{f:FuncId}{fn:Func}{c:Code}{xs:List AV}{r:AV}{Hin Hr:bu}(hro:B.ro=none)(hf:P.funcs[f]? =some fn)(hb:fn.body=some c)(hname:(fn.name== "runtime.NumGoroutine")=false)(hN:fn.ntmps=N)(hxN:xs.length≤N)
  (h:ec P B N c ⟨dB 0 xs,Hin⟩ (fun e s=>(e=.normal∨e=.ret)∧∃q,NF P fn.results.toList s=some q∧bq B 1 ⟨[(0,q)],s.H⟩ ⟨[(0,r)],Hr⟩))(hdx:B.dx=[]:=by rfl):qy P B f xs Hin r Hr where
 call:=nj hf hname hb
 runs C vals hI hH hd hsz hrep:=Ex hf hb hN hxN hro h C vals hI hH hd hsz hrep hdx


def Ctx.qD(C:Ctx)(Hs:bu):Ctx:=
 {w:=C.w,H:=Hs,pl:=C.pl,eC:=fun b=>C.eC b∨(C.own b∧¬Ctx.own {C with H:=Hs,jX:=[]} b),jX:=[],qU:=0}

structure Part (Hs H:bu):Prop where
 next:Hs.next=H.next
 eZ:∀k v,lk Hs.eZ k=some v→lk H.eZ k=some v
 d_:∀l r,lk Hs.d_ l=some r→lk H.d_ l=some r

theorem MY{Hs:bu}(hp:Part Hs C.H){b:Nat}(h:(C.qD Hs).own b):C.own b:=by
 rcases h with⟨id,es,h1,h2,h3⟩|⟨r,h⟩|h
 ·refine .inl ⟨id,es, ?_,h2,h3⟩
  obtain⟨p,h4,h5⟩:=Option.map_eq_some_iff.1 h1
  exact Option.map_eq_some_iff.2 ⟨p,hp.eZ id p h4,h5⟩
 ·exact .inr (.inl ⟨r,hp.d_ b r h⟩)
 ·simp[Ctx.qD] at h

theorem Tb{Hs:bu}(hp:Part Hs C.H){b:Nat}(h:(C.qD Hs).bad b):C.bad b:=by
 rcases h with h|h|h
 ·exact .inl (MY hp h)
 ·exact .inr h
 ·exact .inl h.1

theorem sR{Hs H:bu}(hp:Part Hs H){id:Nat}{es:List AV}(h:Hs.get id=some es):H.get id=some es:=by
 obtain⟨p,h4,h5⟩:=Option.map_eq_some_iff.1 h
 exact Option.map_eq_some_iff.2 ⟨p,hp.eZ id p h4,h5⟩

theorem eB.qD{Hs:bu}(hp:Part Hs C.H){x:AV}{v:Value}(h:eB C x v):eB (C.qD Hs) x v:=
 h.sub rfl (by show C.H.next≤Hs.next;rw[hp.next];exact Nat.le_refl _) (fun id es _ h=>⟨es,sR hp h⟩) (fun _ _=>rfl) (fun b h=>Tb hp h)

theorem Inv.qD(hI:Inv W0 C){Hs:bu}(hp:Part Hs C.H):Inv (.of W0.w) (C.qD Hs) where
 fresh id es h:=by show id<Hs.next;rw[hp.next];exact hI.fresh id es (sR hp h)
 nil id es h:=hI.nil id es (sR hp h)
 obj id es h hn:=by
  have hO:=hI.obj id es (sR hp h) hn
  exact⟨hO.n,hO.cap,hO.gf,hO.one,hO.flat,fun i j e x v h1 h2 h3=>(hO.cell i j e x v h1 h2 h3).qD hp⟩
 sep i1 i2 e1 e2 h1 h2:=hI.sep i1 i2 e1 e2 (sR hp h1) (sR hp h2)
 eC id es h hn hb:=by
  rcases hb with hb|hb
  ·exact hI.eC id es (sR hp h) hn hb
  ·exact hb.2 (.inl ⟨id,es,h,hn,rfl⟩)
 qH id s h:=by
  obtain⟨p,h4,h5⟩:=Option.map_eq_some_iff.1 h
  exact hI.qH id s (Option.map_eq_some_iff.2 ⟨p,hp.eZ id p h4,h5⟩)
 f_ b h:=by
  rcases h with h|h
  ·exact hI.f_ b h
  ·exact hI.Ig h.1
 gA b h:=by
  rcases h with h|h
  ·exact hI.gA b h
  ·exact hI.O4 h.1
 size:=hI.size
 kK b h:=⟨(hI.kK b h).1,fun ho=>(hI.kK b h).2 (MY hp ho)⟩
 d_ l r h:=hI.d_ l r (hp.d_ l r h)
 jX d h:=by simp[Ctx.qD] at h
 CN:=.nil
 Dt:=fun _ _=>rfl
 gQ b h hb:=by
  rcases h with⟨r,h⟩|h
  ·rcases hb with hb|hb
   ·exact hI.gQ b (.inl ⟨r,hp.d_ b r h⟩) hb
   ·exact hb.2 (.inr (.inl ⟨r,h⟩))
  ·simp[Ctx.qD] at h
 rX:=rfl
 iN:=Nat.zero_le _
 gh:=trivial


inductive Ren (ok:AV→Prop) (m:List (Nat×Nat)):AV→AV→Prop
 |same (x:AV):ok x→Ren ok m x x
 |any (x:AV):Ren ok m x .any
 |view {id k off len:Nat}:lk m id=some k→Ren ok m (.view id off len) (.view k off len)
 |ref {id k i j:Nat}:lk m id=some k→Ren ok m (.ref id i j) (.ref k i j)
 |mref {id k:Nat}:lk m id=some k→Ren ok m (.mref id) (.mref k)
 |agg (cs cs':List AV):cs.length=cs'.length→(∀(k:Nat) (x x':AV),cs[k]? =some x→cs'[k]? =some x'→Ren ok m x x')→Ren ok m (.agg cs) (.agg cs')
 |tuple (cs cs':List AV):cs.length=cs'.length→(∀(k:Nat) (x x':AV),cs[k]? =some x→cs'[k]? =some x'→Ren ok m x x')→Ren ok m (.tuple cs) (.tuple cs')
 |bI (fn:Fn) (cs cs':List AV):cs.length=cs'.length→(∀(k:Nat) (x x':AV),cs[k]? =some x→cs'[k]? =some x'→Ren ok m x x')→Ren ok m (.bI fn cs) (.bI fn cs')
 |ifc (t:TypeId) (x x':AV):Ren ok m x x'→Ren ok m (.ifc t x) (.ifc t x')

structure LF (ok:AV→Prop) (m:List (Nat×Nat)) (es es':List AV):Prop where
 len:es.length=es'.length
 see:∀(k:Nat) (e e':AV),es[k]? =some e→es'[k]? =some e'→e.flat.length=e'.flat.length∧∀(j:Nat) (x x':AV),e.flat[j]? =some x→e'.flat[j]? =some x'→Ren ok m x x'
 rz:∀l,es'=[.rz l]→es=[.rz l]

theorem LF.same{ok:AV→Prop}{m:List (Nat×Nat)}{es:List AV}(h:∀e∈es,∀x∈e.flat,ok x):LF ok m es es:=
 ⟨rfl,fun k e e' h1 h2=>by
  rw[h1] at h2;cases h2
  exact⟨rfl,fun j x x' h3 h4=>by rw[h3] at h4;cases h4;exact .same x (h e (List.mem_of_getElem? h1) x (List.mem_of_getElem? h3))⟩,fun _ h=>h⟩

def Bo(ok:AV→Prop)(m:List (Nat×Nat)):List AV→List AV→Prop
 |[],[]=>True
 |x::l,y::r=>Ren ok m x y∧Bo ok m l r
 |_,_=>False

theorem Bo.spec{ok:AV→Prop}{m:List (Nat×Nat)}:∀{l r:List AV},Bo ok m l r→l.length=r.length∧∀(k:Nat) (x x':AV),l[k]? =some x→r[k]? =some x'→Ren ok m x x'
 |[],[],_=>⟨rfl,fun k x x' h=>by simp at h⟩
 |x::l,y::r,h=>by
  obtain⟨h1,h2⟩:=Bo.spec h.2
  refine⟨by simp[h1],fun k u v hu hv=> ?_⟩
  cases k with
  |zero=>simp at hu hv;subst hu hv;exact h.1
  |succ k=>simp at hu hv;exact h2 k u v hu hv
 |[],_::_,h=>h.elim
 |_::_,[],h=>h.elim
theorem Ren.ag{ok:AV→Prop}{m:List (Nat×Nat)}{cs cs':List AV}(h:Bo ok m cs cs'):Ren ok m (.agg cs) (.agg cs'):=.agg cs cs' h.spec.1 h.spec.2
theorem Ren.tp{ok:AV→Prop}{m:List (Nat×Nat)}{cs cs':List AV}(h:Bo ok m cs cs'):Ren ok m (.tuple cs) (.tuple cs'):=.tuple cs cs' h.spec.1 h.spec.2
theorem Ren.cl{ok:AV→Prop}{m:List (Nat×Nat)}{fn:Fn}{cs cs':List AV}(h:Bo ok m cs cs'):Ren ok m (.bI fn cs) (.bI fn cs'):=.bI fn cs cs' h.spec.1 h.spec.2
theorem LF.one{ok:AV→Prop}{m:List (Nat×Nat)}{e e':AV}(h:Bo ok m e.flat e'.flat)(hm:e'.mp=e.mp:=by rfl):LF ok m [e] [e']:=
 ⟨rfl,fun k a b h1 h2=>by
  cases k with
  |zero=>simp at h1 h2;subst h1 h2;exact⟨h.spec.1,h.spec.2⟩
  |succ k=>simp at h1,fun l hl=>by
  have h1:e'=.rz l:=by simpa using hl
  subst h1
  rw[AV.Wv hm.symm]⟩

def Gl(ok:AV→Prop)(H:bu)(g m:List (Nat×Nat))(Hout:bu):List (Nat×(Nat×List AV))→Prop
 |[]=>True
 |(k,(s,es'))::r=>((lk H.eZ k=some (s,es')∧g.all (fun p=>p.2 !=k)=true)∨∃i es,lk m i=some k∧lk Hout.eZ i=some (s,es)∧LF ok m es es')∧Gl ok H g m Hout r

theorem Gl.spec{ok:AV→Prop}{H:bu}{g m:List (Nat×Nat)}{Hout:bu}:∀{l:List (Nat×(Nat×List AV))},Gl ok H g m Hout l→∀{k s:Nat} {es':List AV},lk l k=some (s,es')→
  (lk H.eZ k=some (s,es')∧∀p∈g,p.2≠k)∨∃i es,lk m i=some k∧lk Hout.eZ i=some (s,es)∧LF ok m es es'
 |[],_,_,_,_,h=>by cases h
 |(q,(s,es))::l,hl,k,s',es',h=>by
  simp only[lk] at h
  split at h
  ·rename_i hm;subst hm;cases h
   refine hl.1.imp (fun h=>⟨h.1,fun p hp=> ?_⟩) id
   have:=List.all_eq_true.1 h.2 p hp
   simpa using this
  ·exact Gl.spec hl.2 h
theorem Gl.kept{ok:AV→Prop}{H:bu}{g m:List (Nat×Nat)}{Hout:bu}{k s:Nat}{es:List AV}{r:List (Nat×(Nat×List AV))}(h1:lk H.eZ k=some (s,es))(h2:g.all (fun p=>p.2 !=k)=true)(h3:Gl ok H g m Hout r):Gl ok H g m Hout ((k,(s,es))::r):=
 ⟨.inl ⟨h1,h2⟩,h3⟩
theorem Gl.new{ok:AV→Prop}{H:bu}{g m:List (Nat×Nat)}{Hout:bu}{k s:Nat}{es':List AV}{r:List (Nat×(Nat×List AV))}(i:Nat){es:List AV}(h1:lk m i=some k)(h2:lk Hout.eZ i=some (s,es))(h3:LF ok m es es')(h4:Gl ok H g m Hout r):Gl ok H g m Hout ((k,(s,es'))::r):=
 ⟨.inr ⟨i,es,h1,h2,h3⟩,h4⟩

def Yf(p n:Nat)(g m:List (Nat×Nat)):Bool:=m.all fun q=>(decide (q.1<p)&&(lk g q.1==some q.2))||q.2==n+q.1

def Ctx.back(C C2:Ctx)(H':bu):Ctx:={w:=C2.w,H:=H',pl:=fun k=>if k<C.H.next then C.pl k else C2.pl (k - C.H.next),eC:=C.eC,jX:=C.jX,qU:=C.qU}

theorem WU{ok:AV→Prop}{Hs Hin H':bu}{g m:List (Nat×Nat)}{nw:List Nat}{p:Nat}{B1:eo}{C2:Ctx}(hI:Inv W0 C)(hp:Part Hs C.H)(hB:B1.w=W0.w)
  (hH:si Hs g nw Hin.next Hin.eZ)(hnw:∀n∈nw,lk g n=none)(hginj:g.all (fun p=>g.all (fun q=>p.2 !=q.2||p.1==q.1))=true)(hgin:∀q∈g,(lk Hs.eZ q.2).isSome=true)(hlp:Hin.d_=Hs.d_)
  (hM:Mem {(C.qD Hs).re g Hin with qU:=p} C2)(hpin:p≤Hin.next)(Eo:Inv B1 C2)(EO:C2.jX=[])
  (hm:Yf p C.H.next g m=true)(hnext:H'.next=C.H.next+C2.H.next)(hback:Gl ok C.H g m C2.H H'.eZ)
  (hlps:∀l r,lk H'.d_ l=some r→lk C2.H.d_ l=some r∨(lk C.H.d_ l=some r∧lk Hs.d_ l=none))
  (mode:(∀x,ok x→Fu x)∨((∀x,ok x→b_ x)∧∀k v,lk C.H.eZ k=some v→(∀q∈g,q.2≠k)→lk Hs.eZ k=none)):
  Ext C (C.back C2 H')∧Inv W0 (C.back C2 H')∧∀x x' v,Ren ok m x x'→eB C2 x v→eB (C.back C2 H') x' v:=by
 have hs:C.w.heap.size≤C2.w.heap.size:=hM.below.size
 have hpr:C2.eC=(C.qD Hs).eC:=hM.eC
 have getS:∀{K:bu} {n:Nat} {es':List AV},K.get n=some es'→∃s,lk K.eZ n=some (s,es'):=fun{K n es'} h=>by
  obtain⟨⟨s,e⟩,h1,h2⟩:=Option.map_eq_some_iff.1 h
  simp only at h2;subst h2;exact⟨s,h1⟩
 have getO:∀{K:bu} {n s:Nat} {es':List AV},lk K.eZ n=some (s,es')→K.get n=some es':=fun{K n s es'} h=>by simp[bu.get,h]
 have gmem:∀{n k:Nat},lk g n=some k→k<C.H.next∧∃v,lk Hs.eZ k=some v:=fun{n k} h=>by
  obtain⟨v,hv⟩:=Option.isSome_iff_exists.1 (hgin _ (ni h))
  exact⟨hI.fresh k v.2 (getO (s:=v.1) (hp.eZ k v hv)),v,hv⟩
 have ginj:∀{n n' k:Nat},lk g n=some k→lk g n'=some k→n=n':=fun{n n' k} h1 h2=>by
  have:=List.all_eq_true.1 (List.all_eq_true.1 hginj _ (ni h1)) _ (ni h2)
  simpa using this
 have rePl:∀{n k:Nat},lk g n=some k→((C.qD Hs).re g Hin).pl n=C.pl k:=fun{n k} h=>by simp[Ctx.re,Ctx.qD,h]
 have mS:∀{i k:Nat},lk m i=some k→(i<p∧lk g i=some k)∨k=C.H.next+i:=fun{i k} h=>by
  have:=List.all_eq_true.1 hm _ (ni h)
  simpa using this
 -- what was handed over
 have passed:∀{b:Nat},((C.qD Hs).re g Hin).cells b→∃n k es,lk g n=some k∧C.H.get k=some es∧(C.pl k).nil=false∧(C.pl k).gf=b:=fun{b} h=>by
  obtain⟨n,es',h1,h2,h3⟩:=h
  obtain⟨s,h4⟩:=getS (K:=Hin) h1
  rcases(hH.spec h4).1 with⟨old,es,q1,q2,_⟩|⟨q,_⟩
  ·rw[rePl q1] at h2 h3
   exact⟨n,old,es,q1,getO (hp.eZ old _ q2),h2,h3⟩
  ·have:((C.qD Hs).re g Hin).pl n=⟨0,0,0,0,true⟩:=by simp[Ctx.re,hnw n q]
   rw[this] at h2;cases h2
 have ag2:∀{b:Nat},((C.qD Hs).re g Hin).own b→C.own b:=fun{b} h=>by
  rcases h with h|⟨r,h⟩|h
  ·obtain⟨n,k,es,_,h2,h3,h4⟩:=passed h
   exact .inl ⟨k,es,h2,h3,h4⟩
  ·exact .inr (.inl ⟨r,hp.d_ b r (by rw[←hlp];exact h)⟩)
  ·simp[Ctx.re,Ctx.qD] at h
 have keep:∀b,b<C.w.heap.size→¬((C.qD Hs).re g Hin).own b→C2.w.heap[b]? =C.w.heap[b]? :=fun b hb hn=>hM.keep b hb hn
 have ag3:∀{b:Nat},b<C.w.heap.size→C2.own b→((C.qD Hs).re g Hin).own b:=fun{b} hb h=>hM.own b hb h
 -- cells, records, and what is put off, are told apart by what lies there
 have cellHeap:∀{k:Nat} {es:List AV},C.H.get k=some es→(C.pl k).nil=false→∃o:Obj,C.w.heap[(C.pl k).gf]? =some o∧isD o:=fun{k es} h1 h2=>(hI.obj k es h1 h2).dat
 have keptFree:∀{k:Nat} {es:List AV},C.H.get k=some es→(C.pl k).nil=false→(∀q∈g,q.2≠k)→¬((C.qD Hs).re g Hin).own (C.pl k).gf:=fun{k es} h1 h2 h3 h=>by
  obtain⟨ob,hc,hcd⟩:=cellHeap h1 h2
  rcases h with h|⟨r,h⟩|h
  ·obtain⟨n,k',es',q1,q2,q3,q4⟩:=passed h
   have:=hI.sep k' k es' es q2 h1 q3 h2 q4
   exact h3 _ (ni q1) this
  ·exact hI.Ef (.inl ⟨r,hp.d_ _ r (by rw[←hlp];exact h)⟩) hc hcd
  ·simp[Ctx.re,Ctx.qD] at h
 -- an object behind the call
 have plO:∀{k:Nat},k<C.H.next→(C.back C2 H').pl k=C.pl k:=fun{k} h=>by simp[Ctx.back,h]
 have plN:∀{i k s:Nat} {es:List AV},lk m i=some k→lk C2.H.eZ i=some (s,es)→(C.back C2 H').pl k=C2.pl i∧(k<C.H.next→∃n,i=n∧lk g n=some k):=fun{i k s es} h h2=>by
  rcases mS h with⟨h3,h4⟩|h3
  ·refine⟨?_,fun _=>⟨i,rfl,h4⟩⟩
   rw[plO (gmem h4).1]
   have h5:=(hM.pins hpin).2 i es h3 (getO h2)
   rw[h5.2];exact(rePl h4).symm
  ·subst h3
   refine⟨?_,fun h=>by omega⟩
   have h1:¬C.H.next+i<C.H.next:=by omega
   have h2:C.H.next+i - C.H.next=i:=by omega
   show(if C.H.next+i<C.H.next then _ else _)=_
   rw[if_neg h1,h2]
 have objJ:∀{k:Nat} {es':List AV},(C.back C2 H').H.get k=some es'→∃s,lk H'.eZ k=some (s,es')∧((lk C.H.eZ k=some (s,es')∧(∀q∈g,q.2≠k)∧k<C.H.next)∨∃i es,lk m i=some k∧lk C2.H.eZ i=some (s,es)∧LF ok m es es'):=fun{k es'} h=>by
  obtain⟨s,h1⟩:=getS (K:=H') h
  refine⟨s,h1,(hback.spec h1).imp (fun h=>⟨h.1,h.2,hI.fresh k es' (getO h.1)⟩) id⟩
 have ownJ:∀b,(C.back C2 H').own b→C.own b∨C2.own b:=by
  rintro b (⟨k,es',h1,h2,h3⟩|⟨r,h⟩|h)
  ·obtain⟨s,_,⟨q1,q2,q3⟩|⟨i,es,q1,q2,_⟩⟩:=objJ h1
   ·rw[plO q3] at h2 h3;exact .inl (.inl ⟨k,es',getO q1,h2,h3⟩)
   ·rw[(plN q1 q2).1] at h2 h3;exact .inr (.inl ⟨i,es,getO q2,h2,h3⟩)
  ·rcases hlps b r h with h|h
   ·exact .inr (.inr (.inl ⟨r,h⟩))
   ·exact .inl (.inr (.inl ⟨r,h.1⟩))
  ·exact .inl (.inr (.inr h))
 have ext:Ext C (C.back C2 H'):={
  below:=⟨hM.below.os,hM.below.tape,hM.below.output,hs,fun k hk=>absurd hk (Nat.not_lt_zero k)⟩
  keep:=fun b hb hn=>keep b hb (fun h=>hn (ag2 h))
  own:=fun b hb h=>by
   rcases ownJ b h with h|h
   ·exact h
   ·exact ag2 (ag3 hb h)
  next:=by show C.H.next≤H'.next;rw[hnext];exact Nat.le_add_right _ _
  id:=fun k es' hk h=>by
   obtain⟨s,_,⟨q1,q2,q3⟩|⟨i,es,q1,q2,_⟩⟩:=objJ h
   ·exact⟨⟨es',getO q1⟩,plO q3⟩
   ·obtain⟨n,_,h3⟩:=(plN q1 q2).2 hk
    obtain⟨_,v,hv⟩:=gmem h3
    exact⟨⟨v.2,getO (s:=v.1) (hp.eZ k v hv)⟩,plO hk⟩
  eC:=rfl
  jX:=rfl
  qU:=rfl}
 -- what nobody owned behind the call is nobody's now
 have protOf:∀{b:Nat},C.own b→¬Ctx.own {C with H:=Hs,jX:=[]} b→C2.bad b:=fun{b} h1 h2=>.inr (by rw[hpr];exact .inr ⟨h1,h2⟩)
 have badJ:(∀k v,lk C.H.eZ k=some v→(∀q∈g,q.2≠k)→lk Hs.eZ k=none)→∀b,(C.back C2 H').bad b→C2.bad b:=by
  rintro hmd b ((⟨k,es',h1,h2,h3⟩|⟨r,h⟩|h)|h)
  ·obtain⟨s,_,⟨q1,q2,q3⟩|⟨i,es,q1,q2,_⟩⟩:=objJ h1
   ·rw[plO q3] at h2 h3
    obtain⟨ob,hc,hcd⟩:=cellHeap (getO q1) h2
    rw[h3] at hc
    refine protOf (.inl ⟨k,es',getO q1,h2,h3⟩) ?_
    rintro(⟨k',e',r1,r2,r3⟩|⟨r,h⟩|h)
    ·have:=hI.sep k' k e' es' (sR hp r1) (getO q1) r2 h2 (r3.trans h3.symm)
     subst this
     have hnone:=hmd k' _ q1 q2
     simp[bu.get,hnone] at r1
    ·exact hI.Ef (.inl ⟨r,hp.d_ b r h⟩) hc hcd
    ·simp at h
   ·rw[(plN q1 q2).1] at h2 h3;exact .inl (.inl ⟨i,es,getO q2,h2,h3⟩)
  ·rcases hlps b r h with h|⟨h,h'⟩
   ·exact .inl (.inr (.inl ⟨r,h⟩))
   ·refine protOf (.inr (.inl ⟨r,h⟩)) ?_
    rintro(⟨k',e',r1,r2,r3⟩|⟨r',h2⟩|h2)
    ·obtain⟨ob,hc,hcd⟩:=cellHeap (sR hp r1) r2
     have r3':(C.pl k').gf=b:=r3
     rw[r3'] at hc
     exact hI.Ef (.inl ⟨r,h⟩) hc hcd
    ·have h2':lk Hs.d_ b=some r':=h2
     rw[h'] at h2';cases h2'
    ·simp at h2
  ·refine protOf (.inr (.inr h)) ?_
   rintro(⟨k',e',r1,r2,r3⟩|⟨r',h2⟩|h2)
   ·obtain⟨ob,hc,hcd⟩:=cellHeap (sR hp r1) r2
    have r3':(C.pl k').gf=b:=r3
    rw[r3'] at hc
    exact hI.Ef (.inr h) hc hcd
   ·have q1:=hI.d_ b r' (hp.d_ b r' h2)
    have q2:=hI.jX b h
    rw[q1] at q2;cases q2
   ·simp at h2
  ·exact .inr (by rw[hpr];exact .inl h)
 have atom:∀x v,ok x→eB C2 x v→eB (C.back C2 H') x v:=fun x v hx hr=>by
  rcases mode with h|⟨h1,h2⟩
  ·exact(h x hx).rep hr
  ·exact hr.move (h1 x hx) (Nat.le_refl _) (fun b _ q2=>⟨rfl,fun h=>q2 (badJ h2 b h)⟩)
 have repJ:∀x x' v,Ren ok m x x'→eB C2 x v→eB (C.back C2 H') x' v:=by
  intro x x' v hs
  induction hs generalizing v with
  |same x hx=>exact atom x v hx
  |any x=>intro _;exact .any v
  | @view id k off len hk=>
   intro h
   match h with
   |.view _ _ _ _ h1 h2 h3=>
   refine .view _ _ _ _ ?_ (fun es' he=> ?_) h3
   ·show k<H'.next
    rw[hnext]
    rcases mS hk with⟨_,h5⟩|rfl
    ·have:=(gmem h5).1;omega
    ·omega
   ·obtain⟨s,_,⟨q1,q2,q3⟩|⟨i,es,q1,q2,_⟩⟩:=objJ he
    ·exfalso
     rcases mS hk with⟨_,h5⟩|h5
     ·exact q2 _ (ni h5) rfl
     ·omega
    ·have hi:i=id:=by
      rcases mS hk with⟨_,h5⟩|h5 <;> rcases mS q1 with⟨_,h6⟩|h6
      ·exact(ginj h5 h6).symm
      ·have:=(gmem h5).1;omega
      ·have:=(gmem h6).1;omega
      ·omega
     subst hi
     rw[(plN q1 q2).1];exact h2 es (getO q2)
  | @ref id k i j hk=>
   intro h
   match h with
   |.ref _ _ _ _ h1 h2 h3=>
   refine .ref _ _ _ _ ?_ (fun es' he=> ?_) h3
   ·show k<H'.next
    rw[hnext]
    rcases mS hk with⟨_,h5⟩|rfl
    ·have:=(gmem h5).1;omega
    ·omega
   ·obtain⟨s,_,⟨q1,q2,q3⟩|⟨i',es,q1,q2,_⟩⟩:=objJ he
    ·exfalso
     rcases mS hk with⟨_,h5⟩|h5
     ·exact q2 _ (ni h5) rfl
     ·omega
    ·have hi:i'=id:=by
      rcases mS hk with⟨_,h5⟩|h5 <;> rcases mS q1 with⟨_,h6⟩|h6
      ·exact(ginj h5 h6).symm
      ·have:=(gmem h5).1;omega
      ·have:=(gmem h6).1;omega
      ·omega
     subst hi
     rw[(plN q1 q2).1];exact h2 es (getO q2)
  | @mref id k hk=>
   intro h
   match h with
   |.mref _ _ h1 h2 h3=>
   refine .mref _ _ ?_ (fun es' he=> ?_) h3
   ·show k<H'.next
    rw[hnext]
    rcases mS hk with⟨_,h5⟩|rfl
    ·have:=(gmem h5).1;omega
    ·omega
   ·obtain⟨s,_,⟨q1,q2,q3⟩|⟨i',es,q1,q2,_⟩⟩:=objJ he
    ·exfalso
     rcases mS hk with⟨_,h5⟩|h5
     ·exact q2 _ (ni h5) rfl
     ·omega
    ·have hi:i'=id:=by
      rcases mS hk with⟨_,h5⟩|h5 <;> rcases mS q1 with⟨_,h6⟩|h6
      ·exact(ginj h5 h6).symm
      ·have:=(gmem h5).1;omega
      ·have:=(gmem h6).1;omega
      ·omega
     subst hi
     rw[(plN q1 q2).1];exact h2 es (getO q2)
  |agg cs cs' hl _ ih=>
   intro h
   match h with
   |.agg _ vs h1 h2 h3=>
   refine .agg cs' vs (h1.trans hl) h2 (fun k x' hx'=> ?_)
   have hk:k<cs.length:=by rw[hl];exact(List.getElem?_eq_some_iff.1 hx').1
   exact ih k cs[k] x' (List.getElem?_eq_getElem hk) hx' _ (h3 k _ (List.getElem?_eq_getElem hk))
  |tuple cs cs' hl _ ih=>
   intro h
   match h with
   |.tuple _ vs h1 h3=>
   refine .tuple cs' vs (h1.trans hl) (fun k x' hx'=> ?_)
   have hk:k<cs.length:=by rw[hl];exact(List.getElem?_eq_some_iff.1 hx').1
   exact ih k cs[k] x' (List.getElem?_eq_getElem hk) hx' _ (h3 k _ (List.getElem?_eq_getElem hk))
  |bI fn cs cs' hl _ ih=>
   intro h
   match h with
   |.bI _ _ vs h1 h3=>
   refine .bI fn cs' vs (h1.trans hl) (fun k x' hx'=> ?_)
   have hk:k<cs.length:=by rw[hl];exact(List.getElem?_eq_some_iff.1 hx').1
   exact ih k cs[k] x' (List.getElem?_eq_getElem hk) hx' _ (h3 k _ (List.getElem?_eq_getElem hk))
  |ifc t x x' _ ih=>
   intro h
   match h with
   |.ifc _ _ v h1=>exact .ifc t x' v (ih v h1)
 refine⟨ext, ?_,repJ⟩
 have newBlk:∀{i s:Nat} {es:List AV} {k0:Nat} {wV:List AV},lk C2.H.eZ i=some (s,es)→(C2.pl i).nil=false→C.H.get k0=some wV→(C.pl k0).nil=false→(∀q∈g,q.2≠k0)→(C2.pl i).gf≠(C.pl k0).gf:=fun{i s es k0 wV} h1 h2 h3 h4 h5 he=>by
  have hlt:=hI.lt h3 h4
  refine keptFree h3 h4 h5 (ag3 hlt ?_)
  exact .inl ⟨i,es,getO h1,h2,he⟩
 exact{
  fresh:=fun k es' h=>by
   show k<H'.next
   rw[hnext]
   obtain⟨s,_,⟨q1,q2,q3⟩|⟨i,es,q1,q2,_⟩⟩:=objJ h
   ·omega
   ·rcases mS q1 with⟨_,h5⟩|rfl
    ·have:=(gmem h5).1;omega
    ·have:=Eo.fresh i es (getO q2);omega
  nil:=fun k es' h hn=>by
   obtain⟨s,_,⟨q1,q2,q3⟩|⟨i,es,q1,q2,q3⟩⟩:=objJ h
   ·rw[plO q3] at hn;exact hI.nil k es' (getO q1) hn
   ·rw[(plN q1 q2).1] at hn
    have:=Eo.nil i es (getO q2) hn
    subst this
    exact List.eq_nil_of_length_eq_zero q3.len.symm
  obj:=fun k es' h hn=>by
   obtain⟨s,_,⟨q1,q2,q3⟩|⟨i,es,q1,q2,q3⟩⟩:=objJ h
   ·rw[plO q3] at hn ⊢
    exact(hI.obj k es' (getO q1) hn).ext ext (keep _ (hI.lt (getO q1) hn) (keptFree (getO q1) hn q2))
   ·rw[(plN q1 q2).1] at hn ⊢
    have hO:=Eo.obj i es (getO q2) hn
    have bk:∀{q:Nat} {e':AV},es'[q]? =some e'→∃e,es[q]? =some e∧e.flat.length=e'.flat.length∧∀(j:Nat) (x x':AV),e.flat[j]? =some x→e'.flat[j]? =some x'→Ren ok m x x':=fun{q e'} hq=>by
     have hk:q<es.length:=by rw[q3.len];exact(List.getElem?_eq_some_iff.1 hq).1
     exact⟨es[q],List.getElem?_eq_getElem hk,q3.see q _ e' (List.getElem?_eq_getElem hk) hq⟩
    refine⟨hO.n.trans q3.len,hO.cap,hO.Oq q3.rz,hO.one,fun q e' he'=> ?_,fun q j e' x' v he' hx' hv=> ?_⟩
    ·obtain⟨e,h1,h2,_⟩:=bk he'
     rw[←h2];exact hO.flat q e h1
    ·obtain⟨e,h1,h2,h3⟩:=bk he'
     have hj:j<e.flat.length:=by rw[h2];exact(List.getElem?_eq_some_iff.1 hx').1
     exact repJ _ _ _ (h3 j _ x' (List.getElem?_eq_getElem hj) hx') (hO.cell q j e _ v h1 (List.getElem?_eq_getElem hj) hv)
  sep:=fun k1 k2 e1 e2 h1 h2 n1 n2 hb=>by
   obtain⟨s1,_,⟨a1,a2,a3⟩|⟨i1,es1,a1,a2,_⟩⟩:=objJ h1 <;> obtain⟨s2,_,⟨b1,b2,b3⟩|⟨i2,V2,b1,b2,_⟩⟩:=objJ h2
   ·rw[plO a3] at n1 hb;rw[plO b3] at n2 hb
    exact hI.sep k1 k2 e1 e2 (getO a1) (getO b1) n1 n2 hb
   ·rw[plO a3] at n1 hb;rw[(plN b1 b2).1] at n2 hb
    exact absurd hb.symm (newBlk b2 n2 (getO a1) n1 a2)
   ·rw[(plN a1 a2).1] at n1 hb;rw[plO b3] at n2 hb
    exact absurd hb (newBlk a2 n1 (getO b1) n2 b2)
   ·rw[(plN a1 a2).1] at n1 hb;rw[(plN b1 b2).1] at n2 hb
    have:=Eo.sep i1 i2 es1 V2 (getO a2) (getO b2) n1 n2 hb
    subst this
    rw[a1] at b1;exact Option.some.inj b1
  eC:=fun k es' h hn hb=>by
   obtain⟨s,_,⟨q1,q2,q3⟩|⟨i,es,q1,q2,q3⟩⟩:=objJ h
   ·rw[plO q3] at hn hb;exact hI.eC k es' (getO q1) hn hb
   ·rw[(plN q1 q2).1] at hn hb
    exact Eo.eC i es (getO q2) hn (by rw[hpr];exact .inl hb)
  qH:=fun k s h hn=>by
   obtain⟨⟨s',es'⟩,h1,h2⟩:=Option.map_eq_some_iff.1 h
   simp only at h2;subst h2
   rcases hback.spec h1 with⟨q1,q2⟩|⟨i,es,q1,q2,_⟩
   ·have q3:=hI.fresh k es' (getO q1)
    rw[plO q3] at hn ⊢;exact hI.qH k _ (by simp[bu.sz,q1]) hn
   ·rw[(plN q1 q2).1] at hn ⊢;exact Eo.qH i _ (by simp[bu.sz,q2]) hn
  f_:=fun b hb=>Nat.lt_of_lt_of_le (hI.f_ b hb) hs
  gA:=hI.gA
  size:=by have:=Eo.size;rw[hB] at this;exact this
  kK:=fun b hb=>⟨by have:=(Eo.kK b (by rw[hB];exact hb)).1;rw[hB] at this;exact this,fun ho=>by
   rcases ownJ b ho with h|h
   ·exact(hI.kK b hb).2 h
   ·exact(Eo.kK b (by rw[hB];exact hb)).2 h⟩
  d_:=fun l r h=>by
   rcases hlps l r h with h|⟨h,h'⟩
   ·exact Eo.d_ l r h
   ·have h1:=hI.d_ l r h
    rw[←h1]
    refine keep l (Array.getElem?_eq_some_iff.1 h1).1 ?_
    rintro(h2|⟨r',h2⟩|h2)
    ·obtain⟨n,k,es,_,q2,q3,q4⟩:=passed h2
     obtain⟨ob,hc,hcd⟩:=cellHeap q2 q3
     rw[q4,h1] at hc;cases hc;rcases hcd with⟨_,_,h⟩|⟨_,_,h⟩ <;> cases h
    ·have h2':lk Hin.d_ l=some r':=h2
     rw[hlp,h'] at h2';cases h2'
    ·simp[Ctx.re,Ctx.qD] at h2
  jX:=fun d h=>by
   have h1:=hI.jX d h
   rw[←h1]
   refine keep d (Array.getElem?_eq_some_iff.1 h1).1 ?_
   rintro(h2|⟨r',h2⟩|h2)
   ·obtain⟨n,k,es,_,q2,q3,q4⟩:=passed h2
    obtain⟨ob,hc,hcd⟩:=cellHeap q2 q3
    rw[q4,h1] at hc;cases hc;rcases hcd with⟨_,_,h⟩|⟨_,_,h⟩ <;> cases h
   ·have q1:=hI.d_ d r' (hp.d_ d r' (by rw[←hlp];exact h2))
    rw[h1] at q1;cases q1
   ·simp[Ctx.re,Ctx.qD] at h2
  CN:=hI.CN
  Dt:=hI.Dt
  gQ:=fun b h hb=>by
   rcases h with⟨r,h⟩|h
   ·rcases hlps b r h with h|⟨h,_⟩
    ·exact Eo.gQ b (.inl ⟨r,h⟩) (by rw[hpr];exact .inl hb)
    ·exact hI.gQ b (.inl ⟨r,h⟩) hb
   ·exact hI.gQ b (.inr h) hb
  rX:=hI.rX
  iN:=Nat.le_trans hI.iN ext.next
  gh:=W0.st C _ ext.mem hI.iN hI.gh}

theorem Inv.UT{B1:eo}{p:Nat}(hI:Inv (.of W0.w) C)(hB:B1.w=W0.w)(hp:B1.p=p)(hle:p≤C.H.next)(hd:C.jX=[])(hG:B1.G {C with qU:=p}):Inv B1 {C with qU:=p} where
 fresh:=hI.fresh
 nil:=hI.nil
 obj id es h hn:=by
  have hO:=hI.obj id es h hn
  exact⟨hO.n,hO.cap,hO.gf,hO.one,hO.flat,fun i j e x v h1 h2 h3=>(hO.cell i j e x v h1 h2 h3).sub rfl (Nat.le_refl _) (fun id es _ h=>⟨es,h⟩) (fun _ _=>rfl) (fun b h=>h)⟩
 sep:=hI.sep
 eC:=hI.eC
 qH:=hI.qH
 f_:=hI.f_
 gA b h:=by rw[hB];exact hI.gA b h
 size:=by rw[hB];exact hI.size
 kK b h:=by rw[hB] at h ⊢;exact hI.kK b h
 d_:=hI.d_
 jX:=hI.jX
 CN:=hI.CN
 Dt _ _:=hd
 gQ:=hI.gQ
 rX:=hp.symm
 iN:=hle
 gh:=hG

def LD(H:bu):List (Nat×(Nat×List AV))→Prop
 |[]=>True
 |(k,v)::r=>lk H.eZ k=some v∧LD H r
theorem LD.spec{H:bu}:∀{l:List (Nat×(Nat×List AV))},LD H l→∀k v,lk l k=some v→lk H.eZ k=some v
 |[],_,_,_,h=>by cases h
 |(q,u)::l,hl,k,v,h=>by
  simp only[lk] at h
  split at h
  ·rename_i hq;subst hq;cases h;exact hl.1
  ·exact LD.spec hl.2 k v h

structure Pass (ok:AV→Prop) (fr fr':List (Nat×AV)) (H Hs Hin Hout H':bu) (g m:List (Nat×Nat)) (nw:List Nat) (p:Nat) (r r':AV):Prop where
 next:Hs.next=H.next
 part:LD H Hs.eZ
 inj:g.all (fun p=>g.all (fun q=>p.2 !=q.2||p.1==q.1))=true
 lt:g.all (fun p=>decide (p.1<Hin.next))=true
 pP:nw.all (fun n=>(lk g n).isNone&&decide (n<Hin.next))=true
 p9:g.all (fun q=>(lk Hs.eZ q.2).isSome)=true
 held:si Hs g nw Hin.next Hin.eZ
 seen:Seen Hs g nw fr fr'
 dh:Hin.d_=Hs.d_
 pM:decide (p≤Hin.next)=true
 map:Yf p H.next g m=true
 next':H'.next=H.next+Hout.next
 back:Gl ok H g m Hout H'.eZ
 d_:(Hs.d_=[]∧H'.d_=H.d_)∨(Hs.d_=H.d_∧H'.d_=Hout.d_)
 mode:(∀x,ok x→Fu x)∨((∀x,ok x→b_ x)∧H.eZ.all (fun e=>g.any (fun q=>q.2==e.1)||(lk Hs.eZ e.1).isNone)=true)
 qc:Ren ok m r r'

def Ctx.sub(C:Ctx)(Hs Hin:bu)(g:List (Nat×Nat))(p:Nat):Ctx:={(C.qD Hs).re g Hin with qU:=p}

theorem Pass.HW{ok:AV→Prop}{fr fr':List (Nat×AV)}{H Hs Hin Hout H':bu}{g m:List (Nat×Nat)}{nw:List Nat}{p:Nat}{r r':AV}(h:Pass ok fr fr' H Hs Hin Hout H' g m nw p r r'):Part Hs H:=
 ⟨h.next,h.part.spec,fun l r hl=>by
  rcases h.d_ with⟨h1,_⟩|⟨h1,_⟩
  ·rw[h1] at hl;cases hl
  ·rw[h1] at hl;exact hl⟩

theorem Pass.ZO{ok:AV→Prop}{fr fr':List (Nat×AV)}{H Hs Hin Hout H':bu}{g m:List (Nat×Nat)}{nw:List Nat}{p:Nat}{r r':AV}{n:Nat}{vals:Array Value}(h:Pass ok fr fr' H Hs Hin Hout H' g m nw p r r')
  (hI:Inv W0 C)(hH:C.H=H)(hsz:vals.size=n)(hrep:∀t x,lk fr t=some x→eB C x (vals.getD t undef)):
  Rel (.of W0.w) n (lk fr') Hin ((C.qD Hs).re g Hin) {tmps:=vals,defers:=[]}:=by
 have hp:=h.HW
 rw[←hH] at hp
 have Jf:Rel (.of W0.w) n (lk fr) Hs (C.qD Hs) {tmps:=vals,defers:=[]}:=⟨rfl,hI.qD hp,hsz,rfl,fun t x hx=>(hrep t x hx).qD hp⟩
 exact(KZ (st:=⟨fr,Hs⟩) g nw h.inj h.lt h.pP h.held h.seen (by simp[Cs]) h.dh Jf).2

theorem wu{x:AV}{v:Value}{p:Nat}(h:eB C x v):eB {C with qU:=p} x v:=
 h.sub rfl (Nat.le_refl _) (fun id es _ h=>⟨es,h⟩) (fun _ _=>rfl) (fun b h=>h)

theorem Pass.Um{ok:AV→Prop}{fr fr':List (Nat×AV)}{H Hs Hin Hout H':bu}{g m:List (Nat×Nat)}{nw:List Nat}{p:Nat}{r r':AV}{B1:eo}{C2:Ctx}(h:Pass ok fr fr' H Hs Hin Hout H' g m nw p r r')
  (hI:Inv W0 C)(hH:C.H=H)(hB:B1.w=W0.w)(hM:Mem (C.sub Hs Hin g p) C2)(Eo:Inv B1 C2)(QM:C2.H=Hout)(EO:C2.jX=[]):
  Ext C (C.back C2 H')∧Inv W0 (C.back C2 H')∧∀v,eB C2 r v→eB (C.back C2 H') r' v:=by
 have hp:=h.HW
 subst hH QM
 obtain⟨h1,h2,h3⟩:=WU (ok:=ok) (H':=H') (m:=m) (nw:=nw) hI hp hB h.held (fun n hn=>by
   have:=List.all_eq_true.1 h.pP n hn
   simp at this;exact this.1) h.inj (fun q hq=>List.all_eq_true.1 h.p9 q hq) h.dh hM (of_decide_eq_true h.pM) Eo EO h.map h.next' h.back (fun l r hl=>by
   rcases h.d_ with⟨q1,q2⟩|⟨q1,q2⟩
   ·rw[q2] at hl;exact .inr ⟨hl,by rw[q1];rfl⟩
   ·rw[q2] at hl;exact .inl hl) (h.mode.imp id fun⟨q1,q2⟩=>⟨q1,fun k v hk hq=>by
   have:=List.all_eq_true.1 q2 _ (ni hk)
   simp only[Bool.or_eq_true,List.any_eq_true,beq_iff_eq,Option.isNone_iff_eq_none] at this
   rcases this with⟨q,hq1,hq2⟩|h
   ·exact absurd hq2 (hq q hq1)
   ·exact h⟩)
 exact⟨h1,h2,fun v hv=>h3 r r' v h.qc hv⟩

theorem call3{ok:AV→Prop}{f:FuncId}{ys xs:List AV}{r r':AV}{Hs Hin Hout H':bu}{g m:List (Nat×Nat)}{nw:List Nat}{p:Nat}{B1:eo}{vals:Array Value}(hf:qy P B1 f xs Hin r Hout)(hB:B1.w=W0.w)(hBp:B1.p=p)
  (h:Pass ok (dB 0 ys) (dB 0 xs) H Hs Hin Hout H' g m nw p r r')(hl:xs.length=ys.length)(hI:Inv W0 C)(hH:C.H=H)(hsz:vals.size=ys.length)(hrep:∀t x,lk (dB 0 ys) t=some x→eB C x (vals.getD t undef))
  (hG:B1.G (C.sub Hs Hin g p)):
  Calls P f vals C.w (fun e w'=>∃v C',e=.returned v∧C'.w=w'∧Ext C C'∧Inv W0 C'∧C'.H=H'∧eB C' r' v):=by
 have h1:=h.ZO hI hH hsz hrep
 have h2:Inv B1 (C.sub Hs Hin g p):=h1.inv.UT (W0:=W0) hB hBp (of_decide_eq_true h.pM) rfl hG
 refine(hf.runs (C.sub Hs Hin g p) vals h2 rfl rfl (by rw[hl];exact hsz) (fun k x hx=>wu (zi h1 k x hx))).mono ?_
 rintro e w' ⟨v,C2,rfl,rfl,hM,Eo,QM,EO,hr⟩
 obtain⟨q1,q2,q3⟩:=h.Um hI hH hB hM Eo QM EO
 exact⟨v,C.back C2 H',rfl,rfl,q1,q2,rfl,q3 v hr⟩

end
end Go.Av
end

section
/- Ranges over functions: the statement, its rounds, and the calls of yield. -/
namespace Go.Av

def qb:Code→List (Array Tmp×Code×Code)
 |.seq a b=>qb a++qb b
 |.cond _ a b=>qb a++qb b
 |.block _ c=>qb c
 |.loop c=>qb c
 |.scope c=>qb c
 |.rangeFunc _ ps a b=>(ps,a,b)::(qb a++qb b)
 |_=>[]

structure v_ (rec:Loop) (fn:Func) (k N:Nat):Prop where
 ready:rec.state=.ready
 none:rec.pending=none
 code:(fn.body.bind fun c=>(qb c)[k]?)=some (rec.params,rec.assign,rec.body)
 size:rec.tmps.size=N

def gy(rec:Loop)(j:Code):Bool→Loop
 |true=>rec
 |false=>{rec with state:=.done,pending:=some j}

def Kw(rec:Loop):Option Code→Loop
 |none=>rec
 |some c=>gy rec c false

theorem v_.params{rec:Loop}{fn:Func}{k N:Nat}{ps:Array Tmp}{zA bd:Code}(h:v_ rec fn k N)(hc:(fn.body.bind fun c=>(qb c)[k]?)=some (ps,zA,bd)):rec.params=ps:=by
 have:=h.code
 rw[hc] at this
 simp only[Option.some.injEq,Prod.mk.injEq] at this
 exact this.1.symm

theorem v_.Kw{rec:Loop}{fn:Func}{k N:Nat}(h:v_ rec fn k N)(j:Option Code):({rec with state:=if j.isNone then .ready else .done,pending:=j}:Loop)=Kw rec j:=by
 have h1:=h.ready
 have h2:=h.none
 cases rec
 simp only at h1 h2
 subst h1 h2
 cases j <;> rfl

def eo.it(W:World)(p:Nat)(rec:Loop)(frl:List (Nat×AV)):eo where
 w:=W
 p:=p
 ro:=none
 G C:=C.qU=p∧∀t x,lk frl t=some x→kX p x∧eB C x (rec.tmps.getD t undef)
 st C C' hM hp h:=⟨hM.qU.trans h.1,fun t x hx=>⟨(h.2 t x hx).1,(h.2 t x hx).2.mem hM hp (by rw[h.1];exact(h.2 t x hx).1)⟩⟩
 dx:=[]

def eo.rd(W:World)(p:Nat)(l:Nat):eo:=⟨W,p,some l,fun _=>True,fun _ _ _ _ _=>trivial,[]⟩

section
variable {P:Program} {W0:eo} {C:Ctx} {fr:Fr} {a:Act} {H:bu} {o:Oper} {N:Nat}

theorem ahb{C':Ctx}(hI:Inv W0 C){b:Nat}(hb:C.sp b){ob:Obj}(hw:C'.w=C.w.putObj b ob)(hobjs:C'.H.eZ=C.H.eZ)(hnext:C'.H.next=C.H.next)(hpl:C'.pl=C.pl)(hprot:C'.eC=C.eC)(hpin:C'.qU=C.qU)
  (hsp:∀b,C'.sp b→C.sp b)(hlps:∀l r,lk C'.H.d_ l=some r→C'.w.heap[l]? =some (.loop r))(hdfs:∀d,d∈C'.jX→C'.w.heap[d]? =some (.deferred (some [])))(hdnd:C'.jX.Nodup)(hrod:∀l,W0.ro=some l→C'.jX=[]):
  Mem C C'∧Inv W0 C'∧∀x v,eB C x v→eB C' x v:=by
 obtain⟨ob0,hd,hnc⟩:=hI.Lj hb
 have hsz:C'.w.heap.size=C.w.heap.size:=by rw[hw];simp
 have hne:∀q,q≠b→C'.w.heap[q]? =C.w.heap[q]? :=fun q hq=>by rw[hw];exact World.putObj_heap_other hq
 have hcell:∀{q:Nat} {arr:Array Value} {el:TypeId} {fz:Nat×Nat},C.w.heap[q]? =some (.cells arr el fz)→q≠b:=fun{q arr el fz} h hq=>by
  subst hq;rw[hd] at h;exact hnc _ _ _ (Option.some.inj h)
 have hcellD:∀{q:Nat} {o:Obj},C.w.heap[q]? =some o→isD o→q≠b:=fun{q o} h h2 hq=>by
  subst hq;exact hI.Ef hb h h2
 have hget:∀id,C'.H.get id=C.H.get id:=fun id=>by simp[bu.get,hobjs]
 have hown:∀q,C'.own q→C.own q:=by
  rintro q (⟨id,es,h1,h2,h3⟩|h)
  ·exact .inl ⟨id,es,by rw[←hget];exact h1,by rw[←hpl];exact h2,by rw[←hpl];exact h3⟩
  ·exact .inr (hsp q h)
 have hbad:∀q,C'.bad q→C.bad q:=fun q h=>h.imp (hown q) (fun h=>by rw[←hprot];exact h)
 have hM:Mem C C':=⟨by rw[hw];exact⟨rfl,rfl,rfl,by simp,fun k hk=>absurd hk (Nat.not_lt_zero k)⟩,fun q _ hq=>hne q (fun h=>hq (.inr (h▸hb))),fun q _ h=>hown q h,hprot,hpin,fun hp=>⟨by rw[hpin,hnext];exact hp,fun k es' _ hg=>⟨⟨es',by rw[←hget];exact hg⟩,by rw[hpl]⟩⟩⟩
 have hholds:∀{q i:Nat} {v:Value},Holds C.w q i v→Holds C'.w q i v:=fun{q i v} h=>by
  refine⟨?_,h.2⟩
  have hq:q≠b:=fun hq=>by
   subst hq
   have:=h.1
   unfold World.cell? at this
   rw[hd] at this
   cases ob0 <;> first|exact hnc _ _ _ rfl|(simp at this)
  rw[World.cell?_of_block (w:=C.w) (a:=⟨q,i,none⟩) (hne q hq)]
  exact h.1
 have hrep:∀x v,eB C x v→eB C' x v:=by
  intro x v h
  induction h with
  |any v=>exact .any v
  |imm v hv=>exact .imm v hv
  |slNil a cap=>exact .slNil a cap
  |sl es q off sz cap c hlt hbd hc hf hcell _ ih=>exact .sl es q off sz cap c (by rw[hsz];exact hlt) (fun h=>hbd (hbad q h)) hc hf (fun i j e x he hx=>hholds (hcell i j e x he hx)) ih
  |clipNil a=>exact .clipNil a
  |clip es q off sz c hlt hbd hf hcell _ ih=>exact .clip es q off sz c (by rw[hsz];exact hlt) (fun h=>hbd (hbad q h)) hf (fun i j e x he hx=>hholds (hcell i j e x he hx)) ih
  |view id off len v hid hs h1=>exact .view id off len v (by rw[hnext];exact hid) (fun es he=>by rw[hpl];exact hs es (by rw[←hget];exact he)) h1
  |ref id i j v hid hs h1=>exact .ref id i j v (by rw[hnext];exact hid) (fun es he=>by rw[hpl];exact hs es (by rw[←hget];exact he)) h1
  |mref id v hid hs h1=>exact .mref id v (by rw[hnext];exact hid) (fun es he=>by rw[hpl];exact hs es (by rw[←hget];exact he)) h1
  |pp fl j q off c hlt hbd hcell _ ih=>exact .pp fl j q off c (by rw[hsz];exact hlt) (fun h=>hbd (hbad q h)) (fun k x hx=>hholds (hcell k x hx)) ih
  |agg cs vs hs h1 _ ih=>exact .agg cs vs hs h1 ih
  |tuple cs vs hs _ ih=>exact .tuple cs vs hs ih
  |ifc t x v _ ih=>exact .ifc t x v ih
  |bI fn caps vs hs _ ih=>exact .bI fn caps vs hs ih
 refine⟨hM, ?_,hrep⟩
 exact{
  fresh:=fun id es h=>by rw[hnext];exact hI.fresh id es (by rw[←hget];exact h)
  nil:=fun id es h hn=>hI.nil id es (by rw[←hget];exact h) (by rw[←hpl];exact hn)
  obj:=fun id es h hn=>by
   rw[hget] at h;rw[hpl] at hn ⊢
   have hO:=hI.obj id es h hn
   obtain⟨ob,h1,h2⟩:=hO.dat
   have hq:=hcellD h1 h2
   have hc:∀o,C'.w.cell? ⟨(C.pl id).gf,o,none⟩=C.w.cell? ⟨(C.pl id).gf,o,none⟩:=fun o=>World.cell?_of_block (w:=C.w) (a:=⟨_,o,none⟩) (hne _ hq)
   exact⟨hO.n,hO.cap,by rw[hne _ hq];exact hO.gf,fun o v hv=>hO.one o v (by rw[←hc o];exact hv),hO.flat,fun i j e x v h1 h2 h3=>hrep _ _ (hO.cell i j e x v h1 h2 (by rw[←hc];exact h3))⟩
  sep:=fun i1 i2 e1 e2 h1 h2 h3 h4 h5=>hI.sep i1 i2 e1 e2 (by rw[←hget];exact h1) (by rw[←hget];exact h2) (by rw[←hpl];exact h3) (by rw[←hpl];exact h4) (by rw[←hpl];exact h5)
  eC:=fun id es h hn hp=>hI.eC id es (by rw[←hget];exact h) (by rw[←hpl];exact hn) (by rw[hprot,hpl] at hp;exact hp)
  qH:=fun id s h hn=>by
   rw[hpl] at hn ⊢
   exact hI.qH id s (by simpa [bu.sz,hobjs] using h) hn
  f_:=fun q h=>by rw[hsz];exact hI.f_ q (by rw[←hprot];exact h)
  gA:=fun q h=>hI.gA q (by rw[←hprot];exact h)
  size:=by rw[hsz];exact hI.size
  kK:=fun q h=>⟨by
   rw[←(hI.kK q h).1]
   exact hne q (fun hq=>(hI.kK q h).2 (.inr (hq▸hb))),fun ho=>(hI.kK q h).2 (hown q ho)⟩
  d_:=hlps
  jX:=hdfs
  CN:=hdnd
  Dt:=hrod
  gQ:=fun q h hp=>hI.gQ q (hsp q h) (by rw[←hprot];exact hp)
  rX:=by rw[hpin];exact hI.rX
  iN:=by rw[hpin,hnext];exact hI.iN
  gh:=W0.st C C' hM hI.iN hI.gh}

def Ctx.Jv(C:Ctx)(l:Nat)(r:Loop):Ctx:={C with w:=C.w.putObj l (.loop r),H:={C.H with d_:=[(l,r)]}}

theorem J2(hI:Inv W0 C){l:Nat}{r0:Loop}(r:Loop)(hl:C.H.d_=[(l,r0)]):Mem C (C.Jv l r)∧Inv W0 (C.Jv l r)∧∀x v,eB C x v→eB (C.Jv l r) x v:=by
 have h0:C.w.heap[l]? =some (.loop r0):=hI.d_ l r0 (by rw[hl];simp[lk])
 have hlt:l<C.w.heap.size:=(Array.getElem?_eq_some_iff.1 h0).1
 refine ahb (C':=C.Jv l r) hI (b:=l) (.inl ⟨r0,by rw[hl];simp[lk]⟩) (ob:=.loop r) rfl rfl rfl rfl rfl rfl (fun b h=> ?_) (fun l' r' h=> ?_) (fun d h=> ?_) hI.CN hI.Dt
 ·rcases h with⟨r',h⟩|h
  ·simp only[Ctx.Jv,lk] at h
   split at h
   ·rename_i hb;subst hb;exact .inl ⟨r0,by rw[hl];simp[lk]⟩
   ·cases h
  ·exact .inr h
 ·simp only[Ctx.Jv,lk] at h
  split at h
  ·rename_i hb;subst hb;cases h;exact World.putObj_heap_same hlt
  ·cases h
 ·have h1:=hI.jX d h
  rw[←h1]
  refine World.putObj_heap_other (fun hd=> ?_)
  rw[hd,h0] at h1;cases h1


def Fv(P:Program)(W:World)(p:Nat)(l:Nat)(rec:Loop)(frl:List (Nat×AV))(xs:List AV)(Hin:bu)(b:Bool)(Hout:bu):Prop:=
 ∀(C:Ctx) (vals:Array Value),Inv (.rd W p l) C→C.H=Hin→vals.size=xs.length→(∀(k:Nat) (x:AV),xs[k]? =some x→eB C x (vals.getD k undef))→
  (∀t x,lk frl t=some x→eB C x (rec.tmps.getD t undef))→
  RoundIn Fence.wide 0 P l rec.fn ((rec.params.zip vals).foldl (fun tmps (t,a)=>tmps.setIfInBounds t a) rec.tmps) rec.assign rec.body C.w
   (fun e w'=>∃C',e=.returned (.bool b)∧C'.w=w'∧Mem C C'∧Inv (.rd W p l) C'∧C'.H=Hout)

def D3:Exit→Option (Option Code)
 |.normal=>some none
 |.ret=>some (some .ret)
 |.exit id=>some (some (.exit id))
 |.goto t=>some (some (.goto t))
 |_=>none

theorem Hx(l:List (Nat×Value))(tm:Array Value):(l.foldl (fun tmps (t,a)=>tmps.setIfInBounds t a) tm).size=tm.size:=by
 induction l generalizing tm with
 |nil=>rfl
 |cons p l ih=>simp[ih]

theorem Jd(l:List (Nat×Value))(tm:Array Value)(t:Nat):
  (∃(k:Nat) (v:Value),l[k]? =some (t,v)∧(l.foldl (fun tmps (t,a)=>tmps.setIfInBounds t a) tm).getD t undef=(if t<tm.size then v else undef))∨
  ((∀q∈l,q.1≠t)∧(l.foldl (fun tmps (t,a)=>tmps.setIfInBounds t a) tm).getD t undef=tm.getD t undef):=by
 induction l generalizing tm with
 |nil=>exact .inr ⟨fun q h=>(by cases h),rfl⟩
 |cons p l ih=>
  obtain⟨s,u⟩:=p
  rcases ih (tm.setIfInBounds s u) with⟨k,v,h1,h2⟩|⟨h1,h2⟩
  ·left
   refine⟨k+1,v,by simpa using h1, ?_⟩
   simp only[List.foldl_cons]
   rw[h2];simp
  ·by_cases hs:s=t
   ·subst hs
    left
    refine⟨0,u,rfl, ?_⟩
    simp only[List.foldl_cons]
    rw[h2]
    by_cases hlt:s<tm.size
    ·simp[hlt,Array.getD]
    ·simp[hlt,Array.getD]
   ·right
    refine⟨fun q hq=> ?_, ?_⟩
    ·rcases List.mem_cons.1 hq with rfl|hq
     ·exact hs
     ·exact h1 q hq
    ·simp only[List.foldl_cons]
     rw[h2]
     simp only[Array.getD_eq_getD_getElem?]
     rw[Array.getElem?_setIfInBounds_ne hs]

def Lb(ps:List Nat)(xs:List AV)(frl:List (Nat×AV)):List (Nat×AV):=ps.zip xs++frl

theorem vn{W:World}{p l N k:Nat}{rec:Loop}{fn:Func}{frl:List (Nat×AV)}{xs:List AV}{Hin Hout:bu}{b:Bool}{ps:Array Tmp}{zA bd:Code}(hrec:v_ rec fn k N)(hcode:(fn.body.bind fun c=>(qb c)[k]?)=some (ps,zA,bd))
  (hlp:Hin.d_=[(l,rec)])(hxs:xs.length=ps.size)(hN:ps.toList.all (fun t=>decide (t<N))=true)(hnd:ps.toList.Nodup)
  (h:ec P (.rd W p l) N zA ⟨Lb ps.toList xs frl,Hin⟩ (fun e s=>e=.normal∧s.H.d_=[(l,rec)]∧
   ec P (.rd W p l) N bd ⟨s.fr,{s.H with d_:=[(l,{rec with state:=.busy})]}⟩ (fun e s=>s.H.d_=[(l,{rec with state:=.busy})]∧∃j,D3 e=some j∧b=j.isNone∧
    bq (.rd W p l) 0 ⟨[],{s.H with d_:=[(l,Kw rec j)]}⟩ ⟨[],Hout⟩))):
  Fv P W p l rec frl xs Hin b Hout:=by
 intro C vals hI hH hsz hrep hrl
 have hc:=hrec.code
 rw[hcode] at hc
 simp only[Option.some.injEq,Prod.mk.injEq] at hc
 obtain⟨rfl,rfl,rfl⟩:=hc
 have hzip:∀(i:Nat) (t:Nat) (v:Value),(rec.params.zip vals).toList[i]? =some (t,v)→rec.params.toList[i]? =some t∧vals.toList[i]? =some v:=fun i t v h=>by
  rw[Array.toList_zip,List.getElem?_zip_eq_some] at h
  exact h
 have hfold:(rec.params.zip vals).foldl (fun tmps (t,a)=>tmps.setIfInBounds t a) rec.tmps=(rec.params.zip vals).toList.foldl (fun tmps (t,a)=>tmps.setIfInBounds t a) rec.tmps:=by
  rw[←Array.foldl_toList]
 have hsize:((rec.params.zip vals).foldl (fun tmps (t,a)=>tmps.setIfInBounds t a) rec.tmps).size=N:=by
  rw[hfold,Hx,hrec.size]
 have hrel:Rel (.rd W p l) N (lk (Lb rec.params.toList xs frl)) Hin C {tmps:=(rec.params.zip vals).foldl (fun tmps (t,a)=>tmps.setIfInBounds t a) rec.tmps,defers:=[]}:=by
  refine⟨hH,hI,hsize,by have:=hI.Dt l rfl;simp[this,eo.rd],fun t x hx=> ?_⟩
  show eB C x (((rec.params.zip vals).foldl (fun tmps (t,a)=>tmps.setIfInBounds t a) rec.tmps).getD t undef)
  rw[hfold]
  simp only[Lb] at hx
  rw[qM] at hx
  rcases Jd (rec.params.zip vals).toList rec.tmps t with⟨i,v,h1,h2⟩|⟨h1,h2⟩
  ·rw[h2]
   obtain⟨q1,q2⟩:=hzip i t v h1
   have htN:t<rec.tmps.size:=by
    rw[hrec.size]
    have:=List.all_eq_true.1 hN t (List.mem_of_getElem? q1)
    simpa using this
   rw[if_pos htN]
   have hix:i<xs.length:=by rw[hxs];simpa using (List.getElem?_eq_some_iff.1 q1).1
   have hz:lk (rec.params.toList.zip xs) t=some xs[i]:=by
    have key:∀(ps:List Nat) (xs:List AV) (i:Nat) (x:AV),ps.Nodup→ps[i]? =some t→xs[i]? =some x→lk (ps.zip xs) t=some x:=by
     intro ps
     induction ps with
     |nil=>intro xs i x _ h;simp at h
     |cons q ps ih=>
      intro xs i x hn hq hy
      cases xs with
      |nil=>simp at hy
      |cons y ys=>
       cases i with
       |zero=>simp at hq hy;subst hy;rw[hq];simp[lk]
       |succ i=>
        simp at hq hy
        have hne:q≠t:=fun he=>(List.nodup_cons.1 hn).1 (he▸List.mem_of_getElem? hq)
        simp only[List.zip_cons_cons,lk]
        rw[if_neg hne]
        exact ih ys i x (List.nodup_cons.1 hn).2 hq hy
    exact key _ _ i _ hnd q1 (List.getElem?_eq_getElem hix)
   rw[hz] at hx
   simp only[Option.some.injEq] at hx
   subst hx
   have:=hrep i xs[i] (List.getElem?_eq_getElem hix)
   have hv:vals.getD i undef=v:=by
    have:vals[i]? =some v:=by simpa using q2
    simp[Array.getD_eq_getD_getElem?,this]
   rwa [hv] at this
  ·rw[h2]
   have hz:lk (rec.params.toList.zip xs) t=none:=by
    have key:∀(ps:List Nat) (xs:List AV),(∀q∈ps,q≠t)→lk (ps.zip xs) t=none:=by
     intro ps
     induction ps with
     |nil=>intro xs _;rfl
     |cons q ps ih=>
      intro xs hq
      cases xs with
      |nil=>rfl
      |cons y ys=>
       simp only[List.zip_cons_cons,lk]
       rw[if_neg (hq q (List.mem_cons_self ..))]
       exact ih ys (fun r hr=>hq r (List.mem_cons_of_mem _ hr))
    refine key _ _ (fun q hq=> ?_)
    obtain⟨i,hi⟩:=List.getElem?_of_mem hq
    have hil:i<vals.toList.length:=by
     have:=(List.getElem?_eq_some_iff.1 hi).1
     simp at this ⊢;omega
    have hm:(q,vals.toList[i])∈(rec.params.zip vals).toList:=by
     rw[Array.toList_zip]
     refine List.mem_of_getElem? (i:=i) ?_
     rw[List.getElem?_zip_eq_some]
     exact⟨hi,List.getElem?_eq_getElem hil⟩
    exact h1 _ hm
   rw[hz] at hx
   exact hrl t x hx
 refine roundIn_of_wpIn trivial (wpIn_mono (h C _ hrel) fun e a1 w1 ⟨s,C1,g1,g2,g3,g4⟩=> ?_)
 obtain⟨rfl,hs1,hbody⟩:=g4
 subst g1
 have hl1:C1.w.heap[l]? =some (.loop rec):=g3.inv.d_ l rec (by rw[g3.heap,hs1];simp[lk])
 obtain⟨m1,i1,r1⟩:=J2 g3.inv {rec with state:=.busy} (by rw[g3.heap];exact hs1)
 refine⟨C1.w.putObj l (.loop {rec with state:=.busy}),run_beginRound hl1 hrec.ready, ?_⟩
 have afk:Rel (.rd W p l) N (lk s.fr) {s.H with d_:=[(l,{rec with state:=.busy})]} (C1.Jv l {rec with state:=.busy}) a1:=
  ⟨by simp only[Ctx.Jv,g3.heap],i1,g3.size,g3.defers,fun t x hx=>r1 _ _ (g3.rep t x hx)⟩
 refine wpIn_mono (hbody _ _ afk) fun e a2 w2 ⟨s2,C2,q1,q2,q3,q4,j,q5,q6,q7⟩=> ?_
 subst q1
 have XL:C2.w.heap[l]? =some (.loop {rec with state:=.busy}):=q3.inv.d_ l _ (by rw[q3.heap,q4];simp[lk])
 rw[←hrec.Kw] at q7
 obtain⟨m2,i2,r2⟩:=J2 q3.inv {rec with state:=if j.isNone then .ready else .done,pending:=j} (by rw[q3.heap];exact q4)
 have fin:∃v w',(Instr.endRound l j).run P C2.w=.ok v w'∧∃C',Ending.returned v=.returned (.bool b)∧C'.w=w'∧Mem C C'∧Inv (.rd W p l) C'∧C'.H=Hout:=by
  obtain⟨C3,p1,p2,p3⟩:=q7 (C2.Jv l {rec with state:=if j.isNone then .ready else .done,pending:=j}) {tmps:= #[],defers:=[]} ⟨by simp only[Ctx.Jv,q3.heap],i2,rfl,by rw[i2.Dt l rfl];rfl,fun t x hx=>by simp[lk] at hx⟩
  refine⟨_,_,run_endRound j XL,C3,by rw[q6], ?_,g2.trans (m1.trans (q2.trans (m2.trans p2))),p3.inv,p3.heap⟩
  rw[p1]
  rfl
 cases e with
 |normal=>simp only[D3,Option.some.injEq] at q5;subst q5;exact fin
 |ret=>simp only[D3,Option.some.injEq] at q5;subst q5;exact fin
 |exit id=>simp only[D3,Option.some.injEq] at q5;subst q5;exact fin
 |goto t=>simp only[D3,Option.some.injEq] at q5;subst q5;exact fin
 |panic c=>simp[D3] at q5
 |outgrown=>simp[D3] at q5

theorem WS{Hs Ht:bu}{g:List (Nat×Nat)}{nw:List Nat}{x x':AV}(ho:Hs.eZ=Ht.eZ)(h:wC Hs g nw x x'):wC Ht g nw x x':=by
 have hget:∀id,Hs.get id=Ht.get id:=fun id=>by simp[bu.get,ho]
 induction h with
 |same x h=>exact .same x h
 |any x=>exact .any x
 |view h=>exact .view h
 |viewL h h2=>exact .viewL h h2
 |ref h=>exact .ref h
 |mref h=>exact .mref h
 |nil h=>exact .nil h
 |lend h1 h2 h3 h4=>exact .lend (by rw[←hget];exact h1) h2 h3 h4
 |agg cs cs' hl _ ih=>exact .agg cs cs' hl ih
 |tuple cs cs' hl _ ih=>exact .tuple cs cs' hl ih
 |bI fn cs cs' hl _ ih=>exact .bI fn cs cs' hl ih
 |ifc t x x' _ ih=>exact .ifc t x x' ih
 |wide es h=>exact .wide es h
 |nilsl=>exact .nilsl
 |frz h1 h2 h3 h4 h5=>exact .frz (by rw[←hget];exact h1) h2 h3 h4 h5
theorem J4{Hs Ht:bu}{g:List (Nat×Nat)}{nw:List Nat}{fr:List (Nat×AV)}(ho:Hs.eZ=Ht.eZ):∀{l:List (Nat×AV)},Seen Hs g nw fr l→Seen Ht g nw fr l
 |[],_=>trivial
 |_::_,⟨⟨x,h1,h2⟩,h3⟩=>⟨⟨x,h1,WS ho h2⟩,J4 ho h3⟩
theorem UZ{Hs:bu}{g:List (Nat×Nat)}{nw:List Nat}{fr:List (Nat×AV)}{l:List (Nat×AV)}{ll:List (Nat×Loop)}(h:Seen {Hs with d_:=[]} g nw fr l):Seen {Hs with d_:=ll} g nw fr l:=J4 (Hs:={Hs with d_:=[]}) (Ht:={Hs with d_:=ll}) rfl h


theorem kF{ok:AV→Prop}{args:Array Operand}{tys:Array TypeId}{f:Operand}{ys xs:List AV}{Hs Hin Hout H':bu}{g m:List (Nat×Nat)}{nw:List Nat}{p l k N:Nat}{rec:Loop}{fn:Func}{b:Bool}{frl:List (Nat×AV)}{W:World}
  (ho:o.op=.call {callee:=.value f,args:=args,argTypes:=tys})(hf:bH fr f=some (.bI (.yield l) []))(hys:args.toList.mapM (bH fr)=some ys)
  (hround:Fv P W p l rec frl xs Hin b Hout)(hrec:v_ rec fn k N)(hlp:Hs.d_=[(l,rec)])(hps:rec.params.size=ys.length)
  (h:Pass ok (dB 0 ys) (dB 0 xs) H Hs Hin Hout H' g m nw p (.imm (.bool b)) (.imm (.bool b)))(hl:xs.length=ys.length)(hg:(List.range p).all (fun k=>lk g k==some k)=true)(hnp:(List.range p).all (fun k=> !nw.contains k)=true):
  YD P (.it W p rec frl) o fr H (.imm (.bool b)) H':=by
 intro C a hI hH hop K Q hK
 have hopy:∀y∈args.toList,wh C fr a y:=fun y hy=>hop y (by rw[ho];simp[Op.operands,Call.operands];exact .inr (by simpa using hy))
 have Jf:=Bw hopy hys
 have h1:=h.ZO hI hH Jf.1 Jf.2
 have h2:Inv (.rd W p l) (C.sub Hs Hin g p):=h1.inv.UT (W0:=.it W p rec frl) rfl rfl (of_decide_eq_true h.pM) rfl trivial
 have hfv:a.eval f=.func (.yield l) #[] #[]:=by
  have hmem:f∈o.op.operands:=by rw[ho];simp[Op.operands,Call.operands]
  have:=bV (hop f hmem) hf
  generalize a.eval f=v at this
  cases this with
  |bI _ _ vs hs _=>
   have:vs= #[]:=Array.eq_empty_of_size_eq_zero (by simpa using hs)
   rw[this]
 have hlr:C.w.heap[l]? =some (.loop rec):=hI.d_ l rec (by
  have:=h.HW.d_ l rec (by rw[hlp];simp[lk])
  rw[hH];exact this)
 have hyr:=run_yield (P:=P) (args:=args.map a.eval) hlr (by rw[Jf.1];exact hps.symm)
 have hrun:(execOp a.eval o).run P C.w=.ok (.round l rec.fn ((rec.params.zip (args.map a.eval)).foldl (fun tmps (t,a)=>tmps.setIfInBounds t a) rec.tmps) rec.assign rec.body) C.w:=by
  simp only[execOp,ho,resolve,hfv,Deferred.ofValue]
  simpa [invoke] using hyr
 -- what the rounds' frame holds, as the callee sees it
 have hfrl:∀t x,lk frl t=some x→eB (C.sub Hs Hin g p) x (rec.tmps.getD t undef):=fun t x hx=>by
  obtain⟨hu,hr⟩:=hI.gh.2 t x hx
  have hp:=h.HW
  rw[←hH] at hp
  have hle:p≤Hin.next:=of_decide_eq_true h.pM
  have key:∀x v,kX p x→eB C x v→eB (C.sub Hs Hin g p) x v:=by
   intro x v hu hr
   have hbad:∀b,(C.sub Hs Hin g p).bad b→C.bad b:=fun b hb=>by
    have RY:((C.qD Hs).re g Hin).bad b:=hb
    rcases RY with RY|RY
    ·refine .inl ?_
     rcases RY with⟨n,es',q1,q2,q3⟩|⟨r,q⟩|q
     ·obtain⟨⟨s,e⟩,q4,q5⟩:=Option.map_eq_some_iff.1 (show(lk Hin.eZ n).map (·.2)=some es' from q1)
      rcases(h.held.spec q4).1 with⟨old,es,w1,w2,_⟩|⟨w,_⟩
      ·have hpl:((C.qD Hs).re g Hin).pl n=C.pl old:=by simp[Ctx.re,Ctx.qD,w1]
       rw[hpl] at q2 q3
       refine .inl ⟨old,es, ?_,q2,q3⟩
       have:=hp.eZ old _ w2
       simp[bu.get,this]
      ·have hno:lk g n=none:=by
        have:=List.all_eq_true.1 h.pP n w
        simp at this;exact this.1
       have hpl:((C.qD Hs).re g Hin).pl n=⟨0,0,0,0,true⟩:=by simp[Ctx.re,hno]
       rw[hpl] at q2;cases q2
     ·exact .inr (.inl ⟨r,hp.d_ b r (by rw[←h.dh];exact q)⟩)
     ·simp[Ctx.re,Ctx.qD] at q
    ·rcases RY with RY|RY
     ·exact .inr RY
     ·exact .inl RY.1
   have hids:∀id,id<p→∀es',Hin.get id=some es'→∃es,C.H.get id=some es∧(C.sub Hs Hin g p).pl id=C.pl id:=fun id hid es' hes=>by
    obtain⟨⟨s,e⟩,q4,q5⟩:=Option.map_eq_some_iff.1 (show(lk Hin.eZ id).map (·.2)=some es' from hes)
    have hgi:lk g id=some id:=by
     have:=List.all_eq_true.1 hg id (List.mem_range.2 hid)
     simpa using this
    rcases(h.held.spec q4).1 with⟨old,es,w1,w2,_⟩|⟨w,_⟩
    ·rw[hgi] at w1;cases w1
     have:=hp.eZ id _ w2
     exact⟨es,by simp[bu.get,this],by simp[Ctx.sub,Ctx.re,Ctx.qD,hgi]⟩
    ·have:=List.all_eq_true.1 hnp id (List.mem_range.2 hid)
     simp at this;exact absurd w this
   induction hr with
   |any v=>exact .any v
   |imm v hv=>exact .imm v hv
   |slNil a cap=>exact .slNil a cap
   |sl es b off sz cap c hlt hn hc hf hcell _ ih=>
    cases hu with
    |sl _ hu=>exact .sl es b off sz cap c hlt (fun h=>hn (hbad b h)) hc hf hcell (fun i j e x he hx=>ih i j e x he hx (hu e (List.mem_of_getElem? he) x (List.mem_of_getElem? hx)))
   |clipNil a=>exact .clipNil a
   |clip es b off sz c hlt hn hf hcell _ ih=>
    cases hu with
    |clip _ hu=>exact .clip es b off sz c hlt (fun h=>hn (hbad b h)) hf hcell (fun i j e x he hx=>ih i j e x he hx (hu e (List.mem_of_getElem? he) x (List.mem_of_getElem? hx)))
   |view id off len v hid hs h1=>
    cases hu with
    |view _ _ _ hu=>
    refine .view id off len v (Nat.lt_of_lt_of_le hu hle) (fun es he=> ?_) h1
    obtain⟨wV,q1,q2⟩:=hids id hu es he
    rw[q2];exact hs wV q1
   |ref id i j v hid hs h1=>
    cases hu with
    |ref _ _ _ hu=>
    refine .ref id i j v (Nat.lt_of_lt_of_le hu hle) (fun es he=> ?_) h1
    obtain⟨wV,q1,q2⟩:=hids id hu es he
    rw[q2];exact hs wV q1
   |mref id v hid hs h1=>
    cases hu with
    |mref _ hu=>
    refine .mref id v (Nat.lt_of_lt_of_le hu hle) (fun es he=> ?_) h1
    obtain⟨wV,q1,q2⟩:=hids id hu es he
    rw[q2];exact hs wV q1
   |pp fl j b off c hlt hn hcell _ ih=>
    cases hu with
    |pp _ _ hu=>exact .pp fl j b off c hlt (fun h=>hn (hbad b h)) hcell (fun k x hx=>ih k x hx (hu x (List.mem_of_getElem? hx)))
   |agg cs vs hs h1 _ ih=>cases hu with|agg _ hu=>exact .agg cs vs hs h1 (fun k x hx=>ih k x hx (hu x (List.mem_of_getElem? hx)))
   |tuple cs vs hs _ ih=>cases hu with|tuple _ hu=>exact .tuple cs vs hs (fun k x hx=>ih k x hx (hu x (List.mem_of_getElem? hx)))
   |ifc t x v _ ih=>cases hu with|ifc _ _ hu=>exact .ifc t x v (ih hu)
   |bI fn caps vs hs _ ih=>cases hu with|bI _ _ hu=>exact .bI fn caps vs hs (fun k x hx=>ih k x hx (hu x (List.mem_of_getElem? hx)))
  exact key x _ hu hr
 refine⟨fun _ _=>trivial, ?_⟩
 show o.uponIn Fence.wide 0 P a K Q ((execOp a.eval o).run P C.w)
 rw[hrun]
 refine⟨fun hd=>by simp[Fence.wide] at hd, ?_⟩
 refine(hround (C.sub Hs Hin g p) (args.map a.eval) h2 rfl (by rw[hl];exact Jf.1) (fun k x hx=>wu (zi h1 k x hx)) hfrl).mono ?_
 rintro e w' ⟨C2,rfl,rfl,hM,Eo,QM⟩
 obtain⟨q1,q2,q3⟩:=h.Um (W0:=.it W p rec frl) (B1:=.rd W p l) hI hH rfl hM Eo QM (Eo.Dt l rfl)
 exact hK _ (C.back C2 H') q1 q2 rfl (q3 _ (.imm _ rfl))


def Ctx.lay(C:Ctx)(r:Loop):Ctx:=
 {C with w:=(C.w.alloc (.deferred (some []))).alloc (.loop r),H:={C.H with d_:=[(C.w.heap.size+1,r)]},jX:=C.w.heap.size::C.jX}

theorem Q3(hI:Inv W0 C)(r:Loop)(hl:C.H.d_=[])(hro:W0.ro=none):Mem C (C.lay r)∧Inv W0 (C.lay r)∧∀x v,eB C x v→eB (C.lay r) x v:=by
 have hB:RowKit.Below C.w.heap.size C.w (C.lay r).w:=((RowKit.Below.refl _ _).alloc (Nat.le_refl _) _).alloc (by simp) _
 have e1:Ext C (C.xB (C.lay r).w):=gY hB
 have i1:=hI.xB hB
 have hs:(C.lay r).w.heap.size=C.w.heap.size+2:=by show((C.w.alloc _).alloc _).heap.size=_;rw[wJ,wJ]
 have h0:(C.lay r).w.heap[C.w.heap.size]? =some (.deferred (some [])):=by
  show((C.w.alloc (.deferred (some []))).heap.push _)[C.w.heap.size]? =_
  rw[Array.getElem?_push_lt (by rw[wJ];exact Nat.lt_succ_self _)]
  exact(Array.getElem?_eq_getElem _).symm.trans (uQ C.w _)
 have h1:(C.lay r).w.heap[C.w.heap.size+1]? =some (.loop r):=by
  have:=uQ (C.w.alloc (.deferred (some []))) (.loop r)
  rw[wJ] at this
  exact this
 have hsp:∀b,(C.lay r).sp b→C.sp b∨C.w.heap.size≤b:=by
  rintro b (⟨r',h⟩|h)
  ·simp only[Ctx.lay,lk] at h
   split at h
   ·rename_i hb;right;omega
   ·cases h
  ·rcases List.mem_cons.1 h with h|h
   ·right;omega
   ·exact .inl (.inr h)
 have hown:∀b,(C.lay r).own b→C.own b∨C.w.heap.size≤b:=by
  rintro b (h|h)
  ·exact .inl (.inl h)
  ·exact(hsp b h).imp .inr id
 have hbadl:∀b,b<C.w.heap.size→(C.lay r).bad b→C.bad b:=fun b hb h=>by
  rcases h with h|h
  ·rcases hown b h with h|h
   ·exact .inl h
   ·omega
  ·exact .inr h
 have hM:Mem C (C.lay r):=⟨⟨rfl,rfl,rfl,by rw[hs];omega,fun k hk=>absurd hk (Nat.not_lt_zero k)⟩,fun b hb hn=>hB.block b hb,fun b hb h=>by
  rcases hown b h with h|h
  ·exact h
  ·omega,rfl,rfl,fun hp=>⟨hp,fun k es' _ hg=>⟨⟨es',hg⟩,rfl⟩⟩⟩
 have hholds:∀{b i:Nat} {v:Value},b<C.w.heap.size→Holds C.w b i v→Holds (C.lay r).w b i v:=fun{b i v} hb h=>by
  refine⟨?_,h.2⟩
  rw[World.cell?_of_block (w:=C.w) (a:=⟨b,i,none⟩) (hB.block b hb)]
  exact h.1
 have hrep:∀x v,eB C x v→eB (C.lay r) x v:=by
  intro x v h
  induction h with
  |any v=>exact .any v
  |imm v hv=>exact .imm v hv
  |slNil a cap=>exact .slNil a cap
  |sl es b off sz cap c hlt hbd hc hf hcell _ ih=>exact .sl es b off sz cap c (by rw[hs];omega) (fun h=>hbd (hbadl b hlt h)) hc hf (fun i j e x he hx=>hholds hlt (hcell i j e x he hx)) ih
  |clipNil a=>exact .clipNil a
  |clip es b off sz c hlt hbd hf hcell _ ih=>exact .clip es b off sz c (by rw[hs];omega) (fun h=>hbd (hbadl b hlt h)) hf (fun i j e x he hx=>hholds hlt (hcell i j e x he hx)) ih
  |view id off len v hid hs' h1=>exact .view id off len v hid hs' h1
  |ref id i j v hid hs' h1=>exact .ref id i j v hid hs' h1
  |mref id v hid hs' h1=>exact .mref id v hid hs' h1
  |pp fl j b off c hlt hbd hcell _ ih=>exact .pp fl j b off c (by rw[hs];omega) (fun h=>hbd (hbadl b hlt h)) (fun k x hx=>hholds hlt (hcell k x hx)) ih
  |agg cs vs hs' h1 _ ih=>exact .agg cs vs hs' h1 ih
  |tuple cs vs hs' _ ih=>exact .tuple cs vs hs' ih
  |ifc t x v _ ih=>exact .ifc t x v ih
  |bI fn caps vs hs' _ ih=>exact .bI fn caps vs hs' ih
 refine⟨hM, ?_,hrep⟩
 exact{
  fresh:=hI.fresh
  nil:=hI.nil
  obj:=fun id es h hn=>by
   have hO:=hI.obj id es h hn
   have hlt:=hI.lt h hn
   have hc:∀o,(C.lay r).w.cell? ⟨(C.pl id).gf,o,none⟩=C.w.cell? ⟨(C.pl id).gf,o,none⟩:=fun o=>World.cell?_of_block (w:=C.w) (a:=⟨_,o,none⟩) (hB.block _ hlt)
   exact⟨hO.n,hO.cap,(by have e:(C.lay r).w.heap[((C.lay r).pl id).gf]? =C.w.heap[(C.pl id).gf]? :=hB.block _ hlt;rw[e];exact hO.gf),fun o v hv=>hO.one o v (by rw[←hc o];exact hv),hO.flat,fun i j e x v h1 h2 h3=>hrep _ _ (hO.cell i j e x v h1 h2 (by rw[←hc];exact h3))⟩
  sep:=hI.sep
  eC:=hI.eC
  qH:=hI.qH
  f_:=fun b h=>Nat.lt_of_lt_of_le (hI.f_ b h) hB.size
  gA:=hI.gA
  size:=Nat.le_trans hI.size hB.size
  kK:=fun b h=>⟨by rw[←(hI.kK b h).1];exact hB.block b (Nat.lt_of_lt_of_le h hI.size),fun ho=>by
   rcases hown b ho with h'|h'
   ·exact(hI.kK b h).2 h'
   ·have:=hI.size;omega⟩
  d_:=fun l r' h=>by
   simp only[Ctx.lay,lk] at h
   split at h
   ·rename_i hb;cases h;rw[←hb];exact h1
   ·cases h
  jX:=fun d h=>by
   rcases List.mem_cons.1 h with h|h
   ·rw[h];exact h0
   ·have h2:=hI.jX d h
    rw[←h2];exact hB.block d (Array.getElem?_eq_some_iff.1 h2).1
  CN:=List.nodup_cons.2 ⟨fun h=>by
   have h2:=hI.jX _ h
   have:=(Array.getElem?_eq_some_iff.1 h2).1
   omega,hI.CN⟩
  Dt:=fun l h=>by rw[hro] at h;cases h
  gQ:=fun b h hp=>by
   rcases hsp b h with h|h
   ·exact hI.gQ b h hp
   ·have:=hI.f_ b hp;omega
  rX:=hI.rX
  iN:=hI.iN
  gh:=W0.st C _ hM hI.iN hI.gh}

theorem CJ{ok:AV→Prop}{Q:Exit→St→Prop}{g0:Operand}{ps:Array Tmp}{zA bd j:Code}{frl fr:List (Nat×AV)}{H:bu}{fi:FuncId}{fn:Func}{caps xs:List AV}{k p:Nat}{r:AV}{b:Bool}{Hs Hin Hout H':bu}{g m:List (Nat×Nat)}{nw:List Nat}
  (hro:W0.ro=none)(hcode:(fn.body.bind fun c=>(qb c)[k]?)=some (ps,zA,bd))(hg:bH (lk fr) g0=some (.bI (.func fi) caps))(hc:lE P fi)(hHl:H.d_=[])(hul:∀t x,lk frl t=some x→kX p x)
  (hseen:Seen {Hs with d_:=[]} g nw fr frl)
  (hit:∀(l:Nat) (rec:Loop),v_ rec fn k N→qy P (.it W0.w p rec frl) fi (.bI (.yield l) []::xs) {Hin with d_:=[(l,rec)]} r {Hout with d_:=[(l,gy rec j b)]})
  (hpass:∀(l:Nat) (rec:Loop),Pass ok (dB 0 (.bI (.yield l) []::caps)) (dB 0 (.bI (.yield l) []::xs)) {H with d_:=[(l,rec)]} {Hs with d_:=[(l,rec)]} {Hin with d_:=[(l,rec)]} {Hout with d_:=[(l,gy rec j b)]} {H' with d_:=[(l,gy rec j b)]} g m nw p r .any)
  (hl:xs.length=caps.length)(hnext:b=true→Q .normal ⟨fr,{H' with d_:=[]}⟩)(hjump:b=false→ec P W0 N j ⟨fr,{H' with d_:=[]}⟩ Q):
  ec P W0 N (.rangeFunc g0 ps zA bd) ⟨fr,H⟩ Q:=fun C a hr=>by
 rw[hro,EF]
 refine wpIn_rangeFunc fun fnid _=> ?_
 -- the record
 let rc:Loop:={state:=.ready,pending:=none,fn:=fnid,tmps:=a.tmps,params:=ps,assign:=zA,body:=bd,defers:=C.w.heap.size}
 have hrec:v_ rc fn k N:=⟨rfl,rfl,hcode,hr.size⟩
 obtain⟨m1,i1,r1⟩:=Q3 hr.inv rc (by rw[hr.heap];exact hHl) hro
 have hgv:=bV (C:=C) (a:=a) (fun q _ av hav=>hr.rep q av hav) hg
 obtain⟨vs,hvs,hsz,hcap⟩:∃vs:Array Value,a.eval g0=.func (.func fi) #[] vs∧vs.size=caps.length∧∀(k:Nat) (x:AV),caps[k]? =some x→eB C x (vs.getD k undef):=by
  generalize a.eval g0=u at hgv
  match hgv with
  |.bI _ _ vs h1 h2=>exact⟨vs,rfl,h1,h2⟩
 refine⟨C.w.heap.size+1,[{target:=.collected C.w.heap.size,args:= #[]}],(C.lay rc).w,{target:=.fn (.func fi) vs,args:= #[.func (.yield (C.w.heap.size+1)) #[] #[]]},(C.lay rc).w,fi, #[.func (.yield (C.w.heap.size+1)) #[] #[]]++vs,(C.lay rc).w,run_enterLoop_outer fnid a.tmps ps zA bd, ?_,fun _ _=>trivial, ?_,fun h=>by simp[Fence.wide] at h, ?_⟩
 ·show(resolve a.eval (rangeCall g0 (C.w.heap.size+1)) 0).run P (C.lay rc).w=.ok {target:=.fn (.func fi) vs,args:= #[.func (.yield (C.w.heap.size+1)) #[] #[]]} (C.lay rc).w
  have e1:(#[Operand.const (.func (.yield (C.w.heap.size+1)) #[] #[])].map a.eval)= #[.func (.yield (C.w.heap.size+1)) #[] #[]]:=by simp[Act.eval]
  simp only[resolve,rangeCall,hvs,Deferred.ofValue,e1]
  rfl
 ·show(invoke (.fn (.func fi) vs) #[.func (.yield (C.w.heap.size+1)) #[] #[]]).run P (C.lay rc).w=_
  simpa [invoke] using hc (#[.func (.yield (C.w.heap.size+1)) #[] #[]]++vs) (C.lay rc).w
 ·refine callsIn_wide.2 ?_
  have hHL:(C.lay rc).H={H with d_:=[(C.w.heap.size+1,rc)]}:=by simp only[Ctx.lay,hr.heap]
  have hrep:∀t x,lk (dB 0 (.bI (.yield (C.w.heap.size+1)) []::caps)) t=some x→eB (C.lay rc) x ((#[Value.func (.yield (C.w.heap.size+1)) #[] #[]]++vs).getD t undef):=fun t x hx=>by
   obtain⟨_,h2⟩:=u0 _ 0 t x hx
   rw[Nat.sub_zero] at h2
   cases t with
   |zero=>
    simp at h2;subst h2
    have:(#[Value.func (.yield (C.w.heap.size+1)) #[] #[]]++vs).getD 0 undef=.func (.yield (C.w.heap.size+1)) #[] #[]:=by
     rw[Array.getD_eq_getD_getElem?,Array.getElem?_append_left (by simp)];rfl
    rw[this]
    exact .bI _ [] #[] rfl (fun k x h=>by simp at h)
   |succ t=>
    simp at h2
    have hlt:t<vs.size:=by rw[hsz];exact(List.getElem?_eq_some_iff.1 h2).1
    have:(#[Value.func (.yield (C.w.heap.size+1)) #[] #[]]++vs).getD (t+1) undef=vs.getD t undef:=by
     simp only[Array.getD_eq_getD_getElem?]
     rw[Array.getElem?_append_right (by simp)]
     simp
    rw[this]
    exact r1 _ _ (hcap t x h2)
  have hps:=hpass (C.w.heap.size+1) rc
  have hpart:=hps.HW
  rw[←hHL] at hpart
  have hG:(eo.it W0.w p rc frl).G ((C.lay rc).sub {Hs with d_:=[(C.w.heap.size+1,rc)]} {Hin with d_:=[(C.w.heap.size+1,rc)]} g p):=by
   refine⟨rfl,fun t x hx=>⟨hul t x hx, ?_⟩⟩
   have Jf:Rel (.of W0.w) N (lk fr) {Hs with d_:=[(C.w.heap.size+1,rc)]} ((C.lay rc).qD {Hs with d_:=[(C.w.heap.size+1,rc)]}) {tmps:=a.tmps,defers:=[]}:=
    ⟨rfl,i1.qD hpart,hr.size,rfl,fun t x hx=>(r1 _ _ (hr.rep t x hx)).qD hpart⟩
   have hs2:Seen {Hs with d_:=[(C.w.heap.size+1,rc)]} g nw fr frl:=UZ hseen
   exact wu ((KZ (st:=⟨fr,{Hs with d_:=[(C.w.heap.size+1,rc)]}⟩) g nw hps.inj hps.lt hps.pP hps.held hs2 (by simp[Cs]) rfl Jf).2.rep t x hx)
  refine(call3 (W0:=W0) (C:=C.lay rc) (hit (C.w.heap.size+1) rc hrec) rfl rfl hps (by simp[hl]) i1 hHL (by simp[hsz];omega) hrep hG).mono ?_
  rintro e w' ⟨v,C2,rfl,rfl,hE,Eo,QM,_⟩
  have XL:C2.w.heap[C.w.heap.size+1]? =some (.loop (gy rc j b)):=Eo.d_ _ _ (by rw[QM];simp[lk])
  have hbusy:(gy rc j b).state≠.busy:=by cases b <;> simp[gy,rc]
  -- the record is of no more use
  let C3:Ctx:={C2 with w:=C2.w.putObj (C.w.heap.size+1) (.loop {gy rc j b with state:=.exhausted}),H:={C2.H with d_:=[]}}
  have ajC:C.w.heap.size+1<C2.w.heap.size:=(Array.getElem?_eq_some_iff.1 XL).1
  obtain⟨m3,i3,r3⟩:=ahb (C':=C3) Eo (b:=C.w.heap.size+1) (.inl ⟨_,by rw[QM];simp[lk];rfl⟩) (ob:=.loop {gy rc j b with state:=.exhausted}) rfl rfl rfl rfl rfl rfl (fun b h=>by
    rcases h with⟨r',h⟩|h
    ·simp[C3,lk] at h
    ·exact .inr h) (fun l r' h=>by simp[C3,lk] at h) (fun d h=>by
    have h1:=Eo.jX d h
    rw[←h1]
    refine World.putObj_heap_other (fun hd=> ?_)
    rw[hd,XL] at h1;cases h1) Eo.CN Eo.Dt
  have X_:Rel W0 N (lk fr) {H' with d_:=[]} C3 {a with defers:=[{target:=.collected C.w.heap.size,args:= #[]}]++a.defers}:=by
   refine⟨by simp only[C3,QM],i3,hr.size, ?_,fun t x hx=>r3 _ _ ((r1 _ _ (hr.rep t x hx)).ext hE)⟩
   show _=C2.jX.map _++_
   rw[hE.jX]
   show _=(C.w.heap.size::C.jX).map _++_
   rw[hr.defers];rfl
  have hMM:Mem C C3:=m1.trans (hE.mem.trans m3)
  refine⟨(gy rc j b).pending,C3.w,run_endLoop XL hbusy, ?_⟩
  cases b with
  |true=>exact⟨⟨fr,{H' with d_:=[]}⟩,C3,rfl,hMM,X_,hnext rfl⟩
  |false=>
   have:=(hjump rfl).at hMM X_
   rw[hro,EF] at this
   exact this

end

def Bp(p:Nat):List (Nat×AV)→Prop
 |[]=>True
 |(_,x)::r=>kX p x∧Bp p r
theorem Bp.spec{p:Nat}:∀{l:List (Nat×AV)},Bp p l→∀t x,lk l t=some x→kX p x
 |[],_,_,_,h=>by cases h
 |(q,u)::l,hl,t,x,h=>by
  simp only[lk] at h
  split at h
  ·rename_i hq;subst hq;cases h;exact hl.1
  ·exact Bp.spec hl.2 t x h
theorem kX.Ad{p:Nat}{x:AV}(h:b_ x):kX p x:=by
 have fl:∀(e x:AV),x∈e.flat→b_ e→(∀y∈e.flat,b_ y):=fun e x _ hn y hy=>by
  cases e <;> simp only[AV.flat,List.mem_singleton] at hy
  case agg cs=>simp only[zd] at hn;exact hn y hy
  case rz=>simp at hy
  all_goals (rw[hy];exact hn)
 have key:∀x:AV,b_ x→kX p x∧∀y∈x.flat,kX p y:=by
  intro x h
  induction h with
  |any=>exact⟨.any,fun y hy=>by simp only[AV.flat,List.mem_singleton] at hy;rw[hy];exact .any⟩
  |imm v=>exact⟨.imm v,fun y hy=>by simp only[AV.flat,List.mem_singleton] at hy;rw[hy];exact .imm v⟩
  |rz l=>exact⟨.rz l,fun y hy=>by simp[AV.flat] at hy⟩
  |sl es _ ih=>
   have:kX p (.sl es):=.sl es (fun e he x hx=>(ih e he).2 x hx)
   exact⟨this,fun y hy=>by simp only[AV.flat,List.mem_singleton] at hy;rw[hy];exact this⟩
  |clip es _ ih=>
   have:kX p (.clip es):=.clip es (fun e he x hx=>(ih e he).2 x hx)
   exact⟨this,fun y hy=>by simp only[AV.flat,List.mem_singleton] at hy;rw[hy];exact this⟩
  |pp fl j _ ih=>
   have:kX p (.pp fl j):=.pp fl j (fun e he=>(ih e he).1)
   exact⟨this,fun y hy=>by simp only[AV.flat,List.mem_singleton] at hy;rw[hy];exact this⟩
  |agg cs _ ih=>exact⟨.agg cs (fun e he=>(ih e he).1),fun y hy=>by simp only[AV.flat] at hy;exact(ih y hy).1⟩
  |tuple cs _ ih=>
   have:kX p (.tuple cs):=.tuple cs (fun e he=>(ih e he).1)
   exact⟨this,fun y hy=>by simp only[AV.flat,List.mem_singleton] at hy;rw[hy];exact this⟩
  |ifc t x _ ih=>
   have:kX p (.ifc t x):=.ifc t x ih.1
   exact⟨this,fun y hy=>by simp only[AV.flat,List.mem_singleton] at hy;rw[hy];exact this⟩
  |bI fn cs _ ih=>
   have:kX p (.bI fn cs):=.bI fn cs (fun e he=>(ih e he).1)
   exact⟨this,fun y hy=>by simp only[AV.flat,List.mem_singleton] at hy;rw[hy];exact this⟩
 exact(key x h).1
end Go.Av
end

section
/- Function values, methods behind interfaces, and loops gone through one by one. -/
namespace Go.Av

section
variable {P:Program} {W0:eo} {C:Ctx} {fr:Fr} {a:Act} {H:bu} {o:Oper} {N:Nat}

theorem Enters.bI{f:FuncId}{x:Operand}{args:Array Operand}{tys:Array TypeId}{ys caps:List AV}(ho:o.op=.call {callee:=.value x,args:=args,argTypes:=tys})(hx:bH fr x=some (.bI (.func f) caps))(hys:args.toList.mapM (bH fr)=some ys)(hc:lE P f):Enters P o fr f (ys++caps):=fun C a hop=>by
 have hopy:∀y∈args.toList,wh C fr a y:=fun y hy=>hop y (by rw[ho];simp[Op.operands,Call.operands];exact .inr (by simpa using hy))
 obtain⟨h1,h2⟩:=Bw hopy hys
 have hv:=bV (hop x (by rw[ho];simp[Op.operands,Call.operands])) hx
 obtain⟨vs,hvs,hsz,hcap⟩:∃vs:Array Value,a.eval x=.func (.func f) #[] vs∧vs.size=caps.length∧∀(k:Nat) (x:AV),caps[k]? =some x→eB C x (vs.getD k undef):=by
  generalize a.eval x=u at hv
  match hv with
  |.bI _ _ vs h1 h2=>exact⟨vs,rfl,h1,h2⟩
 refine⟨args.map a.eval++vs,fun w=> ?_,by simp[hsz] at h1 ⊢;omega,fun t z hz=> ?_⟩
 ·have:=hc (args.map a.eval++vs) w
  simp only[execOp,ho,resolve,hvs,Deferred.ofValue]
  simpa [invoke] using this
 ·obtain⟨_,h3⟩:=u0 (ys++caps) 0 t z hz
  rw[Nat.sub_zero] at h3
  by_cases ht:t<ys.length
  ·rw[List.getElem?_append_left ht] at h3
   have:(args.map a.eval++vs).getD t undef=(args.map a.eval).getD t undef:=by
    rw[Array.getD_eq_getD_getElem?,Array.getElem?_append_left (by omega),←Array.getD_eq_getD_getElem?]
   rw[this]
   refine h2 t z ?_
   have key:∀(xs:List AV) (q k:Nat) (x:AV),xs[k]? =some x→lk (dB q xs) (q+k)=some x:=by
    intro xs
    induction xs with
    |nil=>intro q k x h;simp at h
    |cons y ys ih=>
     intro q k x hk
     cases k with
     |zero=>simp at hk;subst hk;simp[dB,lk]
     |succ k=>
      simp at hk
      simp only[dB,lk]
      rw[if_neg (by omega)]
      have:=ih (q+1) k x hk
      rwa [show q+1+k=q+(k+1) by omega] at this
   have:=key ys 0 t z h3
   rwa [Nat.zero_add] at this
  ·rw[List.getElem?_append_right (by omega)] at h3
   have:(args.map a.eval++vs).getD t undef=vs.getD (t - ys.length) undef:=by
    rw[Array.getD_eq_getD_getElem?,Array.getElem?_append_right (by omega),h1,←Array.getD_eq_getD_getElem?]
   rw[this]
   exact hcap _ z h3

theorem Enters.iface{f:FuncId}{x:Operand}{name:String}{t:TypeId}{args:Array Operand}{tys:Array TypeId}{z:AV}{ys:List AV}(ho:o.op=.call {callee:=.invoke x name,args:=args,argTypes:=tys})(hx:bH fr x=some (.ifc t z))(hys:args.toList.mapM (bH fr)=some ys)
  (hm:∀v w,(method (P.types.size+Made.depth) t v name).run P w=.ok (f,v) w)(hc:lE P f):Enters P o fr f (z::ys):=fun C a hop=>by
 have hopy:∀y∈args.toList,wh C fr a y:=fun y hy=>hop y (by rw[ho];simp[Op.operands,Call.operands];exact .inr (by simpa using hy))
 obtain⟨h1,h2⟩:=Bw hopy hys
 have hv:=bV (hop x (by rw[ho];simp[Op.operands,Call.operands])) hx
 obtain⟨v,hvs,hrep⟩:∃v:Value,a.eval x=.iface t v∧eB C z v:=by
  generalize a.eval x=u at hv
  match hv with
  |.ifc _ _ v h1=>exact⟨v,rfl,h1⟩
 refine⟨#[v]++args.map a.eval,fun w=> ?_,by simpa [Nat.add_comm] using h1,fun k y hk=> ?_⟩
 ·have h3:=hc (#[v]++args.map a.eval) w
  have h4:=hm v w
  have e1:(#[Value.iface t v]++args.map a.eval)[0]? =some (.iface t v):=by rw[Array.getElem?_append_left (by simp)];rfl
  have e3:(args.map a.eval).extract 0 args.size=args.map a.eval:=by
   have h5:args.size=(args.map a.eval).size:=by simp
   rw[h5,Array.extract_size]
  have e4:(#[Value.iface t v]++args.map a.eval).extract 1 (#[Value.iface t v]++args.map a.eval).size=args.map a.eval:=by
   simp[e3]
  have h5:(invoke (.fn (.method name) #[]) (#[.iface t v]++args.map a.eval)).run P w=.ok (.enter f (#[v]++args.map a.eval)) w:=by
   simp only[invoke,e1,callMethod]
   rw[e4,Sem.run_bind]
   show(Result.andThen (.ok P w) _)=_
   simp only[Result.andThen_ok]
   rw[Sem.run_bind,h4]
   exact h3
  simp only[execOp,ho,resolve,hvs]
  rw[Sem.run_bind]
  exact h5
 ·obtain⟨_,h3⟩:=u0 (z::ys) 0 k y hk
  rw[Nat.sub_zero] at h3
  cases k with
  |zero=>
   simp at h3;subst h3
   have:(#[v]++args.map a.eval).getD 0 undef=v:=by
    rw[Array.getD_eq_getD_getElem?,Array.getElem?_append_left (by simp)];rfl
   rw[this];exact hrep
  |succ k=>
   simp at h3
   have:(#[v]++args.map a.eval).getD (k+1) undef=(args.map a.eval).getD k undef:=by
    rw[Array.getD_eq_getD_getElem?,Array.getElem?_append_right (by simp),←Array.getD_eq_getD_getElem?];simp
   rw[this]
   refine h2 k y ?_
   have key:∀(xs:List AV) (q k:Nat) (x:AV),xs[k]? =some x→lk (dB q xs) (q+k)=some x:=by
    intro xs
    induction xs with
    |nil=>intro q k x h;simp at h
    |cons y ys ih=>
     intro q k x hk
     cases k with
     |zero=>simp at hk;subst hk;simp[dB,lk]
     |succ k=>
      simp at hk
      simp only[dB,lk]
      rw[if_neg (by omega)]
      have:=ih (q+1) k x hk
      rwa [show q+1+k=q+(k+1) by omega] at this
   have:=key ys 0 k y h3
   rwa [Nat.zero_add] at this

theorem bQ{ok:AV→Prop}{f:FuncId}{ys xs:List AV}{r r':AV}{Hs Hin Hout H':bu}{g m:List (Nat×Nat)}{nw:List Nat}{p:Nat}(he:Enters P o fr f ys)
  (hf:qy P (.pinned W0.w p) f xs Hin r Hout)(h:Pass ok (dB 0 ys) (dB 0 xs) H Hs Hin Hout H' g m nw p r r')(hl:xs.length=ys.length):fO P W0 o fr H r' H':=by
 intro C a hI hH hop K Q hK
 obtain⟨vals,hrun,h1,h2⟩:=he C a hop
 unfold Oper.wp
 rw[hrun,Oper.upon_enter]
 refine(call3 (W0:=W0) hf rfl rfl h hl hI hH h1 h2 trivial).mono ?_
 rintro e w' ⟨v,C',rfl,rfl,h1,h2,h3,h4⟩
 exact hK v C' h1 h2 h3 h4


def Xq(P:Program)(W0:eo)(N:Nat)(c:Code)(Q:Exit→St→Prop):Nat→St→Prop
 |0,_=>False
 |n+1,s=>ec P W0 N c s (Gm (Xq P W0 N c Q n) Q)

theorem PG{c:Code}{st:St}{Q:Exit→St→Prop}(n:Nat)(h:Xq P W0 N c Q n st):ec P W0 N (.loop c) st Q:=by
 classical
 refine LP (fun s=>∃m,Xq P W0 N c Q m s) (fun s=>if h:∃m,Xq P W0 N c Q m s then Classical.choose (exists_least _ h) else 0) ⟨n,h⟩ ?_
 intro s hs
 have hm:(if h:∃m,Xq P W0 N c Q m s then Classical.choose (exists_least _ h) else 0)=Classical.choose (exists_least _ hs):=dif_pos hs
 rw[hm]
 have h1:=(Classical.choose_spec (exists_least _ hs)).1
 generalize Classical.choose (exists_least _ hs)=k at h1
 cases k with
 |zero=>exact h1.elim
 |succ k=>
  refine ec.mono h1 fun e s1 h2=> ?_
  cases e with
  |normal=>
   have h3:∃m,Xq P W0 N c Q m s1:=⟨k,h2⟩
   refine⟨s1,bq.refl _,h3, ?_⟩
   rw[dif_pos h3]
   exact Nat.lt_succ_of_le ((Classical.choose_spec (exists_least _ h3)).2 k h2)
  |_=>exact h2
end


section
variable {P:Program} {W0:eo} {fr:Fr} {H:bu} {o:Oper}
theorem LM{x y:Operand}{tys:Array TypeId}{a b:Int}(ho:o.op=.call {callee:=.builtin .min,args:= #[x,y],argTypes:=tys})(hx:bH fr x=some (J a))(hy:bH fr y=some (J b)):fO P W0 o fr H (J (Sh.min a b)) H:=
 .fo fun C a' _ _ hop=>by
  have e1:=fq (v:=.int .i64 a) rfl (bV (hop x (by simp[ho,Op.operands,Call.operands])) hx)
  have e2:=fq (v:=.int .i64 b) rfl (bV (hop y (by simp[ho,Op.operands,Call.operands])) hy)
  refine⟨.int .i64 (Sh.min a b), ?_,.imm _ rfl⟩
  obtain⟨cs,hb⟩:=tH (P:=P) ho a'
  rw[hb]
  have e:(#[x,y].map a'.eval)= #[.int .i64 a,.int .i64 b]:=by simp[e1,e2]
  rw[e]
  simp[builtin,Builtin.min_,Builtin.min2,Sh.min]
theorem G5{x y:Operand}{tys:Array TypeId}{a b:Int}(ho:o.op=.call {callee:=.builtin .max,args:= #[x,y],argTypes:=tys})(hx:bH fr x=some (J a))(hy:bH fr y=some (J b)):fO P W0 o fr H (J (Sh.max a b)) H:=
 .fo fun C a' _ _ hop=>by
  have e1:=fq (v:=.int .i64 a) rfl (bV (hop x (by simp[ho,Op.operands,Call.operands])) hx)
  have e2:=fq (v:=.int .i64 b) rfl (bV (hop y (by simp[ho,Op.operands,Call.operands])) hy)
  refine⟨.int .i64 (Sh.max a b), ?_,.imm _ rfl⟩
  obtain⟨cs,hb⟩:=tH (P:=P) ho a'
  rw[hb]
  have e:(#[x,y].map a'.eval)= #[.int .i64 a,.int .i64 b]:=by simp[e1,e2]
  rw[e]
  simp[builtin,Builtin.max_,Builtin.max2,Sh.max]
end
end Go.Av
namespace Go.Av
section
variable {H:bu} {g:List (Nat×Nat)} {nw:List Nat}
theorem wC.cl{fn:Fn}{cs cs':List AV}(h:DM H g nw cs cs'):wC H g nw (.bI fn cs) (.bI fn cs'):=.bI fn cs cs' h.spec.1 h.spec.2
theorem wC.ee{id i j:Nat}{es fl:List AV}{e:AV}(h1:H.get id=some es)(h2:g.all (fun p=>p.2 !=id)=true)(h3:es[i]? =some e)(h4:e.flat=fl)(h5:∀x∈fl,b_ x):wC H g nw (.ref id i j) (.pp fl j):=
 .frz h1 (fun p hp=>by have:=List.all_eq_true.1 h2 p hp;simpa using this) h3 h4 h5
end
end Go.Av
namespace Go.Av
theorem Ew{P:Program}{W0:eo}{N n:Nat}{c:Code}{Q:Exit→St→Prop}{s:St}(h:ec P W0 N c s (Gm (Xq P W0 N c Q n) Q)):Gm (Xq P W0 N c Q (n+1)) Q .normal s:=h
end Go.Av
namespace Go.Av
theorem wC.sm{H:bu}{g:List (Nat×Nat)}{nw:List Nat}{x:AV}(h:b_ x:=by simp):wC H g nw x x:=.same x h
theorem oV.sm{ok:AV→Prop}{n:Nat}{x:AV}(h:ok x:=by simp):oV ok n x x:=.same x h
theorem Ren.sm{m:List (Nat×Nat)}{x:AV}(h:b_ x:=by simp):Ren b_ m x x:=.same x h
end Go.Av
namespace Go.Av
theorem dt{p:Prop} [Decidable p] (h:decide p=true:=by rfl):p:=of_decide_eq_true h
theorem bq.e{W0:eo}{N:Nat}{st:St}{fr':List (Nat×AV)}{H':bu}(hfr:Seen st.H [] [] st.fr fr')(h0:H'.eZ=[]:=by rfl)(hpo:Cs W0.p [] [] H'.next=true:=by rfl)(hlp:H'.d_=st.H.d_:=by rfl):bq W0 N st ⟨fr',H'⟩:=
 aB [] [] rfl rfl rfl (by rw[h0];trivial) hfr hpo hlp
end Go.Av
theorem Exists.k{H:Go.Av.bu}{g:List (Nat×Nat)}{nw:List Nat}{fr:List (Nat×Go.Av.AV)}{t:Nat}{y:Go.Av.AV}(h:Go.Av.lk fr t=some y:=by rfl)(hn:Go.Av.b_ y:=by simp):∃x,Go.Av.lk fr t=some x∧Go.Av.wC H g nw x y:=⟨y,h,.same y hn⟩
end

section
/- Short forms of what walks say often. -/
namespace Go.Av
open Go.RowKit (Below)
section
variable {P:Program} {W0:eo} {N:Nat} {ops:Array Oper} {o:Oper} {rest:List Oper} {fr:List (Nat×AV)} {H:bu} {K:List (Nat×AV)→bu→Prop} {Q:Exit→St→Prop}

def mvA(ops:Array Oper)(fr:Nat→Option AV)(o:Oper):Option AV:=
 match jW ops fr o with
 |some true=>match o.op with
  |.move x=>bH fr x
  |.assign x=>bH fr x
  |.pick c x y=>match bH fr c with
   |some (.imm (.bool t))=>bH fr (if t then x else y)
   |_=>none
  |_=>none
 |_=>none
theorem Ng{f:Nat→Option AV}{r:AV}(h:mvA ops f o=some r):jW ops f o=some true:=by
 unfold mvA at h
 split at h
 ·assumption
 ·cases h
theorem T7{f:Nat→Option AV}{r:AV}(h:mvA ops f o=some r)(H:bu):fO P W0 o f H r H:=by
 unfold mvA at h
 split at h
 ·split at h
  ·exact tU (.inl (by assumption)) h
  ·exact tU (.inr (by assumption)) h
  ·split at h
   ·exact Sb (by assumption) (by assumption) h
   ·cases h
  ·cases h
 ·cases h
theorem O{r:AV}(h:mvA ops (lk fr) o=some r)(k:AR P W0 ops rest (td fr o.dst r) H K):AR P W0 ops (o::rest) fr H K:=E (Ng h) (T7 h H) k
def fpA(ops:Array Oper)(fr:Nat→Option AV)(o:Oper):Option (TypeId×Nat×List AV×Nat):=
 match jW ops fr o with
 |some true=>match o.op with
  |.fieldAddr s x f=>match bH fr x with
   |some (.pp fl j)=>some (s,f,fl,j)
   |_=>none
  |_=>none
 |_=>none
theorem L7{f:Nat→Option AV}{r:TypeId×Nat×List AV×Nat}(h:fpA ops f o=some r):jW ops f o=some true:=by
 unfold fpA at h
 split at h
 ·assumption
 ·cases h
theorem Sy{fv:Nat→Option AV}{s:TypeId}{f off n j:Nat}{g:Bool}{fl:List AV}(h:fpA ops fv o=some (s,f,fl,j))(h2:yW P s f=some (off,n,g))(hn:0<n)(H:bu):fO P W0 o fv H (.pp fl (j+off)) H:=by
 unfold fpA at h
 split at h
 ·split at h
  ·split at h
   ·cases h;exact Ki (by assumption) (by assumption) h2 hn
   ·cases h
  ·cases h
 ·cases h
theorem bJ{s:TypeId}{f off n j:Nat}{g:Bool}{fl:List AV}(h:fpA ops (lk fr) o=some (s,f,fl,j))(h2:yW P s f=some (off,n,g))(k:AR P W0 ops rest (td fr o.dst (.pp fl (j+off))) H K)(hn:0<n:=by decide):AR P W0 ops (o::rest) fr H K:=E (L7 h) (Sy h h2 hn H) k
theorem aT{t:TypeId}{x:Operand}{fl:List AV}{j n:Nat}{g:Bool}(r:AV)(hw:jW ops (lk fr) o=some true)(ho:o.op=.load t x)(hx:bH (lk fr) x=some (.pp fl j))(ht:xx P t=some (n,g))(hr:vB fl j n g=some r)(k:AR P W0 ops rest (td fr o.dst r) H K):AR P W0 ops (o::rest) fr H K:=E hw (F4 ho hx ht hr) k
theorem cu(hw:jW ops (lk fr) o=some false)(k:AR P W0 ops rest (td fr o.dst (.tuple [])) H K):AR P W0 ops (o::rest) fr H K:=yQ hw k
theorem c9{o2:Oper}(hw:jW ops (lk fr) o=some false)(h2:jW ops (lk (td fr o.dst (.tuple []))) o2=some false)(k:AR P W0 ops rest (td (td fr o.dst (.tuple [])) o2.dst (.tuple [])) H K):AR P W0 ops (o::o2::rest) fr H K:=yQ hw (yQ h2 k)
theorem cr{o2 o3:Oper}(hw:jW ops (lk fr) o=some false)(h2:jW ops (lk (td fr o.dst (.tuple []))) o2=some false)(h3:jW ops (lk (td (td fr o.dst (.tuple [])) o2.dst (.tuple []))) o3=some false)(k:AR P W0 ops rest (td (td (td fr o.dst (.tuple [])) o2.dst (.tuple [])) o3.dst (.tuple [])) H K):AR P W0 ops (o::o2::o3::rest) fr H K:=yQ hw (yQ h2 (yQ h3 k))
theorem V(ts:List Nat){l:List Oper}{frx:List (Nat×AV)}(h:pick fr ts=some frx)(k:AR P W0 ops l frx H K):AR P W0 ops l fr H K:=R8 ts h k
theorem sr{id:Nat}{l:List Oper}{y:Code}(hN:l.all (nE N)=true)(h:∀K:St→Prop,(∀s,ec P W0 N y s Q→K s)→AR P W0 l.toArray l fr H (fun f g=>Gm K Q .normal ⟨f,g⟩)):ec P W0 N (.seq (.region id l.toArray false) y) ⟨fr,H⟩ Q:=aD fun K hK=>bf hN (h K hK)
theorem aH{K0:St→Prop}{y:Code}{fr':List (Nat×AV)}(hK:∀s,ec P W0 N y s Q→K0 s)(ts:List Nat)(h:pick fr ts=some fr')(k:ec P W0 N y ⟨fr',H⟩ Q):AR P W0 ops [] fr H (fun f g=>Gm K0 Q .normal ⟨f,g⟩):=an (hK _ (ec.Vj (U ts h) k))
theorem tf(b:Bool):b=true∨b=false:=by cases b <;> simp
abbrev sm{α:Type}(f:α→AV)(l:List α):AV:=.sl (List.map f l)
end
section
variable {P:Program} {W0:eo} {ops:Array Oper} {fs:Flags} {stop:Option Nat} {k:Nat} {o:Oper} {rest:List Oper} {frl:List (Nat×AV)} {H:bu} {K:List (Nat×AV)→bu→Prop}
theorem aK{r:AV}(h:mvA ops (lk frl) o=some r)(h2:Bn P W0 ops fs stop (k+1) rest (td frl o.dst r) H K)(hs:(stop==some k)=false:=by rfl):Bn P W0 ops fs stop k (o::rest) frl H K:=aP (Ng h) (fun H'=>T7 h H') h2 hs
theorem b5{s:TypeId}{f off n j:Nat}{g:Bool}{fl:List AV}(h:fpA ops (lk frl) o=some (s,f,fl,j))(hd:yW P s f=some (off,n,g))(h2:Bn P W0 ops fs stop (k+1) rest (td frl o.dst (.pp fl (j+off))) H K)(hn:0<n:=by decide)(hs:(stop==some k)=false:=by rfl):Bn P W0 ops fs stop k (o::rest) frl H K:=aP (L7 h) (fun H'=>Sy h hd hn H') h2 hs
theorem bF{t:TypeId}{x:Operand}{fl:List AV}{j n:Nat}{g:Bool}(r:AV)(hw:jW ops (lk frl) o=some true)(ho:o.op=.load t x)(hx:bH (lk frl) x=some (.pp fl j))(ht:xx P t=some (n,g))(hr:vB fl j n g=some r)(h2:Bn P W0 ops fs stop (k+1) rest (td frl o.dst r) H K)(hs:(stop==some k)=false:=by rfl):Bn P W0 ops fs stop k (o::rest) frl H K:=aP hw (fun _=>F4 ho hx ht hr) h2 hs
theorem aC(hw:jW ops (lk frl) o=some false)(h2:Bn P W0 ops fs stop (k+1) rest (td frl o.dst (.tuple [])) H K)(hs:(stop==some k)=false:=by rfl):Bn P W0 ops fs stop k (o::rest) frl H K:=Qs hw h2 hs
theorem au(ts:List Nat){l:List Oper}{frx:List (Nat×AV)}(h:pick frl ts=some frx)(h2:Bn P W0 ops fs stop k l frx H K):Bn P W0 ops fs stop k l frl H K:=Qr ts h h2
end
end Go.Av
end

section
/- An own slice made shorter: the object under a new name. -/
namespace Go.Av
open Go.RowKit (Below)
section
variable {P:Program} {W0:eo} {C:Ctx} {fr:Fr} {H:bu} {o:Oper}

end
end Go.Av
end

section
/- What an operation makes, some of it given up at once. -/
namespace Go.Av
section
variable {P:Program} {W0:eo} {fr:Fr} {H:bu} {o:Oper}
theorem fO.re{r r':AV}{H1 H2:bu}(h:fO P W0 o fr H r H1)(g:List (Nat×Nat))(hs:wC H1 g [] r r')(hH:si H1 g [] H2.next H2.eZ)(hid:g.all (fun p=>p.1==p.2)=true:=by rfl)(hnext:H1.next≤H2.next:=by exact Nat.le_refl _)
  (hinj:g.all (fun p=>g.all (fun q=>p.2 !=q.2||p.1==q.1))=true:=by rfl)(hlt:g.all (fun p=>decide (p.1<H2.next))=true:=by rfl)(hpo:Cs W0.p g [] H2.next=true:=by rfl)(hlp:H2.d_=H1.d_:=by rfl):fO P W0 o fr H r' H2:=by
 intro C a hI hCH hop K Q hK
 refine h C a hI hCH hop K Q (fun v C1 h1 h2 h3 h4=> ?_)
 have hr:Rel W0 1 (lk [(0,r)]) H1 C1 {a with tmps:= #[v],defers:=(C1.jX.map fun d=>{target:=.collected d,args:= #[]})++W0.dx}:=⟨h3,h2,rfl,rfl,fun t x hx=>by
  simp only[lk] at hx
  split at hx
  ·rename_i ht;subst ht;cases hx;exact h4
  ·cases hx⟩
 obtain⟨hM,hR⟩:=KZ (st:=⟨[(0,r)],H1⟩) (fr':=[(0,r')]) (H':=H2) g [] hinj hlt rfl hH ⟨⟨r,rfl,hs⟩,trivial⟩ hpo hlp hr
 refine hK v (C1.re g H2) (h1.trans ?_) hR.inv rfl (hR.rep 0 r' rfl)
 refine⟨hM.below,hM.keep,hM.own,by rw[h3];exact hnext,fun id es' hlt' hg=> ?_,rfl,rfl,rfl⟩
 simp only[Ctx.re,bu.get,Option.map_eq_some_iff] at hg
 obtain⟨⟨s,e⟩,hq,rfl⟩:=hg
 obtain⟨h5,_⟩:=hH.spec hq
 rcases h5 with⟨old,es,q1,q2,_⟩|⟨q,_⟩
 ·have:=List.all_eq_true.1 hid _ (ni q1)
  simp only[beq_iff_eq] at this
  subst this
  refine⟨⟨es, ?_⟩, ?_⟩
  ·rw[h3];simp only[bu.get,q2,Option.map_some]
  ·show(match lk g id with|some old=>C1.pl old|none=>_)=_
   rw[q1]
 ·cases q
theorem aaA{α:Type}{t e:TypeId}{s by':Nat}{xo yo zo:Operand}{kb kc:IntKind}{b:Int}(enc:α→AV)(l L:List α)(hL:Sh.sub l 0 b=some L)(hfl:∀x:α,(enc x).flat.length=s)(ho:o.op=.slice t xo none (some yo) (some zo)){ax:AV}(hx:bH fr xo=some ax)(hax:ax=.sl (l.map enc)∨ax=.clip (l.map enc))
  (hy:bH fr yo=some (.imm (.int kb b)))(hz:bH fr zo=some (.imm (.int kc b)))(ht:AT P t=some (e,s,by')):fO P W0 o fr H (.clip (L.map enc)) H:=by
 obtain⟨m,k,h0,rfl,_,h2,rfl⟩:=Sh.IJ hL
 have hm:m=0:=by omega
 subst hm
 have hb:iV fr (some yo) (l.map enc).length=some k:=by simp[iV,hy]
 have hc:iV fr (some zo) (l.map enc).length=some k:=by simp[iV,hz]
 have h1:=G6 (P:=P) (W0:=W0) (o:=o) (fr:=fr) (H:=H) ho hx hax ht (l:=0) rfl rfl rfl hb hc (Nat.zero_le _) (by simpa using h2) (vv hfl l)
 simp only[List.drop_zero,Nat.sub_zero] at h1 ⊢
 rw[List.map_take]
 exact h1
end
end Go.Av
end

section
/- A family of objects, as many as a list is long: the rows of a slice of slices that is the proof's own. -/
namespace Go.Av
section
variable {α:Type}
def QH(enc:α→AV)(sz:Nat):Nat→List (List α)→List (Nat×(Nat×List AV))
 |_,[]=>[]
 |M,l::L=>(M,(sz,l.map enc))::QH enc sz (M+1) L
def qj(enc:α→AV):Nat→List (List α)→List AV
 |_,[]=>[]
 |M,l::L=>.view M 0 (l.map enc).length::qj enc (M+1) L
@[simp] theorem L1(enc:α→AV):∀(L:List (List α)) (M:Nat),(qj enc M L).length=L.length
 |[],_=>rfl
 |_::L,M=>by simp[qj,L1 enc L]
theorem tX(enc:α→AV):∀(L:List (List α)) (M i:Nat),(qj enc M L)[i]? =L[i]?.map fun l=>.view (M+i) 0 (l.map enc).length
 |[],_,i=>by simp[qj]
 |l::L,M,0=>by simp[qj]
 |l::L,M,i+1=>by simp only[qj,List.getElem?_cons_succ,tX enc L];rw[Nat.add_assoc,Nat.add_comm 1 i]
theorem OV(enc:α→AV)(sz:Nat):∀(L:List (List α)) (M k:Nat),lk (QH enc sz M L) k=if M≤k then L[k - M]?.map fun l=>(sz,l.map enc) else none
 |[],M,k=>by simp[QH,lk]
 |l::L,M,k=>by
  simp only[QH,lk]
  by_cases h:M=k
  ·subst h;simp
  ·rw[if_neg h,OV enc sz L]
   by_cases h1:M≤k
   ·have h2:M+1≤k:=by omega
    rw[if_pos h1,if_pos h2]
    have:k - M=(k - (M+1))+1:=by omega
    rw[this,List.getElem?_cons_succ]
   ·rw[if_neg h1,if_neg (by omega)]
abbrev vu(F:List (Nat×(Nat×List AV)))(enc:α→AV)(sz M:Nat)(L:List (List α)):bu:=⟨M+L.length,F++QH enc sz M L,[]⟩
theorem D5{F:List (Nat×(Nat×List AV))}{M:Nat}(hF:F.all (fun p=>decide (p.1<M))=true){k:Nat}{x:Nat×List AV}(h:lk F k=some x):k<M:=by simpa using List.all_eq_true.1 hF _ (ni h)
theorem CV{F:List (Nat×(Nat×List AV))}{enc:α→AV}{sz M:Nat}{L:List (List α)}(hF:F.all (fun p=>decide (p.1<M))=true){i:Nat}{l:List α}(h:L[i]? =some l):lk (F++QH enc sz M L) (M+i)=some (sz,l.map enc):=by
 rw[qM]
 have h0:lk F (M+i)=none:=by
  cases hc:lk F (M+i) with
  |none=>rfl
  |some v=>have:=D5 hF hc;omega
 rw[h0,OV,if_pos (Nat.le_add_right _ _),Nat.add_sub_cancel_left,h];rfl
theorem GS{F:List (Nat×(Nat×List AV))}{enc:α→AV}{sz M:Nat}{L:List (List α)}{k:Nat}(hk:k<M):lk (F++QH enc sz M L) k=lk F k:=by
 rw[qM,OV,if_neg (by omega)]
 cases lk F k <;> rfl

def xz(gr:Nat→Option Nat)(M:Nat):Nat→Nat→List (Nat×Nat)
 |_,0=>[]
 |i,n+1=>match gr i with
  |some o=>(M+i,o)::xz gr M (i+1) n
  |none=>xz gr M (i+1) n
def FE(gr:Nat→Option Nat)(M:Nat):Nat→Nat→List Nat
 |_,0=>[]
 |i,n+1=>match gr i with
  |some _=>FE gr M (i+1) n
  |none=>(M+i)::FE gr M (i+1) n
theorem p_{gr:Nat→Option Nat}{M:Nat}:∀{n i:Nat} {p:Nat×Nat},p∈xz gr M i n↔∃j o,i≤j∧j<i+n∧gr j=some o∧p=(M+j,o)
 |0,i,p=>by simp[xz];intro j h1 h2;omega
 |n+1,i,p=>by
  unfold xz
  cases hg:gr i with
  |none=>
   simp only[p_ (n:=n)]
   constructor
   ·rintro⟨j,o,h1,h2,h3⟩;exact⟨j,o,by omega,by omega,h3⟩
   ·rintro⟨j,o,h1,h2,h3,h4⟩
    by_cases h:j=i
    ·subst h;rw[hg] at h3;cases h3
    ·exact⟨j,o,by omega,by omega,h3,h4⟩
  |some o=>
   simp only[List.mem_cons,p_ (n:=n)]
   constructor
   ·rintro(h|⟨j,o,h1,h2,h3⟩)
    ·exact⟨i,o,Nat.le_refl _,by omega,hg,h⟩
    ·exact⟨j,o,by omega,by omega,h3⟩
   ·rintro⟨j,o',h1,h2,h3,h4⟩
    by_cases h:j=i
    ·subst h;rw[hg] at h3;cases h3;exact .inl h4
    ·exact .inr ⟨j,o',by omega,by omega,h3,h4⟩
theorem Ch{gr:Nat→Option Nat}{M:Nat}:∀{n i k:Nat},k∈FE gr M i n↔∃j,i≤j∧j<i+n∧gr j=none∧k=M+j
 |0,i,p=>by simp[FE];intro j h1 h2;omega
 |n+1,i,p=>by
  unfold FE
  cases hg:gr i with
  |some o=>
   simp only[Ch (n:=n)]
   constructor
   ·rintro⟨j,h1,h2,h3⟩;exact⟨j,by omega,by omega,h3⟩
   ·rintro⟨j,h1,h2,h3,h4⟩
    by_cases h:j=i
    ·subst h;rw[hg] at h3;cases h3
    ·exact⟨j,by omega,by omega,h3,h4⟩
  |none=>
   simp only[List.mem_cons,Ch (n:=n)]
   constructor
   ·rintro(h|⟨j,h1,h2,h3⟩)
    ·exact⟨i,Nat.le_refl _,by omega,hg,h⟩
    ·exact⟨j,by omega,by omega,h3⟩
   ·rintro⟨j,h1,h2,h3,h4⟩
    by_cases h:j=i
    ·subst h;exact .inl h4
    ·exact .inr ⟨j,by omega,by omega,h3,h4⟩
theorem GR{gr:Nat→Option Nat}{M:Nat}:∀{n i j:Nat},i≤j→j<i+n→lk (xz gr M i n) (M+j)=gr j
 |0,i,j,h1,h2=>by omega
 |n+1,i,j,h1,h2=>by
  unfold xz
  by_cases h:j=i
  ·subst h
   cases hg:gr j with
   |some o=>simp[lk]
   |none=>
    cases hc:lk (xz gr M (j+1) n) (M+j) with
    |none=>rfl
    |some v=>
     obtain⟨k,o,k1,_,_,k2⟩:=p_.1 (ni hc)
     simp only[Prod.mk.injEq] at k2
     omega
  ·cases hg:gr i with
   |some o=>simp only[lk];rw[if_neg (by omega),GR (n:=n) (by omega) (by omega)]
   |none=>simp only;rw[GR (n:=n) (by omega) (by omega)]
theorem si.append{H:bu}{g:List (Nat×Nat)}{nw:List Nat}{next:Nat}:∀{l m:List (Nat×(Nat×List AV))},si H g nw next l→si H g nw next m→si H g nw next (l++m)
 |[],_,_,h=>h
 |_::_,_,h1,h2=>⟨h1.1,h1.2.1,si.append h1.2.2 h2⟩
theorem si.rows{H:bu}{g:List (Nat×Nat)}{nw:List Nat}{next sz:Nat}{enc:α→AV}(hno:∀x,b_ (enc x)):∀(L:List (List α)) (M:Nat),(∀i l,L[i]? =some l→(∃o,lk g (M+i)=some o∧lk H.eZ o=some (sz,l.map enc))∨(M+i∈nw∧l=[]))→M+L.length≤next→si H g nw next (QH enc sz M L)
 |[],M,_,_=>trivial
 |l::L,M,h,hn=>by
  simp only[List.length_cons] at hn
  refine⟨?_,by omega,si.rows hno L (M+1) (fun i l' hi=> ?_) (by omega)⟩
  ·rcases h 0 l rfl with⟨o,h1,h2⟩|⟨h1,h2⟩
   ·rw[Nat.add_zero] at h1
    refine .inl ⟨_,_,h1,h2,.same fun e he=> ?_⟩
    obtain⟨x,_,rfl⟩:=List.mem_map.1 he;exact hno x
   ·exact .inr ⟨h1,by rw[h2];rfl⟩
  ·have:=h (i+1) l' (by simpa using hi)
   rwa [show M+(i+1)=M+1+i by omega] at this
theorem CZ{H:bu}{g0:List (Nat×Nat)}{gr:Nat→Option Nat}{M:Nat}{enc:α→AV}{L:List (List α)}{es:List AV}(QO:g0.all (fun p=>decide (p.1<M))=true)(hl:es.length=L.length)
  (h:∀i l,L[i]? =some l→(∃o,gr i=some o∧es[i]? =some (.view o 0 (l.map enc).length))∨(gr i=none∧es[i]? =some aN∧l=[])):C9 H (g0++xz gr M 0 L.length) (FE gr M 0 L.length) es (qj enc M L):=
 ⟨by simp[hl],fun k e e' h1 h2=>by
  rw[tX] at h2
  simp only[Option.map_eq_some_iff] at h2
  obtain⟨l,h2,rfl⟩:=h2
  have hk:k<L.length:=(List.getElem?_eq_some_iff.1 h2).1
  have hlk:lk (g0++xz gr M 0 L.length) (M+k)=gr k:=by
   rw[qM]
   have:lk g0 (M+k)=none:=by
    cases hc:lk g0 (M+k) with
    |none=>rfl
    |some v=>
     have:=List.all_eq_true.1 QO _ (ni hc)
     simp only[decide_eq_true_eq] at this
     omega
   rw[this];exact GR (Nat.zero_le _) (by omega)
  rcases h k l h2 with⟨o,h3,h4⟩|⟨h3,h4,h5⟩
  ·rw[h1] at h4;cases h4
   exact⟨.view (hlk.trans h3),rfl⟩
  ·rw[h1] at h4;cases h4
   subst h5
   exact⟨.nil (Ch.2 ⟨k,Nat.zero_le _,by omega,h3,rfl⟩),rfl⟩⟩
theorem bq.rows{W0:eo}{N:Nat}{st:St}{fr':List (Nat×AV)}{F':List (Nat×(Nat×List AV))}(g0:List (Nat×Nat)){M sz:Nat}{enc:α→AV}(L:List (List α))(gr:Nat→Option Nat)(hno:∀x,b_ (enc x))
  (hrow:∀i l,L[i]? =some l→(∃o,gr i=some o∧lk st.H.eZ o=some (sz,l.map enc))∨(gr i=none∧l=[]))
  (hinj:∀i j o,i<L.length→j<L.length→gr i=some o→gr j=some o→i=j)
  (hdis:∀i o,i<L.length→gr i=some o→∀p∈g0,p.2≠o)
  (hfront:si st.H (g0++xz gr M 0 L.length) (FE gr M 0 L.length) (M+L.length) F')
  (hfr:Seen st.H (g0++xz gr M 0 L.length) (FE gr M 0 L.length) st.fr fr')
  (QO:g0.all (fun p=>decide (p.1<M))=true:=by rfl)(EP:g0.all (fun p=>g0.all (fun q=>p.2 !=q.2||p.1==q.1))=true:=by rfl)(hp:W0.p=0:=by rfl)(hlp:st.H.d_=[]:=by rfl):
  bq W0 N st ⟨fr',⟨M+L.length,F'++QH enc sz M L,[]⟩⟩:=by
 have KE:∀p∈g0,p.1<M:=fun p hp=>by simpa using List.all_eq_true.1 QO p hp
 have ajE:∀i,lk g0 (M+i)=none:=fun i=>by
  cases hc:lk g0 (M+i) with
  |none=>rfl
  |some v=>have:=KE _ (ni hc);simp only at this;omega
 have hlk:∀i,i<L.length→lk (g0++xz gr M 0 L.length) (M+i)=gr i:=fun i hi=>by
  rw[qM,ajE];exact GR (Nat.zero_le _) (by omega)
 refine aB (H':=⟨M+L.length,F'++QH enc sz M L,[]⟩) (g0++xz gr M 0 L.length) (FE gr M 0 L.length) ?_ ?_ ?_ (si.append hfront (si.rows hno L M (fun i l hi=> ?_) (Nat.le_refl _))) hfr ?_ hlp.symm
 ·rw[List.all_eq_true]
  intro p hp'
  rw[List.all_eq_true]
  intro q hq
  simp only[Bool.or_eq_true,bne_iff_ne,ne_eq,beq_iff_eq]
  rcases List.mem_append.1 hp' with h1|h1 <;> rcases List.mem_append.1 hq with h2|h2
  ·simpa using List.all_eq_true.1 (List.all_eq_true.1 EP p h1) q h2
  ·obtain⟨j,o,_,hj,ho,rfl⟩:=p_.1 h2
   exact .inl (hdis j o (by omega) ho p h1)
  ·obtain⟨j,o,_,hj,ho,rfl⟩:=p_.1 h1
   exact .inl (fun h=>hdis j o (by omega) ho q h2 h.symm)
  ·obtain⟨i,o,_,hi,ho,rfl⟩:=p_.1 h1
   obtain⟨j,o',_,hj,ho',rfl⟩:=p_.1 h2
   by_cases h:o=o'
   ·subst h;exact .inr (by rw[hinj i j o (by omega) (by omega) ho ho'])
   ·exact .inl h
 ·rw[List.all_eq_true]
  intro p hp'
  simp only[decide_eq_true_eq]
  rcases List.mem_append.1 hp' with h1|h1
  ·have:=KE p h1;omega
  ·obtain⟨j,o,_,hj,_,rfl⟩:=p_.1 h1
   show M+j<M+L.length
   omega
 ·rw[List.all_eq_true]
  intro k hk
  obtain⟨j,_,hj,hn,rfl⟩:=Ch.1 hk
  rw[hlk j (by omega),hn]
  simp;omega
 ·have hi':i<L.length:=(List.getElem?_eq_some_iff.1 hi).1
  rcases hrow i l hi with⟨o,h1,h2⟩|⟨h1,h2⟩
  ·exact .inl ⟨o,(hlk i hi').trans h1,h2⟩
  ·exact .inr ⟨Ch.2 ⟨i,Nat.zero_le _,by omega,h1,rfl⟩,h2⟩
 ·rw[hp];simp[Cs]

theorem Rt{F:List (Nat×(Nat×List AV))}{enc:α→AV}{sz M:Nat}{L:List (List α)}{g:List (Nat×Nat)}{nw:List Nat}(hno:∀x,b_ (enc x))(hF:F.all (fun p=>decide (p.1<M))=true:=by rfl)(hg:g.all (fun p=>decide (p.2<M))=true:=by rfl):
  C9 (vu F enc sz M L) g nw (qj enc M L) (L.map (xh enc)):=
 ⟨by simp,fun k e e' h1 h2=>by
  rw[tX] at h1
  simp only[Option.map_eq_some_iff] at h1
  obtain⟨l,h1,rfl⟩:=h1
  rw[List.getElem?_map,h1] at h2
  cases h2
  refine⟨.lend (es:=l.map enc) (by simp only[bu.get,CV hF h1,Option.map_some]) (fun p hp=> ?_) (by rw[List.drop_zero,List.take_length]) (fun e he=> ?_),rfl⟩
  ·have:=List.all_eq_true.1 hg p hp
   simp only[decide_eq_true_eq] at this
   omega
  ·obtain⟨x,_,rfl⟩:=List.mem_map.1 he;exact hno x⟩
theorem Sq{F:List (Nat×(Nat×List AV))}{enc:α→AV}{sz M:Nat}{L:List (List α)}{i:Nat}{l:List α}(h:L[i]? =some l)(hF:F.all (fun p=>decide (p.1<M))=true:=by rfl):(vu F enc sz M L).get (M+i)=some (l.map enc):=by
 simp only[bu.get,CV hF h,Option.map_some]
theorem V3{F:List (Nat×(Nat×List AV))}{enc:α→AV}{sz M:Nat}{L:List (List α)}{i:Nat}{l:List α}(h:L[i]? =some l)(hF:F.all (fun p=>decide (p.1<M))=true:=by rfl):(vu F enc sz M L).sz (M+i)=some sz:=by
 simp only[bu.sz,CV hF h,Option.map_some]
theorem L0{F:List (Nat×(Nat×List AV))}{enc:α→AV}{sz M s k oid:Nat}{L:List (List α)}{es:List AV}(ho:oid<M):lk (((vu F enc sz M L).del (M+k)).push s es).eZ oid=lk F oid:=by
 simp only[bu.push,bu.del,DC,H8]
 rw[if_neg (by omega),if_neg (by omega),GS ho]
theorem JJ{F:List (Nat×(Nat×List AV))}{enc:α→AV}{sz M s k oid q:Nat}{L:List (List α)}{es v:List AV}(h:lk F oid=some (q,v))(hF:F.all (fun p=>decide (p.1<M))=true:=by rfl):(((vu F enc sz M L).del (M+k)).push s es).get oid=some v:=by
 simp only[bu.get,L0 (D5 hF h),h,Option.map_some]
theorem bq.YG{W0:eo}{N:Nat}{fr fr':List (Nat×AV)}{F F':List (Nat×(Nat×List AV))}(g0:List (Nat×Nat)){M sz k oid:Nat}{enc:α→AV}{L:List (List α)}{l l':List α}(L2:List (List α))(h2:L2=L.set k l')(hno:∀x,b_ (enc x))(hl:L[k]? =some l)(ho:lk F oid=some (1,qj enc M L))
  (hfront:∀(H:bu) (g:List (Nat×Nat)) (nw:List Nat),(∀n,n<M→lk g n=lk g0 n)→(∀n x,n≠oid→lk F n=some x→lk H.eZ n=some x)→
   ∀es,lk H.eZ oid=some (1,es)→C9 H g nw es (qj enc M L2)→si H g nw (M+L2.length) F'∧Seen H g nw fr fr')
  (hF:F.all (fun p=>decide (p.1<M))=true:=by rfl)(QO:g0.all (fun p=>decide (p.1<M)&&decide (p.2<M))=true:=by rfl)(EP:g0.all (fun p=>g0.all (fun q=>p.2 !=q.2||p.1==q.1))=true:=by rfl)(hp:W0.p=0:=by rfl):
  bq W0 N ⟨fr,(((vu F enc sz M L).del (M+k)).push sz (l'.map enc)).set oid ((qj enc M L).set k (.view (M+L.length) 0 (l'.map enc).length))⟩ ⟨fr',vu F' enc sz M L2⟩:=by
 subst h2
 have hk:k<L.length:=(List.getElem?_eq_some_iff.1 hl).1
 have hoM:=D5 hF ho
 have KE:∀p∈g0,p.1<M∧p.2<M:=fun p hp=>by simpa using List.all_eq_true.1 QO p hp
 have hg0':g0.all (fun p=>decide (p.1<M))=true:=List.all_eq_true.2 fun p hp=>by simpa using (KE p hp).1
 have hlk:∀n,lk ((((vu F enc sz M L).del (M+k)).push sz (l'.map enc)).set oid ((qj enc M L).set k (.view (M+L.length) 0 (l'.map enc).length))).eZ n=if n=oid then some (1,(qj enc M L).set k (.view (M+L.length) 0 (l'.map enc).length)) else if n=M+L.length then some (sz,l'.map enc) else if n=M+k then none else lk (F++QH enc sz M L) n:=fun n=>by
  have hs:((((vu F enc sz M L).del (M+k)).push sz (l'.map enc)).sz oid).getD 0=1:=by
   simp only[bu.sz,L0 hoM,ho,Option.map_some,Option.getD_some]
  simp only[bu.set,DC,hs]
  split
  ·rfl
  ·simp only[bu.push,bu.del,DC,H8]
 let gr:Nat→Option Nat:=fun i=>some (if i=k then M+L.length else M+i)
 have hsee:=CZ (H:=(((vu F enc sz M L).del (M+k)).push sz (l'.map enc)).set oid ((qj enc M L).set k (.view (M+L.length) 0 (l'.map enc).length))) (g0:=g0) (gr:=gr) (M:=M) (enc:=enc) (L:=L.set k l') (es:=(qj enc M L).set k (.view (M+L.length) 0 (l'.map enc).length)) hg0' (by simp) (fun i l2 hi=>.inl ⟨_,rfl,by
  rw[List.getElem?_set] at hi ⊢
  by_cases hik:k=i
  ·subst hik
   rw[if_pos rfl,if_pos hk] at hi
   cases hi
   simp[hk]
  ·rw[if_neg hik] at hi
   rw[if_neg hik,tX,hi,if_neg (Ne.symm hik)];rfl⟩)
 obtain⟨YO,YP⟩:=hfront ((((vu F enc sz M L).del (M+k)).push sz (l'.map enc)).set oid ((qj enc M L).set k (.view (M+L.length) 0 (l'.map enc).length))) (g0++xz gr M 0 (L.set k l').length) (FE gr M 0 (L.set k l').length) (fun n hn=>by
   rw[qM]
   cases hc:lk g0 n with
   |some v=>rfl
   |none=>
    cases QN:lk (xz gr M 0 (L.set k l').length) n with
    |none=>rfl
    |some v=>
     obtain⟨j,o,_,_,_,h5⟩:=p_.1 (ni QN)
     simp only[Prod.mk.injEq] at h5
     omega) (fun n x hn hx=>by
   have:=D5 hF hx
   rw[hlk,if_neg hn,if_neg (by omega),if_neg (by omega),GS this,hx]) _ (by rw[hlk,if_pos rfl]) hsee
 refine bq.rows g0 (L.set k l') gr hno (fun i l2 hi=>.inl ⟨_,rfl, ?_⟩) (fun i j o hi hj h1 h2=> ?_) (fun i o hi h1 p hp'=> ?_) YO YP hg0' EP hp rfl
 ·have hi':=(List.getElem?_eq_some_iff.1 hi).1
  rw[List.length_set] at hi'
  rw[List.getElem?_set] at hi
  show lk _ (if i=k then M+L.length else M+i)=_
  rw[hlk]
  by_cases hik:k=i
  ·subst hik
   rw[if_pos rfl,if_pos hk] at hi
   cases hi
   rw[if_pos rfl,if_neg (by omega),if_pos rfl]
  ·rw[if_neg hik] at hi
   rw[if_neg (Ne.symm hik),if_neg (by omega),if_neg (by omega),if_neg (by omega)]
   exact CV hF hi
 ·rw[List.length_set] at hi hj
  simp only[gr,Option.some.injEq] at h1 h2
  split at h1 <;> split at h2 <;> omega
 ·rw[List.length_set] at hi
  have:=(KE p hp').2
  simp only[gr,Option.some.injEq] at h1
  split at h1 <;> omega

theorem bq.Ww{W0:eo}{N:Nat}{fr fr':List (Nat×AV)}{H:bu}{F':List (Nat×(Nat×List AV))}(g0:List (Nat×Nat)){M sz:Nat}{enc:α→AV}{L:List (List α)}(hL:∀l∈L,l=[])(hno:∀x,b_ (enc x))
  (hfront:∀(g:List (Nat×Nat)) (nw:List Nat),(∀n,n<M→lk g n=lk g0 n)→C9 H g nw (L.map fun _=>aN) (qj enc M L)→si H g nw (M+L.length) F'∧Seen H g nw fr fr')
  (QO:g0.all (fun p=>decide (p.1<M))=true:=by rfl)(EP:g0.all (fun p=>g0.all (fun q=>p.2 !=q.2||p.1==q.1))=true:=by rfl)(hp:W0.p=0:=by rfl)(hlp:H.d_=[]:=by rfl):bq W0 N ⟨fr,H⟩ ⟨fr',vu F' enc sz M L⟩:=by
 have e:∀i l,L[i]? =some l→l=[]:=fun i l h=>hL l (List.mem_of_getElem? h)
 obtain⟨YO,YP⟩:=hfront (g0++xz (fun _=>none) M 0 L.length) (FE (fun _=>none) M 0 L.length) (fun n hn=>by
  rw[qM]
  cases hc:lk g0 n with
  |some v=>rfl
  |none=>
   cases QN:lk (xz (fun _=>none) M 0 L.length) n with
   |none=>rfl
   |some v=>obtain⟨j,o,_,_,h3,_⟩:=p_.1 (ni QN);cases h3) (CZ QO (by simp) fun i l hi=>.inr ⟨rfl,by simp[hi],e i l hi⟩)
 exact bq.rows g0 L (fun _=>none) hno (fun i l hi=>.inr ⟨rfl,e i l hi⟩) (fun _ _ _ _ _ h=>by cases h) (fun _ _ _ h=>by cases h) YO YP QO EP hp hlp
theorem bq.newRow{W0:eo}{N:Nat}{fr fr':List (Nat×AV)}{F F':List (Nat×(Nat×List AV))}(g0:List (Nat×Nat)){M sz oid:Nat}{enc:α→AV}{L:List (List α)}(L2:List (List α))(h2:L2=L++[[]])(hno:∀x,b_ (enc x))(ho:lk F oid=some (1,qj enc M L))
  (hfront:∀(H:bu) (g:List (Nat×Nat)) (nw:List Nat),(∀n,n<M→lk g n=lk g0 n)→(∀n x,n≠oid→lk F n=some x→lk H.eZ n=some x)→
   ∀es,lk H.eZ (M+L.length)=some (1,es)→C9 H g nw es (qj enc M L2)→si H g nw (M+L2.length) F'∧Seen H g nw fr fr')
  (hF:F.all (fun p=>decide (p.1<M))=true:=by rfl)(QO:g0.all (fun p=>decide (p.1<M))=true:=by rfl)(hg2:∀p∈g0,p.2<M∨p.2=M+L.length:=by simp)(EP:g0.all (fun p=>g0.all (fun q=>p.2 !=q.2||p.1==q.1))=true:=by simp)(hp:W0.p=0:=by rfl):
  bq W0 N ⟨fr,(((vu F enc sz M L).del oid).push 1 (qj enc M L++[aN]))⟩ ⟨fr',vu F' enc sz M L2⟩:=by
 subst h2
 have hoM:=D5 hF ho
 have hlk:∀n,lk ((((vu F enc sz M L).del oid).push 1 (qj enc M L++[aN]))).eZ n=if n=M+L.length then some (1,qj enc M L++[aN]) else if n=oid then none else lk (F++QH enc sz M L) n:=fun n=>by
  simp only[bu.push,bu.del,DC,H8]
 let gr:Nat→Option Nat:=fun i=>if i<L.length then some (M+i) else none
 have hsee:=CZ (H:=(((vu F enc sz M L).del oid).push 1 (qj enc M L++[aN]))) (g0:=g0) (gr:=gr) (M:=M) (enc:=enc) (L:=L++[[]]) (es:=qj enc M L++[aN]) QO (by simp) (fun i l2 hi=>by
  rw[List.getElem?_append] at hi ⊢
  rw[L1]
  by_cases hik:i<L.length
  ·rw[if_pos hik] at hi ⊢
   rw[tX,hi]
   exact .inl ⟨M+i,if_pos hik,rfl⟩
  ·rw[if_neg hik] at hi ⊢
   have h0:i - L.length=0:=by
    have:=(List.getElem?_eq_some_iff.1 hi).1
    simp at this;omega
   rw[h0] at hi ⊢
   simp at hi
   exact .inr ⟨if_neg hik,rfl,hi⟩)
 obtain⟨YO,YP⟩:=hfront (((vu F enc sz M L).del oid).push 1 (qj enc M L++[aN])) (g0++xz gr M 0 (L++[[]]).length) (FE gr M 0 (L++[[]]).length) (fun n hn=>by
   rw[qM]
   cases hc:lk g0 n with
   |some v=>rfl
   |none=>
    cases QN:lk (xz gr M 0 (L++[[]]).length) n with
    |none=>rfl
    |some v=>
     obtain⟨j,o,_,_,_,h5⟩:=p_.1 (ni QN)
     simp only[Prod.mk.injEq] at h5
     omega) (fun n x hn hx=>by
   have:=D5 hF hx
   rw[hlk,if_neg (by omega),if_neg hn,GS this,hx]) _ (by rw[hlk,if_pos rfl]) hsee
 refine bq.rows g0 (L++[[]]) gr hno (fun i l2 hi=> ?_) (fun i j o hi hj h1 h2=> ?_) (fun i o hi h1 p hp'=> ?_) YO YP QO EP hp rfl
 ·rw[List.getElem?_append] at hi
  by_cases hik:i<L.length
  ·rw[if_pos hik] at hi
   refine .inl ⟨M+i,if_pos hik, ?_⟩
   rw[hlk,if_neg (by omega),if_neg (by omega)]
   exact CV hF hi
  ·rw[if_neg hik] at hi
   have:=List.mem_of_getElem? hi
   simp at this
   exact .inr ⟨if_neg hik,this⟩
 ·simp only[gr] at h1 h2
  split at h1 <;> split at h2
  ·rw[Option.some.injEq] at h1 h2;omega
  ·cases h2
  ·cases h1
  ·cases h1
 ·simp only[gr] at h1
  split at h1
  ·cases h1
   rcases hg2 p hp' with k|k <;> omega
  ·cases h1
theorem bq.Sl{W0:eo}{N:Nat}{fr fr':List (Nat×AV)}{F F':List (Nat×(Nat×List AV))}(g0:List (Nat×Nat)){M sz s:Nat}{enc:α→AV}{L:List (List α)}{es es':List AV}(hno:∀x,b_ (enc x))
  (hfront:∀(H:bu) (g:List (Nat×Nat)) (nw:List Nat),(∀n,n<M→lk g n=lk g0 n)→(∀n x,lk F n=some x→lk H.eZ n=some x)→H.get (M+L.length)=some es'→(∀p∈g,p.2≠M+L.length)→C9 H g nw (qj enc M L) (qj enc M L)→si H g nw (M+L.length) F'∧Seen H g nw fr fr')
  (hF:F.all (fun p=>decide (p.1<M))=true:=by rfl)(QO:g0.all (fun p=>decide (p.1<M)&&decide (p.2<M))=true:=by rfl)(EP:g0.all (fun p=>g0.all (fun q=>p.2 !=q.2||p.1==q.1))=true:=by rfl)(hp:W0.p=0:=by rfl):
  bq W0 N ⟨fr,((vu F enc sz M L).push s es).set (M+L.length) es'⟩ ⟨fr',vu F' enc sz M L⟩:=by
 have KE:∀p∈g0,p.1<M∧p.2<M:=fun p hp=>by simpa using List.all_eq_true.1 QO p hp
 have hg0':g0.all (fun p=>decide (p.1<M))=true:=List.all_eq_true.2 fun p hp=>by simpa using (KE p hp).1
 have hlk:∀n,n≠M+L.length→lk (((vu F enc sz M L).push s es).set (M+L.length) es').eZ n=lk (F++QH enc sz M L) n:=fun n hn=>by
  simp only[bu.set,bu.push,DC]
  rw[if_neg hn,if_neg hn]
 let gr:Nat→Option Nat:=fun i=>some (M+i)
 obtain⟨YO,YP⟩:=hfront (((vu F enc sz M L).push s es).set (M+L.length) es') (g0++xz gr M 0 L.length) (FE gr M 0 L.length) (fun n hn=>by
   rw[qM]
   cases hc:lk g0 n with
   |some v=>rfl
   |none=>
    cases QN:lk (xz gr M 0 L.length) n with
    |none=>rfl
    |some v=>
     obtain⟨j,o,_,_,_,h5⟩:=p_.1 (ni QN)
     simp only[Prod.mk.injEq] at h5
     omega) (fun n x hx=>by
   have:=D5 hF hx
   rw[hlk n (by omega),GS this,hx]) (by rw[bu.CS,if_pos rfl]) (fun p hp'=>by
   rcases List.mem_append.1 hp' with k|k
   ·have:=(KE p k).2;omega
   ·obtain⟨j,o,_,hj,ho,rfl⟩:=p_.1 k
    simp only[gr,Option.some.injEq] at ho
    show o≠_
    omega) (CZ hg0' (by simp) fun i l hi=>.inl ⟨M+i,rfl,by rw[tX,hi];rfl⟩)
 refine bq.rows g0 L gr hno (fun i l hi=>.inl ⟨M+i,rfl, ?_⟩) (fun i j o _ _ h1 h2=> ?_) (fun i o _ h1 p hp'=> ?_) YO YP hg0' EP hp rfl
 ·have:=(List.getElem?_eq_some_iff.1 hi).1
  rw[hlk _ (by omega)]
  exact CV hF hi
 ·simp only[gr,Option.some.injEq] at h1 h2;omega
 ·have:=(KE p hp').2
  simp only[gr,Option.some.injEq] at h1;omega
end

section
variable {P:Program} {W0:eo} {fr:Fr} {H:bu} {o:Oper} {α:Type} {i:Int} {x:List α} {ki:IntKind}
theorem WZ{t e:TypeId}{s by':Nat}{xo yo:Operand}{kl kc:IntKind}{nl nc:Int}(enc:α→AV)(L:List (List α))(hL:Sh.mk by' nl nc []=some L)(ho:o.op=.makeSlice t xo yo)(hx:bH fr xo=some (.imm (.int kl nl)))(hy:bH fr yo=some (.imm (.int kc nc)))
  (ht:AT P t=some (e,s,by'))(hz:xJ P e=some (.slice none 0 0))(hs:1=s):fO P W0 o fr H (.view H.next 0 (L.map (xh enc)).length) (H.push s (L.map fun _=>aN)):=by
 subst hs
 obtain⟨m,c,h1,h2,h3,h4,h5,rfl⟩:=Sh.KN hL
 have:=DA (P:=P) (W0:=W0) (o:=o) (fr:=fr) (H:=H) ho hx hy h1 h2 h3 ht h4 h5 hz rfl rfl (by decide)
 simp only[List.length_map,List.length_replicate,List.map_replicate]
 exact this
theorem T5{by':Nat}{nl nc:Int}{L:List (List α)}(hL:Sh.mk by' nl nc []=some L):∀l∈L,l=[]:=fun l hl=>by
 obtain⟨m,c,_,_,_,_,_,rfl⟩:=Sh.KN hL
 exact(List.mem_replicate.1 hl).2
theorem Gi{t e:TypeId}{by' id n:Nat}{xo io:Operand}{k:Nat}(enc:α→AV)(M:Nat)(L:List (List α))(hi:i=k)(hl:L[k]? =some x)(hn:n=(L.map (xh enc)).length)(ho:o.op=.indexAddr t xo io)(hx:bH fr xo=some (.view id 0 n))(hid:H.get id=some (qj enc M L))(hio:bH fr io=some (.imm (.int ki i)))
  (ht:AT P t=some (e,1,by')):fO P W0 o fr H (.ref id k 0) H:=by
 have hk:k<n:=by rw[hn,List.length_map];exact(List.getElem?_eq_some_iff.1 hl).1
 have:=Bt (P:=P) (W0:=W0) (o:=o) (fr:=fr) (H:=H) ho hx hid hio ht hi hk (el:=.view (M+k) 0 (x.map enc).length) (by rw[Nat.zero_add,tX,hl];rfl) rfl
 rwa [Nat.zero_add] at this
theorem Pq{t:TypeId}{xo:Operand}{id k:Nat}{g:Bool}(enc:α→AV)(M:Nat)(L:List (List α))(hl:L[k]? =some x)(ho:o.op=.load t xo)(hx:bH fr xo=some (.ref id k 0))(hid:H.get id=some (qj enc M L))(ht:xx P t=some (1,g))(hg:g=false):fO P W0 o fr H (.view (M+k) 0 (x.map enc).length) H:=by
 subst hg
 exact aJ ho hx hid (by rw[tX,hl];rfl) ht rfl
theorem NV{t:TypeId}{xo yo:Operand}{id k a b:Nat}{g:Bool}(enc:α→AV)(M:Nat)(L:List (List α))(hl:L[k]? =some x)(ho:o.op=.store t xo yo)(hx:bH fr xo=some (.ref id k 0))(hy:bH fr yo=some (.view a 0 b))(hid:H.get id=some (qj enc M L))(ht:xx P t=some (1,g)):
  fO P W0 o fr H .any (H.set id ((qj enc M L).set k (.view a 0 b))):=
 aY ho hx hy rfl hid (by rw[tX,hl];rfl) ht rfl (Nat.le_refl _) rfl
theorem Uw{s:Nat}{es:List AV}:(H.push s es).get H.next=some es:=by rw[bu.BM,if_pos rfl]
end
end Go.Av
end

section
/- Maps of the proof's own. -/
namespace Go.Av
open Go.RowKit (Below)
section
variable {P:Program} {W0:eo} {C:Ctx} {fr:Fr} {a:Act} {H:bu} {o:Oper}

def kvE(e:List Int×Bool):Value×Value:=(.agg (e.1.map fun n=>Value.int .i64 n).toArray,.bool e.2)
def mpE(L:List (List Int×Bool)):AV:=.rz (L.map kvE)
end
end Go.Av
end

section
/- Pointers and slices against nil, slices.Clone, maps whose keys are structs of numbers. -/
namespace Go.Sh
def either{α β γ:Type}(s:α⊕β)(f:α→Option γ)(g:β→Option γ):Option γ:=match s with|.inl a=>f a|.inr b=>g b
end Go.Sh
namespace Go.Av
open Go
section
variable {P:Program} {W0:eo} {fr:Fr} {H:bu} {o:Oper}

theorem LJ{t:TypeId}{x:Operand}(ho:o.op=.box t x):fO P W0 o fr H .any H:=
 .D7 fun C a hI hH _=>by
  have hb:=Bx C.w (.cells (a.eval x).cells t)
  refine⟨.pointer (some ⟨C.w.heap.size,0,none⟩),C.xB (C.w.alloc (.cells (a.eval x).cells t)), ?_,gY hb,hI.xB hb,hH,.any _⟩
  simp[execOp,ho,Instr.box,newVar,newRow,newObj]
  rfl

theorem NT{α:Type}{enc:α→AV}{t ty e:TypeId}{s by':Nat}{z:Value}{xo yo:Operand}{ay:AV}(m L:List α)(hL:Sh.app by' [] m=some L)(hT:Kf P t e s by' z)(hfl:∀x:α,(enc x).flat.length=s)(ho:o.op=.call {callee:=.builtin .append,args:= #[xo,yo],argTypes:= #[t,t]})(hty:o.type=ty)
  (hx:bH fr xo=some (.clip []))(hy:bH fr yo=some ay)(hys:ay.elems H=some (m.map enc)):fO P W0 o fr H (.view H.next 0 (L.map enc).length) (H.push s (L.map enc)):=by
 obtain⟨h1,rfl⟩:=Sh.Bu hL
 have:=Br (P:=P) (W0:=W0) (o:=o) (fr:=fr) (H:=H) hT ho hty hx (.inr rfl) hy hys (vv hfl _) (by simpa using h1)
 simpa using this

def mpC{κ:Type}(ky:κ→List Int)(L:List (κ×Bool)):AV:=mpE (L.map fun e=>(ky e.1,e.2))
@[simp] theorem agZ{κ:Type}(ky:κ→List Int)(L:List (κ×Bool)):b_ (mpC ky L):=.rz _
@[simp] theorem abY{κ:Type}(ky:κ→List Int)(L:List (κ×Bool)):(mpC ky L).flat=[]:=rfl

end

section
variable {P:Program} {W0:eo} {N:Nat} {st:St} {Q:Exit→St→Prop}

theorem Qz{id d1 d2:Nat}{t t' e:TypeId}{x:Operand}{es:List AV}{o1 o2:Oper}(h1:o1.op=.move x)(g1:o1.guard=none)(q1:o1.dst=some d1)(h2:o2.op=.binOp .eql t (.tmp d1) (.const (.slice none 0 0)) t')(g2:o2.guard=none)(q2:o2.dst=some d2)
  (l1:d1<N)(l2:d2<N)(hu:P.underlying t=some (.slice e))(hx:bH (lk st.fr) x=some (.sl es))
  (hQ:∀b,(b=true→es=[])→Q .normal ⟨td (td st.fr (some d1) (.sl es)) (some d2) (bl b),st.H⟩):ec P W0 N (.region id [o1,o2].toArray false) st Q:=by
 intro C a hr
 refine wpIn_region_lit ?_
 unfold wpListIn
 have w1:Region.wanted o1 (yielded [o1,o2].toArray a.tmps)=true:=by simp[Region.wanted,g1]
 rw[w1]
 simp only[if_true]
 refine tu (fun c hc=>by rw[h1] at hc;cases hc) (tU (.inl h1) hx C a hr.inv hr.heap (fun y _ t _ av hav=>hr.rep t av hav) _ _ (fun v C1 he hi hH hv=> ?_))
 rw[q1]
 have Wg:Rel W0 N (Fr.put (lk st.fr) (some d1) (.sl es)) st.H C1 (a.put (some d1) v):=hr.put he hi hH hv (fun d hd=>by cases hd;exact l1)
 unfold wpListIn
 have w2:Region.wanted o2 (yielded [o1,o2].toArray (a.put (some d1) v).tmps)=true:=by simp[Region.wanted,g2]
 rw[w2]
 simp only[if_true]
 have hsl:∃ad n c,v=.slice ad n c∧(ad=none→es=[]):=by
  cases hv with
  |slNil ad c=>exact⟨ad,0,c,rfl,fun _=>rfl⟩
  |sl _ b off sz cap c=>exact⟨_,_,_,rfl,fun h=>by cases h⟩
 obtain⟨ad,n,c,rfl,hnil⟩:=hsl
 have hev:(a.put (some d1) (.slice ad n c)).eval (.tmp d1)=.slice ad n c:=by
  have hlt:d1<a.tmps.size:=by rw[hr.size];exact l1
  simp[Act.eval,Act.put,Array.getD,hlt]
 have hrun:(execOp (a.put (some d1) (.slice ad n c)).eval o2).run P C1.w=.ok (.value (.bool ad.isNone)) C1.w:=by
  have hc:(a.put (some d1) (.slice ad n c)).eval (.const (.slice none 0 0))=.slice none 0 0:=rfl
  simp only[execOp,h2,hev,hc,Sem.run_bind,eqGuard]
  simp only[binOp]
  simp[run_equal_slice_nil (P:=P) C1.w t e ad n c hu]
 refine tu (fun c hc=>by rw[h2] at hc;cases hc) ?_
 unfold Oper.wp
 rw[hrun]
 unfold Oper.upon
 rw[q2]
 unfold wpListIn
 have hr2:Rel W0 N (Fr.put (Fr.put (lk st.fr) (some d1) (.sl es)) (some d2) (bl ad.isNone)) st.H C1 ((a.put (some d1) (.slice ad n c)).put (some d2) (.bool ad.isNone)):=
  Wg.put (.refl C1) Wg.inv Wg.heap (.imm _ rfl) (fun d hd=>by cases hd;exact l2)
 refine⟨_,C1,rfl,he.mem, ?_,hQ ad.isNone (fun h=>hnil (by cases ad <;> simp_all))⟩
 rw[xV,xV]
 exact hr2
end
end Go.Av
end
