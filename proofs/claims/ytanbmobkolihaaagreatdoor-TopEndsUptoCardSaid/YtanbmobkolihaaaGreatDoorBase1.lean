/- What a proof sees of a run, and the rules by which it goes through a text. -/
import Derived.Test.YtanbmobkolihaaaGreatDoorBase
import Derived.RangeFuncRecord
import Derived.ScopeJumps
import Derived.Laws.StructEq
import Derived.KernelRfl
import Derived.WideKeyRuns
import Derived.Laws.Pointers
import Derived.Laws.Cover3
import Derived.Laws.BytesString
open List renaming all_cons→agO,all_eq_true→agP,drop_eq_getElem_cons→agS,eq_nil_of_length_eq_zero→abS,getElem?_append→agT,getElem?_eq_getElem→ab9,getElem?_of_mem→ack,getElem?_take→acz,getElem_mem→acI,length_cons→acN,map_map→adQ,mem_cons→agV,mem_cons_self→ad2,mem_of_getElem?→ad7,mem_range→agW,mem_singleton→aeq,pairwise_cons→agX,range→aeD,replicate→aeR,take_of_length_le→aha,zipIdx_cons→aeX
open Option renaming map_eq_some_iff→ae5
open Nat renaming le_add_right→ahl,le_refl→afk,le_trans→afp,lt_irrefl→afr,lt_of_lt_of_le→afs,lt_or_ge→aft,lt_succ_self→afv,not_lt_zero→aie,testBit_and→aih,zero_add→afQ,zero_le→afR
open Bool renaming and_eq_true→aiq,not_eq_true'→ajh,or_eq_true→ajm
open Array renaming any_eq_true'→ajx,getElem?_append_left→ajy,getElem?_append_right→ajz,range→af9,replicate→ajA,setIfInBounds_comm→ajD
open Int renaming lt_or_le→ajE
set_option linter.unusedSimpArgs false
set_option linter.unusedVariables false
section
namespace Go.Av
open Go.RowKit (Below)
section
variable {P:Program} {W0:bS} {N:Nat} {st:St} {Q:Exit→St→Prop}

variable {c:Code}
theorem B5{σ α:Type}(b:σ→Option (σ⊕α))(S:σ→St){s0:σ}{r:α}(h:Sh.loop b s0=some r)(hw:b8 W0 N st (S s0))
  (round:∀s o,b s=some o→(∀x,o=.inr x→x=r)→iD P W0 N c (S s) (mI (fun s1=>∃s',o=.inl s'∧b8 W0 N s1 (S s')) Q)):iD P W0 N (.loop c) st Q:=by
 refine Ws (σ:=σ×Nat) (fun p=>S p.1) (fun p=>Sh.iter b p.2 p.1=some r) (fun p=>p.2) (s0,Sh.s5) h hw ?_
 rintro⟨s,n⟩ hn
 cases n with
 |zero=>cases hn
 |succ n=>
  simp only[Sh.iter] at hn
  cases hb:b s with
  |none=>grind
  |some o=>
   rw[hb] at hn
   refine(round s o hb (fun x hx=> ?_)).mono fun e s1 h1=> ?_
   ·grind
   ·cases e with
    |normal=>
     obtain⟨s',rfl,h2⟩:=h1
     exact⟨(s',n),hn,afv n,h2⟩
    |_=>exact h1


inductive gZ (ok:AV→Prop) (n:Nat):AV→AV→Prop
 |same (x:AV):ok x→gZ ok n x x
 |view (id off len:Nat):gZ ok n (.view id off len) (.view (n+id) off len)
 |ref (id i j:Nat):gZ ok n (.ref id i j) (.ref (n+id) i j)
 |mref (id:Nat):gZ ok n (.mref id) (.mref (n+id))
 |agg (cs cs':List AV):cs.length=cs'.length→(∀(k:Nat) (x x':AV),cs[k]? =some x→cs'[k]? =some x'→gZ ok n x x')→gZ ok n (.agg cs) (.agg cs')
 |tuple (cs cs':List AV):cs.length=cs'.length→(∀(k:Nat) (x x':AV),cs[k]? =some x→cs'[k]? =some x'→gZ ok n x x')→gZ ok n (.tuple cs) (.tuple cs')
 |fH (fn:Fn) (cs cs':List AV):cs.length=cs'.length→(∀(k:Nat) (x x':AV),cs[k]? =some x→cs'[k]? =some x'→gZ ok n x x')→gZ ok n (.fH fn cs) (.fH fn cs')
 |ifc (t:TypeId) (x x':AV):gZ ok n x x'→gZ ok n (.ifc t x) (.ifc t x')

structure yb (ok:AV→Prop) (n:Nat) (es es':List AV):Prop where
 len:es.length=es'.length
 see:∀(k:Nat) (e e':AV),es[k]? =some e→es'[k]? =some e'→e.flat.length=e'.flat.length∧∀(j:Nat) (x x':AV),e.flat[j]? =some x→e'.flat[j]? =some x'→gZ ok n x x'
 fL:∀l,es'=[.fL l]→es=[.fL l]

def Joined(ok:AV→Prop)(n:Nat):List (Nat×(Nat×List AV))→List (Nat×(Nat×List AV))→Prop
 |[],[]=>True
 |(i,(s,es))::l,(j,(s',es'))::l'=>j=n+i∧s=s'∧yb ok n es es'∧Joined ok n l l'
 |_,_=>False

theorem yb.same{ok:AV→Prop}{n:Nat}{es:List AV}(h:∀e∈es,∀x∈e.flat,ok x):yb ok n es es:=
 ⟨rfl,fun k e e' h1 h2=>by
  rw[h1] at h2;cases h2;exact⟨rfl,fun j x x' h3 h4=>by rw[h3] at h4;cases h4;exact .same x (h e (ad7 h1) x (ad7 h3))⟩,fun _ h=>h⟩

theorem Joined.at{ok:AV→Prop}{n:Nat}:∀{l l':List (Nat×(Nat×List AV))},Joined ok n l l'→∀{k s:Nat} {es':List AV},lk l' k=some (s,es')→∃i es,k=n+i∧lk l i=some (s,es)∧yb ok n es es'
 |[],[],_,_,_,_,h=>by cases h
 |(i,(s,es))::l,(j,(s',es'))::l',h,k,q,S_,hk=>by
  obtain⟨rfl,rfl,h1,h2⟩:=h;simp only[lk] at hk;split at hk
  ·rename_i e;subst e;simp_all [lk]
  ·obtain⟨i',es3,rfl,h3,h4⟩:=Joined.at h2 hk
   simp_all [lk]
 |[],_::_,h,_,_,_,_=>h.elim
 |_::_,[],h,_,_,_,_=>h.elim

theorem lC{α:Type}(l1 l2:List (Nat×α))(k:Nat):lk (l1++l2) k=match lk l1 k with|some x=>some x|none=>lk l2 k:=by
 induction l1 with
 |nil=>rfl
 |cons p l ih=>
  grind [lk]

structure CD (P:Program) (W0:World) (f:FuncId) (xs:List AV) (r:AV) (Hr:Heap):Prop where
 call:gO P f
 runs:∀(C:Ctx) (vals:Array Value),Inv (.of W0) C→C.H=.empty→C.iu=[]→vals.size=xs.length→(∀(k:Nat) (x:AV),xs[k]? =some x→c4 C x (vals.getD k undef))→
  Calls P f vals C.w (fun e w'=>∃v C',e=.returned v∧C'.w=w'∧Ext C C'∧Inv (.of W0) C'∧C'.H=Hr∧c4 C' r v)

variable {C C1:Ctx}

def Ctx.join(C C1:Ctx)(objs':List (Nat×(Nat×List AV))):Ctx:=
 {w:=C1.w,H:={next:=C.H.next+C1.H.next,bV:=C.H.bV++objs',ec:=C.H.ec},pl:=fun k=>if k<C.H.next then C.pl k else C1.pl (k - C.H.next),cI:=C.cI,iu:=C.iu,nI:=C.nI}

theorem LI{ok:AV→Prop}{pr:Nat→Prop}{objs':List (Nat×(Nat×List AV))}(hI:Inv W0 C)(MM:Inv (.of W0.w) C1)(hE:Ext (C.bare pr) C1)(hpr:∀b,C.cI b→pr b)(hJ:Joined ok C.H.next C1.H.bV objs')
  (hok:∀x v,ok x→c4 C1 x v→(∀b,b<C1.w.heap.size→¬C1.bad b→¬(C.join C1 objs').bad b∨∀C':Ctx,c4 C' x v)→c4 (C.join C1 objs') x v)(hbad:(∀b,C.own b→pr b)∨∀x,ok x→ya x):
  Ext C (C.join C1 objs')∧Inv W0 (C.join C1 objs')∧∀x x' v,gZ ok C.H.next x x'→c4 C1 x v→c4 (C.join C1 objs') x' v:=by
 have hkeep:∀b,b<C.w.heap.size→C1.w.heap[b]? =C.w.heap[b]? :=fun b hb=>hE.keep b hb (zB _ b);have hnew:∀b,C1.own b→C.w.heap.size≤b:=fun b hb=>by
  rcases aft b C.w.heap.size with h|h
  ·exact absurd (hE.own b h hb) (zB _ b)
  ·exact h
 have Zn:C1.cI=pr:=hE.cI;have hold:∀{k:Nat} {p:Nat×List AV},lk C.H.bV k=some p→k<C.H.next:=fun{k p} h=>hI.fresh k p.2 (by simp[Heap.get,h])
 -- an object of the joined heap
 have getJ:∀{k s:Nat} {es':List AV},lk (C.H.bV++objs') k=some (s,es')→(lk C.H.bV k=some (s,es')∧k<C.H.next)∨∃i es,k=C.H.next+i∧lk C1.H.bV i=some (s,es)∧yb ok C.H.next es es':=fun{k s es'} h=>by
  rw[lC] at h;cases hk:lk C.H.bV k with
  |some p=>grind
  |none=>rw[hk] at h;exact .inr (hJ.at h)
 have plO:∀{k:Nat},k<C.H.next→(C.join C1 objs').pl k=C.pl k:=fun{k} h=>by simp[Ctx.join,h]
 have plN:∀i,(C.join C1 objs').pl (C.H.next+i)=C1.pl i:=fun i=>by
  have h1:¬C.H.next+i<C.H.next:=by omega
  have h2:C.H.next+i - C.H.next=i:=by omega
  show(if C.H.next+i<C.H.next then _ else _)=_;grind
 have getG:∀{k:Nat} {es':List AV},(C.join C1 objs').H.get k=some es'→∃s,lk (C.H.bV++objs') k=some (s,es'):=fun{k es'} h=>by
  simp_all [Ctx.join,Heap.get]
 have ownJ:∀b,(C.join C1 objs').own b→C.own b∨C1.own b:=by
  rintro b (⟨k,es',h1,h2,h3⟩|h)
  ·obtain⟨s,h4⟩:=getG h1
   rcases getJ h4 with⟨h5,h6⟩|⟨i,es,rfl,h5,_⟩
   ·rw[plO h6] at h2 h3;exact .inl (.inl ⟨k,es',by simp[Heap.get,h5],h2,h3⟩)
   ·rw[plN] at h2 h3;exact .inr (.inl ⟨i,es,by simp[Heap.get,h5],h2,h3⟩)
  ·exact .inl (.inr h)
 have ext:Ext C (C.join C1 objs'):={
  below:=hE.below
  keep:=fun b hb _=>hkeep b hb
  own:=fun b hb h=>by
   grind
  next:=ahl _ _
  id:=fun k es' hk h=>by
   obtain⟨s,h4⟩:=getG h;rcases getJ h4 with⟨h5,h6⟩|⟨i,es,rfl,_,_⟩
   ·grind [Heap.get]
   ·omega
  cI:=rfl
  iu:=rfl
  nI:=rfl}
 have badJ:∀b,b<C1.w.heap.size→¬C1.bad b→∀(x:AV) (v:Value),ok x→c4 C1 x v→¬(C.join C1 objs').bad b∨∀C':Ctx,c4 C' x v:=fun b _ hb x v hx hr=>by
  rcases hbad with h|h
  ·left
   rintro(h1|h1)
   ·rcases ownJ b h1 with h2|h2
    ·exact hb (.inr (by grind))
    ·exact hb (.inl h2)
   ·exact hb (.inr (by rw[Zn];exact hpr b h1))
  ·right;intro C';exact(h x hx).rep hr
 have repJ:∀x x' v,gZ ok C.H.next x x'→c4 C1 x v→c4 (C.join C1 objs') x' v:=by
  intro x x' v hs
  induction hs generalizing v with
  |same x hx=>grind
  |view id off len=>
   intro h
   match h with
   |.view _ _ _ _ h1 h2 h3=>
   refine .view _ _ _ _ (by show C.H.next+id<C.H.next+C1.H.next;omega) (fun es' he=> ?_) h3;grind [Heap.get]
  |ref id i j=>
   intro h
   match h with
   |.ref _ _ _ _ h1 h2 h3=>
   refine .ref _ _ _ _ (by show C.H.next+id<C.H.next+C1.H.next;omega) (fun es' he=> ?_) h3;grind [Heap.get]
  |mref id=>
   intro h
   match h with
   |.mref _ _ h1 h2 h3=>
   refine .mref _ _ (by show C.H.next+id<C.H.next+C1.H.next;omega) (fun es' he=> ?_) h3;grind [Heap.get]
  |agg cs cs' hl _ ih=>
   intro h
   match h with
   |.agg _ vs h1 h2 h3=>
   refine .agg cs' vs (h1.trans hl) h2 (fun k x' hx'=> ?_);grind
  |tuple cs cs' hl _ ih=>
   intro h
   match h with
   |.tuple _ vs h1 h3=>
   refine .tuple cs' vs (h1.trans hl) (fun k x' hx'=> ?_);grind
  |fH fn cs cs' hl _ ih=>
   intro h
   match h with
   |.fH _ _ vs h1 h3=>
   refine .fH fn cs' vs (h1.trans hl) (fun k x' hx'=> ?_);grind
  |ifc t x x' _ ih=>
   intro h
   match h with
   |.ifc _ _ v h1=>exact .ifc t x' v (ih v h1)
 refine⟨ext, ?_,repJ⟩;have ayr:∀{i s:Nat} {es es':List AV},lk C1.H.bV i=some (s,es)→yb ok C.H.next es es'→(C1.pl i).nil=false→zy (C.join C1 objs') (C1.pl i) es':=fun{i s es es'} h hS hn=>by
  have hO:=MM.obj i es (by simp[Heap.get,h]) hn;have back:∀{q:Nat} {e':AV},es'[q]? =some e'→∃e,es[q]? =some e∧e.flat.length=e'.flat.length∧∀(j:Nat) (x x':AV),e.flat[j]? =some x→e'.flat[j]? =some x'→gZ ok C.H.next x x':=fun{q e'} hq=>by
   have hk:q<es.length:=by rw[hS.len];grind
   exact⟨es[q],ab9 hk,hS.see q _ e' (ab9 hk) hq⟩
  refine⟨hO.n.trans hS.len,hO.cap,hO.SR hS.fL,hO.one,fun q e' he'=> ?_,fun q j e' x' v he' hx' hv=> ?_⟩
  ·obtain⟨e,h1,h2,_⟩:=back he'
   rw[←h2];exact hO.flat q e h1
  ·obtain⟨e,h1,h2,h3⟩:=back he'
   have hj:j<e.flat.length:=by grind
   exact repJ _ _ _ (h3 j _ x' (ab9 hj) hx') (hO.cell q j e _ v h1 (ab9 hj) hv)
 exact{
  fresh:=fun k es' h=>by
   obtain⟨s,h4⟩:=getG h;show k<C.H.next+C1.H.next;rcases getJ h4 with⟨h5,h6⟩|⟨i,es,rfl,h5,_⟩
   ·omega
   ·have:=MM.fresh i es (by simp[Heap.get,h5]);omega
  nil:=fun k es' h hn=>by
   obtain⟨s,h4⟩:=getG h;rcases getJ h4 with⟨h5,h6⟩|⟨i,es,rfl,h5,h6⟩
   ·rw[plO h6] at hn;exact hI.nil k es' (by simp[Heap.get,h5]) hn
   ·rw[plN] at hn
    have:=MM.nil i es (by simp[Heap.get,h5]) hn;subst this;exact abS h6.len.symm
  obj:=fun k es' h hn=>by
   obtain⟨s,h4⟩:=getG h;rcases getJ h4 with⟨h5,h6⟩|⟨i,es,rfl,h5,h6⟩
   ·rw[plO h6] at hn ⊢
    have hg:C.H.get k=some es':=by simp[Heap.get,h5]
    exact(hI.obj k es' hg hn).ext ext (hkeep _ (hI.lt hg hn))
   grind
  sep:=fun k1 k2 e1 e2 h1 h2 n1 n2 hb=>by
   obtain⟨s1,g1⟩:=getG h1;obtain⟨s2,g2⟩:=getG h2;rcases getJ g1 with⟨a1,a2⟩|⟨i1,es1,rfl,a1,_⟩ <;> rcases getJ g2 with⟨b1,b2⟩|⟨i2,S_,rfl,b1,_⟩
   ·rw[plO a2] at n1 hb;rw[plO b2] at n2 hb
    exact hI.sep k1 k2 e1 e2 (by simp[Heap.get,a1]) (by simp[Heap.get,b1]) n1 n2 hb
   ·rw[plO a2] at n1 hb;rw[plN] at n2 hb
    have h3:=hI.lt (id:=k1) (es:=e1) (by simp[Heap.get,a1]) n1;have h4:=hnew (C1.pl i2).de (.inl ⟨i2,S_,by simp[Heap.get,b1],n2,rfl⟩);omega
   ·rw[plN] at n1 hb;rw[plO b2] at n2 hb
    have h3:=hI.lt (id:=k2) (es:=e2) (by simp[Heap.get,b1]) n2;have h4:=hnew (C1.pl i1).de (.inl ⟨i1,es1,by simp[Heap.get,a1],n1,rfl⟩);omega
   ·rw[plN] at n1 n2 hb;rw[plN] at hb
    have:=MM.sep i1 i2 es1 S_ (by simp[Heap.get,a1]) (by simp[Heap.get,b1]) n1 n2 hb;omega
  cI:=fun k es' h hn=>by
   obtain⟨s,h4⟩:=getG h;rcases getJ h4 with⟨h5,h6⟩|⟨i,es,rfl,h5,h6⟩
   ·rw[plO h6] at hn ⊢;exact hI.cI k es' (by simp[Heap.get,h5]) hn
   ·rw[plN] at hn ⊢
    have:=MM.cI i es (by simp[Heap.get,h5]) hn;rw[Zn] at this;exact fun hp=>this (hpr _ hp)
  jX:=fun k s h hn=>by
   simp only[Ctx.join,Heap.sz,ae5] at h;obtain⟨⟨s',es'⟩,h1,rfl⟩:=h;rcases getJ h1 with⟨h5,h6⟩|⟨i,es,rfl,h5,_⟩
   ·rw[plO h6] at hn ⊢;exact hI.jX k _ (by simp[Heap.sz,h5]) hn
   ·rw[plN] at hn ⊢;exact MM.jX i _ (by simp[Heap.sz,h5]) hn
  dU:=fun b hb=>afs (hI.dU b hb) hE.below.size
  eG:=hI.eG
  size:=MM.size
  gD:=fun b hb=>⟨(MM.gD b hb).1,fun ho=>by
   rcases ownJ b ho with h|h
   ·exact(hI.gD b hb).2 h
   ·exact(MM.gD b hb).2 h⟩
  ec:=fun l r h=>by
   have h1:=hI.ec l r h;rw[←h1];exact hkeep l (Array.getElem?_eq_some_iff.1 h1).1
  iu:=fun d h=>by
   have h1:=hI.iu d h;rw[←h1];exact hkeep d (Array.getElem?_eq_some_iff.1 h1).1
  BX:=hI.BX
  Cn:=hI.Cn
  eS:=hI.eS
  lU:=hI.lU
  fe:=afp hI.fe (ahl _ _)
  gh:=W0.st C _ ext.mem hI.fe hI.gh}

variable {fr:Fr} {a:Act} {H:Heap} {o:Oper}

variable {x:AV}
theorem gZ.mono{ok ok':AV→Prop}{n:Nat}{x':AV}(h:gZ ok n x x')(hk:∀x,ok x→ok' x):gZ ok' n x x':=by
 induction h with
 |same x hx=>exact .same x (hk x hx)
 |view id off len=>exact .view id off len
 |ref id i j=>exact .ref id i j
 |mref id=>exact .mref id
 |agg cs cs' hl _ ih=>exact .agg cs cs' hl ih
 |tuple cs cs' hl _ ih=>exact .tuple cs cs' hl ih
 |fH fn cs cs' hl _ ih=>exact .fH fn cs cs' hl ih
 |ifc t x x' _ ih=>exact .ifc t x x' ih

variable {args:Array Operand}{ys:List AV}
theorem D_(hop:∀y∈args.toList,yV C fr a y)(hys:args.toList.mapM (aD fr)=some ys):(args.map a.eval).size=ys.length∧∀t x,lk (bN 0 ys) t=some x→c4 C x ((args.map a.eval).getD t undef):=by
 obtain⟨m1,m2⟩:=Ce args.toList ys hys
 refine⟨by grind,fun t x hx=> ?_⟩
 obtain⟨_,h2⟩:=wT ys 0 t x hx
 obtain⟨y,g1,g2⟩:=m2 t x h2
 have hy:args[t]? =some y:=by grind
 have hlt:t<(args.map a.eval).size:=by grind
 have e:(args.map a.eval).getD t undef=a.eval y:=by
  simp_all
 rw[e]
 exact aQ (hop y (ad7 g1)) g2

variable {v:Value}
theorem c4.sub{C':Ctx}(h:c4 C x v)(hw:C'.w=C.w)(hn:C.H.next≤C'.H.next)(hg:∀id es,id<C.H.next→C'.H.get id=some es→∃Hj,C.H.get id=some Hj)(hpl:∀id,id<C.H.next→C'.pl id=C.pl id)(hb:∀b,C'.bad b→C.bad b):c4 C' x v:=by
 induction h with
 |any v=>exact .any v
 |imm v hv=>exact .imm v hv
 |slNil a cap=>exact .slNil a cap
 |sl es b off sz cap c hlt hbad hc hf hcell _ ih=>exact .sl es b off sz cap c (by grind) (fun h=>hbad (hb b h)) hc hf (fun i j e x he hx=>by grind) ih
 |clipNil a=>exact .clipNil a
 |clip es b off sz c hlt hbad hf hcell _ ih=>exact .clip es b off sz c (by grind) (fun h=>hbad (hb b h)) hf (fun i j e x he hx=>by grind) ih
 |view id off len v hid hs h1=>
  refine .view id off len v (by omega) (fun es he=> ?_) h1
  grind
 |ref id i j v hid hs h1=>
  refine .ref id i j v (by omega) (fun es he=> ?_) h1
  grind
 |mref id v hid hs h1=>
  refine .mref id v (by omega) (fun es he=> ?_) h1
  grind
 |pp fl j b off c hlt hbad hcell _ ih=>exact .pp fl j b off c (by grind) (fun h=>hbad (hb b h)) (fun k x hx=>by grind) ih
 |agg cs vs hs h1 _ ih=>exact .agg cs vs hs h1 ih
 |tuple cs vs hs _ ih=>exact .tuple cs vs hs ih
 |ifc t x v _ ih=>exact .ifc t x v ih
 |fH fn caps vs hs _ ih=>exact .fH fn caps vs hs ih

def Ctx.plain(C:Ctx):Ctx:={C with H:={C.H with ec:=[]},iu:=[],nI:=0}

theorem NU{b:Nat}(h:C.plain.own b):C.own b:=by
 rcases h with⟨id,es,h1,h2,h3⟩|⟨r,h⟩|h
 ·exact .inl ⟨id,es,h1,h2,h3⟩
 ·simp[Ctx.plain,lk] at h
 ·simp[Ctx.plain] at h

theorem c4.plain(h:c4 C x v):c4 C.plain x v:=
 h.sub rfl (afk _) (fun id es _ h=>⟨es,h⟩) (fun _ _=>rfl) (fun b h=>h.imp NU id)

theorem Inv.plain(hI:Inv W0 C):Inv (.of W0.w) C.plain where
 fresh:=hI.fresh
 nil:=hI.nil
 obj id es h hn:=by
  have hO:=hI.obj id es h hn;exact⟨hO.n,hO.cap,hO.de,hO.one,hO.flat,fun i j e x v h1 h2 h3=>(hO.cell i j e x v h1 h2 h3).plain⟩
 sep:=hI.sep
 cI:=hI.cI
 jX:=hI.jX
 dU:=hI.dU
 eG:=hI.eG
 size:=hI.size
 gD b h:=⟨(hI.gD b h).1,fun ho=>(hI.gD b h).2 (NU ho)⟩
 ec l r h:=by simp[Ctx.plain,lk] at h
 iu d h:=by simp[Ctx.plain] at h
 BX:=.nil
 Cn:=fun _ _=>rfl
 eS b h:=by
  rcases h with⟨r,h⟩|h
  ·simp[Ctx.plain,lk] at h
  ·simp[Ctx.plain] at h
 lU:=rfl
 fe:=afR _
 gh:=trivial

variable {vals:Array Value}{xs:List AV}
theorem Ap{n:Nat}{H:Heap}(h:Rel W0 n (lk (bN 0 xs)) H C {tmps:=vals,defers:=[]}):∀(k:Nat) (x:AV),xs[k]? =some x→c4 C x (vals.getD k undef):=by
 have key:∀(xs:List AV) (q k:Nat) (x:AV),xs[k]? =some x→lk (bN q xs) (q+k)=some x:=by
  intro xs
  induction xs with
  |nil=>grind
  |cons y ys ih=>
   intro q k x hk;cases k with
   |zero=>grind [bN,lk]
   |succ k=>
    simp only[bN,lk];grind
 intro k x hx;have:=key xs 0 k x hx;rw[afQ] at this;exact h.rep k x this

theorem RC{pr:Nat→Prop}(hsz:vals.size=ys.length)(h:∀t x,lk (bN 0 ys) t=some x→c4 C x (vals.getD t undef))(hno:∀y∈ys,bQ y)(MM:Inv (.of W0.w) (C.bare pr))(hp:∀b,¬C.bad b→¬pr b):Rel (.of W0.w) ys.length (lk (bN 0 ys)) .empty (C.bare pr) {tmps:=vals,defers:=[]}:=
 ⟨rfl,MM,hsz,rfl,fun t x hx=>by
  obtain⟨_,h2⟩:=wT ys 0 t x hx;exact(h t x hx).bare (hno x (ad7 h2)) hp⟩
theorem N0(hI:Inv W0 C)(hsz:vals.size=ys.length)(h:∀t x,lk (bN 0 ys) t=some x→c4 C x (vals.getD t undef)):Rel (.of W0.w) ys.length (lk (bN 0 ys)) {C.H with ec:=[]} C.plain {tmps:=vals,defers:=[]}:=
 ⟨rfl,hI.plain,hsz,rfl,fun t x hx=>(h t x hx).plain⟩

theorem r_{n:Nat}{f:Fr}(h:Rel W0 n f H C {tmps:=vals,defers:=W0.dx}):C.iu=[]:=by
 have:=congrArg List.length h.defers;simp_all

variable {f:FuncId}{tys:Array TypeId}
theorem Qp(ho:o.op=.call {callee:=.value (.func f),args:=args,argTypes:=tys})(hop:∀x∈o.op.operands,yV C fr a x):∀y∈args.toList,yV C fr a y:=fun y hy=>
 hop y (by grind [Op.operands,Call.operands])

def Enters(P:Program)(o:Oper)(fr:Fr)(f:FuncId)(ys:List AV):Prop:=
 ∀(C:Ctx) (a:Act),(∀x∈o.op.operands,yV C fr a x)→∃vals:Array Value,(∀w,(execOp a.eval o).run P w=.ok (.enter f vals) w)∧vals.size=ys.length∧∀t x,lk (bN 0 ys) t=some x→c4 C x (vals.getD t undef)

theorem Enters.func(ho:o.op=.call {callee:=.value (.func f),args:=args,argTypes:=tys})(hys:args.toList.mapM (aD fr)=some ys)(hc:gO P f):Enters P o fr f ys:=fun C a hop=>
 ⟨args.map a.eval,fun w=>pJ ho hc w,D_ (Qp ho hop) hys⟩

theorem NI(hI:Inv W0 C):Inv (.of W0.w) (C.bare (fun b=>C.cI b∨C.own b)):=hI.bare (fun b hb=>by
  rcases hb with h|h
  ·exact hI.dU b h
  ·exact hI.G0 h) (fun b hb=>by
  rcases hb with h|h
  ·exact hI.eG b h
  ·exact hI.LX h)

variable {r:AV}
theorem CF(he:Enters P o fr f ys)(hw:b8 (.of W0.w) ys.length ⟨bN 0 ys,.empty⟩ ⟨bN 0 xs,.empty⟩)(hl:xs.length=ys.length)(hno:∀y∈ys,bQ y)
  (hf:oQ P W0.w f xs r):b_ P W0 o fr H r H:=by
 intro C a hI hH hop K Q hK
 obtain⟨vals,hrun,MP⟩:=he C a hop
 unfold Oper.wp
 rw[hrun,Oper.upon_enter]
 have MQ:=RC (pr:=fun b=>C.cI b∨C.own b) MP.1 MP.2 hno (NI hI) (fun b hb h=>hb (h.elim .inr .inl))
 obtain⟨C0,q1,q2,q3⟩:=hw _ _ MQ
 have Q2:C0.w=C.w:=q1
 have hsz:vals.size=xs.length:=by omega
 have:=hf.runs C0 vals q3.inv q3.heap (r_ q3) hsz (Ap q3)
 rw[Q2] at this
 refine this.mono ?_
 rintro e w' ⟨v,C1,rfl,rfl,hE,hI',hr⟩
 have Jk:∀b,¬C0.own b:=Ci q3.heap (r_ q3)
 have hB':RowKit.Below C.w.heap.size C.w C1.w:=by grind [yZ]
 have hp1:C1.cI=fun b=>C.cI b∨C.own b:=by rw[hE.cI];exact q2.cI
 refine hK v (C.uG C1.w) (dh hB') (hI.uG hB') hH (hr.move hf.lT (afk _) (fun b hb hn=>⟨rfl,fun h=>hn ?_⟩))
 refine .inr ?_
 rw[hp1]
 rcases h with h|h
 ·exact .inr h
 ·exact .inl h
theorem Wg(ho:o.op=.call {callee:=.value (.func f),args:=args,argTypes:=tys})(hys:args.toList.mapM (aD fr)=some ys)(hw:b8 (.of W0.w) ys.length ⟨bN 0 ys,.empty⟩ ⟨bN 0 xs,.empty⟩)(hl:xs.length=ys.length)(hno:∀y∈ys,bQ y)
  (hf:oQ P W0.w f xs r):b_ P W0 o fr H r H:=
 CF (.func ho hys hf.call) hw hl hno hf

theorem SK(he:Enters P o fr f ys)(hw:b8 (.of W0.w) ys.length ⟨bN 0 ys,{H with ec:=[]}⟩ ⟨bN 0 xs,.empty⟩)(hl:xs.length=ys.length)
  (hf:oQ P W0.w f xs r)(hd:ya r):b_ P W0 o fr H r H:=by
 intro C a hI hH hop K Q hK
 subst hH
 obtain⟨vals,hrun,MP⟩:=he C a hop
 unfold Oper.wp
 rw[hrun,Oper.upon_enter]
 obtain⟨C0,q1,q2,q3⟩:=hw _ _ (N0 hI MP.1 MP.2)
 have Q2:C0.w=C.w:=q1
 have hsz:vals.size=xs.length:=by omega
 have:=hf.runs C0 vals q3.inv q3.heap (r_ q3) hsz (Ap q3)
 rw[Q2] at this
 refine this.mono ?_
 rintro e w' ⟨v,C1,rfl,rfl,hE,hI',hr⟩
 have Jk:∀b,¬C0.own b:=Ci q3.heap (r_ q3)
 have hB':RowKit.Below C.w.heap.size C.w C1.w:=by grind [yZ]
 exact hK v (C.uG C1.w) (dh hB') (hI.uG hB') rfl (hd.rep hr)
theorem I8(ho:o.op=.call {callee:=.value (.func f),args:=args,argTypes:=tys})(hys:args.toList.mapM (aD fr)=some ys)(hw:b8 (.of W0.w) ys.length ⟨bN 0 ys,{H with ec:=[]}⟩ ⟨bN 0 xs,.empty⟩)(hl:xs.length=ys.length)
  (hf:oQ P W0.w f xs r)(hd:ya r):b_ P W0 o fr H r H:=
 SK (.func ho hys hf.call) hw hl hf hd

def B3(ok:AV→Prop)(n:Nat):List AV→List AV→Prop
 |[],[]=>True
 |x::l,y::m=>gZ ok n x y∧B3 ok n l m
 |_,_=>False

theorem B3.spec{ok:AV→Prop}{n:Nat}:∀{l m:List AV},B3 ok n l m→l.length=m.length∧∀(k:Nat) (x x':AV),l[k]? =some x→m[k]? =some x'→gZ ok n x x'
 |[],[],_=>⟨rfl,fun k x x' h=>by simp at h⟩
 |x::l,y::m,h=>by
  obtain⟨h1,h2⟩:=B3.spec h.2;refine⟨by simp[h1],fun k u v hu hv=> ?_⟩;cases k with
  |zero=>simp at hu hv;subst hu hv;exact h.1
  |succ k=>grind
 |[],_::_,h=>h.elim
 |_::_,[],h=>h.elim
theorem gZ.ag{ok:AV→Prop}{n:Nat}{cs cs':List AV}(h:B3 ok n cs cs'):gZ ok n (.agg cs) (.agg cs'):=.agg cs cs' h.spec.1 h.spec.2
theorem gZ.tp{ok:AV→Prop}{n:Nat}{cs cs':List AV}(h:B3 ok n cs cs'):gZ ok n (.tuple cs) (.tuple cs'):=.tuple cs cs' h.spec.1 h.spec.2

theorem QA{C0:Ctx}{pr:Nat→Prop}(hw:C0.w=C.w)(hp:C0.cI=pr)(hd0:C0.iu=[])(hp0:C0.nI=0)(Jk:∀b,¬C0.own b)(hE:Ext C0 C1):Ext (C.bare pr) C1 where
 below:=by have:=hE.below;rw[hw] at this;exact this
 keep b hb _:=by have:=hE.keep b (by rw[hw];exact hb) (Jk b);rw[this,hw];rfl
 own b hb h:=absurd (hE.own b (by rw[hw];exact hb) h) (Jk b)
 next:=afR _
 id i es hi _:=absurd hi (aie _)
 cI:=hE.cI.trans hp
 iu:=hE.iu.trans hd0
 nI:=hE.nI.trans hp0

theorem Qe{Hr:Heap}(r':AV)(objs':List (Nat×(Nat×List AV)))(he:Enters P o fr f ys)(hw:b8 (.of W0.w) ys.length ⟨bN 0 ys,.empty⟩ ⟨bN 0 xs,.empty⟩)(hl:xs.length=ys.length)(hno:∀y∈ys,bQ y)
  (hf:CD P W0.w f xs r Hr)(hr:gZ bQ H.next r r')(hJ:Joined bQ H.next Hr.bV objs'):b_ P W0 o fr H r' {next:=H.next+Hr.next,bV:=H.bV++objs',ec:=H.ec}:=by
 intro C a hI hH hop K Q hK
 subst hH
 obtain⟨vals,hrun,MP⟩:=he C a hop
 unfold Oper.wp
 rw[hrun,Oper.upon_enter]
 have MQ:=RC (pr:=fun b=>C.cI b∨C.own b) MP.1 MP.2 hno (NI hI) (fun b hb h=>hb (h.elim .inr .inl))
 obtain⟨C0,q1,q2,q3⟩:=hw _ _ MQ
 have Q2:C0.w=C.w:=q1
 have hsz:vals.size=xs.length:=by omega
 have:=hf.runs C0 vals q3.inv q3.heap (r_ q3) hsz (Ap q3)
 rw[Q2] at this
 refine this.mono ?_
 rintro e w' ⟨v,C1,rfl,rfl,hE0,hI',hH1,MQ⟩
 subst hH1
 have Jk:∀b,¬C0.own b:=Ci q3.heap (r_ q3)
 have hE:=QA (C:=C) (pr:=fun b=>C.cI b∨C.own b) Q2 q2.cI (r_ q3) q3.inv.lU Jk hE0
 obtain⟨h1,h2,h3⟩:=LI (ok:=bQ) (pr:=fun b=>C.cI b∨C.own b) hI hI' hE (fun b h=>.inl h) hJ (fun x v hx hrx hb=>by
  by_cases hd:∃b,b<C1.w.heap.size∧¬C1.bad b∧(C.join C1 objs').bad b
  ·grind
  ·exact hrx.move hx (afk _) (fun b q1 q2=>⟨rfl,fun q3=>hd ⟨b,q1,q2,q3⟩⟩)) (.inl fun b h=>.inr h)
 exact hK v (C.join C1 objs') h1 h2 rfl (h3 r r' v hr MQ)
theorem SJ{Hr:Heap}(r':AV)(objs':List (Nat×(Nat×List AV)))(ho:o.op=.call {callee:=.value (.func f),args:=args,argTypes:=tys})(hys:args.toList.mapM (aD fr)=some ys)(hw:b8 (.of W0.w) ys.length ⟨bN 0 ys,.empty⟩ ⟨bN 0 xs,.empty⟩)(hl:xs.length=ys.length)(hno:∀y∈ys,bQ y)
  (hf:CD P W0.w f xs r Hr)(hr:gZ bQ H.next r r')(hJ:Joined bQ H.next Hr.bV objs'):b_ P W0 o fr H r' {next:=H.next+Hr.next,bV:=H.bV++objs',ec:=H.ec}:=
 Qe r' objs' (.func ho hys hf.call) hw hl hno hf hr hJ

theorem Qd{Hr:Heap}(r':AV)(objs':List (Nat×(Nat×List AV)))(he:Enters P o fr f ys)(hw:b8 (.of W0.w) ys.length ⟨bN 0 ys,{H with ec:=[]}⟩ ⟨bN 0 xs,.empty⟩)(hl:xs.length=ys.length)
  (hf:CD P W0.w f xs r Hr)(hr:gZ ya H.next r r')(hJ:Joined ya H.next Hr.bV objs'):b_ P W0 o fr H r' {next:=H.next+Hr.next,bV:=H.bV++objs',ec:=H.ec}:=by
 intro C a hI hH hop K Q hK
 subst hH
 obtain⟨vals,hrun,MP⟩:=he C a hop
 unfold Oper.wp
 rw[hrun,Oper.upon_enter]
 obtain⟨C0,q1,q2,q3⟩:=hw _ _ (N0 hI MP.1 MP.2)
 have Q2:C0.w=C.w:=q1
 have hsz:vals.size=xs.length:=by omega
 have:=hf.runs C0 vals q3.inv q3.heap (r_ q3) hsz (Ap q3)
 rw[Q2] at this
 refine this.mono ?_
 rintro e w' ⟨v,C1,rfl,rfl,hE0,hI',hH1,MQ⟩
 subst hH1
 have Jk:∀b,¬C0.own b:=Ci q3.heap (r_ q3)
 have hE:=QA (C:=C) (pr:=C.cI) Q2 q2.cI (r_ q3) q3.inv.lU Jk hE0
 obtain⟨h1,h2,h3⟩:=LI (ok:=ya) (pr:=C.cI) hI hI' hE (fun b h=>h) hJ (fun x v hx hrx _=>hx.rep hrx) (.inr fun x h=>h)
 exact hK v (C.join C1 objs') h1 h2 rfl (h3 r r' v hr MQ)
theorem SI{Hr:Heap}(r':AV)(objs':List (Nat×(Nat×List AV)))(ho:o.op=.call {callee:=.value (.func f),args:=args,argTypes:=tys})(hys:args.toList.mapM (aD fr)=some ys)(hw:b8 (.of W0.w) ys.length ⟨bN 0 ys,{H with ec:=[]}⟩ ⟨bN 0 xs,.empty⟩)(hl:xs.length=ys.length)
  (hf:CD P W0.w f xs r Hr)(hr:gZ ya H.next r r')(hJ:Joined ya H.next Hr.bV objs'):b_ P W0 o fr H r' {next:=H.next+Hr.next,bV:=H.bV++objs',ec:=H.ec}:=
 Qd r' objs' (.func ho hys hf.call) hw hl hf hr hJ


theorem Pv{W0:bS}{C:Ctx}{q:AV}(hI:Inv W0 C)(hd:C.iu=[])(h:c4 C q v):Rel W0 1 (lk [(0,q)]) C.H C {tmps:= #[v],defers:=W0.dx}:=
 ⟨rfl,hI,rfl,by simp[hd],fun t x hx=>by
  simp_all [lk]⟩

variable {fn:Func}
theorem JB{W0:bS}{C:Ctx}{H:Heap}{N:Nat}(hI:Inv W0 C)(hH:C.H=H)(hd:C.iu=[])(hN:fn.ntmps=N)(hxN:xs.length≤N)(hsz:vals.size=xs.length)(hrep:∀(k:Nat) (x:AV),xs[k]? =some x→c4 C x (vals.getD k undef))(hdx:W0.dx=[]):
  Rel W0 N (lk (bN 0 xs)) H C {tmps:=vals++ajA (fn.ntmps - vals.size) undef,defers:=[]}:=by
 refine⟨hH,hI,by grind,by grind,fun t x hx=> ?_⟩
 obtain⟨_,h2⟩:=wT xs 0 t x hx
 have hlt:t<vals.size:=by grind
 have e:(vals++ajA (fn.ntmps - vals.size) undef).getD t undef=vals.getD t undef:=by
  simp_all [ajy]
 grind

theorem drain{W0:bS}{tmps:Array Value}{R:Ending→World→Prop}{H:Heap}{Q:Ctx→Prop}{u:FrameMode}(hu:u≠.run){ds:List Deferred}(hQ:∀C2,Q C2→C2.iu=[]→LeavesInM Fence.wide 0 P fn tmps R ds u C2.w):
  ∀(l:List Nat) (C:Ctx),C.iu=l→Inv W0 C→C.H=H→(∀C2,C2.H=C.H→C2.pl=C.pl→Mem C C2→Inv W0 C2→C2.iu=[]→(∀x v,c4 C x v→c4 C2 x v)→Q C2)→
   LeavesInM Fence.wide 0 P fn tmps R ((l.map fun d=>{target:=.collected d,args:= #[]})++ds) u C.w
 |[],C,hl,hI,hH,hq=>hQ C (hq C rfl rfl (.refl C) hI hl (fun _ _ h=>h)) hl
 |d::l,C,hl,hI,hH,hq=>by
  have hd:C.w.heap[d]? =some (.deferred (some [])):=hI.iu d (by grind)
  have hnd:d∉l:=by have:=hI.BX;grind
  refine⟨hu,.inl ⟨d,C.w.putObj d (.deferred none),rfl,run_takeDeferred hd, ?_⟩⟩
  -- the context behind it
  let C1:Ctx:={C with w:=C.w.putObj d (.deferred none),iu:=l}
  have hne:∀b,b≠d→C1.w.heap[b]? =C.w.heap[b]? :=fun b hb=>World.putObj_heap_other hb
  have hcell:∀{b:Nat} {arr:Array Value} {el:TypeId} {fz:Nat×Nat},C.w.heap[b]? =some (.cells arr el fz)→b≠d:=fun{b arr el fz} h hb=>by
   grind
  have hcellD:∀{b:Nat} {o:Obj},C.w.heap[b]? =some o→isD o→b≠d:=fun{b o} h h2 hb=>by
   subst hb;rw[hd] at h;cases h;rcases h2 with⟨_,_,h⟩|⟨_,_,h⟩|⟨_,_,_,_,_,_,h⟩ <;> cases h
  have hown:∀b,C1.own b→C.own b:=by
   rintro b (⟨id,es,h1,h2,h3⟩|h|h)
   ·exact .inl ⟨id,es,h1,h2,h3⟩
   ·exact .inr (.inl h)
   ·exact .inr (.inr (by grind))
  have hM:Mem C C1:=⟨⟨rfl,rfl,rfl,by simp[C1],fun k hk=>absurd hk (aie k)⟩,fun b _ hb=>hne b (fun h=>hb (.inr (.inr (by grind)))),fun b _ h=>hown b h,rfl,rfl,fun hp=>⟨hp,fun k es' _ hg=>⟨⟨es',hg⟩,rfl⟩⟩⟩
  have hholds:∀{b o:Nat} {v:Value},Holds C.w b o v→Holds C1.w b o v:=fun{b o v} h=>by
   refine⟨?_,h.2⟩
   have hb:b≠d:=fun hb=>by
    have:=h.1
    grind [World.cell?]
   rw[World.cell?_of_block (w:=C.w) (a:=⟨b,o,none⟩) (hne b hb)]
   exact h.1
  have hrep:∀x v,c4 C x v→c4 C1 x v:=by
   intro x v h
   induction h with
   |any v=>exact .any v
   |imm v hv=>exact .imm v hv
   |slNil a cap=>exact .slNil a cap
   |sl es b off sz cap c hlt hbad hc hf hcell _ ih=>exact .sl es b off sz cap c (by simpa [C1] using hlt) (fun h=>hbad (h.imp (hown b) id)) hc hf (fun i j e x he hx=>hholds (hcell i j e x he hx)) ih
   |clipNil a=>exact .clipNil a
   |clip es b off sz c hlt hbad hf hcell _ ih=>exact .clip es b off sz c (by simpa [C1] using hlt) (fun h=>hbad (h.imp (hown b) id)) hf (fun i j e x he hx=>hholds (hcell i j e x he hx)) ih
   |view id off len v hid hs h1=>exact .view id off len v hid hs h1
   |ref id i j v hid hs h1=>exact .ref id i j v hid hs h1
   |mref id v hid hs h1=>exact .mref id v hid hs h1
   |pp fl j b off c hlt hbad hcell _ ih=>exact .pp fl j b off c (by simpa [C1] using hlt) (fun h=>hbad (h.imp (hown b) id)) (fun k x hx=>hholds (hcell k x hx)) ih
   |agg cs vs hs h1 _ ih=>exact .agg cs vs hs h1 ih
   |tuple cs vs hs _ ih=>exact .tuple cs vs hs ih
   |ifc t x v _ ih=>exact .ifc t x v ih
   |fH fn caps vs hs _ ih=>exact .fH fn caps vs hs ih
  have MM:Inv W0 C1:={
   fresh:=hI.fresh
   nil:=hI.nil
   obj:=fun id es h hn=>by
    have hO:=hI.obj id es h hn
    obtain⟨ob,h1,h2⟩:=hO.dat
    have hb:=hcellD h1 h2
    have hc:∀o,C1.w.cell? ⟨(C.pl id).de,o,none⟩=C.w.cell? ⟨(C.pl id).de,o,none⟩:=fun o=>World.cell?_of_block (w:=C.w) (a:=⟨_,o,none⟩) (hne _ hb)
    exact⟨hO.n,hO.cap,by rw[hne _ hb];exact hO.de,fun o v hv=>hO.one o v (by grind),hO.flat,fun i j e x v h1 h2 h3=>hrep _ _ (hO.cell i j e x v h1 h2 (by grind))⟩
   sep:=hI.sep
   cI:=hI.cI
   jX:=hI.jX
   dU:=fun b h=>by simpa [C1] using hI.dU b h
   eG:=hI.eG
   size:=by simpa [C1] using hI.size
   gD:=fun b h=>⟨by
    rw[←(hI.gD b h).1]
    exact hne b (fun hb=>(hI.gD b h).2 (.inr (.inr (by grind)))),fun ho=>(hI.gD b h).2 (hown b ho)⟩
   ec:=fun q r h=>by
    have:=hI.ec q r h
    grind
   iu:=fun q h=>by
    rw[←hI.iu q (by grind)]
    grind
   BX:=by have:=hI.BX;grind
   Cn:=fun q h=>by have:=hI.Cn q h;grind
   eS:=fun b h=>hI.eS b (by
    rcases h with h|h
    ·exact .inl h
    ·exact .inr (by grind))
   lU:=hI.lU
   fe:=hI.fe
   gh:=W0.st C C1 hM hI.fe hI.gh}
  exact drain hu hQ l C1 rfl MM hH (fun C2 h1 h2 h3 h4 h5 h6=>hq C2 h1 h2 (hM.trans h3) h4 h5 (fun x v h=>h6 x v (hrep x v h)))

theorem HI{W0:bS}{N:Nat}{Hin Hr:Heap}(hf:P.funcs[f]? =some fn)(hb:fn.body=some c)(hN:fn.ntmps=N)(hxN:xs.length≤N)(hro:W0.ro=none)
  (h:iD P W0 N c ⟨bN 0 xs,Hin⟩ (fun e s=>(e=.normal∨e=.ret)∧∃q,Cm P fn.results.toList s=some q∧b8 W0 1 ⟨[(0,q)],s.H⟩ ⟨[(0,r)],Hr⟩))
  (C:Ctx)(vals:Array Value)(hI:Inv W0 C)(hH:C.H=Hin)(hd:C.iu=[])(hsz:vals.size=xs.length)(hrep:∀(k:Nat) (x:AV),xs[k]? =some x→c4 C x (vals.getD k undef))(hdx:W0.dx=[]:=by rfl):
  Calls P f vals C.w (fun e w'=>∃v C',e=.returned v∧C'.w=w'∧Mem C C'∧Inv W0 C'∧C'.H=Hr∧C'.iu=[]∧c4 C' r v):=by
 refine(callsIn_wide (n:=0)).1 (callsIn_of_wp_marks hf hb trivial ?_)
 have hrel:=JB (W0:=W0) hI hH hd hN hxN hsz hrep hdx
 have key:=h C _ hrel
 rw[hro,xh] at key
 refine wpIn_mono key fun e a' w' ⟨s,C',g1,g2,g3,g4,q,g5,g6⟩=> ?_
 subst g1
 have main:LeavesInM Fence.wide 0 P fn a'.tmps (fun e w'=>∃v C',e=.returned v∧C'.w=w'∧Mem C C'∧Inv W0 C'∧C'.H=Hr∧C'.iu=[]∧c4 C' r v) a'.defers .returning C'.w:=by
  rw[g3.defers,hdx]
  refine drain (W0:=W0) (u:=.returning) (by simp) (ds:=[]) (Q:=fun C2=>Rel W0 N (lk s.fr) s.H C2 {tmps:=a'.tmps,defers:=[]}∧Mem C C2) (fun C2 hq H9=> ?_) C'.iu C' rfl g3.inv g3.heap (fun C2 h1 h2 h3 h4 h5 h6=>⟨⟨h1.trans g3.heap,h4,g3.size,by grind,fun t x hx=>h6 x _ (g3.rep t x hx)⟩,g2.trans h3⟩)
  obtain⟨hq,hm⟩:=hq
  obtain⟨v,g7,g8⟩:=J8 hq g5
  have g9:=Pv hq.inv H9 g8
  rw[hq.heap] at g9
  obtain⟨C3,q1,q2,q3⟩:=g6 C2 _ g9
  exact⟨v,g7,v,C3,rfl,q1,hm.trans q2,q3.inv,q3.heap,r_ q3,q3.rep 0 r rfl⟩
 rcases g4 with rfl|rfl
 ·exact main
 ·exact main

theorem lu{W0:World}{N:Nat}{Hr:Heap}(hf:P.funcs[f]? =some fn)(hb:fn.body=some c)(hname:(fn.name== "runtime.NumGoroutine")=false)(hN:fn.ntmps=N)(hxN:xs.length≤N)
  (h:iD P (.of W0) N c ⟨bN 0 xs,.empty⟩ (fun e s=>(e=.normal∨e=.ret)∧∃q,Cm P fn.results.toList s=some q∧b8 (.of W0) 1 ⟨[(0,q)],s.H⟩ ⟨[(0,r)],Hr⟩)):CD P W0 f xs r Hr where
 call:=iF hf hname hb
 runs C vals hI hH hd hsz hrep:=(HI hf hb hN hxN rfl h C vals hI hH hd hsz hrep).mono fun e w' ⟨v,C',h1,h2,h3,h4,h5,h6,h7⟩=>
  ⟨v,C',h1,h2,⟨h3.below,h3.keep,h3.own,by rw[hH];exact afR _,fun id es hi _=>by rw[hH] at hi;exact absurd hi (aie _),h3.cI,h6.trans hd.symm,h3.nI⟩,h4,h5,h7⟩

theorem CD.OM{W0:World}{r':AV}{Hr:Heap}(h:CD P W0 f xs r Hr)(hw:b8 (.of W0) 1 ⟨[(0,r)],Hr⟩ ⟨[(0,r')],.empty⟩)(hn:bQ r'):oQ P W0 f xs r' where
 call:=h.call
 lT:=hn
 runs C vals hI hH hd hsz hrep:=(h.runs C vals hI hH hd hsz hrep).mono fun e w' ⟨v,C',h1,h2,h3,h4,h5,h6⟩=>by
  have g:=Pv h4 (h3.iu.trans hd) h6
  rw[h5] at g
  obtain⟨C2,q1,q2,q3⟩:=hw C' _ g
  refine⟨v,C2,h1,q1.trans h2, ?_,q3.inv,q3.rep 0 r' rfl⟩
  have hm:=h3.mem.trans q2
  refine⟨hm.below,hm.keep,hm.own,by rw[hH];exact afR _,fun id es hi _=> ?_,hm.cI,(r_ q3).trans hd.symm,hm.nI⟩
  rw[hH] at hi;exact absurd hi (aie _)

theorem oQ.two{W0:World}(h:CD P W0 f xs r .empty)(hn:bQ r):oQ P W0 f xs r:=h.OM (b8.refl _) hn
end
end Go.Av
end

section
namespace Bv
theorem ZY:∀x:Nat,0<x→∃k m,x=2 ^ k*(2*m+1):=by
 intro x
 induction x using Nat.strongRecOn with
 |_ x ih=>
  intro hx;rcases Nat.mod_two_eq_zero_or_one x with h|h
  ·obtain⟨k,m,hk⟩:=ih (x / 2) (by omega) (by omega)
   refine⟨k+1,m, ?_⟩;grind [Nat.mul_assoc]
  ·exact⟨0,x / 2,by omega⟩

theorem tb(k a b i:Nat)(hb:b<2 ^ k):(2 ^ k*a+b).testBit i=if i<k then b.testBit i else a.testBit (i - k):=Nat.testBit_two_pow_mul_add a hb i

theorem abm(k m i:Nat):(2 ^ k*(2*m+1)).testBit i=if i<k then false else if i=k then true else m.testBit (i - k - 1):=by
 have h:=tb k (2*m+1) 0 i (Nat.two_pow_pos k);rw[Nat.add_zero] at h;rw[h];by_cases h1:i<k
 ·simp[h1]
 ·by_cases h2:i=k
  ·grind
  ·have h3:=tb 1 m 1 (i - k) (by decide)
   grind

theorem low(x:Nat)(hx:0<x)(hlt:x<2 ^ 64):∃k,k<64∧x.testBit k=true∧(∀i,i<k→x.testBit i=false)∧(∀i,(x&&&(x - 1)).testBit i=(x.testBit i&&decide (i≠k)))∧x&&&(2 ^ 64 - x)=2 ^ k:=by
 obtain⟨k,m,rfl⟩:=ZY x hx
 have hk:k<64:=by
  rcases aft k 64 with h|h
  ·exact h
  ·have:2 ^ 64≤2 ^ k:=Nat.pow_le_pow_right (by decide) h
   grind
 refine⟨k,hk,by grind,fun i hi=>by grind,fun i=> ?_, ?_⟩
 ·have h1:2 ^ k*(2*m+1) - 1=2 ^ k*(2*m)+(2 ^ k - 1):=by
   grind
  rw[aih,h1,tb k (2*m) (2 ^ k - 1) i (by grind),abm]
  by_cases h2:i<k
  ·simp[h2]
  ·by_cases h3:i=k
   ·grind
   ·have h4:=tb 1 m 0 (i - k) (by decide)
    grind
 ·have h1:2 ^ 64 - 2 ^ k*(2*m+1)=2 ^ k*(2 ^ (64 - k) - (2*m+1)):=by
   rw[Nat.mul_sub,←Nat.pow_add,show k+(64 - k)=64 by omega]
  apply Nat.eq_of_testBit_eq
  intro i
  rw[aih,abm,Nat.testBit_two_pow]
  by_cases h3:i<k
  ·grind
  ·by_cases h5:i=k
   ·grind
   ·have h6:=tb 1 m 0 (i - k) (by decide)
    grind

def list(s:BitVec 64):List Nat:=(aeD 64).filter fun i=>s.getLsbD i

def has(s:BitVec 64)(i:Int):Bool:=decide (0≤i)&&decide (i<64)&&s.getLsbD i.toNat
def bit(i:Int):BitVec 64:=if 0≤i∧i<64 then 1#64<<<i.toNat else 0#64
def least(s:BitVec 64):Int:=match list s with|[]=> -1|i::_=>i
def ctz(s:BitVec 64):Nat:=match list s with|[]=>64|i::_=>i

theorem Im{s:BitVec 64}{i:Nat}:i∈list s↔s.getLsbD i=true:=by
 grind [list]

theorem Ba(s:BitVec 64):(list s).Pairwise (· < ·):=(List.pairwise_lt_range).filter _

theorem WX:list 0#64=[]:=by decide

theorem Mn:∀{l m:List Nat},l.Pairwise (· < ·)→m.Pairwise (· < ·)→(∀i,i∈l↔i∈m)→l=m
 |[],[],_,_,_=>rfl
 |[],y::m,_,_,h=>by grind [ad2]
 |x::l,[],_,_,h=>by grind [ad2]
 |x::l,y::m,hl,hm,h=>by
  rw[agX] at hl hm
  have hxy:x=y:=by
   grind [ad2]
  subst hxy
  rw[Mn hl.2 hm.2 (fun i=> ?_)]
  grind

theorem ahd(s:BitVec 64)(h:s≠0#64):∃k,k<64∧s.getLsbD k=true∧(∀i,i<k→s.getLsbD i=false)∧(∀i,(s&&&(s - 1#64)).getLsbD i=(s.getLsbD i&&decide (i≠k)))∧s&&& -s=1#64<<<k:=by
 have hx:0<s.toNat:=by
  rcases Nat.eq_zero_or_pos s.toNat with h1|h1
  ·exact absurd (BitVec.eq_of_toNat_eq (by grind)) h
  omega
 obtain⟨k,h1,h2,h3,h4,h5⟩:=low s.toNat hx s.isLt;have e1:(s - 1#64).toNat=s.toNat - 1:=by
  have:=s.isLt;grind
 refine⟨k,h1,by grind,fun i hi=>by grind,fun i=> ?_, ?_⟩
 ·rw[←BitVec.testBit_toNat,BitVec.toNat_and,e1,h4,BitVec.testBit_toNat]
 ·apply BitVec.eq_of_toNat_eq
  have e2:(-s).toNat=2 ^ 64 - s.toNat:=by
   grind
  have:2 ^ k<2 ^ 64:=Nat.pow_lt_pow_right (by decide) h1;grind [Nat.shiftLeft_eq]

theorem NM(s:BitVec 64)(h:s≠0#64):list s=ctz s::list (s&&&(s - 1#64))∧ctz s<64∧s&&& -s=1#64<<<ctz s:=by
 obtain⟨k,h1,h2,h3,h4,h5⟩:=ahd s h
 have key:list s=k::list (s&&&(s - 1#64)):=by
  refine Mn (Ba s) ?_ (fun i=> ?_)
  ·rw[agX]
   refine⟨fun i hi=> ?_,Ba _⟩
   rw[Im,h4] at hi
   grind
  ·rw[Im,agV,Im,h4]
   grind
 grind [ctz]

theorem oC(s:BitVec 64):(list s).length≤64:=by
 grind [list]

theorem ext{s t:BitVec 64}(h:∀i,i<64→s.getLsbD i=t.getLsbD i):s=t:=BitVec.eq_of_getLsbD_eq (fun i hi=>h i hi)

def dB:BitVec 64:=0x03f79d71b4ca8b09#64
def tab:List Nat:=[0,1,56,2,57,49,28,3,61,58,42,50,38,29,17,4,62,47,59,36,45,43,51,22,53,39,33,30,24,18,12,5,63,55,48,27,60,41,37,16,46,35,44,21,52,32,23,11,54,26,40,15,34,20,31,10,25,14,19,9,13,8,7,6]
theorem aiW:∀k:Fin 64,tab[(((1#64<<<k.val)*dB)>>>58).toNat]? =some k.val:=by decide
end Bv
end

section
namespace Go.Sh
def XH:List Int:=Bv.tab.map fun(k:Nat)=>(k:Int)
end Go.Sh
end

section
namespace Go.Av
abbrev bM(n:Int):Int:=IntKind.i64.wrap n
abbrev kA(k:IntKind)(n:Int):AV:=.imm (.int k n)
abbrev Ku{α:Type}(enc:α→AV)(l:List α):AV:=.agg (l.map enc)
abbrev mG{α:Type}(enc:α→AV)(l:List α):AV:=.sl (l.map enc)

section
variable {P:Program} {W0:bS} {fr:Fr} {H:Heap} {o:Oper} {α:Type} {enc:α→AV} {l:List α} {i:Int} {x:α} {ki:IntKind}

variable {k:Nat}
theorem getM(h:l[k]? =some x):(l.map enc)[k]? =some (enc x):=by simp[h]

variable {t e:TypeId}{s eN:Nat}{xo io:Operand}
theorem w9(enc:α→AV)(l:List α)(hi:i=k)(hl:l[k]? =some x)(ho:o.op=.indexAddr t xo io)(hx:aD fr xo=some (.sl (l.map enc)))(hio:aD fr io=some (.imm (.int ki i)))
  (ht:oK P t=some (e,s,eN))(hs:(enc x).flat.length=s):b_ P W0 o fr H (.pp (enc x).flat 0) H:=
 yX ho hx (.inl rfl) hio ht hi (getM hl) hs
theorem IM(enc:α→AV)(l:List α)(hi:i=k)(hl:l[k]? =some x)(ho:o.op=.indexAddr t xo io)(hx:aD fr xo=some (.clip (l.map enc)))(hio:aD fr io=some (.imm (.int ki i)))
  (ht:oK P t=some (e,s,eN))(hs:(enc x).flat.length=s):b_ P W0 o fr H (.pp (enc x).flat 0) H:=
 yX ho hx (.inr rfl) hio ht hi (getM hl) hs
variable {id n:Nat}
theorem zm(enc:α→AV)(l:List α)(hi:i=k)(hl:l[k]? =some x)(hn:n=(l.map enc).length)(ho:o.op=.indexAddr t xo io)(hx:aD fr xo=some (.view id 0 n))(hid:H.get id=some (l.map enc))(hio:aD fr io=some (.imm (.int ki i)))
  (ht:oK P t=some (e,s,eN))(hs:(enc x).flat.length=s):b_ P W0 o fr H (.ref id k 0) H:=by
 subst hn;have hk:k<(l.map enc).length:=by grind
 have:=D9 (P:=P) (W0:=W0) (o:=o) (fr:=fr) (H:=H) ho hx hid hio ht hi hk (el:=enc x) (by grind) hs;grind
theorem Oc{j:Nat}{g:Bool}{r:AV}(enc:α→AV)(l:List α)(hl:l[k]? =some x)(ho:o.op=.load t xo)(hx:aD fr xo=some (.ref id k j))(hid:H.get id=some (l.map enc))
  (ht:Dw P t=some (n,g))(hr:qF (enc x).flat j n g=some r):b_ P W0 o fr H r H:=cu ho hx hid (getM hl) ht hr
variable {yo:Operand}
theorem Mu{j:Nat}{g:Bool}{ay:AV}(enc:α→AV)(l:List α)(x':α)(hi:i=k)(hl:l[k]? =some x)(ho:o.op=.store t xo yo)(hx:aD fr xo=some (.ref id k j))(hy:aD fr yo=some ay)(hsol:ay.b6=true)
  (hid:H.get id=some (l.map enc))(ht:Dw P t=some (n,g))(hn:ay.flat.length=n)(hj:j+n≤(enc x).flat.length)(he':(enc x').flat=(enc x).flat.take j++ay.flat++(enc x).flat.drop (j+n))(Jk:0<n:=by decide):
  b_ P W0 o fr H .any (H.set id ((Sh.set l i x').map enc)):=by
 have:=bX (P:=P) (W0:=W0) (o:=o) (fr:=fr) (H:=H) ho hx hy hsol hid (getM hl) ht hn hj he' Jk;grind [Sh.set,List.map_set]

theorem rR(enc:α→AV)(l:List α)(ho:o.op=.call {callee:=.builtin .len,args:= #[xo],argTypes:= #[t]})(hx:aD fr xo=some (.sl (l.map enc)))(ht:oK P t=some (e,s,eN)):b_ P W0 o fr H (J (Sh.len l)) H:=
 (Ks ho hx rfl ht).conv (by grind)
theorem Ue(enc:α→AV)(l:List α)(ho:o.op=.call {callee:=.builtin .len,args:= #[xo],argTypes:= #[t]})(hx:aD fr xo=some (.clip (l.map enc)))(ht:oK P t=some (e,s,eN)):b_ P W0 o fr H (J (Sh.len l)) H:=
 (Ks ho hx rfl ht).conv (by grind)
theorem JI(ho:o.op=.call {callee:=.builtin .len,args:= #[xo],argTypes:= #[t]})(hx:aD fr xo=some dy)(ht:oK P t=some (e,s,eN)):b_ P W0 o fr H (J 0) H:=
 (Ks ho hx rfl ht).conv (by simp)
theorem G_{off:Nat}{es:List AV}(enc:α→AV)(l:List α)(hn:n=(l.map enc).length)(ho:o.op=.call {callee:=.builtin .len,args:= #[xo],argTypes:= #[t]})(hx:aD fr xo=some (.view id off n))(hid:H.get id=some es)(ht:oK P t=some (e,s,eN)):b_ P W0 o fr H (J (Sh.len l)) H:=by
 exact(yY ho hx hid ht).conv (by grind)

theorem tg(h:∀x:α,(enc x).flat.length=s)(l:List α):∀y∈l.map enc,y.flat.length=s:=fun y hy=>by
 grind
variable {ty:TypeId}{z:Value}
theorem XD{ay:AV}(enc:α→AV)(m L:List α)(hL:Sh.app eN [] m=some L)(hT:AM P t e s eN z)(hfl:∀x:α,(enc x).flat.length=s)(ho:o.op=.call {callee:=.builtin .append,args:= #[xo,yo],argTypes:= #[t,t]})(hty:o.type=ty)
  (hx:aD fr xo=some dy)(hy:aD fr yo=some ay)(hys:ay.elems H=some (m.map enc)):b_ P W0 o fr H (.view H.next 0 (L.map enc).length) (H.push s (L.map enc)):=by
 obtain⟨h1,rfl⟩:=Sh.qR hL
 have:=D8 (P:=P) (W0:=W0) (o:=o) (fr:=fr) (H:=H) hT ho hty hx (.inl rfl) hy hys (tg hfl _) (by grind)
 omega
theorem Uc{ay:AV}(enc:α→AV)(l m L:List α)(hL:Sh.app eN l m=some L)(hne:m≠[])(hT:AM P t e s eN z)(hfl:∀x:α,(enc x).flat.length=s)(ho:o.op=.call {callee:=.builtin .append,args:= #[xo,yo],argTypes:= #[t,t]})(hty:o.type=ty)
  (hx:aD fr xo=some (.clip (l.map enc)))(hy:aD fr yo=some ay)(hys:ay.elems H=some (m.map enc)):b_ P W0 o fr H (.view H.next 0 (L.map enc).length) (H.push s (L.map enc)):=by
 obtain⟨h1,rfl⟩:=Sh.qR hL;have:=Kc (P:=P) (W0:=W0) (o:=o) (fr:=fr) (H:=H) hT ho hty hx hy hys (by simp_all) (tg hfl l) (tg hfl m) (by grind);grind
theorem uw{ay:AV}(enc:α→AV)(l m L:List α)(hL:Sh.app eN l m=some L)(hn:n=(l.map enc).length)(hT:AM P t e s eN z)(hfl:∀x:α,(enc x).flat.length=s)(ho:o.op=.call {callee:=.builtin .append,args:= #[xo,yo],argTypes:= #[t,t]})(hty:o.type=ty)
  (hx:aD fr xo=some (.view id 0 n))(hid:H.get id=some (l.map enc))(hs:H.sz id=some s)(hy:aD fr yo=some ay)(hys:ay.elems H=some (m.map enc)):b_ P W0 o fr H (.view H.next 0 (L.map enc).length) ((H.del id).push s (L.map enc)):=by
 subst hn
 obtain⟨h1,rfl⟩:=Sh.qR hL
 have:=DG (P:=P) (W0:=W0) (o:=o) (fr:=fr) (H:=H) hT ho hty hx hid hs hy hys (tg hfl l) (tg hfl m) (by grind)
 grind
theorem Ud{ty':TypeId}{ay:AV}(enc:α→AV)(l m L:List α)(hL:Sh.YA l m=some L)(hn:n=(l.map enc).length)(hfl:∀x:α,(enc x).flat.length=s)(ho:o.op=.call {callee:=.builtin .copy,args:= #[xo,yo],argTypes:= #[t,ty']})(hx:aD fr xo=some (.view id 0 n))
  (hid:H.get id=some (l.map enc))(hs:H.sz id=some s)(hy:aD fr yo=some ay)(hys:ay.elems H=some (m.map enc))(ht:oK P t=some (e,s,eN))(Jl:s≠0:=by decide):b_ P W0 o fr H .any (H.set id (L.map enc)):=by
 obtain⟨h1,rfl⟩:=Sh.Qv hL;have:=Yk (P:=P) (W0:=W0) (o:=o) (fr:=fr) (H:=H) ho hx hid hs hy hys ht (tg hfl L) (by grind) Jl;have e:((l.map enc).take 0++L.map enc++(l.map enc).drop (0+(L.map enc).length))=L.map enc:=by
  grind
 rw[e] at this;intro C a hI hH hop K Q hK;exact this C a hI hH hop K Q (fun v C' h1 h2 h3 _=>hK v C' h1 h2 h3 (.any v))
theorem He{kl kc:IntKind}{nl nc:Int}(enc:α→AV)(zx:α)(L:List α)(hL:Sh.mk eN nl nc zx=some L)(ho:o.op=.makeSlice t xo yo)(hx:aD fr xo=some (.imm (.int kl nl)))(hy:aD fr yo=some (.imm (.int kc nc)))
  (ht:oK P t=some (e,s,eN))(hz:oL P e=some z)(hk:z.MD=true)(hs:(AV.Ch z).flat.length=s)(hzx:enc zx=AV.Ch z)(Kx:s≠0:=by decide):b_ P W0 o fr H (.view H.next 0 (L.map enc).length) (H.push s (L.map enc)):=by
 obtain⟨m,c,h1,h2,h3,h4,h5,rfl⟩:=Sh.KA hL;have:=F4 (P:=P) (W0:=W0) (o:=o) (fr:=fr) (H:=H) ho hx hy h1 h2 h3 ht h4 h5 hz hk hs Kx;simp_all

theorem apc{lo hi:Option Operand}{ax:AV}{a b:Int}(enc:α→AV)(l L:List α)(hL:Sh.sub l a b=some L)(hfl:∀x:α,(enc x).flat.length=s)(ho:o.op=.slice t xo lo hi none)(hx:aD fr xo=some ax)(hax:ax=.sl (l.map enc)∨ax=.clip (l.map enc))
  (hlo:(lo=none∧a=0)∨∃y k,lo=some y∧aD fr y=some (.imm (.int k a)))(hhi:(hi=none∧b=Sh.len l)∨∃y k,hi=some y∧aD fr y=some (.imm (.int k b)))(ht:oK P t=some (e,s,eN)):b_ P W0 o fr H (.sl (L.map enc)) H:=by
 obtain⟨m,k,rfl,rfl,h1,h2,rfl⟩:=Sh.Fg hL
 have g1:∀d,(hlo':(lo=none∧((m:Int))=0)∨∃y k,lo=some y∧aD fr y=some (.imm (.int k (m:Int))))→d=0→fW fr lo d=some m:=fun d hlo' hd=>by
  rcases hlo' with⟨rfl,h⟩|⟨y,q,rfl,h⟩
  ·have:m=0:=by omega
   subst this;subst hd;rfl
  ·simp[fW,h]
 have g2:fW fr hi (l.map enc).length=some k:=by
  rcases hhi with⟨rfl,h⟩|⟨y,q,rfl,h⟩
  ·grind [fW]
  ·simp[fW,h]
 have:=HA (P:=P) (W0:=W0) (o:=o) (fr:=fr) (H:=H) ho hx hax ht (g1 0 hlo rfl) g2 h1 (by grind) (tg hfl l)
 simp_all

theorem apb{t':TypeId}{x y:Operand}{a r:BitVec 64}{k':IntKind}{n:Int}(h:Sh.shl a n=some r)(ho:o.op=.binOp .shl t x y t')(hx:aD fr x=some (u64 a))(hy:aD fr y=some (.imm (.int k' n))):b_ P W0 o fr H (u64 r) H:=by
 obtain⟨h0,rfl⟩:=Sh.aa3 h;rcases ajE n 64 with h64|h64
 ·grind [Wl]
 ·exact zp ho hx hy (fun w=>by
   have hn:¬n<0:=by omega
   have hm:min n.toNat 64=64:=by omega
   simp only[binOp,Op.shift,hn,if_false,IntKind.bits,hm,Sf];simp_all) rfl

theorem af0{t':TypeId}{x y:Operand}{a r:BitVec 64}{k':IntKind}{n:Int}(h:Sh.shr a n=some r)(ho:o.op=.binOp .shr t x y t')(hx:aD fr x=some (u64 a))(hy:aD fr y=some (.imm (.int k' n))):b_ P W0 o fr H (u64 r) H:=by
 obtain⟨h0,rfl⟩:=Sh.aa5 h;rcases ajE n 64 with h64|h64
 ·grind [Wm]
 ·have e:a>>>n.toNat=0#64:=BitVec.ushiftRight_eq_zero (by omega)
  exact zp ho hx hy (fun w=>by
   have hn:¬n<0:=by omega
   have hm:min n.toNat 64=64:=by omega
   simp only[binOp,Op.shift,hn,if_false,IntKind.bits,hm];show Result.ok _ w=Result.ok _ w;have h2:(a.toNat:Int).fdiv (2 ^ 64)=0:=by
    have:=a.isLt;grind
   grind) rfl
end

def ae0(W0:World)(g:Nat):Prop:=∀(j:Nat) (v:Value),(Bv.tab.map fun(k:Nat)=>Value.int .u8 (k:Int))[j]? =some v→W0.cell? ⟨g,j,none⟩=some v∧v.oneCell'=true
variable {P:Program}{W0:bS}{fr:Fr}{H:Heap}{o:Oper}{t:TypeId}
theorem PF{gl k:Nat}{io:Operand}{ki:IntKind}{i x:Int}(hi:i=k)(hl:(Sh.XH)[k]? =some x)(ho:o.op=.indexAddr t (.global gl) io)(hio:aD fr io=some (.imm (.int ki i)))(ht:Hi P t=some (64,1))(hT:ae0 W0.w gl):
  b_ P W0 o fr H (.pp ((Bv.tab.map fun(k:Nat)=>Value.int .u8 (k:Int)).map .imm) k) H:=
 KR ho hio ht hi (by have:=Sh.agE hl;assumption) rfl hT (by decide)
theorem aez{k:Nat}{x:Int}(h:Sh.XH[k]? =some x):qF ((Bv.tab.map fun(k:Nat)=>Value.int .u8 (k:Int)).map .imm) k 1 false=some (kA .u8 x):=by
 show((Bv.tab.map _).map _)[k]? =_;simp_all [Sh.XH]
theorem aiQ{t':TypeId}{x y:Operand}{a b r:BitVec 64}(h:Sh.udiv a b=some r)(ho:o.op=.binOp .quo t x y t')(hx:aD fr x=some (u64 a))(hy:aD fr y=some (u64 b)):b_ P W0 o fr H (u64 r) H:=by
 obtain⟨h1,rfl⟩:=Sh.XI h;grind [Wi]
theorem aiR{t':TypeId}{x y:Operand}{a b r:BitVec 64}(h:Sh.umod a b=some r)(ho:o.op=.binOp .rem t x y t')(hx:aD fr x=some (u64 a))(hy:aD fr y=some (u64 b)):b_ P W0 o fr H (u64 r) H:=by
 obtain⟨h1,rfl⟩:=Sh.XJ h;grind [Wj]

section
variable {W0:bS} {N:Nat} {H:Heap} {g:List (Nat×Nat)} {nw:List Nat}

def GF(H:Heap)(g:List (Nat×Nat))(nw:List Nat):List AV→List AV→Prop
 |[],[]=>True
 |x::l,y::m=>gi H g nw x y∧GF H g nw l m
 |_,_=>False

theorem GF.spec:∀{l m:List AV},GF H g nw l m→l.length=m.length∧∀(k:Nat) (x x':AV),l[k]? =some x→m[k]? =some x'→gi H g nw x x'
 |[],[],_=>⟨rfl,fun k x x' h=>by simp at h⟩
 |x::l,y::m,h=>by
  obtain⟨h1,h2⟩:=GF.spec h.2;refine⟨by simp[h1],fun k u v hu hv=> ?_⟩;cases k with
  |zero=>simp at hu hv;subst hu hv;exact h.1
  |succ k=>grind
 |[],_::_,h=>h.elim
 |_::_,[],h=>h.elim

theorem gi.ag{cs cs':List AV}(h:GF H g nw cs cs'):gi H g nw (.agg cs) (.agg cs'):=.agg cs cs' h.spec.1 h.spec.2
theorem gi.tp{cs cs':List AV}(h:GF H g nw cs cs'):gi H g nw (.tuple cs) (.tuple cs'):=.tuple cs cs' h.spec.1 h.spec.2
theorem gi.jI{id:Nat}{es:List AV}(h1:H.get id=some es)(h2:g.all (fun p=>p.2 !=id)=true)(h3:∀e∈es,bQ e):gi H g nw (.view id 0 es.length) (.sl es):=
 .lend h1 (fun p hp=>by grind) (by simp) h3
theorem gi.Re{id n:Nat}{es:List AV}(h1:H.get id=some es)(h2:g.all (fun p=>p.2 !=id)=true)(hn:n=es.length)(h3:∀e∈es,bQ e):gi H g nw (.view id 0 n) (.sl es):=by
 subst hn;exact .jI h1 h2 h3
theorem rU.one{x x':AV}(h:gi H g nw x x')(hl:x.flat.length=x'.flat.length):rU H g nw [x] [x']:=
 ⟨rfl,fun k e e' h1 h2=>by
  grind⟩
theorem jC.cons{n old s next:Nat}{es es':List AV}{r:List (Nat×(Nat×List AV))}(h1:lk g n=some old)(h2:lk H.bV old=some (s,es))(h3:rU H g nw es es')(h4:n<next)(h5:jC H g nw next r):jC H g nw next ((n,(s,es'))::r):=
 ⟨.inl ⟨old,es,h1,h2,h3⟩,h4,h5⟩
theorem jC.fresh{n s next:Nat}{r:List (Nat×(Nat×List AV))}(h1:n∈nw)(h4:n<next)(h5:jC H g nw next r):jC H g nw next ((n,(s,[]))::r):=
 ⟨.inr ⟨h1,rfl⟩,h4,h5⟩
end

section
variable {P:Program} {W0:bS} {N:Nat} {st:St} {Q:Exit→St→Prop}

theorem gB{x y:Code}{ι:Type}(S:ι→St)(ok:ι→Prop)(hJ:∀i,ok i→iD P W0 N y (S i) Q)(h:∀K:St→Prop,(∀i s,ok i→b8 W0 N s (S i)→K s)→iD P W0 N x st (mI K Q)):iD P W0 N (.seq x y) st Q:=
 Oy (h _ fun i _ hi hw=>iD.IT hw (hJ i hi))

def SB(l:Nat)(K:St→Prop)(Q:Exit→St→Prop):Exit→St→Prop
 |.goto l',s=>l'=l∧K s
 |e,s=>Q e s

theorem Wu{c rest:Code}{σ α:Type}(l:Nat)(b:σ→Option (σ⊕α))(S:σ→St)(r:α)(hf:findLabel c l=some rest)
  (first:iD P W0 N c st (SB l (fun s=>∃s0,Sh.loop b s0=some r∧b8 W0 N s (S s0)) Q))
  (round:∀s o,b s=some o→(∀x,o=.inr x→x=r)→iD P W0 N rest (S s) (SB l (fun s1=>∃s',o=.inl s'∧b8 W0 N s1 (S s')) Q))(hro:W0.ro=none:=by rfl):iD P W0 N (.scope c) st Q:=fun C a hr=>by
 classical
 have toWp:∀{c:Code} {Q:Exit→Act→World→Prop} {a:Act} {w:World},c.wpIn (Fw W0.ro) 0 P Q a w→c.wp P Q a w:=fun{c Q a w} h=>by grind [xh,wpIn_wide]
 rw[hro,xh]
 refine wpIn_wide.2 ?_
 let Fit:Act→World→Nat→Prop:=fun a' w' n=>∃s C',C'.w=w'∧Mem C C'∧Rel W0 N (lk (S s).fr) (S s).H C' a'∧Sh.iter b n s=some r
 let m:Act→World→Nat:=fun a' w'=>if h:∃k,Fit a' w' k then Classical.choose (exists_least _ h) else 0
 have fit:∀{s1:St} {C1:Ctx} {a1:Act} {s0:σ} {n:Nat},Mem C C1→Rel W0 N (lk s1.fr) s1.H C1 a1→b8 W0 N s1 (S s0)→Sh.iter b n s0=some r→Fit a1 C1.w n:=fun{s1 C1 a1 s0 n} hm hrel hw hn=>by
  obtain⟨C3,p1,p2,p3⟩:=hw C1 a1 hrel
  exact⟨s0,C3,p1,hm.trans p2,p3,hn⟩
 refine wp_scope_jumps l (fun a' w'=>∃k,Fit a' w' k) m hf (wp_mono (toWp (first C a hr)) fun e a2 w2 hp=> ?_) (fun a' w' hI=> ?_)
 ·obtain⟨s1,C2,q1,q2,q3,q4⟩:=hp
  subst q1
  cases e with
  |goto l'=>
   obtain⟨rfl,s0,h1,h2⟩:=q4
   exact⟨rfl,_,fit q2 q3 h2 h1⟩
  |_=>exact⟨s1,C2,rfl,q2,q3,q4⟩
 ·obtain⟨s,C',g1,g2,g3,g4⟩:=(Classical.choose_spec (exists_least _ hI)).1
  subst g1
  have hm:m a' C'.w=Classical.choose (exists_least _ hI):=dif_pos hI
  generalize Classical.choose (exists_least _ hI)=n at g4 hm
  cases n with
  |zero=>cases g4
  |succ n=>
   simp only[Sh.iter] at g4
   cases hb:b s with
   |none=>grind
   |some o=>
    rw[hb] at g4
    refine wp_mono (toWp (iD.at (round s o hb (fun x hx=>by grind)) g2 g3)) fun e a2 w2 hp=> ?_
    obtain⟨s1,C2,q1,q2,q3,q4⟩:=hp
    subst q1
    cases e with
    |goto l'=>
     obtain⟨rfl,s',rfl,h2⟩:=q4
     have hf':=fit q2 q3 h2 g4
     refine⟨rfl,⟨_,hf'⟩, ?_⟩
     have:m a2 C2.w≤n:=by
      show(if h:∃k,Fit a2 C2.w k then Classical.choose (exists_least _ h) else 0)≤n
      rw[dif_pos ⟨_,hf'⟩]
      exact(Classical.choose_spec (exists_least _ ⟨_,hf'⟩)).2 _ hf'
     omega
    |_=>exact⟨s1,C2,rfl,q2,q3,q4⟩
end
end Go.Av
end

section
namespace Go.Av
open Go.RowKit (Below)
abbrev Flags:=List (Bool×Bool)
def Flags.calm(fs:Flags)(i:Nat):Bool:=(fs.getD i (false,true)).1&& !(fs.getD i (false,true)).2
def Flags.kW(fs:Flags)(i:Nat):Bool:=(fs.getD i (false,true)).2
def Flags.last(fs:Flags)(i:Nat):Bool:=(fs.getD i (false,true)).1&&(fs.getD i (false,true)).2

def Np(md:Region.Mode)(ops:Array Oper)(fs:Flags)(listed:Array Bool)(i:Nat):Bool:=
 (aeD ops.size).all fun j=>j==i||listed.getD j true||match ops[j]? with
  |some oj=>oj.after.any (fun e=>Region.binds md e&&e.on==i)||((!fs.kW j||fs.calm i)&&(!fs.kW i||fs.calm j)&& !fs.last j)
  |none=>true

def jZ(md:Region.Mode)(ops:Array Oper)(i:Nat):Nat→List Bool
 |0=>[]
 |k+1=>(jZ md ops i k)++[match ops[k]? with
  |some o=>o.after.any fun e=>Region.binds md e&&(e.on==i||(jZ md ops i k).getD e.on false)
  |none=>false]
def Nq(md:Region.Mode)(ops:Array Oper)(fs:Flags)(listed:Array Bool)(i:Nat):Bool:=
 (fun B:List Bool=>(aeD ops.size).all fun j=>j==i||(if listed.getD j true then !B.getD j false else B.getD j false||((!fs.kW j||fs.calm i)&&(!fs.kW i||fs.calm j)&& !fs.last j))) (jZ md ops i ops.size)

def Rf(md:Region.Mode)(ops:Array Oper)(fs:Flags)(stop:Option Nat):Nat→Nat→Array Bool→Bool
 |0,_,listed=>(Region.ready md ops listed).isEmpty
 |f+1,k,listed=>stop==some k||((match ops[k]? with
   |some _=>decide (Region.ready md ops listed=[k])||((Region.ready md ops listed).contains k&&Region.free md ops listed k&&(Np md ops fs listed k||Nq md ops fs listed k))
   |none=>false)&&(!fs.last k||f==0)&&Rf md ops fs stop f (k+1) (listed.setIfInBounds k true))

def Lg(fs:Flags)(stop:Option Nat)(ops:Array Oper):Bool:=Rf .any ops fs stop ops.size 0 (ajA ops.size false)
def Vv(n:Nat):Nat→Array Bool
 |0=>ajA n false
 |k+1=>(Vv n k).setIfInBounds k true

section
variable {P:Program} {W0:bS} {N:Nat} {C:Ctx} {fr:Fr} {a:Act} {H:Heap} {ops:Array Oper} {md:Region.Mode} {fs:Flags} {S:Heap→Prop}

def gm(P:Program)(W0:bS)(ops:Array Oper)(fs:Flags)(S:Heap→Prop)(i:Nat)(o:Oper)(r:AV)(H1:Heap)(fr:Fr)(H:Heap):Prop:=
 (dO ops fr o=some true∧b_ P W0 o fr H r H1∧(fs.kW i=false→H1=H)∧(fs.calm i=true→∀H',S H'→b_ P W0 o fr H' r H')∧(fs.last i=false→S H→S H1))∨(dO ops fr o=some false∧r=.tuple []∧H1=H)

theorem gm.quiet{i:Nat}{o:Oper}{r:AV}{H1:Heap}(h:gm P W0 ops fs S i o r H1 fr H)(hq:fs.kW i=false):H1=H:=by
 rcases h with⟨_,_,h,_⟩|⟨_,_,h⟩
 ·exact h hq
 ·exact h
theorem gm.inv{i:Nat}{o:Oper}{r:AV}{H1:Heap}(h:gm P W0 ops fs S i o r H1 fr H)(hl:fs.last i=false)(hs:S H):S H1:=by
 rcases h with⟨_,_,_,_,h⟩|⟨_,_,rfl⟩
 ·grind
 omega

theorem wF{i:Nat}(h:fs.calm i=true):fs.kW i=false:=by
 simp only[Flags.calm,aiq,ajh] at h;exact h.2

theorem gm.CB{i:Nat}{o:Oper}{r:AV}{H1:Heap}(h:gm P W0 ops fs S i o r H1 fr H)(hd:fs.calm i=true)(H':Heap)(hS:S H'):gm P W0 ops fs S i o r H' fr H':=by
 rcases h with⟨h1,_,_,h2,_⟩|⟨h1,h2,_⟩
 ·exact .inl ⟨h1,h2 hd H' hS,fun _=>rfl,h2,fun _=>id⟩
 ·exact .inr ⟨h1,h2,rfl⟩

theorem UK{o:Oper}{r:AV}{H1:Heap}{dst:Option Nat}{s:AV}(hd:∀d,dst=some d→d∉o.looksAt ops):b_ P W0 o (fr.put dst s) H r H1↔b_ P W0 o fr H r H1:=by
 have hR:∀C (a:Act) (x:Operand),x∈o.op.operands→(yV C (fr.put dst s) a x↔yV C fr a x):=fun C a x hx=>by
  unfold yV;constructor
  ·intro h t ht av hav
   subst ht;exact h t rfl av (by grind [Fr.Jz,DK])
  ·intro h t ht av hav
   subst ht;rw[Fr.Jz (fun he=>hd t he (DK hx))] at hav;grind
 grind [b_]

theorem XN{o:Oper}{dst:Option Nat}{s:AV}(hd:∀d,dst=some d→d∉o.looksAt ops):dO ops (fr.put dst s) o=dO ops fr o:=by
 grind [dO,Fr.Jz,Oper.looksAt]

theorem gm.put{i:Nat}{o:Oper}{r:AV}{H1:Heap}{dst:Option Nat}{s:AV}(hd:∀d,dst=some d→d∉o.looksAt ops):gm P W0 ops fs S i o r H1 (fr.put dst s) H↔gm P W0 ops fs S i o r H1 fr H:=by
 unfold gm;rw[XN hd,UK hd];have:(∀H',S H'→b_ P W0 o (fr.put dst s) H' r H')↔∀H',S H'→b_ P W0 o fr H' r H':=forall_congr' fun H'=>imp_congr_right fun _=>UK hd;rw[this]

def Ol(P:Program)(W0:bS)(ops:Array Oper)(fs:Flags)(S:Heap→Prop)(i:Nat)(K:Fr→Heap→Prop)(fr:Fr)(H:Heap):Prop:=
 match ops[i]? with
 |none=>K fr H
 |some o=>∃r H1,gm P W0 ops fs S i o r H1 fr H∧K (fr.put o.dst r) H1

theorem Ol.of{i:Nat}{o:Oper}{r:AV}{H1:Heap}{K:Fr→Heap→Prop}(hi:ops[i]? =some o)(hy:gm P W0 ops fs S i o r H1 fr H)(h:K (fr.put o.dst r) H1):Ol P W0 ops fs S i K fr H:=by
 grind [Ol]

def vT(P:Program)(W0:bS)(md:Region.Mode)(ops:Array Oper)(fs:Flags)(S:Heap→Prop)(L:Fr→Heap→Prop):Nat→Array Bool→Fr→Heap→Prop
 |0,listed,fr,H=>Region.ready md ops listed=[]∧L fr H
 |f+1,listed,fr,H=>Region.ready md ops listed≠[]∧∀i∈Region.ready md ops listed,Ol P W0 ops fs S i (vT P W0 md ops fs S L f (listed.setIfInBounds i true)) fr H

theorem Mz{o:Oper}{BD:Fr}{b:Bool}(hk:∀t x,BD t=some x→fr t=some x)(h:dO ops BD o=some b):dO ops fr o=some b:=by
 unfold dO at*;split at h
 ·assumption
 grind

theorem b_.mono{o:Oper}{BD:Fr}{r:AV}{H1:Heap}(hk:∀t x,BD t=some x→fr t=some x)(h:b_ P W0 o BD H r H1):b_ P W0 o fr H r H1:=
 fun C a hI hH hx=>h C a hI hH (fun x hm t ht av hav=>hx x hm t ht av (hk t av hav))

theorem gm.mono{i:Nat}{o:Oper}{BD:Fr}{r:AV}{H1:Heap}(hk:∀t x,BD t=some x→fr t=some x)(h:gm P W0 ops fs S i o r H1 BD H):gm P W0 ops fs S i o r H1 fr H:=by
 rcases h with⟨h1,h2,h3,h4,h5⟩|⟨h1,h2⟩
 ·exact .inl ⟨Mz hk h1,h2.mono hk,h3,fun hd H' hS=>(h4 hd H' hS).mono hk,h5⟩
 ·exact .inr ⟨Mz hk h1,h2⟩

theorem aaC{BD:Fr}{dst:Option Nat}{r:AV}(hk:∀t x,BD t=some x→fr t=some x):∀t x,BD.put dst r t=some x→fr.put dst r t=some x:=by
 cases dst with
 |none=>exact hk
 |some d=>
  simp only[Fr.put] at*;grind

theorem vT.mono{L:Fr→Heap→Prop}(hL:∀BD fr H,(∀t x,BD t=some x→fr t=some x)→L BD H→L fr H):∀(f:Nat) (listed:Array Bool) (BD fr:Fr) (H:Heap),(∀t x,BD t=some x→fr t=some x)→vT P W0 md ops fs S L f listed BD H→vT P W0 md ops fs S L f listed fr H
 |0,_,_,_,_,hk,h=>⟨h.1,hL _ _ _ hk h.2⟩
 |f+1,listed,BD,fr,H,hk,h=>⟨h.1,fun i hi=>by
  have h1:=h.2 i hi;unfold Ol at*;split
  ·rename_i ho;simp only[ho] at h1;exact vT.mono hL f _ _ _ _ hk h1
  ·rename_i o ho
   simp only[ho] at h1;obtain⟨r,H1,hy,hK⟩:=h1;exact⟨r,H1,hy.mono hk,vT.mono hL f _ _ _ _ (aaC hk) hK⟩⟩

theorem AT{i:Nat}{oi:Oper}{v:AV}{L:Fr→Heap→Prop}(B B':Nat→Bool)(hBB:∀j,B' j=true→B j=true)
  (hB:∀j oj,ops[j]? =some oj→B j=true→∃e∈oj.after,Region.binds md e=true∧(e.on=i∨B' e.on=true))(hi:ops[i]? =some oi):
  ∀(f:Nat) (listed:Array Bool) (fr:Fr) (H H1:Heap),S H→(∀j,B' j=true→listed.getD j true=false)→
   (∀j oj,ops[j]? =some oj→j≠i→listed.getD j true=false→B j=false→oi.apart ops oj=true∧(fs.kW j=true→fs.calm i=true)∧(fs.kW i=true→fs.calm j=true)∧fs.last j=false)→
   i∈Region.ready md ops listed→gm P W0 ops fs S i oi v H1 fr H→
   vT P W0 md ops fs S L f (listed.setIfInBounds i true) (fr.put oi.dst v) H1→vT P W0 md ops fs S L (f+1) listed fr H:=by
 intro f
 induction f with
 |zero=>
  intro listed fr H H1 _ _ _ hr hy HL;refine⟨fun h=>(by grind),fun j hjr=> ?_⟩;by_cases hji:j=i
  ·subst hji;exact .of hi hy HL
  ·have h1:=ready_mono hjr hji
   rw[HL.1] at h1;cases h1
 |succ f ih=>
  intro listed fr H H1 hSH hBl hfree hr hy HL;have hun:=(mem_ready.1 hr).1;refine⟨fun h=>(by grind),fun j hjr=> ?_⟩;by_cases hji:j=i
  ·subst hji;exact .of hi hy HL
  ·have h1:=HL.2 j (ready_mono hjr hji)
   obtain⟨hjun,oj,hoj,hall⟩:=mem_ready.1 hjr;have hnot:B j=false:=by
    grind
   have amu:∀k,B' k=true→(listed.setIfInBounds j true).getD k true=false:=fun k hk=>by
    have hjk:j≠k:=fun e=>by grind
    simp_all
   obtain⟨hap,hdr,asb,hlj⟩:=hfree j oj hoj hji hjun hnot;obtain⟨a1,a2,a3⟩:=Oper.apart_spec hap;unfold Ol at h1;simp only[hoj] at h1;obtain⟨s,H2,hs,hK⟩:=h1;rw[gm.put a1] at hs;have rest:∀k ok,ops[k]? =some ok→k≠i→(listed.setIfInBounds j true).getD k true=false→B k=false→oi.apart ops ok=true∧(fs.kW k=true→fs.calm i=true)∧(fs.kW i=true→fs.calm k=true)∧fs.last k=false:=fun k ok hk hki hku hno=>by
    refine hfree k ok hk hki ?_ hno;by_cases hjk:j=k
    ·grind
    simp_all
   cases hli:fs.kW i with
   |true=>
    -- what turns the heap stays where it is; the other one does the same in any heap
    have hcj:=asb hli;have X0:=hs.quiet (wF hcj);subst X0;refine .of hoj (hs.CB hcj H hSH) (ih (listed.setIfInBounds j true) (fr.put oj.dst s) H H2 hSH amu rest (ready_mono hr (Ne.symm hji)) ((gm.put a3).2 hy) ?_);grind [ajD,Fr.put_comm]
   |false=>
    have hH1:=hy.quiet hli;subst hH1;have hy':gm P W0 ops fs S i oi v H2 fr H2:=by
     cases hl:fs.kW j with
     |true=>exact hy.CB (hdr hl) H2 (hs.inv hlj hSH)
     |false=>rw[hs.quiet hl];exact hy
    refine .of hoj hs (ih (listed.setIfInBounds j true) (fr.put oj.dst s) H2 H2 (hs.inv hlj hSH) amu rest (ready_mono hr (Ne.symm hji)) ((gm.put a3).2 hy') ?_);grind [ajD,Fr.put_comm]

inductive sN (P:Program) (W0:bS) (ops:Array Oper) (fs:Flags) (S:Heap→Prop) (stop:Option Nat) (L:Fr→Heap→Prop):Nat→List Oper→Fr→Heap→Prop
 |nil (k:Nat) (fr:Fr) (H:Heap):L fr H→sN P W0 ops fs S stop L k [] fr H
 |op {k:Nat} {o:Oper} {rest:List Oper} {fr:Fr} {H H1:Heap} {r:AV}:(stop==some k)=false→gm P W0 ops fs S k o r H1 fr H→sN P W0 ops fs S stop L (k+1) rest (fr.put o.dst r) H1→sN P W0 ops fs S stop L k (o::rest) fr H
 |drop {k:Nat} {l:List Oper} {fr BD:Fr} {H:Heap}:(∀t x,BD t=some x→fr t=some x)→sN P W0 ops fs S stop L k l BD H→sN P W0 ops fs S stop L k l fr H
 |fork {k:Nat} {l:List Oper} {fr:Fr} {H:Heap}:vT P W0 .any ops fs S L l.length (Vv ops.size k) fr H→sN P W0 ops fs S stop L k l fr H

theorem Nr{i:Nat}{listed:Array Bool}(h:Np md ops fs listed i=true)(j:Nat)(oj:Oper)
  (hj:ops[j]? =some oj)(hne:j≠i)(hun:listed.getD j true=false)(hno:∀e∈oj.after,Region.binds md e=true→e.on≠i):(fs.kW j=true→fs.calm i=true)∧(fs.kW i=true→fs.calm j=true)∧fs.last j=false:=by
 simp only[Np,agP,agW] at h;grind

def direct(md:Region.Mode)(ops:Array Oper)(i j:Nat):Bool:=match ops[j]? with
 |some oj=>oj.after.any fun e=>Region.binds md e&&e.on==i
 |none=>false
theorem Fv{i j:Nat}{oj:Oper}(hj:ops[j]? =some oj)(h:direct md ops i j=false):∀e∈oj.after,Region.binds md e=true→e.on≠i:=by
 grind [direct,ajx]
theorem Ns{i j:Nat}{oj:Oper}(hj:ops[j]? =some oj)(h:direct md ops i j=true):∃e∈oj.after,Region.binds md e=true∧e.on=i:=by
 unfold direct at h;grind
theorem zD(i:Nat):∀k,(jZ md ops i k).length=k
 |0=>rfl
 |k+1=>by simp[jZ,zD i k]
theorem I_(i:Nat):∀k j,j<k→(jZ md ops i k).getD j false=(jZ md ops i (j+1)).getD j false:=by
 intro k
 induction k with
 |zero=>omega
 |succ k ih=>
  grind [zD,jZ]
theorem JP(i j:Nat){oj:Oper}(hj:ops[j]? =some oj):(jZ md ops i (j+1)).getD j false=oj.after.any fun e=>Region.binds md e&&(e.on==i||(jZ md ops i j).getD e.on false):=by
 grind [zD,jZ]
theorem No{i j:Nat}{oj:Oper}(hj:ops[j]? =some oj)(h:(jZ md ops i ops.size).getD j false=true):∃e∈oj.after,Region.binds md e=true∧(e.on=i∨(jZ md ops i ops.size).getD e.on false=true):=by
 have hlt:j<ops.size:=(Array.getElem?_eq_some_iff.1 hj).1;rw[I_ i _ j hlt,JP i j hj] at h;grind [zD,I_]
theorem F7{i j:Nat}{oj:Oper}(hj:ops[j]? =some oj)(h:(jZ md ops i ops.size).getD j false=false):∀e∈oj.after,Region.binds md e=true→e.on≠i:=by
 grind [I_,JP,ajx]
theorem La{i:Nat}{listed:Array Bool}(h:Nq md ops fs listed i=true):(∀j,(jZ md ops i ops.size).getD j false=true→j=i∨listed.getD j true=false)∧
  ∀j oj,ops[j]? =some oj→j≠i→listed.getD j true=false→(jZ md ops i ops.size).getD j false=false→(fs.kW j=true→fs.calm i=true)∧(fs.kW i=true→fs.calm j=true)∧fs.last j=false:=by
 simp only[Nq,agP,agW] at h;constructor
 ·intro j hj
  have hlt:j<ops.size:=by
   grind [zD]
  grind
 grind

theorem I4{L:Fr→Heap→Prop}{stop:Option Nat}(hL:∀BD fr H,(∀t x,BD t=some x→fr t=some x)→L BD H→L fr H){k:Nat}{l:List Oper}{fr:Fr}{H:Heap}(h:sN P W0 ops fs S stop L k l fr H)(hSH:l=[]∨S H):(∀j,j<l.length→l[j]? =ops[k+j]?)→Rf .any ops fs stop l.length k (Vv ops.size k)=true→
   vT P W0 .any ops fs S L l.length (Vv ops.size k) fr H:=by
 induction h with
 |nil k fr H hQ=>intro _ hc;exact⟨by simpa [Rf] using hc,hQ⟩
 |drop hk _ ih=>grind [vT.mono]
 |fork h=>grind
 | @op k o l fr H H1 r hs hy h' ih=>
  intro hl hc;have h0:ops[k]? =some o:=by simpa using (hl 0 (by simp)).symm
  simp only[acN,Rf,h0,hs,Bool.false_or,aiq,ajm,ajh,beq_iff_eq] at hc;obtain⟨⟨hc1,hcl⟩,MO⟩:=hc;replace hSH:S H:=hSH.resolve_left (by simp);have rest:=ih (hcl.elim (fun q=>.inr (hy.inv q hSH)) fun q=>.inl (abS q)) (fun j hjl=>by have:=hl (j+1) (by grind);grind) MO;rcases hc1 with hc1|⟨⟨g1,g2⟩,g3⟩
  ·refine⟨fun he=>(by grind),fun j hj=> ?_⟩
   have:j=k:=by grind
   subst this;exact .of h0 hy rest
  ·have hr:k∈Region.ready .any ops (Vv ops.size k):=by grind
   have hun:=(mem_ready.1 hr).1;rcases g3 with g3|g3
   ·exact AT (direct .any ops k) (fun _=>false) (fun _ h=>by cases h) (fun j oj hj h=>by
     grind [Ns]) h0 l.length (Vv ops.size k) fr _ _ hSH (fun _ h=>by cases h) (fun j oj hj hne hun hno=>⟨Region.free_spec h0 g2 j oj hj hne hun (Fv hj hno),Nr g3 j oj hj hne hun (Fv hj hno)⟩) hr hy rest
   ·obtain⟨c1,c2⟩:=La g3
    exact AT (fun j=>(jZ .any ops k ops.size).getD j false) (fun j=>(jZ .any ops k ops.size).getD j false) (fun _ h=>h) (fun j oj hj h=>No hj h) h0 l.length (Vv ops.size k) fr _ _ hSH (fun j h=>(c1 j h).elim (fun e=>by grind) id) (fun j oj hj hne hun hno=>⟨Region.free_spec h0 g2 j oj hj hne hun (F7 hj hno),c2 j oj hj hne hun hno⟩) hr hy rest

theorem rS{L:Fr→Heap→Prop}{Q:Exit→Act→World→Prop}(hN:∀o∈ops,jb N o=true):
  ∀(f:Nat) (listed:Array Bool) (fr:Fr) (H:Heap) (C:Ctx) (a:Act),Rel W0 N fr H C a→
   (∀fr H C' a',Ext C C'→Rel W0 N fr H C' a'→L fr H→Q .normal a' C'.w)→vT P W0 md ops fs S L f listed fr H→wpAny P md ops Q f listed a C.w
 |0,listed,fr,H,C,a,hr,hL,h=>⟨h.1,hL _ _ C a (.refl C) hr h.2⟩
 |f+1,listed,fr,H,C,a,hr,hL,h=>by
  refine⟨fun h0=>absurd h0 h.1,fun i hi=> ?_⟩;have h1:=h.2 i hi;obtain⟨_,o,ho,_⟩:=mem_ready.1 hi;unfold Ol at h1;simp only[ho] at h1;obtain⟨r,H1,hy,hK⟩:=h1;have hd:∀d,o.dst=some d→d<N:=jb.lt (hN o (Array.mem_of_getElem? ho));unfold wpOp;simp only[ho];rcases hy with⟨hw,hop,_⟩|⟨hw,rfl,rfl⟩
  ·rw[kG hr.rep hw]
   refine .inl (hop C a hr.inv hr.heap (fun x _ t _ av hav=>hr.rep t av hav) _ _ (fun v C' he hi' hH hv=> ?_));exact rS hN f _ _ _ C' _ (hr.put he hi' hH hv hd) (fun f2 H2 C2 a2 h2=>hL f2 H2 C2 a2 (he.trans h2)) hK
  ·rw[kG hr.rep hw]
   exact rS hN f _ _ _ C _ (hr.put (.refl C) hr.inv hr.heap IB hd) hL hK

def LK(K:List (Nat×AV)→Heap→Prop)(f:Fr)(g:Heap):Prop:=∃frl,(∀t x,lk frl t=some x→f t=some x)∧K frl g
theorem LK.mono{K:List (Nat×AV)→Heap→Prop}(BD fr:Fr)(H:Heap)(hk:∀t x,BD t=some x→fr t=some x)(h:LK K BD H):LK K fr H:=by
 obtain⟨frl,h1,h2⟩:=h;exact⟨frl,fun t x h=>hk t x (h1 t x h),h2⟩

def BZ(P:Program)(W0:bS)(ops:Array Oper)(fs:Flags)(stop:Option Nat)(k:Nat)(l:List Oper)(fr:List (Nat×AV))(H:Heap)(K:List (Nat×AV)→Heap→Prop):Prop:=
 sN P W0 ops fs (fun _=>True) stop (LK K) k l (lk fr) H

variable {Q:Exit→St→Prop} {frl:List (Nat×AV)} {K:List (Nat×AV)→Heap→Prop} {o:Oper} {rest:List Oper} {k:Nat} {stop:Option Nat}

theorem D5(h:K frl H):BZ P W0 ops fs stop k [] frl H K:=sN.nil _ _ _ ⟨frl,fun _ _ h=>h,h⟩
theorem BZ.drop{l:List Oper}{frx:List (Nat×AV)}(h:uR frl frx)(h2:BZ P W0 ops fs stop k l frx H K):BZ P W0 ops fs stop k l frl H K:=sN.drop (uR.lk h) h2
theorem I5(ts:List Nat){l:List Oper}{frx:List (Nat×AV)}(h:pick frl ts=some frx)(h2:BZ P W0 ops fs stop k l frx H K):BZ P W0 ops fs stop k l frl H K:=BZ.drop (rE h) h2
theorem BZ.step{r:AV}{H1:Heap}(h:gm P W0 ops fs (fun _=>True) k o r H1 (lk frl) H)(h2:BZ P W0 ops fs stop (k+1) rest (gP frl o.dst r) H1 K)(hs:(stop==some k)=false:=by rfl):BZ P W0 ops fs stop k (o::rest) frl H K:=by
 unfold BZ at h2;rw[vm] at h2;exact sN.op hs h h2
theorem Nc(hw:dO ops (lk frl) o=some false)(h2:BZ P W0 ops fs stop (k+1) rest (gP frl o.dst (.tuple [])) H K)(hs:(stop==some k)=false:=by rfl):BZ P W0 ops fs stop k (o::rest) frl H K:=.step (.inr ⟨hw,rfl,rfl⟩) h2 hs
theorem s4{r:AV}(hw:dO ops (lk frl) o=some true)(h:∀H',b_ P W0 o (lk frl) H' r H')(h2:BZ P W0 ops fs stop (k+1) rest (gP frl o.dst r) H K)(hs:(stop==some k)=false:=by rfl):BZ P W0 ops fs stop k (o::rest) frl H K:=
 .step (.inl ⟨hw,h H,fun _=>rfl,fun _ H' _=>h H',fun _=>id⟩) h2 hs
theorem nT{r:AV}(hw:dO ops (lk frl) o=some true)(hd:fs.calm k=false)(h:b_ P W0 o (lk frl) H r H)(h2:BZ P W0 ops fs stop (k+1) rest (gP frl o.dst r) H K)(hs:(stop==some k)=false:=by rfl):BZ P W0 ops fs stop k (o::rest) frl H K:=
 .step (.inl ⟨hw,h,fun _=>rfl,(fun he=>by grind),fun _=>id⟩) h2 hs
theorem J_{r:AV}{H1:Heap}(hw:dO ops (lk frl) o=some true)(hl:fs.kW k=true)(h:b_ P W0 o (lk frl) H r H1):gm P W0 ops fs (fun _=>True) k o r H1 (lk frl) H:=
 .inl ⟨hw,h,(fun he=>by grind),(fun he=>by grind [wF]),fun _ _=>trivial⟩
theorem wA{r:AV}{H1:Heap}(hw:dO ops (lk frl) o=some true)(hl:fs.kW k=true)(h:b_ P W0 o (lk frl) H r H1)(h2:BZ P W0 ops fs stop (k+1) rest (gP frl o.dst r) H1 K)(hs:(stop==some k)=false:=by rfl):BZ P W0 ops fs stop k (o::rest) frl H K:=
 .step (J_ hw hl h) h2 hs

def AF(P:Program)(W0:bS)(ops:Array Oper)(fs:Flags)(f:Nat)(listed:Array Bool)(fr:List (Nat×AV))(H:Heap)(K:List (Nat×AV)→Heap→Prop):Prop:=
 vT P W0 .any ops fs (fun _=>True) (LK K) f listed (lk fr) H
def AF1(P:Program)(W0:bS)(ops:Array Oper)(fs:Flags)(f:Nat)(listed:Array Bool)(fr:List (Nat×AV))(H:Heap)(K:List (Nat×AV)→Heap→Prop)(i:Nat):Prop:=
 Ol P W0 ops fs (fun _=>True) i (vT P W0 .any ops fs (fun _=>True) (LK K) f (listed.setIfInBounds i true)) (lk fr) H
def AFs(P:Program)(W0:bS)(ops:Array Oper)(fs:Flags)(f:Nat)(listed:Array Bool)(fr:List (Nat×AV))(H:Heap)(K:List (Nat×AV)→Heap→Prop):List Nat→Prop
 |[]=>True
 |i::l=>AF1 P W0 ops fs f listed fr H K i∧AFs P W0 ops fs f listed fr H K l
theorem AFs.spec{f:Nat}{listed:Array Bool}:∀{l:List Nat},AFs P W0 ops fs f listed frl H K l→∀i∈l,AF1 P W0 ops fs f listed frl H K i
 |i::l,h,j,hj=>by
  rcases List.mem_cons.1 hj with rfl|hj
  ·exact h.1
  ·exact AFs.spec h.2 j hj
theorem BZ.fork{l:List Oper}(h:AF P W0 ops fs l.length (Vv ops.size k) frl H K):BZ P W0 ops fs stop k l frl H K:=sN.fork h
theorem AF.done{listed:Array Bool}(hr:(Region.ready .any ops listed).isEmpty=true)(h:K frl H):AF P W0 ops fs 0 listed frl H K:=⟨by grind,frl,fun _ _ h=>h,h⟩
theorem AF.many{f:Nat}{listed:Array Bool}(i:Nat)(is:List Nat)(hr:Region.ready .any ops listed=i::is)(h:AFs P W0 ops fs f listed frl H K (i::is)):AF P W0 ops fs (f+1) listed frl H K:=
 ⟨by grind,fun j hj=>by rw[hr] at hj;exact AFs.spec h j hj⟩
theorem bI{f i:Nat}{listed:Array Bool}{r:AV}{H1:Heap}(o:Oper)(ho:ops[i]? =some o)(hw:dO ops (lk frl) o=some true)(hl:fs.kW i=true)(h:b_ P W0 o (lk frl) H r H1)(h2:AF P W0 ops fs f (listed.setIfInBounds i true) (gP frl o.dst r) H1 K):AF1 P W0 ops fs f listed frl H K i:=by
 refine .of ho (J_ hw hl h) ?_;grind [AF,vm]

theorem AF.keep(ts:List Nat){f:Nat}{listed:Array Bool}{frx:List (Nat×AV)}(h:pick frl ts=some frx)(h2:AF P W0 ops fs f listed frx H K):AF P W0 ops fs f listed frl H K:=vT.mono LK.mono _ _ _ _ _ (uR.lk (rE h)) h2
theorem AF.CB{f:Nat}{listed:Array Bool}{r:AV}(i:Nat){o:Oper}(ho:ops[i]? =some o)(hc:((Region.ready .any ops listed).contains i&&Region.free .any ops listed i&&(fs.calm i&&(Np .any ops fs listed i||Nq .any ops fs listed i)))=true)(hw:dO ops (lk frl) o=some true)(h:∀H',b_ P W0 o (lk frl) H' r H')
  (h2:AF P W0 ops fs f (listed.setIfInBounds i true) (gP frl o.dst r) H K):AF P W0 ops fs (f+1) listed frl H K:=by
 simp only[aiq,ajm] at hc
 obtain⟨⟨g1,g2⟩,_,g3⟩:=hc
 have hr:i∈Region.ready .any ops listed:=by grind
 have hun:=(mem_ready.1 hr).1
 unfold AF at h2
 rw[vm] at h2
 have hy:gm P W0 ops fs (fun _=>True) i o r H (lk frl) H:=.inl ⟨hw,h H,fun _=>rfl,fun _ H' _=>h H',fun _=>id⟩
 rcases g3 with g3|g3
 ·exact AT (direct .any ops i) (fun _=>false) (fun _ h=>by cases h) (fun j oj hj h=>by
   grind [Ns]) ho f listed (lk frl) _ _ trivial (fun _ h=>by cases h) (fun j oj hj hne hun hno=>⟨Region.free_spec ho g2 j oj hj hne hun (Fv hj hno),Nr g3 j oj hj hne hun (Fv hj hno)⟩) hr hy h2
 ·obtain⟨c1,c2⟩:=La g3
  exact AT (fun j=>(jZ .any ops i ops.size).getD j false) (fun j=>(jZ .any ops i ops.size).getD j false) (fun _ h=>h) (fun j oj hj h=>No hj h) ho f listed (lk frl) _ _ trivial (fun j h=>(c1 j h).elim (fun e=>by grind) id) (fun j oj hj hne hun hno=>⟨Region.free_spec ho g2 j oj hj hne hun (F7 hj hno),c2 j oj hj hne hun hno⟩) hr hy h2

theorem HD(fs:Flags)(stop:Option Nat){id:Nat}{l:List Oper}(hm:P.follows .mixedOrders=true)(hB:Lg fs stop l.toArray=true)(hN:l.all (jb N)=true)(h:BZ P W0 l.toArray fs stop 0 l frl H (fun f g=>Q .normal ⟨f,g⟩))(hro:W0.ro=none:=by rfl):iD P W0 N (.region id l.toArray true) ⟨frl,H⟩ Q:=fun C a hr=>by
 obtain⟨hE,hR⟩:=Ma hr;rw[hro,xh];refine wpIn_wide.2 (wp_region_any hm ?_);have hB':Rf .any l.toArray fs stop l.length 0 (Vv l.toArray.size 0)=true:=by assumption
 have key:=I4 (P:=P) (W0:=W0) (ops:=l.toArray) LK.mono h (.inr trivial) (fun j _=>by simp) hB';have:=rS (P:=P) (Q:=Ya W0 N C Q) (fun o ho=>List.all_eq_true.1 hN o (by grind)) _ _ _ _ _ _ hR (fun f g C' a' he hrel hL=>by
  obtain⟨fr',hk,hq⟩:=hL;exact⟨⟨fr',g⟩,C',rfl,(hE.trans he).mem,⟨hrel.heap,hrel.inv,hrel.size,hrel.defers,fun t x hx=>hrel.rep t x (hk t x hx)⟩,hq⟩) key
 assumption
theorem HC(fs:Flags){id:Nat}{l:List Oper}(hm:P.follows .mixedOrders=true)(hB:Lg fs none l.toArray=true)(hN:l.all (jb N)=true)(h:BZ P W0 l.toArray fs none 0 l frl H (fun f g=>Q .normal ⟨f,g⟩))(hro:W0.ro=none:=by rfl):iD P W0 N (.region id l.toArray true) ⟨frl,H⟩ Q:=HD fs none hm hB hN h hro

def UB(H0:Heap)(ids:List Nat)(H:Heap):Prop:=∀k∈ids,lk H.bV k=lk H0.bV k
def FQ(H0 H:Heap):List Nat→Prop
 |[]=>True
 |k::r=>lk H.bV k=lk H0.bV k∧FQ H0 H r
theorem FQ.spec{H0 H:Heap}:∀{ids:List Nat},FQ H0 H ids→UB H0 ids H
 |[],_=>fun _ h=>by cases h
 |k::r,h=>fun j hj=>by
  rcases List.mem_cons.1 hj with rfl|hj
  ·exact h.1
  ·exact h.2.spec j hj
theorem UB.get{H0 H:Heap}{ids:List Nat}{es:List AV}(h:UB H0 ids H)(k:Nat)(hk:ids.contains k=true:=by rfl)(h0:H0.get k=some es:=by rfl):H.get k=some es:=by
 unfold Heap.get at*;rw[h k (by grind)];exact h0
def Ka(P:Program)(W0:bS)(ops:Array Oper)(fs:Flags)(H0:Heap)(ids:List Nat)(k:Nat)(l:List Oper)(fr:List (Nat×AV))(H:Heap)(K:List (Nat×AV)→Heap→Prop):Prop:=
 sN P W0 ops fs (UB H0 ids) none (LK K) k l (lk fr) H
section
variable {H0:Heap} {ids:List Nat}
theorem Ka.nil(h:K frl H):Ka P W0 ops fs H0 ids k [] frl H K:=sN.nil _ _ _ ⟨frl,fun _ _ h=>h,h⟩
theorem Ka.keep(ts:List Nat){l:List Oper}{frx:List (Nat×AV)}(h:pick frl ts=some frx)(h2:Ka P W0 ops fs H0 ids k l frx H K):Ka P W0 ops fs H0 ids k l frl H K:=sN.drop (uR.lk (rE h)) h2
variable {r:AV}
theorem Ka.step{H1:Heap}(h:gm P W0 ops fs (UB H0 ids) k o r H1 (lk frl) H)(h2:Ka P W0 ops fs H0 ids (k+1) rest (gP frl o.dst r) H1 K):Ka P W0 ops fs H0 ids k (o::rest) frl H K:=by
 unfold Ka at h2;rw[vm] at h2;exact sN.op rfl h h2
theorem Ka.calm(hw:dO ops (lk frl) o=some true)(hg:FQ H0 H ids)(h:∀H',UB H0 ids H'→b_ P W0 o (lk frl) H' r H')(h2:Ka P W0 ops fs H0 ids (k+1) rest (gP frl o.dst r) H K):Ka P W0 ops fs H0 ids k (o::rest) frl H K:=
 .step (.inl ⟨hw,h H hg.spec,fun _=>rfl,fun _=>h,fun _=>id⟩) h2
theorem Ka.kW{H1:Heap}(hw:dO ops (lk frl) o=some true)(hl:fs.kW k=true)(h:b_ P W0 o (lk frl) H r H1)(hg:FQ H0 H1 ids)(h2:Ka P W0 ops fs H0 ids (k+1) rest (gP frl o.dst r) H1 K):Ka P W0 ops fs H0 ids k (o::rest) frl H K:=
 .step (.inl ⟨hw,h,(fun he=>by grind),(fun he=>by grind [wF]),fun _ _=>hg.spec⟩) h2
theorem Ka.last{H1:Heap}(hw:dO ops (lk frl) o=some true)(hl:fs.last k=true)(h:b_ P W0 o (lk frl) H r H1)(h2:K (gP frl o.dst r) H1):Ka P W0 ops fs H0 ids k [o] frl H K:=
 .step (.inl ⟨hw,h,(fun he=>by simp_all [Flags.last,Flags.kW]),(fun he=>by have:=wF he;simp_all [Flags.last,Flags.kW]),(fun he=>by grind)⟩) (.nil h2)
end
theorem Wv{x y:Code}{st:St}(h:∀K:St→Prop,(∀s s',b8 W0 N s s'→K s'→K s)→(∀s,iD P W0 N y s Q→K s)→iD P W0 N x st (mI K Q)):iD P W0 N (.seq x y) st Q:=
 Oy (h _ (fun _ _ hw h=>iD.IT hw h) fun _ h=>h)
end
end Go.Av
end

section
namespace Go.Av
open Go
def EB(P:Program)(t:TypeId)(n:Nat):Bool:=
 (match P.underlying t with
  |some (.struct fs)=>decide (fs.size=n)&&(fs.toList.zipIdx.all fun p=>p.1.offset==p.2&&p.1.name != "_" &&(match P.underlying p.1.type with|some (.int .i64)=>true|_=>false))
  |_=>false)&& !P.stoodInHeld t&& !P.eqGuardType P.depth t

section
variable {P:Program} {W0:bS} {fr:Fr} {H:Heap} {o:Oper}

variable {t:TypeId}
theorem Iw{cs:Array Value}{off:Nat}{v:Value}(ht:P.underlying t=some (.int .i64))(hv:cs[off]? =some v)(w:World):(part t cs off).run P w=.ok v w:=by
 simp_all [isAgg,run_underlying,part]

theorem IE(d:Nat)(w:World)(yc bs:List Int)(hl:yc.length=bs.length):∀(fs:List Field) (k:Nat),(fs.zipIdx k).all (fun p=>p.1.offset==p.2&&p.1.name != "_" &&(match P.underlying p.1.type with|some (.int .i64)=>true|_=>false))=true→k+fs.length=yc.length→
  (Op.eqFields (d+1) (yc.map fun n=>Value.int .i64 n).toArray (bs.map fun n=>Value.int .i64 n).toArray fs).run P w=.ok (decide (yc.drop k=bs.drop k)) w
 |[],k,_,hk=>by
  simp_all [Op.eqFields]
 |f::fs,k,h,hk=>by
  simp only[aeX,agO,aiq,beq_iff_eq,bne_iff_ne] at h;obtain⟨⟨⟨h1,h2⟩,h3⟩,h4⟩:=h;have hu:P.underlying f.type=some (.int .i64):=by
   grind
  simp only[acN] at hk;have hka:k<yc.length:=by omega
  have hkb:k<bs.length:=by omega
  have ga:(yc.map fun n=>Value.int .i64 n).toArray[f.offset]? =some (.int .i64 yc[k]):=by grind
  have gb:(bs.map fun n=>Value.int .i64 n).toArray[f.offset]? =some (.int .i64 bs[k]):=by grind
  have ih:=IE d w yc bs hl fs (k+1) h4 (by omega);rw[agS hka,agS hkb];unfold Op.eqFields;rw[if_pos h2,Sem.run_bind,Iw hu ga];simp only[Result.andThen_ok];rw[Sem.run_bind,Iw hu gb];simp only[Result.andThen_ok];rw[Sem.run_bind,run_equalIn_int w d f.type .i64 .i64 yc[k] bs[k] hu];generalize yc[k]=x;generalize bs[k]=y;by_cases he:x=y
  ·simp[he,ih]
  ·simp[he]

variable {n:Nat}
theorem E5(ht:EB P t n=true)(yc bs:List Int)(ha:yc.length=n)(hb:bs.length=n)(w:World):
  (Op.equalIn 10000 t (.agg (yc.map fun n=>Value.int .i64 n).toArray) (.agg (bs.map fun n=>Value.int .i64 n).toArray)).run P w=.ok (decide (yc=bs)) w∧P.eqGuardType P.depth t=false:=by
 simp only[EB,aiq,ajh] at ht;obtain⟨⟨h1,h2⟩,h3⟩:=ht;split at h1
 ·rename_i fs hu
  simp only[aiq,decide_eq_true_eq] at h1;obtain⟨h4,h5⟩:=h1;have hf:P.fieldsOf t=fs:=by simp[Program.fieldsOf,hu]
  have h6:=run_equalIn_struct (P:=P) w 9999 t (yc.map fun n=>Value.int .i64 n).toArray (bs.map fun n=>Value.int .i64 n).toArray (by grind) h2;have:=IE (P:=P) 9998 w yc bs (by omega) fs.toList 0 h5 (by grind);grind
 grind

theorem Cl{C:Ctx}{l:List Int}{v:Value}(h:c4 C (.agg (l.map J)) v):v=.agg (l.map fun n=>Value.int .i64 n).toArray:=by
 refine bR (x:=.agg (l.map J)) ?_ h;have:Uj (l.map J)=some (l.map fun n=>Value.int .i64 n):=by
  clear h
  induction l with
  |nil=>rfl
  |cons a l ih=>simp[Uj,ih]
 simp[AV.Xv,this]

theorem JH{t':TypeId}{x y:Operand}(yc bs:List Int)(ht:EB P t n=true)(ha:yc.length=n)(hb:bs.length=n)(ho:o.op=.binOp .eql t x y t')(hx:aD fr x=some (.agg (yc.map J)))(hy:aD fr y=some (.agg (bs.map J))):b_ P W0 o fr H (bl (decide (yc=bs))) H:=
 .cz fun C a _ _ hr=>by
  have e1:=Cl (aQ (hr x (by simp[ho,Op.operands])) hx);have e2:=Cl (aQ (hr y (by simp[ho,Op.operands])) hy);obtain⟨h1,h2⟩:=E5 (P:=P) ht yc bs ha hb C.w;refine⟨.bool (decide (yc=bs)), ?_,.imm _ rfl⟩;simp_all [execOp,run_eqGuard_agg,run_eql_struct]
theorem JJ{t':TypeId}{x y:Operand}(yc bs:List Int)(ht:EB P t n=true)(ha:yc.length=n)(hb:bs.length=n)(ho:o.op=.binOp .neq t x y t')(hx:aD fr x=some (.agg (yc.map J)))(hy:aD fr y=some (.agg (bs.map J))):b_ P W0 o fr H (bl (!decide (yc=bs))) H:=
 .cz fun C a _ _ hr=>by
  have e1:=Cl (aQ (hr x (by simp[ho,Op.operands])) hx);have e2:=Cl (aQ (hr y (by simp[ho,Op.operands])) hy);obtain⟨h1,h2⟩:=E5 (P:=P) ht yc bs ha hb C.w;refine⟨.bool (!decide (yc=bs)), ?_,.imm _ rfl⟩;simp_all [execOp,run_eqGuard_agg,run_neq_struct]
end
end Go.Av
end

section
namespace Go.Av
open Go.RowKit (Below)
section
variable {P:Program} {W0:bS} {C:Ctx} {fr:Fr} {a:Act} {H:Heap} {o:Oper}

theorem Kd{t e:TypeId}{s eN len:Nat}{parts:Array (Nat×Operand)}{xo:List Operand}{xs:List AV}(ho:o.op=.buildSlice t len parts)(hp:parts.toList=xo.zipIdx.map fun p=>(p.2,p.1))(hlen:len=xo.length)
  (hxs:xo.mapM (aD fr)=some xs)(hsol:∀x∈xs,x.b6=true)(hfl:∀x∈xs,x.flat.length=s)(ht:oK P t=some (e,s,eN))(hz:(oL P e).isSome=true)(hsmall:len*s≤16777216)(Kx:s≠0:=by decide):
  b_ P W0 o fr H (.view H.next 0 xs.length) (H.push s xs):=
 .of_run fun C a hI hH hop=>by
  obtain⟨hu,i,hi,hs,_⟩:=lF ht
  unfold oL at hz
  rw[hi] at hz
  obtain⟨z,hz⟩:=Option.isSome_iff_exists.1 hz
  simp only[Option.bind_some] at hz
  obtain⟨m1,m2⟩:=Ce xo xs hxs
  have hops:o.op.operands=(parts.toList.map (·.2)).toArray:=by simp[ho,Op.operands]
  have hrep:∀(k:Nat) (x:AV),xs[k]? =some x→∃y,xo[k]? =some y∧c4 C x (a.eval y):=fun k x hk=>by
   obtain⟨y,g1,g2⟩:=m2 k x hk
   refine⟨y,g1,aQ (hop y ?_) g2⟩
   rw[hops,hp]
   simp only[List.mem_toArray,adQ,List.mem_map]
   exact⟨(y,k),by grind,rfl⟩
  let vs:=xo.map a.eval
  have hv1:∀v∈vs,v.cells.size=s:=fun v hv=>by
   obtain⟨k,hk⟩:=ack hv
   have hlt:k<xs.length:=by grind
   obtain⟨y',g2,g3⟩:=hrep k _ (ab9 hlt)
   grind [qa,acI]
  obtain⟨cells',f1,f2,f3,f4⟩:=QJ s vs 0 ((af9 (len*s)).map (fun q=>((if len*s=0 then #[] else z.cells:Array Value))[q % (if len*s=0 then #[] else z.cells:Array Value).size]!)) hv1
   (by grind)
  have hcells:cells'.size=len*s:=by grind
  have hget:∀(k j:Nat) (x y:AV),xs[k]? =some x→x.flat[j]? =some y→∃v,cells'[k*s+j]? =some v∧c4 C y v:=fun k j x y hk hj=>by
   obtain⟨yo,g1,g2⟩:=hrep k x hk
   have hm:=ad7 hk
   obtain⟨c1,c2,c3⟩:=qa g2 (hsol x hm)
   have hjs:j<s:=by grind
   have:=f4 k (a.eval yo) (by grind) j hjs
   grind
  have hone:∀u∈cells',u.oneCell'=true:=fun u hu=>by
   obtain⟨q,hq⟩:=Array.getElem?_of_mem hu
   have hqlt:q<len*s:=by grind
   have Jl:0<s:=by
    omega
   have hk:q / s<len:=Nat.div_lt_of_lt_mul (by grind)
   have hkx:q / s<xs.length:=by omega
   obtain⟨yo,g1,g2⟩:=hrep (q / s) _ (ab9 hkx)
   obtain⟨c1,c2,c3⟩:=qa g2 (hsol _ (acI hkx))
   have:=f4 (q / s) (a.eval yo) (by grind) (q % s) (Nat.mod_lt _ Jl)
   rw[afQ,show q / s*s+q % s=q by grind [Nat.div_add_mod],hq] at this
   grind
  have Zj:xs.length=len:=by omega
  have hn:=Al hI cells' e xs s len (by omega) (by omega) hone (fun k x hk=>hfl x (ad7 hk)) (fun k j x y v hk hj hv=>by
   grind) Kx
  subst hH
  refine⟨.slice (some ⟨C.w.heap.size,0,none⟩) len len,_, ?_,hn.1,hn.2,rfl, ?_⟩
  rotate_left
  ·refine .view _ 0 xs.length _ (afv _) (fun es he=> ?_) rfl
   have hp:((C.uG (C.w.alloc (.cells cells' e (0,0)))).push ⟨C.w.heap.size,s,xs.length,len,false⟩ xs).pl C.H.next=⟨C.w.heap.size,s,xs.length,len,false⟩:=Ctx.uL (C:=C.uG _) _ _
   rw[hp]
   refine⟨⟨C.w.heap.size,0,none⟩,len,by rw[Zj],by simp,by simp,by omega,.inr (by simp)⟩
  have hmap:(parts.toList.map fun(p:Nat×Operand)=>(p.1,a.eval p.2))=(vs.zipIdx 0).map fun p=>(p.2,p.1):=by
   rw[hp]
   simp only[vs,List.zipIdx_map,adQ]
   rfl
  have hlit:¬(16777216<len*s):=by omega
  have hrun:(Instr.buildSlice t len (parts.map fun(p:Nat×Operand)=>(p.1,a.eval p.2))).run P C.w=.ok (.slice (some ⟨C.w.heap.size,0,none⟩) len len) (C.w.alloc (.cells cells' e)):=by
   by_cases h0:len*s=0
   ·have f1':Instr.fill (fun i=>some (i*s,s)) #[] ((vs.zipIdx 0).map fun p=>(p.2,p.1))=some cells':=by
     grind
    have e1:∀g:Nat→Value,Array.map g (af9 0)= #[]:=fun g=>Array.eq_empty_of_size_eq_zero (by simp)
    simp[Instr.buildSlice,run_underlying hu,sizeOf,typeInfo,hi,hs,h0,hmap,e1,f1',newRow]
   ·simp only[h0,if_false] at f1
    simp[Instr.buildSlice,run_underlying hu,sizeOf,typeInfo,hi,hs,hz,h0,hlit,hmap,f1,newRow,zeroValue]
  simp only[execOp,ho]
  rw[Sem.run_bind,hrun]
  rfl


end
end Go.Av
namespace Go.Sh
variable {α:Type}
def whole(n:Nat)(l:List α):Option (List α):=if l.length=n then some l else none
theorem Uu{n:Nat}{l m:List α}(h:whole n l=some m):l.length=n∧l=m:=by
 unfold whole at h;grind
def Oo(n:Nat)(l:List α)(i:Int):Option α:=if l.length=n then idx l i else none
theorem We{n:Nat}{l:List α}{i:Int}{x:α}(h:Oo n l i=some x):l.length=n∧∃k:Nat,i=k∧l[k]? =some x:=by
 grind [Oo,jo]
end Go.Sh
namespace Go.Av
section
variable {P:Program} {W0:bS} {fr:Fr} {H:Heap} {o:Oper} {α:Type} {enc:α→AV} {l:List α} {i:Int} {x:α} {ki:IntKind}

variable {t:TypeId}{N id k:Nat}{xo:Operand}
theorem RW{io:Operand}(enc:α→AV)(l:List α)(hi:i=k)(hl:l[k]? =some x)(hN:l.length=N)(ho:o.op=.indexAddr t xo io)(hx:aD fr xo=some (.ref id 0 0))(hid:H.get id=some [Ku enc l])(hio:aD fr io=some (.imm (.int ki i)))
  (ht:Hi P t=some (N,1)):b_ P W0 o fr H (.ref id 0 k) H:=
 (Hz ho hx hid hio ht hi (by grind)).conv (by simp)
theorem Uf(enc:α→AV)(l:List α)(hl:l[k]? =some x)(ho:o.op=.load t xo)(hx:aD fr xo=some (.ref id 0 k))(hid:H.get id=some [Ku enc l])
  (ht:Dw P t=some (1,false)):b_ P W0 o fr H (enc x) H:=
 cu ho hx hid (i:=0) (e:=Ku enc l) rfl ht (by simp[qF,AV.flat,hl])
theorem PG(enc:α→AV)(l:List α)(hN:l.length=N)(ho:o.op=.load t xo)(hx:aD fr xo=some (.ref id 0 0))(hid:H.get id=some [Ku enc l])
  (ht:Dw P t=some (N,true)):b_ P W0 o fr H (Ku enc l) H:=
 cu ho hx hid (i:=0) (e:=Ku enc l) rfl ht (by simp_all [qF,AV.flat,aha])
theorem R3{yo:Operand}(enc:α→AV)(l:List α)(x':α)(hi:i=k)(hl:l[k]? =some x)(hfl:(enc x').flat=[enc x'])(hsol:(enc x').b6=true)(ho:o.op=.store t xo yo)(hx:aD fr xo=some (.ref id 0 k))(hy:aD fr yo=some (enc x'))
  (hid:H.get id=some [Ku enc l])(ht:Dw P t=some (1,false)):b_ P W0 o fr H .any (H.set id [Ku enc (Sh.set l i x')]):=by
 have hk:=(List.getElem?_eq_some_iff.1 hl).1;have:=bX (P:=P) (W0:=W0) (o:=o) (fr:=fr) (H:=H) (e:=Ku enc l) (e':=Ku enc (Sh.set l i x')) (i:=0) ho hx hy hsol hid rfl ht (by grind) (by simp[AV.flat];omega) (by
  simp_all [AV.flat,Sh.set,List.set_eq_take_append_cons_drop])
 exact this
theorem Gx{yo:Operand}(enc:α→AV)(l l':List α)(hN:l.length=N)(hN':l'.length=N)(ho:o.op=.store t xo yo)(hx:aD fr xo=some (.ref id 0 0))(hy:aD fr yo=some (Ku enc l'))
  (hid:H.get id=some [Ku enc l])(ht:Dw P t=some (N,true))(Jk:0<N:=by decide):b_ P W0 o fr H .any (H.set id [Ku enc l']):=by
 have:=bX (P:=P) (W0:=W0) (o:=o) (fr:=fr) (H:=H) (e:=Ku enc l) (e':=Ku enc l') (i:=0) (j:=0) ho hx hy rfl hid rfl ht (by simp[AV.flat,hN']) (by simp[AV.flat,hN]) (by
  grind [AV.flat,List.drop_eq_nil_of_le]) Jk
 exact this
theorem abf{e:TypeId}{s eN len:Nat}{parts:Array (Nat×Operand)}{xo:List Operand}(enc:α→AV)(l:List α)(ho:o.op=.buildSlice t len parts)(hp:parts.toList=xo.zipIdx.map fun p=>(p.2,p.1))(hlen:len=xo.length)
  (hxs:xo.mapM (aD fr)=some (l.map enc))(hsol:∀x∈l.map enc,x.b6=true)(hfl:∀x∈l.map enc,x.flat.length=s)(ht:oK P t=some (e,s,eN))(hz:(oL P e).isSome=true)(hsmall:len*s≤16777216)(Kx:s≠0:=by decide):
  b_ P W0 o fr H (.view H.next 0 (l.map enc).length) (H.push s (l.map enc)):=Kd ho hp hlen hxs hsol hfl ht hz hsmall Kx
theorem ad_{q T:Nat}{fr:List (Nat×AV)}{H:Heap}(enc:α→AV)(l:List α)(hN:l.length=N)(hx:lk fr q=some (.ref id 0 0))(hid:H.get id=some [Ku enc l])(ht:Dw P T=some (N,true)):Cm P [.cell q T] ⟨fr,H⟩=some (Ku enc l):=by
 have h1:JC P ⟨fr,H⟩ (.cell q T)=some (Ku enc l):=by
  simp only[JC,hx,ht,hid]
  simp_all [qF,AV.flat,aha]
 grind [Cm]
end
end Go.Av
end

section
namespace Go.Av
inductive Wid:AV→AV→Prop
 |same (x:AV):Wid x x
 |clip (es:List AV):Wid (.clip es) (.sl es)
 |nil:Wid (.imm (.slice none 0 0)) (.sl [])
def F2:List AV→List AV→Prop
 |[],[]=>True
 |x::xs,y::ys=>Wid x y∧F2 xs ys
 |_,_=>False
def DT:List AV→List AV→Prop
 |[],[]=>True
 |e::es,y::ys=>F2 e.flat y.flat∧DT es ys
 |_,_=>False
section
variable {P:Program} {W0:bS} {C:Ctx} {fr:Fr} {H H':Heap} {o:Oper}

theorem Wid.rep{a b:AV}{v:Value}(h:Wid a b)(r:c4 C a v):c4 C b v:=by
 cases h with
 |same=>exact r
 |clip es=>
  match r with
  |.clipNil a=>exact .slNil a 0
  |.clip _ b off sz c h1 h2 h3 h4 h5=>exact .sl es b off sz es.length c h1 h2 (afk _) h3 h4 h5
 |nil=>
  have:=bR (v:=.slice none 0 0) rfl r;subst this;exact .slNil _ _
theorem F2.spec:∀{xs ys:List AV},F2 xs ys→xs.length=ys.length∧∀(j:Nat) (y:AV),ys[j]? =some y→∃x,xs[j]? =some x∧Wid x y
 |[],[],_=>⟨rfl,fun j y h=>by simp at h⟩
 |x::xs,y::ys,h=>by
  obtain⟨a,b⟩:=F2.spec h.2;refine⟨by simp[a],fun j z hz=> ?_⟩;cases j with
  |zero=>simp at hz;subst hz;exact⟨x,rfl,h.1⟩
  |succ j=>grind
 |[],_::_,h=>h.elim
 |_::_,[],h=>h.elim
theorem DT.spec:∀{es ys:List AV},DT es ys→es.length=ys.length∧∀(i:Nat) (y:AV),ys[i]? =some y→∃e,es[i]? =some e∧F2 e.flat y.flat
 |[],[],_=>⟨rfl,fun j y h=>by simp at h⟩
 |x::xs,y::ys,h=>by
  obtain⟨a,b⟩:=DT.spec h.2;refine⟨by simp[a],fun j z hz=> ?_⟩;cases j with
  |zero=>simp at hz;subst hz;exact⟨x,rfl,h.1⟩
  |succ j=>grind
 |[],_::_,h=>h.elim
 |_::_,[],h=>h.elim
theorem Qs{es ys:List AV}{v:Value}(h:DT es ys)(r:c4 C (.clip es) v):c4 C (.clip ys) v:=by
 obtain⟨hl,hs⟩:=h.spec
 match r with
 |.clipNil a=>
  have:ys=[]:=abS (by grind);subst this;exact .clipNil a
 |.clip _ b off sz c h1 h2 h3 h4 h5=>
  rw[hl];refine .clip ys b off sz c h1 h2 (fun i y hy=> ?_) (fun i j y z hy hz=> ?_) (fun i j y z hy hz=> ?_)
  ·obtain⟨e,he,hw⟩:=hs i y hy
   rw[←hw.spec.1];grind
  ·obtain⟨e,he,hw⟩:=hs i y hy
   obtain⟨x,hx,_⟩:=hw.spec.2 j z hz;grind
  ·obtain⟨e,he,hw⟩:=hs i y hy
   obtain⟨x,hx,hxy⟩:=hw.spec.2 j z hz;exact hxy.rep (h5 i j e x he hx)
theorem b_.akV{es ys:List AV}(h:b_ P W0 o fr H (.clip es) H')(hw:DT es ys):b_ P W0 o fr H (.clip ys) H':=by
 intro C a hI hH hop K Q hK;exact h C a hI hH hop K Q (fun v C' h1 h2 h3 h4=>hK v C' h1 h2 h3 (Qs hw h4))
end
end Go.Av
namespace Go.Av
section
variable {P:Program} {W0:bS} {C:Ctx} {fr:Fr} {H:Heap} {o:Oper}

theorem aek(hI:Inv W0 C){id:Nat}{es ys:List AV}(hid:C.H.get id=some es)(hw:DT es ys)(hsz:(C.pl id).nil=false→(C.pl id).sz≠0):Ext C {C with H:=C.H.set id ys}∧Inv W0 {C with H:=C.H.set id ys}:=by
 obtain⟨hl,hs⟩:=hw.spec
 have hg:∀k e,(C.H.set id ys).get k=some e→(k=id∧e=ys)∨(k≠id∧C.H.get k=some e):=fun k e h=>by
  grind [Heap.tQ]
 have hg':∀k e,(C.H.set id ys).get k=some e→∃e',C.H.get k=some e':=fun k e h=>by
  grind
 have ho':∀b,Ctx.own {C with H:=C.H.set id ys} b→C.own b:=by
  rintro b (⟨k,e,h1,h2,h3⟩|h)
  ·obtain⟨e',h4⟩:=hg' k e h1
   exact .inl ⟨k,e',h4,h2,h3⟩
  ·exact .inr h
 have hE:Ext C {C with H:=C.H.set id ys}:=⟨.refl _ _,fun _ _ _=>rfl,fun b _ h=>ho' b h,afk _,fun k e _ h=>by
  grind,rfl,rfl,rfl⟩
 exact⟨hE,{
  fresh:=fun k e h=>by obtain⟨e',h4⟩:=hg' k e h;exact hI.fresh k e' h4
  nil:=fun k e h hn=>by
   rcases hg k e h with⟨rfl,rfl⟩|⟨_,h⟩
   ·have:=hI.nil k es hid hn
    grind
   ·exact hI.nil k e h hn
  obj:=fun k e h hn=>by
   rcases hg k e h with⟨rfl,rfl⟩|⟨_,h⟩
   ·have hO:=hI.obj k es hid hn
    refine⟨hO.n.trans hl,hO.cap,.inl ⟨hsz hn,hO.rows (hsz hn)⟩,hO.one,fun i y hy=> ?_,fun i j y z v hy hz hv=> ?_⟩
    ·obtain⟨e,he,hwf⟩:=hs i y hy
     rw[←hwf.spec.1];exact hO.flat i e he
    ·obtain⟨e,he,hwf⟩:=hs i y hy
     obtain⟨x,hx,hxy⟩:=hwf.spec.2 j z hz
     exact(hxy.rep (hO.cell i j e x v he hx hv)).ext hE
   ·exact(hI.obj k e h hn).ext hE rfl
  sep:=fun p q ep eq hp hq h1 h2 h3=>by
   obtain⟨e1,h4⟩:=hg' p ep hp
   obtain⟨e2,h5⟩:=hg' q eq hq
   exact hI.sep p q e1 e2 h4 h5 h1 h2 h3
  cI:=fun k e h=>by obtain⟨e',h4⟩:=hg' k e h;exact hI.cI k e' h4
  jX:=fun k s' h=>hI.jX k s' (by grind [Heap.Mq])
  dU:=hI.dU
  eG:=hI.eG
  size:=hI.size
  gD:=fun b h=>⟨(hI.gD b h).1,fun hh=>(hI.gD b h).2 (ho' b hh)⟩
  ec:=hI.ec
  iu:=hI.iu
  BX:=hI.BX
  Cn:=hI.Cn
  eS:=hI.eS
  lU:=hI.lU
  fe:=hI.fe
  gh:=W0.st C _ hE.mem hI.fe hI.gh}⟩
theorem apd{α:Type}(l:List (Nat×α))(s:Nat)(u v:α):up (up l s u) s v=up l s v:=by
 induction l with
 |nil=>simp[up]
 |cons p l ih=>
  grind [up]
theorem aaB(s:Nat)(es ys:List AV):(H.push s es).set H.next ys=H.push s ys:=by
 grind [Heap.PD,Heap.set,Heap.push,apd]
theorem b_.anU{es ys:List AV}{n s:Nat}(h:b_ P W0 o fr H (.view H.next 0 n) (H.push s es))(hw:DT es ys)(Jl:s≠0:=by decide):b_ P W0 o fr H (.view H.next 0 n) (H.push s ys):=by
 intro C a hI hH hop K Q hK;refine h C a hI hH hop K Q (fun v C' h1 h2 h3 h4=> ?_);have hid:C'.H.get H.next=some es:=by grind [Heap.zX]
 obtain⟨hE,hI'⟩:=aek h2 hid hw (fun hn=>by rw[h2.jX _ s (by grind [Heap.PD]) hn];exact Jl);exact hK v {C' with H:=C'.H.set H.next ys} (h1.trans hE) hI' (by grind [aaB]) (h4.ext hE)
theorem PR{e y:AV}(h:F2 e.flat y.flat):∀m,DT (aeR m e) (aeR m y)
 |0=>trivial
 |m+1=>⟨h,PR h m⟩
theorem FN{α:Type}{t e:TypeId}{s eN:Nat}{xo yo:Operand}{kl kc:IntKind}{nl nc:Int}{z:Value}(enc:α→AV)(zx:α)(L:List α)(hL:Sh.mk eN nl nc zx=some L)(ho:o.op=.makeSlice t xo yo)(hx:aD fr xo=some (.imm (.int kl nl)))(hy:aD fr yo=some (.imm (.int kc nc)))
  (ht:oK P t=some (e,s,eN))(hz:oL P e=some z)(hk:z.MD=true)(hs:(AV.Ch z).flat.length=s)(hzx:F2 (AV.Ch z).flat (enc zx).flat)(Jl:s≠0:=by decide):b_ P W0 o fr H (.view H.next 0 (L.map enc).length) (H.push s (L.map enc)):=by
 obtain⟨m,c,h1,h2,h3,h4,h5,rfl⟩:=Sh.KA hL;have:=F4 (P:=P) (W0:=W0) (o:=o) (fr:=fr) (H:=H) ho hx hy h1 h2 h3 ht h4 h5 hz hk hs Jl;have h6:=this.anU (PR hzx m) Jl;simp_all
end
end Go.Av
end

section
namespace Go.Av
open Go.RowKit (Below)
section
variable {P:Program} {W0:bS} {C:Ctx} {fr:Fr} {H:Heap} {o:Oper}

variable {id s:Nat}
theorem SX(hI:Inv W0 C){k:Nat}{es:List AV}(hid:C.H.get id=some es)(hs:C.H.sz id=some s)(Jl:s≠0)(hk:k≤es.length){v:Value}(hv:c4 C (.view id 0 k) v):
  ∃C',C'.w=C.w∧Ext C C'∧Inv W0 C'∧C'.H=(C.H.del id).push s (es.take k)∧c4 C' (.view C.H.next 0 k) v:=by
 have hv2:jl (C.pl id) 0 k v∧v.oneCell'=true:=match hv with|.view _ _ _ _ _ h2 h3=>⟨h2 es hid,h3⟩;obtain⟨hv1,hone⟩:=hv2;have hE:Ext C ((C.del id).push ⟨(C.pl id).de,s,k,(C.pl id).cap,(C.pl id).nil⟩ (es.take k)):=zT (C:=C.del id) (AZ id) _ _ (fun hn=>.inr (.inl ⟨id,es,hid,hn,rfl⟩));refine⟨(C.del id).push ⟨(C.pl id).de,s,k,(C.pl id).cap,(C.pl id).nil⟩ (es.take k),rfl,hE, ?_,rfl, ?_⟩
 ·refine(hI.del id).push _ _ (fun hn=> ?_) (fun hn=>⟨?_,hI.cI id es hid hn, ?_⟩) (fun q e' hq hn=> ?_) (fun hn=> ?_) (W0.st C _ hE.mem hI.fe hI.gh)
  ·have:=hI.nil id es hid hn
   grind
  ·obtain⟨ob,harr,hob⟩:=(hI.obj id es hid hn).dat
   rintro(⟨q,e',h1,h2,h3⟩|h)
   ·have h1':=h1
    simp only[Ctx.del,Heap.u7] at h1';split at h1'
    ·cases h1'
    ·rename_i hne
     exact hne (hI.sep q id e' es h1' hid h2 hn h3)
   ·exact hI.AD h harr hob
  ·rcases aft (C.pl id).de W0.w.heap.size with h|h
   ·exact absurd (.inl ⟨id,es,hid,hn,rfl⟩) (hI.gD _ h).2
   ·exact h
  ·simp only[Ctx.del,Heap.u7] at hq
   split at hq
   ·cases hq
   ·exact(hI.obj q e' hq hn).ext hE rfl
  ·have hO:=hI.obj id es hid hn
   have hsz:=hI.jX id s hs hn;have hnn:=hO.n;refine⟨by grind,by show k≤(C.pl id).cap;have:=hO.cap;omega, ?_,hO.one,fun i e he=> ?_,fun i j e x u h1 h2 h3=> ?_⟩
   ·obtain⟨arr,el,h1,h2⟩:=hO.rows (by omega)
    exact .inl ⟨Jl,arr,el,h1,by grind⟩
   ·rw[acz] at he
    split at he
    ·rw[←hsz];exact hO.flat i e he
    grind
   ·rw[acz] at h1
    split at h1
    ·have:=hO.cell i j e x u h1 h2
     rw[hsz] at this;exact(this h3).ext hE
    grind
 ·refine tG (C:=C.del id) ?_ hone
  unfold jl at*;grind
theorem b_.cut{k:Nat}{es:List AV}(h:b_ P W0 o fr H (.view id 0 k) H)(hid:H.get id=some es)(hs:H.sz id=some s)(hk:k≤es.length)(Jl:s≠0:=by decide):b_ P W0 o fr H (.view H.next 0 k) ((H.del id).push s (es.take k)):=by
 intro C a hI hH hop K Q hK;refine h C a hI hH hop K Q (fun v C' h1 h2 h3 h4=> ?_);obtain⟨C2,q1,q2,q3,q4,q5⟩:=SX h2 (by grind) (by grind) Jl hk h4;rw[←q1];rw[h3] at q4 q5;exact hK v C2 (h1.trans q2) q3 q4 q5
theorem afZ{α:Type}{t e:TypeId}{eN n:Nat}{xo yo:Operand}{kb:IntKind}{b:Int}(enc:α→AV)(l L:List α)(hL:Sh.sub l 0 b=some L)(hn:n=(l.map enc).length)(hfl:∀x:α,(enc x).flat.length=s)(ho:o.op=.slice t xo none (some yo) none)(hx:aD fr xo=some (.view id 0 n))(hid:H.get id=some (l.map enc))(hs:H.sz id=some s)
  (hy:aD fr yo=some (.imm (.int kb b)))(ht:oK P t=some (e,s,eN))(Jl:s≠0:=by decide):b_ P W0 o fr H (.view H.next 0 (L.map enc).length) ((H.del id).push s (L.map enc)):=by
 obtain⟨m,k,h0,rfl,_,h2,rfl⟩:=Sh.Fg hL;have hm:m=0:=by omega
 have hb:fW fr (some yo) (l.map enc).length=some k:=by simp[fW,hy]
 have h1:=iR (P:=P) (W0:=W0) (o:=o) (fr:=fr) (H:=H) ho hx hid ht (l:=0) rfl hb (afR _) (by grind) (tg hfl l);have h3:=h1.cut hid hs (by grind) Jl;simp_all
end
end Go.Av
end

section
namespace Go.Av
structure Bs (P:Program) (B:bS) (f:FuncId) (xs:List AV) (Hin:Heap) (r:AV) (Hout:Heap):Prop where
 call:gO P f
 runs:∀(C:Ctx) (vals:Array Value),Inv B C→C.H=Hin→C.iu=[]→vals.size=xs.length→(∀(k:Nat) (x:AV),xs[k]? =some x→c4 C x (vals.getD k undef))→
  Calls P f vals C.w (fun e w'=>∃v C',e=.returned v∧C'.w=w'∧Mem C C'∧Inv B C'∧C'.H=Hout∧C'.iu=[]∧c4 C' r v)

section
variable {P:Program} {W0:bS} {C:Ctx} {fr:Fr} {a:Act} {H:Heap} {o:Oper} {N:Nat}

variable {r:AV}
theorem A1{B:bS}{f:FuncId}{fn:Func}{c:Code}{xs:List AV}{Hin Hr:Heap}(hro:B.ro=none)(hf:P.funcs[f]? =some fn)(hb:fn.body=some c)(hname:(fn.name== "runtime.NumGoroutine")=false)(hN:fn.ntmps=N)(hxN:xs.length≤N)
  (h:iD P B N c ⟨bN 0 xs,Hin⟩ (fun e s=>(e=.normal∨e=.ret)∧∃q,Cm P fn.results.toList s=some q∧b8 B 1 ⟨[(0,q)],s.H⟩ ⟨[(0,r)],Hr⟩))(hdx:B.dx=[]:=by rfl):Bs P B f xs Hin r Hr where
 call:=iF hf hname hb
 runs C vals hI hH hd hsz hrep:=HI hf hb hN hxN hro h C vals hI hH hd hsz hrep hdx


def Ctx.qM(C:Ctx)(Hs:Heap):Ctx:=
 {w:=C.w,H:=Hs,pl:=C.pl,cI:=fun b=>C.cI b∨(C.own b∧¬Ctx.own {C with H:=Hs,iu:=[]} b),iu:=[],nI:=0}

structure Part (Hs H:Heap):Prop where
 next:Hs.next=H.next
 bV:∀k v,lk Hs.bV k=some v→lk H.bV k=some v
 ec:∀l r,lk Hs.ec l=some r→lk H.ec l=some r

theorem Q1{Hs:Heap}(hp:Part Hs C.H){b:Nat}(h:(C.qM Hs).own b):C.own b:=by
 rcases h with⟨id,es,h1,h2,h3⟩|⟨r,h⟩|h
 ·refine .inl ⟨id,es, ?_,h2,h3⟩
  obtain⟨p,h4,h5⟩:=Option.map_eq_some_iff.1 h1;exact Option.map_eq_some_iff.2 ⟨p,hp.bV id p h4,h5⟩
 ·exact .inr (.inl ⟨r,hp.ec b r h⟩)
 ·simp[Ctx.qM] at h

theorem Zh{Hs:Heap}(hp:Part Hs C.H){b:Nat}(h:(C.qM Hs).bad b):C.bad b:=by
 rcases h with h|h|h
 ·exact .inl (Q1 hp h)
 ·exact .inr h
 ·exact .inl h.1

variable {es:List AV}
theorem tD{Hs H:Heap}(hp:Part Hs H){id:Nat}(h:Hs.get id=some es):H.get id=some es:=by
 obtain⟨p,h4,h5⟩:=Option.map_eq_some_iff.1 h;exact Option.map_eq_some_iff.2 ⟨p,hp.bV id p h4,h5⟩

theorem c4.qM{Hs:Heap}(hp:Part Hs C.H){x:AV}{v:Value}(h:c4 C x v):c4 (C.qM Hs) x v:=
 h.sub rfl (by show C.H.next≤Hs.next;rw[hp.next];omega) (fun id es _ h=>⟨es,tD hp h⟩) (fun _ _=>rfl) (fun b h=>Zh hp h)

theorem Inv.qM(hI:Inv W0 C){Hs:Heap}(hp:Part Hs C.H):Inv (.of W0.w) (C.qM Hs) where
 fresh id es h:=by show id<Hs.next;rw[hp.next];exact hI.fresh id es (tD hp h)
 nil id es h:=hI.nil id es (tD hp h)
 obj id es h hn:=by
  have hO:=hI.obj id es (tD hp h) hn;exact⟨hO.n,hO.cap,hO.de,hO.one,hO.flat,fun i j e x v h1 h2 h3=>(hO.cell i j e x v h1 h2 h3).qM hp⟩
 sep i1 i2 e1 e2 h1 h2:=hI.sep i1 i2 e1 e2 (tD hp h1) (tD hp h2)
 cI id es h hn hb:=by
  rcases hb with hb|hb
  ·exact hI.cI id es (tD hp h) hn hb
  ·exact hb.2 (.inl ⟨id,es,h,hn,rfl⟩)
 jX id s h:=by
  obtain⟨p,h4,h5⟩:=Option.map_eq_some_iff.1 h;exact hI.jX id s (Option.map_eq_some_iff.2 ⟨p,hp.bV id p h4,h5⟩)
 dU b h:=by
  rcases h with h|h
  ·exact hI.dU b h
  ·exact hI.G0 h.1
 eG b h:=by
  rcases h with h|h
  ·exact hI.eG b h
  ·exact hI.LX h.1
 size:=hI.size
 gD b h:=⟨(hI.gD b h).1,fun ho=>(hI.gD b h).2 (Q1 hp ho)⟩
 ec l r h:=hI.ec l r (hp.ec l r h)
 iu d h:=by simp[Ctx.qM] at h
 BX:=.nil
 Cn:=fun _ _=>rfl
 eS b h hb:=by
  rcases h with⟨r,h⟩|h
  ·rcases hb with hb|hb
   ·exact hI.eS b (.inl ⟨r,hp.ec b r h⟩) hb
   ·exact hb.2 (.inr (.inl ⟨r,h⟩))
  ·simp[Ctx.qM] at h
 lU:=rfl
 fe:=afR _
 gh:=trivial


inductive Ren (ok:AV→Prop) (m:List (Nat×Nat)):AV→AV→Prop
 |same (x:AV):ok x→Ren ok m x x
 |any (x:AV):Ren ok m x .any
 |view {id k off len:Nat}:lk m id=some k→Ren ok m (.view id off len) (.view k off len)
 |ref {id k i j:Nat}:lk m id=some k→Ren ok m (.ref id i j) (.ref k i j)
 |mref {id k:Nat}:lk m id=some k→Ren ok m (.mref id) (.mref k)
 |agg (cs cs':List AV):cs.length=cs'.length→(∀(k:Nat) (x x':AV),cs[k]? =some x→cs'[k]? =some x'→Ren ok m x x')→Ren ok m (.agg cs) (.agg cs')
 |tuple (cs cs':List AV):cs.length=cs'.length→(∀(k:Nat) (x x':AV),cs[k]? =some x→cs'[k]? =some x'→Ren ok m x x')→Ren ok m (.tuple cs) (.tuple cs')
 |fH (fn:Fn) (cs cs':List AV):cs.length=cs'.length→(∀(k:Nat) (x x':AV),cs[k]? =some x→cs'[k]? =some x'→Ren ok m x x')→Ren ok m (.fH fn cs) (.fH fn cs')
 |ifc (t:TypeId) (x x':AV):Ren ok m x x'→Ren ok m (.ifc t x) (.ifc t x')

structure Hw (ok:AV→Prop) (m:List (Nat×Nat)) (es es':List AV):Prop where
 len:es.length=es'.length
 see:∀(k:Nat) (e e':AV),es[k]? =some e→es'[k]? =some e'→e.flat.length=e'.flat.length∧∀(j:Nat) (x x':AV),e.flat[j]? =some x→e'.flat[j]? =some x'→Ren ok m x x'
 fL:∀l,es'=[.fL l]→es=[.fL l]

variable {ok:AV→Prop}
theorem Hw.same{m:List (Nat×Nat)}(h:∀e∈es,∀x∈e.flat,ok x):Hw ok m es es:=
 ⟨rfl,fun k e e' h1 h2=>by
  rw[h1] at h2;cases h2;exact⟨rfl,fun j x x' h3 h4=>by rw[h3] at h4;cases h4;exact .same x (h e (ad7 h1) x (ad7 h3))⟩,fun _ h=>h⟩

def D6(ok:AV→Prop)(m:List (Nat×Nat)):List AV→List AV→Prop
 |[],[]=>True
 |x::l,y::r=>Ren ok m x y∧D6 ok m l r
 |_,_=>False

theorem D6.spec{m:List (Nat×Nat)}:∀{l r:List AV},D6 ok m l r→l.length=r.length∧∀(k:Nat) (x x':AV),l[k]? =some x→r[k]? =some x'→Ren ok m x x'
 |[],[],_=>⟨rfl,fun k x x' h=>by simp at h⟩
 |x::l,y::r,h=>by
  obtain⟨h1,h2⟩:=D6.spec h.2;refine⟨by simp[h1],fun k u v hu hv=> ?_⟩;cases k with
  |zero=>simp at hu hv;subst hu hv;exact h.1
  |succ k=>grind
 |[],_::_,h=>h.elim
 |_::_,[],h=>h.elim
variable {cs cs':List AV}
theorem Ren.ag{m:List (Nat×Nat)}(h:D6 ok m cs cs'):Ren ok m (.agg cs) (.agg cs'):=.agg cs cs' h.spec.1 h.spec.2
theorem Ren.tp{m:List (Nat×Nat)}(h:D6 ok m cs cs'):Ren ok m (.tuple cs) (.tuple cs'):=.tuple cs cs' h.spec.1 h.spec.2
theorem Ren.cl{m:List (Nat×Nat)}{fn:Fn}(h:D6 ok m cs cs'):Ren ok m (.fH fn cs) (.fH fn cs'):=.fH fn cs cs' h.spec.1 h.spec.2
theorem Hw.one{m:List (Nat×Nat)}{e e':AV}(h:D6 ok m e.flat e'.flat)(hm:e'.mp=e.mp:=by rfl):Hw ok m [e] [e']:=
 ⟨rfl,fun k a b h1 h2=>by
  cases k with
  |zero=>simp at h1 h2;subst h1 h2;exact⟨h.spec.1,h.spec.2⟩
  |succ k=>simp at h1,fun l hl=>by
  have h1:e'=.fL l:=by grind
  subst h1
  rw[AV.adm hm.symm]⟩

def B0(ok:AV→Prop)(H:Heap)(g m:List (Nat×Nat))(Hout:Heap):List (Nat×(Nat×List AV))→Prop
 |[]=>True
 |(k,(s,es'))::r=>((lk H.bV k=some (s,es')∧g.all (fun p=>p.2 !=k)=true)∨∃i es,lk m i=some k∧lk Hout.bV i=some (s,es)∧Hw ok m es es')∧B0 ok H g m Hout r

theorem B0.spec{H:Heap}{g m:List (Nat×Nat)}{Hout:Heap}:∀{l:List (Nat×(Nat×List AV))},B0 ok H g m Hout l→∀{k s:Nat} {es':List AV},lk l k=some (s,es')→
  (lk H.bV k=some (s,es')∧∀p∈g,p.2≠k)∨∃i es,lk m i=some k∧lk Hout.bV i=some (s,es)∧Hw ok m es es'
 |[],_,_,_,_,h=>by cases h
 |(q,(s,es))::l,hl,k,s',es',h=>by
  simp only[lk] at h;split at h
  ·rename_i hm;subst hm;cases h
   refine hl.1.imp (fun h=>⟨h.1,fun p hp=> ?_⟩) id;grind
  ·exact B0.spec hl.2 h
theorem B0.kept{H:Heap}{g m:List (Nat×Nat)}{Hout:Heap}{k s:Nat}{r:List (Nat×(Nat×List AV))}(h1:lk H.bV k=some (s,es))(h2:g.all (fun p=>p.2 !=k)=true)(h3:B0 ok H g m Hout r):B0 ok H g m Hout ((k,(s,es))::r):=
 ⟨.inl ⟨h1,h2⟩,h3⟩
theorem B0.new{H:Heap}{g m:List (Nat×Nat)}{Hout:Heap}{k s:Nat}{es':List AV}{r:List (Nat×(Nat×List AV))}(i:Nat)(h1:lk m i=some k)(h2:lk Hout.bV i=some (s,es))(h3:Hw ok m es es')(h4:B0 ok H g m Hout r):B0 ok H g m Hout ((k,(s,es'))::r):=
 ⟨.inr ⟨i,es,h1,h2,h3⟩,h4⟩

def ZQ(p n:Nat)(g m:List (Nat×Nat)):Bool:=m.all fun q=>(decide (q.1<p)&&(lk g q.1==some q.2))||q.2==n+q.1

def Ctx.back(C C2:Ctx)(H':Heap):Ctx:={w:=C2.w,H:=H',pl:=fun k=>if k<C.H.next then C.pl k else C2.pl (k - C.H.next),cI:=C.cI,iu:=C.iu,nI:=C.nI}

theorem aeo{Hs Hin H':Heap}{g m:List (Nat×Nat)}{nw:List Nat}{p:Nat}{B1:bS}{C2:Ctx}(hI:Inv W0 C)(hp:Part Hs C.H)(hB:B1.w=W0.w)
  (hH:jC Hs g nw Hin.next Hin.bV)(hnw:∀n∈nw,lk g n=none)(hginj:g.all (fun p=>g.all (fun q=>p.2 !=q.2||p.1==q.1))=true)(hgin:∀q∈g,(lk Hs.bV q.2).isSome=true)(hlp:Hin.ec=Hs.ec)
  (hM:Mem {(C.qM Hs).re g Hin with nI:=p} C2)(hpin:p≤Hin.next)(Hl:Inv B1 C2)(H9:C2.iu=[])
  (hm:ZQ p C.H.next g m=true)(hnext:H'.next=C.H.next+C2.H.next)(hback:B0 ok C.H g m C2.H H'.bV)
  (hlps:∀l r,lk H'.ec l=some r→lk C2.H.ec l=some r∨(lk C.H.ec l=some r∧lk Hs.ec l=none))
  (mode:(∀x,ok x→ya x)∨((∀x,ok x→bQ x)∧∀k v,lk C.H.bV k=some v→(∀q∈g,q.2≠k)→lk Hs.bV k=none)):
  Ext C (C.back C2 H')∧Inv W0 (C.back C2 H')∧∀x x' v,Ren ok m x x'→c4 C2 x v→c4 (C.back C2 H') x' v:=by
 have hs:C.w.heap.size≤C2.w.heap.size:=hM.below.size;have hpr:C2.cI=(C.qM Hs).cI:=hM.cI;have getS:∀{K:Heap} {n:Nat} {es':List AV},K.get n=some es'→∃s,lk K.bV n=some (s,es'):=fun{K n es'} h=>by
  obtain⟨⟨s,e⟩,h1,h2⟩:=Option.map_eq_some_iff.1 h;grind
 have getO:∀{K:Heap} {n s:Nat} {es':List AV},lk K.bV n=some (s,es')→K.get n=some es':=fun{K n s es'} h=>by simp[Heap.get,h]
 have gmem:∀{n k:Nat},lk g n=some k→k<C.H.next∧∃v,lk Hs.bV k=some v:=fun{n k} h=>by
  obtain⟨v,hv⟩:=Option.isSome_iff_exists.1 (hgin _ (iL h));exact⟨hI.fresh k v.2 (getO (s:=v.1) (hp.bV k v hv)),v,hv⟩
 have ginj:∀{n n' k:Nat},lk g n=some k→lk g n'=some k→n=n':=fun{n n' k} h1 h2=>by
  have:=List.all_eq_true.1 (List.all_eq_true.1 hginj _ (iL h1)) _ (iL h2);grind
 have rePl:∀{n k:Nat},lk g n=some k→((C.qM Hs).re g Hin).pl n=C.pl k:=fun{n k} h=>by simp[Ctx.re,Ctx.qM,h]
 have mS:∀{i k:Nat},lk m i=some k→(i<p∧lk g i=some k)∨k=C.H.next+i:=fun{i k} h=>by
  have:=List.all_eq_true.1 hm _ (iL h);grind
 -- what was handed over
 have passed:∀{b:Nat},((C.qM Hs).re g Hin).cells b→∃n k es,lk g n=some k∧C.H.get k=some es∧(C.pl k).nil=false∧(C.pl k).de=b:=fun{b} h=>by
  obtain⟨n,es',h1,h2,h3⟩:=h;obtain⟨s,h4⟩:=getS (K:=Hin) h1;rcases(hH.spec h4).1 with⟨old,es,q1,q2,_⟩|⟨q,_⟩
  ·rw[rePl q1] at h2 h3
   exact⟨n,old,es,q1,getO (hp.bV old _ q2),h2,h3⟩
  grind [Ctx.re]
 have atm:∀{b:Nat},((C.qM Hs).re g Hin).own b→C.own b:=fun{b} h=>by
  rcases h with h|⟨r,h⟩|h
  ·obtain⟨n,k,es,_,h2,h3,h4⟩:=passed h
   exact .inl ⟨k,es,h2,h3,h4⟩
  ·exact .inr (.inl ⟨r,hp.ec b r (by rw[←hlp];exact h)⟩)
  grind [Ctx.re,Ctx.qM]
 have keep:∀b,b<C.w.heap.size→¬((C.qM Hs).re g Hin).own b→C2.w.heap[b]? =C.w.heap[b]? :=fun b hb hn=>hM.keep b hb hn;have atn:∀{b:Nat},b<C.w.heap.size→C2.own b→((C.qM Hs).re g Hin).own b:=fun{b} hb h=>hM.own b hb h
 -- cells, records, and what is put off, are told apart by what lies there
 have cellHeap:∀{k:Nat} {es:List AV},C.H.get k=some es→(C.pl k).nil=false→∃o:Obj,C.w.heap[(C.pl k).de]? =some o∧isD o:=fun{k es} h1 h2=>(hI.obj k es h1 h2).dat;have keptFree:∀{k:Nat} {es:List AV},C.H.get k=some es→(C.pl k).nil=false→(∀q∈g,q.2≠k)→¬((C.qM Hs).re g Hin).own (C.pl k).de:=fun{k es} h1 h2 h3 h=>by
  obtain⟨ob,hc,hcd⟩:=cellHeap h1 h2;rcases h with h|⟨r,h⟩|h
  ·obtain⟨n,k',es',q1,q2,q3,q4⟩:=passed h
   have:=hI.sep k' k es' es q2 h1 q3 h2 q4;exact h3 _ (iL q1) this
  ·exact hI.AD (.inl ⟨r,hp.ec _ r (by rw[←hlp];exact h)⟩) hc hcd
  grind [Ctx.re,Ctx.qM]
 -- an object behind the call
 have plO:∀{k:Nat},k<C.H.next→(C.back C2 H').pl k=C.pl k:=fun{k} h=>by simp[Ctx.back,h]
 have plN:∀{i k s:Nat} {es:List AV},lk m i=some k→lk C2.H.bV i=some (s,es)→(C.back C2 H').pl k=C2.pl i∧(k<C.H.next→∃n,i=n∧lk g n=some k):=fun{i k s es} h h2=>by
  rcases mS h with⟨h3,h4⟩|h3
  ·refine⟨?_,fun _=>⟨i,rfl,h4⟩⟩
   rw[plO (gmem h4).1];have h5:=(hM.pins hpin).2 i es h3 (getO h2);grind
  ·subst h3
   refine⟨?_,fun h=>by omega⟩;have h1:¬C.H.next+i<C.H.next:=by omega
   have h2:C.H.next+i - C.H.next=i:=by omega
   show(if C.H.next+i<C.H.next then _ else _)=_;grind
 have objJ:∀{k:Nat} {es':List AV},(C.back C2 H').H.get k=some es'→∃s,lk H'.bV k=some (s,es')∧((lk C.H.bV k=some (s,es')∧(∀q∈g,q.2≠k)∧k<C.H.next)∨∃i es,lk m i=some k∧lk C2.H.bV i=some (s,es)∧Hw ok m es es'):=fun{k es'} h=>by
  obtain⟨s,h1⟩:=getS (K:=H') h;refine⟨s,h1,(hback.spec h1).imp (fun h=>⟨h.1,h.2,hI.fresh k es' (getO h.1)⟩) id⟩
 have ownJ:∀b,(C.back C2 H').own b→C.own b∨C2.own b:=by
  rintro b (⟨k,es',h1,h2,h3⟩|⟨r,h⟩|h)
  ·obtain⟨s,_,⟨q1,q2,q3⟩|⟨i,es,q1,q2,_⟩⟩:=objJ h1
   ·rw[plO q3] at h2 h3;exact .inl (.inl ⟨k,es',getO q1,h2,h3⟩)
   ·rw[(plN q1 q2).1] at h2 h3;exact .inr (.inl ⟨i,es,getO q2,h2,h3⟩)
  ·rcases hlps b r h with h|h
   ·exact .inr (.inr (.inl ⟨r,h⟩))
   ·exact .inl (.inr (.inl ⟨r,h.1⟩))
  ·exact .inl (.inr (.inr h))
 have ext:Ext C (C.back C2 H'):={
  below:=⟨hM.below.os,hM.below.tape,hM.below.output,hs,fun k hk=>absurd hk (aie k)⟩
  keep:=fun b hb hn=>keep b hb (fun h=>hn (atm h))
  own:=fun b hb h=>by
   grind
  next:=by show C.H.next≤H'.next;omega
  id:=fun k es' hk h=>by
   obtain⟨s,_,⟨q1,q2,q3⟩|⟨i,es,q1,q2,_⟩⟩:=objJ h
   ·grind
   ·obtain⟨n,_,h3⟩:=(plN q1 q2).2 hk
    obtain⟨_,v,hv⟩:=gmem h3;exact⟨⟨v.2,getO (s:=v.1) (hp.bV k v hv)⟩,plO hk⟩
  cI:=rfl
  iu:=rfl
  nI:=rfl}
 -- what nobody owned behind the call is nobody's now
 have protOf:∀{b:Nat},C.own b→¬Ctx.own {C with H:=Hs,iu:=[]} b→C2.bad b:=fun{b} h1 h2=>.inr (by rw[hpr];exact .inr ⟨h1,h2⟩);have badJ:(∀k v,lk C.H.bV k=some v→(∀q∈g,q.2≠k)→lk Hs.bV k=none)→∀b,(C.back C2 H').bad b→C2.bad b:=by
  rintro hmd b ((⟨k,es',h1,h2,h3⟩|⟨r,h⟩|h)|h)
  ·obtain⟨s,_,⟨q1,q2,q3⟩|⟨i,es,q1,q2,_⟩⟩:=objJ h1
   ·rw[plO q3] at h2 h3
    obtain⟨ob,hc,hcd⟩:=cellHeap (getO q1) h2;rw[h3] at hc;refine protOf (.inl ⟨k,es',getO q1,h2,h3⟩) ?_;rintro(⟨k',e',r1,r2,r3⟩|⟨r,h⟩|h)
    ·have:=hI.sep k' k e' es' (tD hp r1) (getO q1) r2 h2 (r3.trans h3.symm)
     grind
    ·exact hI.AD (.inl ⟨r,hp.ec b r h⟩) hc hcd
    grind
   ·rw[(plN q1 q2).1] at h2 h3;exact .inl (.inl ⟨i,es,getO q2,h2,h3⟩)
  ·rcases hlps b r h with h|⟨h,h'⟩
   ·exact .inl (.inr (.inl ⟨r,h⟩))
   ·refine protOf (.inr (.inl ⟨r,h⟩)) ?_
    rintro(⟨k',e',r1,r2,r3⟩|⟨r',h2⟩|h2)
    ·obtain⟨ob,hc,hcd⟩:=cellHeap (tD hp r1) r2
     have r3':(C.pl k').de=b:=r3;rw[r3'] at hc;exact hI.AD (.inl ⟨r,h⟩) hc hcd
    ·grind
    grind
  ·refine protOf (.inr (.inr h)) ?_
   rintro(⟨k',e',r1,r2,r3⟩|⟨r',h2⟩|h2)
   ·obtain⟨ob,hc,hcd⟩:=cellHeap (tD hp r1) r2
    have r3':(C.pl k').de=b:=r3;rw[r3'] at hc;exact hI.AD (.inr h) hc hcd
   ·have q1:=hI.ec b r' (hp.ec b r' h2)
    have q2:=hI.iu b h;grind
   grind
  ·exact .inr (by rw[hpr];exact .inl h)
 have atom:∀x v,ok x→c4 C2 x v→c4 (C.back C2 H') x v:=fun x v hx hr=>by
  rcases mode with h|⟨h1,h2⟩
  ·exact(h x hx).rep hr
  ·exact hr.move (h1 x hx) (afk _) (fun b _ q2=>⟨rfl,fun h=>q2 (badJ h2 b h)⟩)
 have repJ:∀x x' v,Ren ok m x x'→c4 C2 x v→c4 (C.back C2 H') x' v:=by
  intro x x' v hs
  induction hs generalizing v with
  |same x hx=>grind
  |any x=>intro _;exact .any v
  | @view id k off len hk=>
   intro h
   match h with
   |.view _ _ _ _ h1 h2 h3=>
   refine .view _ _ _ _ ?_ (fun es' he=> ?_) h3
   ·show k<H'.next
    grind
   ·obtain⟨s,_,⟨q1,q2,q3⟩|⟨i,es,q1,q2,_⟩⟩:=objJ he
    ·exfalso
     rcases mS hk with⟨_,h5⟩|h5
     ·exact q2 _ (iL h5) rfl
     ·omega
    grind
  | @ref id k i j hk=>
   intro h
   match h with
   |.ref _ _ _ _ h1 h2 h3=>
   refine .ref _ _ _ _ ?_ (fun es' he=> ?_) h3
   ·show k<H'.next
    grind
   ·obtain⟨s,_,⟨q1,q2,q3⟩|⟨i',es,q1,q2,_⟩⟩:=objJ he
    ·exfalso
     rcases mS hk with⟨_,h5⟩|h5
     ·exact q2 _ (iL h5) rfl
     ·omega
    grind
  | @mref id k hk=>
   intro h
   match h with
   |.mref _ _ h1 h2 h3=>
   refine .mref _ _ ?_ (fun es' he=> ?_) h3
   ·show k<H'.next
    grind
   ·obtain⟨s,_,⟨q1,q2,q3⟩|⟨i',es,q1,q2,_⟩⟩:=objJ he
    ·exfalso
     rcases mS hk with⟨_,h5⟩|h5
     ·exact q2 _ (iL h5) rfl
     ·omega
    grind
  |agg cs cs' hl _ ih=>
   intro h
   match h with
   |.agg _ vs h1 h2 h3=>
   refine .agg cs' vs (h1.trans hl) h2 (fun k x' hx'=> ?_);grind
  |tuple cs cs' hl _ ih=>
   intro h
   match h with
   |.tuple _ vs h1 h3=>
   refine .tuple cs' vs (h1.trans hl) (fun k x' hx'=> ?_);grind
  |fH fn cs cs' hl _ ih=>
   intro h
   match h with
   |.fH _ _ vs h1 h3=>
   refine .fH fn cs' vs (h1.trans hl) (fun k x' hx'=> ?_);grind
  |ifc t x x' _ ih=>
   intro h
   match h with
   |.ifc _ _ v h1=>exact .ifc t x' v (ih v h1)
 refine⟨ext, ?_,repJ⟩;have newBlk:∀{i s:Nat} {es:List AV} {k0:Nat} {Hj:List AV},lk C2.H.bV i=some (s,es)→(C2.pl i).nil=false→C.H.get k0=some Hj→(C.pl k0).nil=false→(∀q∈g,q.2≠k0)→(C2.pl i).de≠(C.pl k0).de:=fun{i s es k0 Hj} h1 h2 h3 h4 h5 he=>by
  have hlt:=hI.lt h3 h4;refine keptFree h3 h4 h5 (atn hlt ?_);exact .inl ⟨i,es,getO h1,h2,he⟩
 exact{
  fresh:=fun k es' h=>by
   show k<H'.next;rw[hnext];obtain⟨s,_,⟨q1,q2,q3⟩|⟨i,es,q1,q2,_⟩⟩:=objJ h
   ·omega
   ·rcases mS q1 with⟨_,h5⟩|rfl
    ·grind
    ·have:=Hl.fresh i es (getO q2);omega
  nil:=fun k es' h hn=>by
   obtain⟨s,_,⟨q1,q2,q3⟩|⟨i,es,q1,q2,q3⟩⟩:=objJ h
   ·rw[plO q3] at hn;exact hI.nil k es' (getO q1) hn
   ·rw[(plN q1 q2).1] at hn
    have:=Hl.nil i es (getO q2) hn;subst this;exact abS q3.len.symm
  obj:=fun k es' h hn=>by
   obtain⟨s,_,⟨q1,q2,q3⟩|⟨i,es,q1,q2,q3⟩⟩:=objJ h
   ·rw[plO q3] at hn ⊢
    exact(hI.obj k es' (getO q1) hn).ext ext (keep _ (hI.lt (getO q1) hn) (keptFree (getO q1) hn q2))
   ·rw[(plN q1 q2).1] at hn ⊢
    have hO:=Hl.obj i es (getO q2) hn;have bk:∀{q:Nat} {e':AV},es'[q]? =some e'→∃e,es[q]? =some e∧e.flat.length=e'.flat.length∧∀(j:Nat) (x x':AV),e.flat[j]? =some x→e'.flat[j]? =some x'→Ren ok m x x':=fun{q e'} hq=>by
     have hk:q<es.length:=by rw[q3.len];grind
     exact⟨es[q],ab9 hk,q3.see q _ e' (ab9 hk) hq⟩
    refine⟨hO.n.trans q3.len,hO.cap,hO.SR q3.fL,hO.one,fun q e' he'=> ?_,fun q j e' x' v he' hx' hv=> ?_⟩
    ·obtain⟨e,h1,h2,_⟩:=bk he'
     rw[←h2];exact hO.flat q e h1
    ·obtain⟨e,h1,h2,h3⟩:=bk he'
     have hj:j<e.flat.length:=by grind
     exact repJ _ _ _ (h3 j _ x' (ab9 hj) hx') (hO.cell q j e _ v h1 (ab9 hj) hv)
  sep:=fun k1 k2 e1 e2 h1 h2 n1 n2 hb=>by
   obtain⟨s1,_,⟨a1,a2,a3⟩|⟨i1,es1,a1,a2,_⟩⟩:=objJ h1 <;> obtain⟨s2,_,⟨b1,b2,b3⟩|⟨i2,S_,b1,b2,_⟩⟩:=objJ h2
   ·rw[plO a3] at n1 hb;rw[plO b3] at n2 hb
    exact hI.sep k1 k2 e1 e2 (getO a1) (getO b1) n1 n2 hb
   ·rw[plO a3] at n1 hb;grind
   ·rw[(plN a1 a2).1] at n1 hb;rw[plO b3] at n2 hb
    grind
   ·rw[(plN a1 a2).1] at n1 hb;rw[(plN b1 b2).1] at n2 hb
    have:=Hl.sep i1 i2 es1 S_ (getO a2) (getO b2) n1 n2 hb;grind
  cI:=fun k es' h hn hb=>by
   obtain⟨s,_,⟨q1,q2,q3⟩|⟨i,es,q1,q2,q3⟩⟩:=objJ h
   ·rw[plO q3] at hn hb;exact hI.cI k es' (getO q1) hn hb
   ·rw[(plN q1 q2).1] at hn hb
    exact Hl.cI i es (getO q2) hn (by rw[hpr];exact .inl hb)
  jX:=fun k s h hn=>by
   obtain⟨⟨s',es'⟩,h1,h2⟩:=Option.map_eq_some_iff.1 h;subst h2;rcases hback.spec h1 with⟨q1,q2⟩|⟨i,es,q1,q2,_⟩
   ·have q3:=hI.fresh k es' (getO q1)
    rw[plO q3] at hn ⊢;exact hI.jX k _ (by simp[Heap.sz,q1]) hn
   ·rw[(plN q1 q2).1] at hn ⊢;exact Hl.jX i _ (by simp[Heap.sz,q2]) hn
  dU:=fun b hb=>afs (hI.dU b hb) hs
  eG:=hI.eG
  size:=by have:=Hl.size;rw[hB] at this;exact this
  gD:=fun b hb=>⟨by have:=(Hl.gD b (by grind)).1;rw[hB] at this;exact this,fun ho=>by
   rcases ownJ b ho with h|h
   ·exact(hI.gD b hb).2 h
   ·exact(Hl.gD b (by grind)).2 h⟩
  ec:=fun l r h=>by
   rcases hlps l r h with h|⟨h,h'⟩
   ·exact Hl.ec l r h
   ·have h1:=hI.ec l r h
    rw[←h1];refine keep l (Array.getElem?_eq_some_iff.1 h1).1 ?_;rintro(h2|⟨r',h2⟩|h2)
    ·obtain⟨n,k,es,_,q2,q3,q4⟩:=passed h2
     obtain⟨ob,hc,hcd⟩:=cellHeap q2 q3;rw[q4,h1] at hc;cases hc;rcases hcd with⟨_,_,h⟩|⟨_,_,h⟩|⟨_,_,_,_,_,_,h⟩ <;> cases h
    ·have h2':lk Hin.ec l=some r':=h2
     grind
    grind [Ctx.re,Ctx.qM]
  iu:=fun d h=>by
   have h1:=hI.iu d h;rw[←h1];refine keep d (Array.getElem?_eq_some_iff.1 h1).1 ?_;rintro(h2|⟨r',h2⟩|h2)
   ·obtain⟨n,k,es,_,q2,q3,q4⟩:=passed h2
    obtain⟨ob,hc,hcd⟩:=cellHeap q2 q3;rw[q4,h1] at hc;cases hc;rcases hcd with⟨_,_,h⟩|⟨_,_,h⟩|⟨_,_,_,_,_,_,h⟩ <;> cases h
   ·have q1:=hI.ec d r' (hp.ec d r' (by rw[←hlp];exact h2))
    grind
   grind [Ctx.re,Ctx.qM]
  BX:=hI.BX
  Cn:=hI.Cn
  eS:=fun b h hb=>by
   rcases h with⟨r,h⟩|h
   ·rcases hlps b r h with h|⟨h,_⟩
    ·exact Hl.eS b (.inl ⟨r,h⟩) (by rw[hpr];exact .inl hb)
    ·exact hI.eS b (.inl ⟨r,h⟩) hb
   ·exact hI.eS b (.inr h) hb
  lU:=hI.lU
  fe:=afp hI.fe ext.next
  gh:=W0.st C _ ext.mem hI.fe hI.gh}

theorem Inv.aaQ{B1:bS}{p:Nat}(hI:Inv (.of W0.w) C)(hB:B1.w=W0.w)(hp:B1.p=p)(hle:p≤C.H.next)(hd:C.iu=[])(hG:B1.G {C with nI:=p}):Inv B1 {C with nI:=p} where
 fresh:=hI.fresh
 nil:=hI.nil
 obj id es h hn:=by
  have hO:=hI.obj id es h hn
  exact⟨hO.n,hO.cap,hO.de,hO.one,hO.flat,fun i j e x v h1 h2 h3=>(hO.cell i j e x v h1 h2 h3).sub rfl (afk _) (fun id es _ h=>⟨es,h⟩) (fun _ _=>rfl) (fun b h=>h)⟩
 sep:=hI.sep
 cI:=hI.cI
 jX:=hI.jX
 dU:=hI.dU
 eG b h:=by rw[hB];exact hI.eG b h
 size:=by rw[hB];exact hI.size
 gD b h:=by rw[hB] at h ⊢;exact hI.gD b h
 ec:=hI.ec
 iu:=hI.iu
 BX:=hI.BX
 Cn _ _:=hd
 eS:=hI.eS
 lU:=hp.symm
 fe:=hle
 gh:=hG

def Ng(H:Heap):List (Nat×(Nat×List AV))→Prop
 |[]=>True
 |(k,v)::r=>lk H.bV k=some v∧Ng H r
theorem Ng.spec{H:Heap}:∀{l:List (Nat×(Nat×List AV))},Ng H l→∀k v,lk l k=some v→lk H.bV k=some v
 |[],_,_,_,h=>by cases h
 |(q,u)::l,hl,k,v,h=>by
  simp only[lk] at h;split at h
  ·rename_i hq;subst hq;cases h;exact hl.1
  ·exact Ng.spec hl.2 k v h

structure Pass (ok:AV→Prop) (fr fr':List (Nat×AV)) (H Hs Hin Hout H':Heap) (g m:List (Nat×Nat)) (nw:List Nat) (p:Nat) (r r':AV):Prop where
 next:Hs.next=H.next
 part:Ng H Hs.bV
 inj:g.all (fun p=>g.all (fun q=>p.2 !=q.2||p.1==q.1))=true
 lt:g.all (fun p=>decide (p.1<Hin.next))=true
 TA:nw.all (fun n=>(lk g n).isNone&&decide (n<Hin.next))=true
 XZ:g.all (fun q=>(lk Hs.bV q.2).isSome)=true
 held:jC Hs g nw Hin.next Hin.bV
 seen:Seen Hs g nw fr fr'
 A5:Hin.ec=Hs.ec
 Su:decide (p≤Hin.next)=true
 map:ZQ p H.next g m=true
 next':H'.next=H.next+Hout.next
 back:B0 ok H g m Hout H'.bV
 ec:(Hs.ec=[]∧H'.ec=H.ec)∨(Hs.ec=H.ec∧H'.ec=Hout.ec)
 mode:(∀x,ok x→ya x)∨((∀x,ok x→bQ x)∧H.bV.all (fun e=>g.any (fun q=>q.2==e.1)||(lk Hs.bV e.1).isNone)=true)
 ren:Ren ok m r r'

def Ctx.sub(C:Ctx)(Hs Hin:Heap)(g:List (Nat×Nat))(p:Nat):Ctx:={(C.qM Hs).re g Hin with nI:=p}

variable {r':AV}
theorem Pass.LF{fr fr':List (Nat×AV)}{H Hs Hin Hout H':Heap}{g m:List (Nat×Nat)}{nw:List Nat}{p:Nat}(h:Pass ok fr fr' H Hs Hin Hout H' g m nw p r r'):Part Hs H:=
 ⟨h.next,h.part.spec,fun l r hl=>by
  rcases h.ec with⟨h1,_⟩|⟨h1,_⟩
  ·rw[h1] at hl;cases hl
  grind⟩

theorem Pass.agZ{fr fr':List (Nat×AV)}{H Hs Hin Hout H':Heap}{g m:List (Nat×Nat)}{nw:List Nat}{p:Nat}{n:Nat}{vals:Array Value}(h:Pass ok fr fr' H Hs Hin Hout H' g m nw p r r')
  (hI:Inv W0 C)(hH:C.H=H)(hsz:vals.size=n)(hrep:∀t x,lk fr t=some x→c4 C x (vals.getD t undef)):
  Rel (.of W0.w) n (lk fr') Hin ((C.qM Hs).re g Hin) {tmps:=vals,defers:=[]}:=by
 have hp:=h.LF
 rw[←hH] at hp
 have MP:Rel (.of W0.w) n (lk fr) Hs (C.qM Hs) {tmps:=vals,defers:=[]}:=⟨rfl,hI.qM hp,hsz,rfl,fun t x hx=>(hrep t x hx).qM hp⟩
 exact(Pu (st:=⟨fr,Hs⟩) g nw h.inj h.lt h.TA h.held h.seen (by rfl) h.A5 MP).2

theorem vt{x:AV}{v:Value}{p:Nat}(h:c4 C x v):c4 {C with nI:=p} x v:=
 h.sub rfl (afk _) (fun id es _ h=>⟨es,h⟩) (fun _ _=>rfl) (fun b h=>h)

theorem Pass.aam{fr fr':List (Nat×AV)}{H Hs Hin Hout H':Heap}{g m:List (Nat×Nat)}{nw:List Nat}{p:Nat}{B1:bS}{C2:Ctx}(h:Pass ok fr fr' H Hs Hin Hout H' g m nw p r r')
  (hI:Inv W0 C)(hH:C.H=H)(hB:B1.w=W0.w)(hM:Mem (C.sub Hs Hin g p) C2)(Hl:Inv B1 C2)(X0:C2.H=Hout)(H9:C2.iu=[]):
  Ext C (C.back C2 H')∧Inv W0 (C.back C2 H')∧∀v,c4 C2 r v→c4 (C.back C2 H') r' v:=by
 have hp:=h.LF
 subst hH X0
 obtain⟨h1,h2,h3⟩:=aeo (ok:=ok) (H':=H') (m:=m) (nw:=nw) hI hp hB h.held (fun n hn=>by
   have:=List.all_eq_true.1 h.TA n hn
   simp_all) h.inj (fun q hq=>List.all_eq_true.1 h.XZ q hq) h.A5 hM (of_decide_eq_true h.Su) Hl H9 h.map h.next' h.back (fun l r hl=>by
   rcases h.ec with⟨q1,q2⟩|⟨q1,q2⟩
   ·rw[q2] at hl;exact .inr ⟨hl,by rw[q1];rfl⟩
   grind) (h.mode.imp id fun⟨q1,q2⟩=>⟨q1,fun k v hk hq=>by
   have:=List.all_eq_true.1 q2 _ (iL hk)
   simp only[ajm,List.any_eq_true,beq_iff_eq,Option.isNone_iff_eq_none] at this
   grind⟩)
 exact⟨h1,h2,fun v hv=>h3 r r' v h.ren hv⟩

theorem call3{f:FuncId}{ys xs:List AV}{Hs Hin Hout H':Heap}{g m:List (Nat×Nat)}{nw:List Nat}{p:Nat}{B1:bS}{vals:Array Value}(hf:Bs P B1 f xs Hin r Hout)(hB:B1.w=W0.w)(hBp:B1.p=p)
  (h:Pass ok (bN 0 ys) (bN 0 xs) H Hs Hin Hout H' g m nw p r r')(hl:xs.length=ys.length)(hI:Inv W0 C)(hH:C.H=H)(hsz:vals.size=ys.length)(hrep:∀t x,lk (bN 0 ys) t=some x→c4 C x (vals.getD t undef))
  (hG:B1.G (C.sub Hs Hin g p)):
  Calls P f vals C.w (fun e w'=>∃v C',e=.returned v∧C'.w=w'∧Ext C C'∧Inv W0 C'∧C'.H=H'∧c4 C' r' v):=by
 have h1:=h.agZ hI hH hsz hrep
 have h2:Inv B1 (C.sub Hs Hin g p):=h1.inv.aaQ (W0:=W0) hB hBp (of_decide_eq_true h.Su) rfl hG
 refine(hf.runs (C.sub Hs Hin g p) vals h2 rfl rfl (by omega) (fun k x hx=>vt (Ap h1 k x hx))).mono ?_
 rintro e w' ⟨v,C2,rfl,rfl,hM,Hl,X0,H9,hr⟩
 obtain⟨q1,q2,q3⟩:=h.aam hI hH hB hM Hl X0 H9
 exact⟨v,C.back C2 H',rfl,rfl,q1,q2,rfl,q3 v hr⟩

end
def jx:Code→List (Array Tmp×Code×Code)
 |.seq a b=>jx a++jx b
 |.cond _ a b=>jx a++jx b
 |.block _ c=>jx c
 |.loop c=>jx c
 |.scope c=>jx c
 |.rangeFunc _ ps a b=>(ps,a,b)::(jx a++jx b)
 |_=>[]

structure yI (rec:Loop) (fn:Func) (k N:Nat):Prop where
 ready:rec.state=.ready
 none:rec.pending=none
 code:(fn.body.bind fun c=>(jx c)[k]?)=some (rec.params,rec.assign,rec.body)
 size:rec.tmps.size=N

def yq(rec:Loop)(j:Code):Bool→Loop
 |true=>rec
 |false=>{rec with state:=.done,pending:=some j}

def GQ(rec:Loop):Option Code→Loop
 |none=>rec
 |some c=>yq rec c false

theorem yI.params{rec:Loop}{fn:Func}{k N:Nat}{ps:Array Tmp}{yc bd:Code}(h:yI rec fn k N)(hc:(fn.body.bind fun c=>(jx c)[k]?)=some (ps,yc,bd)):rec.params=ps:=by
 have:=h.code;grind

theorem yI.GQ{rec:Loop}{fn:Func}{k N:Nat}(h:yI rec fn k N)(j:Option Code):({rec with state:=if j.isNone then .ready else .done,pending:=j}:Loop)=GQ rec j:=by
 have h1:=h.ready;have h2:=h.none;cases rec;subst h1 h2;cases j <;> rfl

def bS.it(W:World)(p:Nat)(rec:Loop)(frl:List (Nat×AV)):bS where
 w:=W
 p:=p
 ro:=none
 G C:=C.nI=p∧∀t x,lk frl t=some x→jG p x∧c4 C x (rec.tmps.getD t undef)
 st C C' hM hp h:=⟨hM.nI.trans h.1,fun t x hx=>⟨(h.2 t x hx).1,(h.2 t x hx).2.mem hM hp (by rw[h.1];exact(h.2 t x hx).1)⟩⟩
 dx:=[]

def bS.rd(W:World)(p:Nat)(l:Nat):bS:=⟨W,p,some l,fun _=>True,fun _ _ _ _ _=>trivial,[]⟩

section
variable {P:Program} {W0:bS} {C:Ctx} {fr:Fr} {a:Act} {H:Heap} {o:Oper} {N:Nat}

theorem aoz{C':Ctx}(hI:Inv W0 C){b:Nat}(hb:C.sp b){ob:Obj}(hw:C'.w=C.w.putObj b ob)(hobjs:C'.H.bV=C.H.bV)(hnext:C'.H.next=C.H.next)(hpl:C'.pl=C.pl)(hprot:C'.cI=C.cI)(hpin:C'.nI=C.nI)
  (hsp:∀b,C'.sp b→C.sp b)(hlps:∀l r,lk C'.H.ec l=some r→C'.w.heap[l]? =some (.loop r))(hdfs:∀d,d∈C'.iu→C'.w.heap[d]? =some (.deferred (some [])))(hdnd:C'.iu.Nodup)(hrod:∀l,W0.ro=some l→C'.iu=[]):
  Mem C C'∧Inv W0 C'∧∀x v,c4 C x v→c4 C' x v:=by
 obtain⟨ob0,hd,hnc⟩:=hI.Pz hb
 have hsz:C'.w.heap.size=C.w.heap.size:=by rw[hw];simp
 have hne:∀q,q≠b→C'.w.heap[q]? =C.w.heap[q]? :=fun q hq=>by grind [World.putObj_heap_other]
 have hcell:∀{q:Nat} {arr:Array Value} {el:TypeId} {fz:Nat×Nat},C.w.heap[q]? =some (.cells arr el fz)→q≠b:=fun{q arr el fz} h hq=>by
  grind
 have hcellD:∀{q:Nat} {o:Obj},C.w.heap[q]? =some o→isD o→q≠b:=fun{q o} h h2 hq=>by
  subst hq;exact hI.AD hb h h2
 have hget:∀id,C'.H.get id=C.H.get id:=fun id=>by simp[Heap.get,hobjs]
 have hown:∀q,C'.own q→C.own q:=by
  rintro q (⟨id,es,h1,h2,h3⟩|h)
  ·exact .inl ⟨id,es,by grind,by grind,by grind⟩
  ·exact .inr (hsp q h)
 have hbad:∀q,C'.bad q→C.bad q:=fun q h=>h.imp (hown q) (fun h=>by grind)
 have hM:Mem C C':=⟨by rw[hw];exact⟨rfl,rfl,rfl,by simp,fun k hk=>absurd hk (aie k)⟩,fun q _ hq=>hne q (fun h=>hq (.inr (h▸hb))),fun q _ h=>hown q h,hprot,hpin,fun hp=>⟨by omega,fun k es' _ hg=>⟨⟨es',by grind⟩,by rw[hpl]⟩⟩⟩
 have hholds:∀{q i:Nat} {v:Value},Holds C.w q i v→Holds C'.w q i v:=fun{q i v} h=>by
  refine⟨?_,h.2⟩
  have hq:q≠b:=fun hq=>by
   have:=h.1
   simp_all [World.cell?]
  rw[World.cell?_of_block (w:=C.w) (a:=⟨q,i,none⟩) (hne q hq)]
  exact h.1
 have hrep:∀x v,c4 C x v→c4 C' x v:=by
  intro x v h
  induction h with
  |any v=>exact .any v
  |imm v hv=>exact .imm v hv
  |slNil a cap=>exact .slNil a cap
  |sl es q off sz cap c hlt hbd hc hf hcell _ ih=>exact .sl es q off sz cap c (by omega) (fun h=>hbd (hbad q h)) hc hf (fun i j e x he hx=>hholds (hcell i j e x he hx)) ih
  |clipNil a=>exact .clipNil a
  |clip es q off sz c hlt hbd hf hcell _ ih=>exact .clip es q off sz c (by omega) (fun h=>hbd (hbad q h)) hf (fun i j e x he hx=>hholds (hcell i j e x he hx)) ih
  |view id off len v hid hs h1=>exact .view id off len v (by omega) (fun es he=>by grind) h1
  |ref id i j v hid hs h1=>exact .ref id i j v (by omega) (fun es he=>by grind) h1
  |mref id v hid hs h1=>exact .mref id v (by omega) (fun es he=>by grind) h1
  |pp fl j q off c hlt hbd hcell _ ih=>exact .pp fl j q off c (by omega) (fun h=>hbd (hbad q h)) (fun k x hx=>hholds (hcell k x hx)) ih
  |agg cs vs hs h1 _ ih=>exact .agg cs vs hs h1 ih
  |tuple cs vs hs _ ih=>exact .tuple cs vs hs ih
  |ifc t x v _ ih=>exact .ifc t x v ih
  |fH fn caps vs hs _ ih=>exact .fH fn caps vs hs ih
 refine⟨hM, ?_,hrep⟩
 exact{
  fresh:=fun id es h=>by rw[hnext];exact hI.fresh id es (by grind)
  nil:=fun id es h hn=>hI.nil id es (by grind) (by grind)
  obj:=fun id es h hn=>by
   rw[hget] at h;rw[hpl] at hn ⊢
   have hO:=hI.obj id es h hn
   obtain⟨ob,h1,h2⟩:=hO.dat
   have hq:=hcellD h1 h2
   have hc:∀o,C'.w.cell? ⟨(C.pl id).de,o,none⟩=C.w.cell? ⟨(C.pl id).de,o,none⟩:=fun o=>World.cell?_of_block (w:=C.w) (a:=⟨_,o,none⟩) (hne _ hq)
   exact⟨hO.n,hO.cap,by rw[hne _ hq];exact hO.de,fun o v hv=>hO.one o v (by grind),hO.flat,fun i j e x v h1 h2 h3=>hrep _ _ (hO.cell i j e x v h1 h2 (by grind))⟩
  sep:=fun i1 i2 e1 e2 h1 h2 h3 h4 h5=>hI.sep i1 i2 e1 e2 (by grind) (by grind) (by grind) (by grind) (by grind)
  cI:=fun id es h hn hp=>hI.cI id es (by grind) (by grind) (by grind)
  jX:=fun id s h hn=>by
   rw[hpl] at hn ⊢
   exact hI.jX id s (by grind [Heap.sz]) hn
  dU:=fun q h=>by rw[hsz];exact hI.dU q (by grind)
  eG:=fun q h=>hI.eG q (by grind)
  size:=by rw[hsz];exact hI.size
  gD:=fun q h=>⟨by
   rw[←(hI.gD q h).1]
   exact hne q (fun hq=>(hI.gD q h).2 (.inr (hq▸hb))),fun ho=>(hI.gD q h).2 (hown q ho)⟩
  ec:=hlps
  iu:=hdfs
  BX:=hdnd
  Cn:=hrod
  eS:=fun q h hp=>hI.eS q (hsp q h) (by grind)
  lU:=by rw[hpin];exact hI.lU
  fe:=by rw[hpin,hnext];exact hI.fe
  gh:=W0.st C C' hM hI.fe hI.gh}

def Ctx.M8(C:Ctx)(l:Nat)(r:Loop):Ctx:={C with w:=C.w.putObj l (.loop r),H:={C.H with ec:=[(l,r)]}}

theorem NY(hI:Inv W0 C){l:Nat}{r0:Loop}(r:Loop)(hl:C.H.ec=[(l,r0)]):Mem C (C.M8 l r)∧Inv W0 (C.M8 l r)∧∀x v,c4 C x v→c4 (C.M8 l r) x v:=by
 have h0:C.w.heap[l]? =some (.loop r0):=hI.ec l r0 (by rw[hl];simp[lk]);refine aoz (C':=C.M8 l r) hI (b:=l) (.inl ⟨r0,by rw[hl];simp[lk]⟩) (ob:=.loop r) rfl rfl rfl rfl rfl rfl (fun b h=> ?_) (fun l' r' h=> ?_) (fun d h=> ?_) hI.BX hI.Cn
 ·rcases h with⟨r',h⟩|h
  ·simp only[Ctx.M8,lk] at h
   split at h
   ·rename_i hb;subst hb;exact .inl ⟨r0,by rw[hl];simp[lk]⟩
   ·cases h
  ·exact .inr h
 ·grind [Ctx.M8,lk,World.putObj_heap_same]
 ·have h1:=hI.iu d h
  rw[←h1];refine World.putObj_heap_other (fun hd=> ?_);grind


def KM(P:Program)(W:World)(p:Nat)(l:Nat)(rec:Loop)(frl:List (Nat×AV))(xs:List AV)(Hin:Heap)(b:Bool)(Hout:Heap):Prop:=
 ∀(C:Ctx) (vals:Array Value),Inv (.rd W p l) C→C.H=Hin→vals.size=xs.length→(∀(k:Nat) (x:AV),xs[k]? =some x→c4 C x (vals.getD k undef))→
  (∀t x,lk frl t=some x→c4 C x (rec.tmps.getD t undef))→
  RoundIn Fence.wide 0 P l rec.fn ((rec.params.zip vals).foldl (fun tmps (t,a)=>tmps.setIfInBounds t a) rec.tmps) rec.assign rec.body C.w
   (fun e w'=>∃C',e=.returned (.bool b)∧C'.w=w'∧Mem C C'∧Inv (.rd W p l) C'∧C'.H=Hout)

def BH:Exit→Option (Option Code)
 |.normal=>some none
 |.ret=>some (some .ret)
 |.exit id=>some (some (.exit id))
 |.goto t=>some (some (.goto t))
 |_=>none

theorem Lo(l:List (Nat×Value))(tm:Array Value):(l.foldl (fun tmps (t,a)=>tmps.setIfInBounds t a) tm).size=tm.size:=by
 induction l generalizing tm with
 |nil=>rfl
 |cons p l ih=>simp[ih]

theorem ML(l:List (Nat×Value))(tm:Array Value)(t:Nat):
  (∃(k:Nat) (v:Value),l[k]? =some (t,v)∧(l.foldl (fun tmps (t,a)=>tmps.setIfInBounds t a) tm).getD t undef=(if t<tm.size then v else undef))∨
  ((∀q∈l,q.1≠t)∧(l.foldl (fun tmps (t,a)=>tmps.setIfInBounds t a) tm).getD t undef=tm.getD t undef):=by
 induction l generalizing tm with
 |nil=>grind
 |cons p l ih=>
  obtain⟨s,u⟩:=p
  rcases ih (tm.setIfInBounds s u) with⟨k,v,h1,h2⟩|⟨h1,h2⟩
  ·left
   refine⟨k+1,v,by grind, ?_⟩
   grind
  ·by_cases hs:s=t
   ·subst hs
    left
    refine⟨0,u,rfl, ?_⟩
    simp_all
   ·right
    refine⟨fun q hq=> ?_, ?_⟩
    ·grind
    simp_all

def KI(ps:List Nat)(xs:List AV)(frl:List (Nat×AV)):List (Nat×AV):=ps.zip xs++frl

variable {fn:Func}{xs:List AV}{b:Bool}
theorem MZ{W:World}{p l N k:Nat}{rec:Loop}{frl:List (Nat×AV)}{Hin Hout:Heap}{ps:Array Tmp}{yc bd:Code}(hrec:yI rec fn k N)(hcode:(fn.body.bind fun c=>(jx c)[k]?)=some (ps,yc,bd))
  (hlp:Hin.ec=[(l,rec)])(hxs:xs.length=ps.size)(hN:ps.toList.all (fun t=>decide (t<N))=true)(hnd:ps.toList.Nodup)
  (h:iD P (.rd W p l) N yc ⟨KI ps.toList xs frl,Hin⟩ (fun e s=>e=.normal∧s.H.ec=[(l,rec)]∧
   iD P (.rd W p l) N bd ⟨s.fr,{s.H with ec:=[(l,{rec with state:=.busy})]}⟩ (fun e s=>s.H.ec=[(l,{rec with state:=.busy})]∧∃j,BH e=some j∧b=j.isNone∧
    b8 (.rd W p l) 0 ⟨[],{s.H with ec:=[(l,GQ rec j)]}⟩ ⟨[],Hout⟩))):
  KM P W p l rec frl xs Hin b Hout:=by
 intro C vals hI hH hsz hrep hrl;have hc:=hrec.code;rw[hcode] at hc;simp only[Option.some.injEq,Prod.mk.injEq] at hc;obtain⟨rfl,rfl,rfl⟩:=hc;have hzip:∀(i:Nat) (t:Nat) (v:Value),(rec.params.zip vals).toList[i]? =some (t,v)→rec.params.toList[i]? =some t∧vals.toList[i]? =some v:=fun i t v h=>by
  grind
 have hfold:(rec.params.zip vals).foldl (fun tmps (t,a)=>tmps.setIfInBounds t a) rec.tmps=(rec.params.zip vals).toList.foldl (fun tmps (t,a)=>tmps.setIfInBounds t a) rec.tmps:=by
  grind
 have hsize:((rec.params.zip vals).foldl (fun tmps (t,a)=>tmps.setIfInBounds t a) rec.tmps).size=N:=by
  rw[hfold,Lo,hrec.size]
 have hrel:Rel (.rd W p l) N (lk (KI rec.params.toList xs frl)) Hin C {tmps:=(rec.params.zip vals).foldl (fun tmps (t,a)=>tmps.setIfInBounds t a) rec.tmps,defers:=[]}:=by
  refine⟨hH,hI,hsize,by have:=hI.Cn l rfl;simp[this,bS.rd],fun t x hx=> ?_⟩;show c4 C x (((rec.params.zip vals).foldl (fun tmps (t,a)=>tmps.setIfInBounds t a) rec.tmps).getD t undef);rw[hfold];simp only[KI] at hx;rw[lC] at hx;rcases ML (rec.params.zip vals).toList rec.tmps t with⟨i,v,h1,h2⟩|⟨h1,h2⟩
  ·obtain⟨q1,q2⟩:=hzip i t v h1
   have htN:t<rec.tmps.size:=by
    rw[hrec.size];grind
   have hix:i<xs.length:=by grind
   have hz:lk (rec.params.toList.zip xs) t=some xs[i]:=by
    have key:∀(ps:List Nat) (xs:List AV) (i:Nat) (x:AV),ps.Nodup→ps[i]? =some t→xs[i]? =some x→lk (ps.zip xs) t=some x:=by
     intro ps
     induction ps with
     |nil=>grind
     |cons q ps ih=>
      intro xs i x hn hq hy;cases xs with
      |nil=>simp at hy
      |cons y ys=>
       cases i with
       |zero=>simp_all [lk]
       |succ i=>
        simp only[List.zip_cons_cons,lk];grind
    exact key _ _ i _ hnd q1 (ab9 hix)
   have:=hrep i xs[i] (ab9 hix);simp_all
  ·have hz:lk (rec.params.toList.zip xs) t=none:=by
    have key:∀(ps:List Nat) (xs:List AV),(∀q∈ps,q≠t)→lk (ps.zip xs) t=none:=by
     intro ps
     induction ps with
     |nil=>intro xs _;rfl
     |cons q ps ih=>
      intro xs hq;cases xs with
      |nil=>rfl
      |cons y ys=>
       simp_all [lk]
    refine key _ _ (fun q hq=> ?_);obtain⟨i,hi⟩:=ack hq;have hil:i<vals.toList.length:=by
     grind
    have hm:(q,vals.toList[i])∈(rec.params.zip vals).toList:=by
     grind [Array.toList_zip]
    grind
   grind
 refine roundIn_of_wpIn trivial (wpIn_mono (h C _ hrel) fun e a1 w1 ⟨s,C1,g1,g2,g3,g4⟩=> ?_);obtain⟨rfl,X4,hbody⟩:=g4;subst g1;have hl1:C1.w.heap[l]? =some (.loop rec):=g3.inv.ec l rec (by rw[g3.heap,X4];simp[lk]);obtain⟨m1,i1,r1⟩:=NY g3.inv {rec with state:=.busy} (by rw[g3.heap];exact X4);refine⟨C1.w.putObj l (.loop {rec with state:=.busy}),run_beginRound hl1 hrec.ready, ?_⟩;have amN:Rel (.rd W p l) N (lk s.fr) {s.H with ec:=[(l,{rec with state:=.busy})]} (C1.M8 l {rec with state:=.busy}) a1:=
  ⟨by simp only[Ctx.M8,g3.heap],i1,g3.size,g3.defers,fun t x hx=>r1 _ _ (g3.rep t x hx)⟩
 refine wpIn_mono (hbody _ _ amN) fun e a2 w2 ⟨s2,C2,q1,q2,q3,q4,j,q5,q6,q7⟩=> ?_;subst q1;have Zj:C2.w.heap[l]? =some (.loop {rec with state:=.busy}):=q3.inv.ec l _ (by rw[q3.heap,q4];simp[lk]);rw[←hrec.GQ] at q7;obtain⟨m2,i2,r2⟩:=NY q3.inv {rec with state:=if j.isNone then .ready else .done,pending:=j} (by rw[q3.heap];exact q4);have fin:∃v w',(Instr.endRound l j).run P C2.w=.ok v w'∧∃C',Ending.returned v=.returned (.bool b)∧C'.w=w'∧Mem C C'∧Inv (.rd W p l) C'∧C'.H=Hout:=by
  obtain⟨C3,p1,p2,p3⟩:=q7 (C2.M8 l {rec with state:=if j.isNone then .ready else .done,pending:=j}) {tmps:= #[],defers:=[]} ⟨by simp only[Ctx.M8,q3.heap],i2,rfl,by rw[i2.Cn l rfl];rfl,fun t x hx=>by simp[lk] at hx⟩;refine⟨_,_,run_endRound j Zj,C3,by rw[q6], ?_,g2.trans (m1.trans (q2.trans (m2.trans p2))),p3.inv,p3.heap⟩;rw[p1];rfl
 cases e with
 |normal=>simp only[BH,Option.some.injEq] at q5;subst q5;exact fin
 |ret=>simp only[BH,Option.some.injEq] at q5;subst q5;exact fin
 |exit id=>simp only[BH,Option.some.injEq] at q5;subst q5;exact fin
 |goto t=>simp only[BH,Option.some.injEq] at q5;subst q5;exact fin
 |panic c=>simp[BH] at q5
 |outgrown=>simp[BH] at q5

theorem aei{Hs Ht:Heap}{g:List (Nat×Nat)}{nw:List Nat}{x x':AV}(ho:Hs.bV=Ht.bV)(h:gi Hs g nw x x'):gi Ht g nw x x':=by
 have hget:∀id,Hs.get id=Ht.get id:=fun id=>by simp[Heap.get,ho]
 induction h with
 |same x h=>exact .same x h
 |any x=>exact .any x
 |view h=>exact .view h
 |viewL h h2=>exact .viewL h h2
 |ref h=>exact .ref h
 |mref h=>exact .mref h
 |nil h=>exact .nil h
 |lend h1 h2 h3 h4=>exact .lend (by grind) h2 h3 h4
 |agg cs cs' hl _ ih=>exact .agg cs cs' hl ih
 |tuple cs cs' hl _ ih=>exact .tuple cs cs' hl ih
 |fH fn cs cs' hl _ ih=>exact .fH fn cs cs' hl ih
 |ifc t x x' _ ih=>exact .ifc t x x' ih
 |wide es h=>exact .wide es h
 |nilsl=>exact .nilsl
 |frz h1 h2 h3 h4 h5=>exact .frz (by grind) h2 h3 h4 h5
theorem N8{Hs Ht:Heap}{g:List (Nat×Nat)}{nw:List Nat}{fr:List (Nat×AV)}(ho:Hs.bV=Ht.bV):∀{l:List (Nat×AV)},Seen Hs g nw fr l→Seen Ht g nw fr l
 |[],_=>trivial
 |_::_,⟨⟨x,h1,h2⟩,h3⟩=>⟨⟨x,h1,aei ho h2⟩,N8 ho h3⟩
theorem aa1{Hs:Heap}{g:List (Nat×Nat)}{nw:List Nat}{fr:List (Nat×AV)}{l:List (Nat×AV)}{ll:List (Nat×Loop)}(h:Seen {Hs with ec:=[]} g nw fr l):Seen {Hs with ec:=ll} g nw fr l:=N8 (Hs:={Hs with ec:=[]}) (Ht:={Hs with ec:=ll}) rfl h


theorem KT{ok:AV→Prop}{args:Array Operand}{tys:Array TypeId}{f:Operand}{ys:List AV}{Hs Hin Hout H':Heap}{g m:List (Nat×Nat)}{nw:List Nat}{p l k N:Nat}{rec:Loop}{frl:List (Nat×AV)}{W:World}
  (ho:o.op=.call {callee:=.value f,args:=args,argTypes:=tys})(hf:aD fr f=some (.fH (.yield l) []))(hys:args.toList.mapM (aD fr)=some ys)
  (hround:KM P W p l rec frl xs Hin b Hout)(hrec:yI rec fn k N)(hlp:Hs.ec=[(l,rec)])(hps:rec.params.size=ys.length)
  (h:Pass ok (bN 0 ys) (bN 0 xs) H Hs Hin Hout H' g m nw p (.imm (.bool b)) (.imm (.bool b)))(hl:xs.length=ys.length)(hg:(aeD p).all (fun k=>lk g k==some k)=true)(hnp:(aeD p).all (fun k=> !nw.contains k)=true):
  af8 P (.it W p rec frl) o fr H (.imm (.bool b)) H':=by
 intro C a hI hH hop K Q hK
 have hopy:∀y∈args.toList,yV C fr a y:=fun y hy=>hop y (by grind [Op.operands,Call.operands])
 have MP:=D_ hopy hys
 have h1:=h.agZ hI hH MP.1 MP.2
 have h2:Inv (.rd W p l) (C.sub Hs Hin g p):=h1.inv.aaQ (W0:=.it W p rec frl) rfl rfl (of_decide_eq_true h.Su) rfl trivial
 have hfv:a.eval f=.func (.yield l) #[] #[]:=by
  have hmem:f∈o.op.operands:=by grind [Op.operands,Call.operands]
  have:=aQ (hop f hmem) hf
  generalize a.eval f=v at this
  cases this with
  |fH _ _ vs hs _=>
   grind
 have hlr:C.w.heap[l]? =some (.loop rec):=hI.ec l rec (by
  have:=h.LF.ec l rec (by rw[hlp];simp[lk])
  grind)
 have hyr:=run_yield (P:=P) (args:=args.map a.eval) hlr (by omega)
 have hrun:(execOp a.eval o).run P C.w=.ok (.round l rec.fn ((rec.params.zip (args.map a.eval)).foldl (fun tmps (t,a)=>tmps.setIfInBounds t a) rec.tmps) rec.assign rec.body) C.w:=by
  grind [execOp,resolve,Deferred.ofValue,invoke]
 -- what the rounds' frame holds, as the callee sees it
 have hfrl:∀t x,lk frl t=some x→c4 (C.sub Hs Hin g p) x (rec.tmps.getD t undef):=fun t x hx=>by
  obtain⟨hu,hr⟩:=hI.gh.2 t x hx
  have hp:=h.LF
  rw[←hH] at hp
  have hle:p≤Hin.next:=of_decide_eq_true h.Su
  have key:∀x v,jG p x→c4 C x v→c4 (C.sub Hs Hin g p) x v:=by
   intro x v hu hr
   have hbad:∀b,(C.sub Hs Hin g p).bad b→C.bad b:=fun b hb=>by
    have QY:((C.qM Hs).re g Hin).bad b:=hb
    rcases QY with QY|QY
    ·refine .inl ?_
     rcases QY with⟨n,es',q1,q2,q3⟩|⟨r,q⟩|q
     ·obtain⟨⟨s,e⟩,q4,q5⟩:=Option.map_eq_some_iff.1 (show(lk Hin.bV n).map (·.2)=some es' from q1)
      rcases(h.held.spec q4).1 with⟨old,es,w1,w2,_⟩|⟨w,_⟩
      ·have hpl:((C.qM Hs).re g Hin).pl n=C.pl old:=by simp[Ctx.re,Ctx.qM,w1]
       rw[hpl] at q2 q3
       refine .inl ⟨old,es, ?_,q2,q3⟩
       have:=hp.bV old _ w2
       simp[Heap.get,this]
      ·have hno:lk g n=none:=by
        have:=List.all_eq_true.1 h.TA n w
        simp_all
       grind [Ctx.re]
     ·exact .inr (.inl ⟨r,hp.ec b r (by rw[←h.A5];exact q)⟩)
     grind [Ctx.re,Ctx.qM]
    ·rcases QY with QY|QY
     ·exact .inr QY
     ·exact .inl QY.1
   have hids:∀id,id<p→∀es',Hin.get id=some es'→∃es,C.H.get id=some es∧(C.sub Hs Hin g p).pl id=C.pl id:=fun id hid es' hes=>by
    obtain⟨⟨s,e⟩,q4,q5⟩:=Option.map_eq_some_iff.1 (show(lk Hin.bV id).map (·.2)=some es' from hes)
    have hgi:lk g id=some id:=by
     grind
    rcases(h.held.spec q4).1 with⟨old,es,w1,w2,_⟩|⟨w,_⟩
    ·rw[hgi] at w1;cases w1
     have:=hp.bV id _ w2
     simp_all [Heap.get,Ctx.sub,Ctx.re,Ctx.qM]
    grind
   induction hr with
   |any v=>exact .any v
   |imm v hv=>exact .imm v hv
   |slNil a cap=>exact .slNil a cap
   |sl es b off sz cap c hlt hn hc hf hcell _ ih=>
    cases hu with
    |sl _ hu=>exact .sl es b off sz cap c hlt (fun h=>hn (hbad b h)) hc hf hcell (fun i j e x he hx=>ih i j e x he hx (hu e (ad7 he) x (ad7 hx)))
   |clipNil a=>exact .clipNil a
   |clip es b off sz c hlt hn hf hcell _ ih=>
    cases hu with
    |clip _ hu=>exact .clip es b off sz c hlt (fun h=>hn (hbad b h)) hf hcell (fun i j e x he hx=>ih i j e x he hx (hu e (ad7 he) x (ad7 hx)))
   |view id off len v hid hs h1=>
    cases hu with
    |view _ _ _ hu=>
    refine .view id off len v (afs hu hle) (fun es he=> ?_) h1
    obtain⟨Hj,q1,q2⟩:=hids id hu es he
    grind
   |ref id i j v hid hs h1=>
    cases hu with
    |ref _ _ _ hu=>
    refine .ref id i j v (afs hu hle) (fun es he=> ?_) h1
    obtain⟨Hj,q1,q2⟩:=hids id hu es he
    grind
   |mref id v hid hs h1=>
    cases hu with
    |mref _ hu=>
    refine .mref id v (afs hu hle) (fun es he=> ?_) h1
    obtain⟨Hj,q1,q2⟩:=hids id hu es he
    grind
   |pp fl j b off c hlt hn hcell _ ih=>
    cases hu with
    |pp _ _ hu=>exact .pp fl j b off c hlt (fun h=>hn (hbad b h)) hcell (fun k x hx=>ih k x hx (hu x (ad7 hx)))
   |agg cs vs hs h1 _ ih=>cases hu with|agg _ hu=>exact .agg cs vs hs h1 (fun k x hx=>ih k x hx (hu x (ad7 hx)))
   |tuple cs vs hs _ ih=>cases hu with|tuple _ hu=>exact .tuple cs vs hs (fun k x hx=>ih k x hx (hu x (ad7 hx)))
   |ifc t x v _ ih=>cases hu with|ifc _ _ hu=>exact .ifc t x v (ih hu)
   |fH fn caps vs hs _ ih=>cases hu with|fH _ _ hu=>exact .fH fn caps vs hs (fun k x hx=>ih k x hx (hu x (ad7 hx)))
  grind
 refine⟨fun _ _=>trivial, ?_⟩
 show o.uponIn Fence.wide 0 P a K Q ((execOp a.eval o).run P C.w)
 rw[hrun]
 refine⟨fun hd=>by simp[Fence.wide] at hd, ?_⟩
 refine(hround (C.sub Hs Hin g p) (args.map a.eval) h2 rfl (by omega) (fun k x hx=>vt (Ap h1 k x hx)) hfrl).mono ?_
 rintro e w' ⟨C2,rfl,rfl,hM,Hl,X0⟩
 obtain⟨q1,q2,q3⟩:=h.aam (W0:=.it W p rec frl) (B1:=.rd W p l) hI hH rfl hM Hl X0 (Hl.Cn l rfl)
 exact hK _ (C.back C2 H') q1 q2 rfl (q3 _ (.imm _ rfl))


def Ctx.lay(C:Ctx)(r:Loop):Ctx:=
 {C with w:=(C.w.alloc (.deferred (some []))).alloc (.loop r),H:={C.H with ec:=[(C.w.heap.size+1,r)]},iu:=C.w.heap.size::C.iu}

theorem WV(hI:Inv W0 C)(r:Loop)(hl:C.H.ec=[])(hro:W0.ro=none):Mem C (C.lay r)∧Inv W0 (C.lay r)∧∀x v,c4 C x v→c4 (C.lay r) x v:=by
 have hB:RowKit.Below C.w.heap.size C.w (C.lay r).w:=((RowKit.Below.refl _ _).alloc (afk _) _).alloc (by simp) _;have hs:(C.lay r).w.heap.size=C.w.heap.size+2:=by show((C.w.alloc _).alloc _).heap.size=_;simp_all
 have h0:(C.lay r).w.heap[C.w.heap.size]? =some (.deferred (some [])):=by
  show((C.w.alloc (.deferred (some []))).heap.push _)[C.w.heap.size]? =_;rw[Array.getElem?_push_lt (by simp_all)];grind [wC]
 have h1:(C.lay r).w.heap[C.w.heap.size+1]? =some (.loop r):=by
  have:=wC (C.w.alloc (.deferred (some []))) (.loop r);rw[SF] at this;exact this
 have hsp:∀b,(C.lay r).sp b→C.sp b∨C.w.heap.size≤b:=by
  rintro b (⟨r',h⟩|h)
  ·grind [Ctx.lay,lk]
  ·rcases List.mem_cons.1 h with h|h
   ·omega
   ·exact .inl (.inr h)
 have hown:∀b,(C.lay r).own b→C.own b∨C.w.heap.size≤b:=by
  rintro b (h|h)
  ·exact .inl (.inl h)
  ·exact(hsp b h).imp .inr id
 have hbadl:∀b,b<C.w.heap.size→(C.lay r).bad b→C.bad b:=fun b hb h=>by
  rcases h with h|h
  ·rcases hown b h with h|h
   ·exact .inl h
   ·omega
  ·exact .inr h
 have hM:Mem C (C.lay r):=⟨⟨rfl,rfl,rfl,by omega,fun k hk=>absurd hk (aie k)⟩,fun b hb hn=>hB.block b hb,fun b hb h=>by
  grind,rfl,rfl,fun hp=>⟨hp,fun k es' _ hg=>⟨⟨es',hg⟩,rfl⟩⟩⟩
 have hholds:∀{b i:Nat} {v:Value},b<C.w.heap.size→Holds C.w b i v→Holds (C.lay r).w b i v:=fun{b i v} hb h=>by
  refine⟨?_,h.2⟩;rw[World.cell?_of_block (w:=C.w) (a:=⟨b,i,none⟩) (hB.block b hb)];exact h.1
 have hrep:∀x v,c4 C x v→c4 (C.lay r) x v:=by
  intro x v h
  induction h with
  |any v=>exact .any v
  |imm v hv=>exact .imm v hv
  |slNil a cap=>exact .slNil a cap
  |sl es b off sz cap c hlt hbd hc hf hcell _ ih=>exact .sl es b off sz cap c (by omega) (fun h=>hbd (hbadl b hlt h)) hc hf (fun i j e x he hx=>hholds hlt (hcell i j e x he hx)) ih
  |clipNil a=>exact .clipNil a
  |clip es b off sz c hlt hbd hf hcell _ ih=>exact .clip es b off sz c (by omega) (fun h=>hbd (hbadl b hlt h)) hf (fun i j e x he hx=>hholds hlt (hcell i j e x he hx)) ih
  |view id off len v hid hs' h1=>exact .view id off len v hid hs' h1
  |ref id i j v hid hs' h1=>exact .ref id i j v hid hs' h1
  |mref id v hid hs' h1=>exact .mref id v hid hs' h1
  |pp fl j b off c hlt hbd hcell _ ih=>exact .pp fl j b off c (by omega) (fun h=>hbd (hbadl b hlt h)) (fun k x hx=>hholds hlt (hcell k x hx)) ih
  |agg cs vs hs' h1 _ ih=>exact .agg cs vs hs' h1 ih
  |tuple cs vs hs' _ ih=>exact .tuple cs vs hs' ih
  |ifc t x v _ ih=>exact .ifc t x v ih
  |fH fn caps vs hs' _ ih=>exact .fH fn caps vs hs' ih
 refine⟨hM, ?_,hrep⟩;exact{
  fresh:=hI.fresh
  nil:=hI.nil
  obj:=fun id es h hn=>by
   have hO:=hI.obj id es h hn;have hlt:=hI.lt h hn;have hc:∀o,(C.lay r).w.cell? ⟨(C.pl id).de,o,none⟩=C.w.cell? ⟨(C.pl id).de,o,none⟩:=fun o=>World.cell?_of_block (w:=C.w) (a:=⟨_,o,none⟩) (hB.block _ hlt);exact⟨hO.n,hO.cap,(by have e:(C.lay r).w.heap[((C.lay r).pl id).de]? =C.w.heap[(C.pl id).de]? :=hB.block _ hlt;rw[e];exact hO.de),fun o v hv=>hO.one o v (by rw[←hc o];exact hv),hO.flat,fun i j e x v h1 h2 h3=>hrep _ _ (hO.cell i j e x v h1 h2 (by rw[←hc];exact h3))⟩
  sep:=hI.sep
  cI:=hI.cI
  jX:=hI.jX
  dU:=fun b h=>afs (hI.dU b h) hB.size
  eG:=hI.eG
  size:=afp hI.size hB.size
  gD:=fun b h=>⟨by rw[←(hI.gD b h).1];exact hB.block b (afs h hI.size),fun ho=>by
   rcases hown b ho with h'|h'
   ·exact(hI.gD b h).2 h'
   ·have:=hI.size;omega⟩
  ec:=fun l r' h=>by
   grind [Ctx.lay,lk]
  iu:=fun d h=>by
   rcases List.mem_cons.1 h with h|h
   ·grind
   ·have h2:=hI.iu d h
    rw[←h2];exact hB.block d (Array.getElem?_eq_some_iff.1 h2).1
  BX:=List.nodup_cons.2 ⟨fun h=>by
   have h2:=hI.iu _ h;grind,hI.BX⟩
  Cn:=fun l h=>by grind
  eS:=fun b h hp=>by
   rcases hsp b h with h|h
   ·exact hI.eS b h hp
   ·have:=hI.dU b hp;omega
  lU:=hI.lU
  fe:=hI.fe
  gh:=W0.st C _ hM hI.fe hI.gh}

theorem Wt{ok:AV→Prop}{Q:Exit→St→Prop}{g0:Operand}{ps:Array Tmp}{yc bd j:Code}{frl fr:List (Nat×AV)}{H:Heap}{fi:FuncId}{caps:List AV}{k p:Nat}{r:AV}{Hs Hin Hout H':Heap}{g m:List (Nat×Nat)}{nw:List Nat}
  (hro:W0.ro=none)(hcode:(fn.body.bind fun c=>(jx c)[k]?)=some (ps,yc,bd))(hg:aD (lk fr) g0=some (.fH (.func fi) caps))(hc:gO P fi)(hHl:H.ec=[])(hul:∀t x,lk frl t=some x→jG p x)
  (hseen:Seen {Hs with ec:=[]} g nw fr frl)
  (hit:∀(l:Nat) (rec:Loop),yI rec fn k N→Bs P (.it W0.w p rec frl) fi (.fH (.yield l) []::xs) {Hin with ec:=[(l,rec)]} r {Hout with ec:=[(l,yq rec j b)]})
  (hpass:∀(l:Nat) (rec:Loop),Pass ok (bN 0 (.fH (.yield l) []::caps)) (bN 0 (.fH (.yield l) []::xs)) {H with ec:=[(l,rec)]} {Hs with ec:=[(l,rec)]} {Hin with ec:=[(l,rec)]} {Hout with ec:=[(l,yq rec j b)]} {H' with ec:=[(l,yq rec j b)]} g m nw p r .any)
  (hl:xs.length=caps.length)(hnext:b=true→Q .normal ⟨fr,{H' with ec:=[]}⟩)(hjump:b=false→iD P W0 N j ⟨fr,{H' with ec:=[]}⟩ Q):
  iD P W0 N (.rangeFunc g0 ps yc bd) ⟨fr,H⟩ Q:=fun C a hr=>by
 rw[hro,xh]
 refine wpIn_rangeFunc fun fnid _=> ?_
 -- the record
 let rc:Loop:={state:=.ready,pending:=none,fn:=fnid,tmps:=a.tmps,params:=ps,assign:=yc,body:=bd,defers:=C.w.heap.size}
 have hrec:yI rc fn k N:=⟨rfl,rfl,hcode,hr.size⟩
 obtain⟨m1,i1,r1⟩:=WV hr.inv rc (by rw[hr.heap];exact hHl) hro
 have hgv:=aQ (C:=C) (a:=a) (fun q _ av hav=>hr.rep q av hav) hg
 obtain⟨vs,hvs,hsz,hcap⟩:∃vs:Array Value,a.eval g0=.func (.func fi) #[] vs∧vs.size=caps.length∧∀(k:Nat) (x:AV),caps[k]? =some x→c4 C x (vs.getD k undef):=by
  generalize a.eval g0=u at hgv
  match hgv with
  |.fH _ _ vs h1 h2=>grind
 refine⟨C.w.heap.size+1,[{target:=.collected C.w.heap.size,args:= #[]}],(C.lay rc).w,{target:=.fn (.func fi) vs,args:= #[.func (.yield (C.w.heap.size+1)) #[] #[]]},(C.lay rc).w,fi, #[.func (.yield (C.w.heap.size+1)) #[] #[]]++vs,(C.lay rc).w,run_enterLoop_outer fnid a.tmps ps yc bd, ?_,fun _ _=>trivial, ?_,fun h=>by simp[Fence.wide] at h, ?_⟩
 ·simp_all [resolve,Act.eval,Deferred.ofValue]
 ·simpa [invoke] using hc (#[.func (.yield (C.w.heap.size+1)) #[] #[]]++vs) (C.lay rc).w
 ·refine callsIn_wide.2 ?_
  have hHL:(C.lay rc).H={H with ec:=[(C.w.heap.size+1,rc)]}:=by simp only[Ctx.lay,hr.heap]
  have hrep:∀t x,lk (bN 0 (.fH (.yield (C.w.heap.size+1)) []::caps)) t=some x→c4 (C.lay rc) x ((#[Value.func (.yield (C.w.heap.size+1)) #[] #[]]++vs).getD t undef):=fun t x hx=>by
   obtain⟨_,h2⟩:=wT _ 0 t x hx
   cases t with
   |zero=>
    simp at h2;subst h2
    have:(#[Value.func (.yield (C.w.heap.size+1)) #[] #[]]++vs).getD 0 undef=.func (.yield (C.w.heap.size+1)) #[] #[]:=by
     simp_all [ajy]
    rw[this]
    exact .fH _ [] #[] rfl (fun k x h=>by simp at h)
   |succ t=>
    have hlt:t<vs.size:=by grind
    have:(#[Value.func (.yield (C.w.heap.size+1)) #[] #[]]++vs).getD (t+1) undef=vs.getD t undef:=by
     simp_all [ajz]
    grind
  have hps:=hpass (C.w.heap.size+1) rc
  have hpart:=hps.LF
  rw[←hHL] at hpart
  have hG:(bS.it W0.w p rc frl).G ((C.lay rc).sub {Hs with ec:=[(C.w.heap.size+1,rc)]} {Hin with ec:=[(C.w.heap.size+1,rc)]} g p):=by
   refine⟨rfl,fun t x hx=>⟨hul t x hx, ?_⟩⟩
   have MP:Rel (.of W0.w) N (lk fr) {Hs with ec:=[(C.w.heap.size+1,rc)]} ((C.lay rc).qM {Hs with ec:=[(C.w.heap.size+1,rc)]}) {tmps:=a.tmps,defers:=[]}:=
    ⟨rfl,i1.qM hpart,hr.size,rfl,fun t x hx=>(r1 _ _ (hr.rep t x hx)).qM hpart⟩
   have hs2:Seen {Hs with ec:=[(C.w.heap.size+1,rc)]} g nw fr frl:=aa1 hseen
   exact vt ((Pu (st:=⟨fr,{Hs with ec:=[(C.w.heap.size+1,rc)]}⟩) g nw hps.inj hps.lt hps.TA hps.held hs2 (by rfl) rfl MP).2.rep t x hx)
  refine(call3 (W0:=W0) (C:=C.lay rc) (hit (C.w.heap.size+1) rc hrec) rfl rfl hps (by simp[hl]) i1 hHL (by grind) hrep hG).mono ?_
  rintro e w' ⟨v,C2,rfl,rfl,hE,Hl,X0,_⟩
  have Zj:C2.w.heap[C.w.heap.size+1]? =some (.loop (yq rc j b)):=Hl.ec _ _ (by rw[X0];simp[lk])
  have hbusy:(yq rc j b).state≠.busy:=by cases b <;> simp[yq,rc]
  -- the record is of no more use
  let C3:Ctx:={C2 with w:=C2.w.putObj (C.w.heap.size+1) (.loop {yq rc j b with state:=.exhausted}),H:={C2.H with ec:=[]}}
  obtain⟨m3,i3,r3⟩:=aoz (C':=C3) Hl (b:=C.w.heap.size+1) (.inl ⟨_,by rw[X0];simp[lk];rfl⟩) (ob:=.loop {yq rc j b with state:=.exhausted}) rfl rfl rfl rfl rfl rfl (fun b h=>by
    rcases h with⟨r',h⟩|h
    ·simp[C3,lk] at h
    ·exact .inr h) (fun l r' h=>by simp[C3,lk] at h) (fun d h=>by
    have h1:=Hl.iu d h
    grind [World.putObj_heap_other]) Hl.BX Hl.Cn
  have afq:Rel W0 N (lk fr) {H' with ec:=[]} C3 {a with defers:=[{target:=.collected C.w.heap.size,args:= #[]}]++a.defers}:=by
   refine⟨by grind,i3,hr.size, ?_,fun t x hx=>r3 _ _ ((r1 _ _ (hr.rep t x hx)).ext hE)⟩
   rw[hE.iu]
   rw[hr.defers];rfl
  have hMM:Mem C C3:=m1.trans (hE.mem.trans m3)
  refine⟨(yq rc j b).pending,C3.w,run_endLoop Zj hbusy, ?_⟩
  cases b with
  |true=>exact⟨⟨fr,{H' with ec:=[]}⟩,C3,rfl,hMM,afq,hnext rfl⟩
  |false=>
   have:=(hjump rfl).at hMM afq
   rw[hro,xh] at this
   exact this

end

def I7(p:Nat):List (Nat×AV)→Prop
 |[]=>True
 |(_,x)::r=>jG p x∧I7 p r
theorem I7.spec{p:Nat}:∀{l:List (Nat×AV)},I7 p l→∀t x,lk l t=some x→jG p x
 |[],_,_,_,h=>by cases h
 |(q,u)::l,hl,t,x,h=>by
  simp only[lk] at h;split at h
  ·cases h;exact hl.1
  ·exact I7.spec hl.2 t x h
theorem jG.lT{p:Nat}{x:AV}(h:bQ x):jG p x:=by
 have fl:∀(e x:AV),x∈e.flat→bQ e→(∀y∈e.flat,bQ y):=fun e x _ hn y hy=>by
  cases e <;> simp only[AV.flat,aeq] at hy
  case agg cs=>simp_all
  case fL=>simp at hy
  all_goals (rw[hy];exact hn)
 have key:∀x:AV,bQ x→jG p x∧∀y∈x.flat,jG p y:=by
  intro x h
  induction h with
  |any=>exact⟨.any,fun y hy=>by simp only[AV.flat,aeq] at hy;rw[hy];exact .any⟩
  |imm v=>exact⟨.imm v,fun y hy=>by simp only[AV.flat,aeq] at hy;rw[hy];exact .imm v⟩
  |fL l=>exact⟨.fL l,fun y hy=>by simp[AV.flat] at hy⟩
  |sl es _ ih=>
   have:jG p (.sl es):=.sl es (fun e he x hx=>(ih e he).2 x hx);grind [AV.flat]
  |clip es _ ih=>
   have:jG p (.clip es):=.clip es (fun e he x hx=>(ih e he).2 x hx);grind [AV.flat]
  |pp fl j _ ih=>
   have:jG p (.pp fl j):=.pp fl j (fun e he=>(ih e he).1);grind [AV.flat]
  |agg cs _ ih=>exact⟨.agg cs (fun e he=>(ih e he).1),fun y hy=>by grind [AV.flat]⟩
  |tuple cs _ ih=>
   have:jG p (.tuple cs):=.tuple cs (fun e he=>(ih e he).1);grind [AV.flat]
  |ifc t x _ ih=>
   have:jG p (.ifc t x):=.ifc t x ih.1;grind [AV.flat]
  |fH fn cs _ ih=>
   have:jG p (.fH fn cs):=.fH fn cs (fun e he=>(ih e he).1);grind [AV.flat]
 grind
end Go.Av
end

section
namespace Go.Av

section
variable {P:Program} {W0:bS} {C:Ctx} {fr:Fr} {a:Act} {H:Heap} {o:Oper} {N:Nat}

variable {f:FuncId}{ys:List AV}
theorem Enters.fH{x:Operand}{args:Array Operand}{tys:Array TypeId}{caps:List AV}(ho:o.op=.call {callee:=.value x,args:=args,argTypes:=tys})(hx:aD fr x=some (.fH (.func f) caps))(hys:args.toList.mapM (aD fr)=some ys)(hc:gO P f):Enters P o fr f (ys++caps):=fun C a hop=>by
 have hopy:∀y∈args.toList,yV C fr a y:=fun y hy=>hop y (by grind [Op.operands,Call.operands])
 obtain⟨h1,h2⟩:=D_ hopy hys
 have hv:=aQ (hop x (by grind [Op.operands,Call.operands])) hx
 obtain⟨vs,hvs,hsz,hcap⟩:∃vs:Array Value,a.eval x=.func (.func f) #[] vs∧vs.size=caps.length∧∀(k:Nat) (x:AV),caps[k]? =some x→c4 C x (vs.getD k undef):=by
  generalize a.eval x=u at hv
  match hv with
  |.fH _ _ vs h1 h2=>grind
 refine⟨args.map a.eval++vs,fun w=> ?_,by grind,fun t z hz=> ?_⟩
 ·have:=hc (args.map a.eval++vs) w
  grind [execOp,resolve,Deferred.ofValue,invoke]
 ·obtain⟨_,h3⟩:=wT (ys++caps) 0 t z hz
  by_cases ht:t<ys.length
  ·have:(args.map a.eval++vs).getD t undef=(args.map a.eval).getD t undef:=by
    simp_all [ajy]
   have key:∀(xs:List AV) (q k:Nat) (x:AV),xs[k]? =some x→lk (bN q xs) (q+k)=some x:=by
    intro xs
    induction xs with
    |nil=>grind
    |cons y ys ih=>
     intro q k x hk
     cases k with
     |zero=>grind [bN,lk]
     |succ k=>
      simp only[bN,lk]
      grind
   grind
  simp_all [List.getElem?_append_right,ajz]

theorem Enters.iface{x:Operand}{name:String}{t:TypeId}{args:Array Operand}{tys:Array TypeId}{z:AV}(ho:o.op=.call {callee:=.invoke x name,args:=args,argTypes:=tys})(hx:aD fr x=some (.ifc t z))(hys:args.toList.mapM (aD fr)=some ys)
  (hm:∀v w,(method (P.types.size+Made.depth) t v name).run P w=.ok (f,v) w)(hc:gO P f):Enters P o fr f (z::ys):=fun C a hop=>by
 have hopy:∀y∈args.toList,yV C fr a y:=fun y hy=>hop y (by grind [Op.operands,Call.operands])
 obtain⟨h1,h2⟩:=D_ hopy hys
 have hv:=aQ (hop x (by grind [Op.operands,Call.operands])) hx
 obtain⟨v,hvs,hrep⟩:∃v:Value,a.eval x=.iface t v∧c4 C z v:=by
  generalize a.eval x=u at hv
  match hv with
  |.ifc _ _ v h1=>grind
 refine⟨#[v]++args.map a.eval,fun w=> ?_,by grind,fun k y hk=> ?_⟩
 ·have h3:=hc (#[v]++args.map a.eval) w
  have e1:(#[Value.iface t v]++args.map a.eval)[0]? =some (.iface t v):=by grind
  have e3:(args.map a.eval).extract 0 args.size=args.map a.eval:=by
   grind
  have e4:(#[Value.iface t v]++args.map a.eval).extract 1 (#[Value.iface t v]++args.map a.eval).size=args.map a.eval:=by
   simp[e3]
  have h5:(invoke (.fn (.method name) #[]) (#[.iface t v]++args.map a.eval)).run P w=.ok (.enter f (#[v]++args.map a.eval)) w:=by
   simp only[invoke,e1,callMethod]
   rw[e4,Sem.run_bind]
   simp_all
  simp_all [execOp,resolve]
 ·obtain⟨_,h3⟩:=wT (z::ys) 0 k y hk
  cases k with
  |zero=>
   simp_all [ajy]
  |succ k=>
   have:(#[v]++args.map a.eval).getD (k+1) undef=(args.map a.eval).getD k undef:=by
    simp_all [ajz]
   have key:∀(xs:List AV) (q k:Nat) (x:AV),xs[k]? =some x→lk (bN q xs) (q+k)=some x:=by
    intro xs
    induction xs with
    |nil=>grind
    |cons y ys ih=>
     cases k with
     |zero=>grind [bN,lk]
     |succ k=>
      simp only[bN,lk]
      grind
   grind

theorem wE{ok:AV→Prop}{xs:List AV}{r r':AV}{Hs Hin Hout H':Heap}{g m:List (Nat×Nat)}{nw:List Nat}{p:Nat}(he:Enters P o fr f ys)
  (hf:Bs P (.pinned W0.w p) f xs Hin r Hout)(h:Pass ok (bN 0 ys) (bN 0 xs) H Hs Hin Hout H' g m nw p r r')(hl:xs.length=ys.length):b_ P W0 o fr H r' H':=by
 intro C a hI hH hop K Q hK;obtain⟨vals,hrun,h1,h2⟩:=he C a hop;unfold Oper.wp;rw[hrun,Oper.upon_enter];refine(call3 (W0:=W0) hf rfl rfl h hl hI hH h1 h2 trivial).mono ?_;grind


def XX(P:Program)(W0:bS)(N:Nat)(c:Code)(Q:Exit→St→Prop):Nat→St→Prop
 |0,_=>False
 |n+1,s=>iD P W0 N c s (mI (XX P W0 N c Q n) Q)

theorem UR{c:Code}{st:St}{Q:Exit→St→Prop}(n:Nat)(h:XX P W0 N c Q n st):iD P W0 N (.loop c) st Q:=by
 classical
 refine Ql (fun s=>∃m,XX P W0 N c Q m s) (fun s=>if h:∃m,XX P W0 N c Q m s then Classical.choose (exists_least _ h) else 0) ⟨n,h⟩ ?_;intro s hs;have hm:(if h:∃m,XX P W0 N c Q m s then Classical.choose (exists_least _ h) else 0)=Classical.choose (exists_least _ hs):=dif_pos hs;rw[hm];have h1:=(Classical.choose_spec (exists_least _ hs)).1;generalize Classical.choose (exists_least _ hs)=k at h1;cases k with
 |zero=>exact h1.elim
 |succ k=>
  refine iD.mono h1 fun e s1 h2=> ?_;cases e with
  |normal=>
   have h3:∃m,XX P W0 N c Q m s1:=⟨k,h2⟩;refine⟨s1,b8.refl _,h3, ?_⟩;rw[dif_pos h3];exact Nat.lt_succ_of_le ((Classical.choose_spec (exists_least _ h3)).2 k h2)
  |_=>exact h2
end


section
variable {P:Program} {W0:bS} {fr:Fr} {H:Heap} {o:Oper}
theorem Ym{x y:Operand}{tys:Array TypeId}{a b:Int}(ho:o.op=.call {callee:=.builtin .min,args:= #[x,y],argTypes:=tys})(hx:aD fr x=some (J a))(hy:aD fr y=some (J b)):b_ P W0 o fr H (J (Sh.min a b)) H:=
 .cz fun C a' _ _ hop=>by
  have e1:=bR (v:=.int .i64 a) rfl (aQ (hop x (by simp[ho,Op.operands,Call.operands])) hx);have e2:=bR (v:=.int .i64 b) rfl (aQ (hop y (by simp[ho,Op.operands,Call.operands])) hy);refine⟨.int .i64 (Sh.min a b), ?_,.imm _ rfl⟩;obtain⟨cs,hb⟩:=je (P:=P) ho a';simp_all [builtin,Builtin.min_,Builtin.min2,Sh.min]
theorem Yl{x y:Operand}{tys:Array TypeId}{a b:Int}(ho:o.op=.call {callee:=.builtin .max,args:= #[x,y],argTypes:=tys})(hx:aD fr x=some (J a))(hy:aD fr y=some (J b)):b_ P W0 o fr H (J (Sh.max a b)) H:=
 .cz fun C a' _ _ hop=>by
  have e1:=bR (v:=.int .i64 a) rfl (aQ (hop x (by simp[ho,Op.operands,Call.operands])) hx);have e2:=bR (v:=.int .i64 b) rfl (aQ (hop y (by simp[ho,Op.operands,Call.operands])) hy);refine⟨.int .i64 (Sh.max a b), ?_,.imm _ rfl⟩;obtain⟨cs,hb⟩:=je (P:=P) ho a';simp_all [builtin,Builtin.max_,Builtin.max2,Sh.max]
end
end Go.Av
namespace Go.Av
section
variable {H:Heap} {g:List (Nat×Nat)} {nw:List Nat}
theorem gi.cl{fn:Fn}{cs cs':List AV}(h:GF H g nw cs cs'):gi H g nw (.fH fn cs) (.fH fn cs'):=.fH fn cs cs' h.spec.1 h.spec.2
theorem gi.Td{id i j:Nat}{es fl:List AV}{e:AV}(h1:H.get id=some es)(h2:g.all (fun p=>p.2 !=id)=true)(h3:es[i]? =some e)(h4:e.flat=fl)(h5:∀x∈fl,bQ x):gi H g nw (.ref id i j) (.pp fl j):=
 .frz h1 (fun p hp=>by grind) h3 h4 h5
end
end Go.Av
namespace Go.Av
end Go.Av
namespace Go.Av
variable {x:AV}
theorem gi.sm{H:Heap}{g:List (Nat×Nat)}{nw:List Nat}(h:bQ x:=by simp):gi H g nw x x:=.same x h
theorem gZ.sm{ok:AV→Prop}{n:Nat}(h:ok x:=by simp):gZ ok n x x:=.same x h
theorem Ren.sm{m:List (Nat×Nat)}(h:bQ x:=by simp):Ren bQ m x x:=.same x h
end Go.Av
namespace Go.Av
theorem dt{p:Prop} [Decidable p] (h:decide p=true:=by rfl):p:=of_decide_eq_true h
theorem b8.e{W0:bS}{N:Nat}{st:St}{fr':List (Nat×AV)}{H':Heap}(hfr:Seen st.H [] [] st.fr fr')(h0:H'.bV=[]:=by rfl)(hpo:DM W0.p [] [] H'.next=true:=by rfl)(hlp:H'.ec=st.H.ec:=by rfl):b8 W0 N st ⟨fr',H'⟩:=
 bE [] [] rfl rfl rfl (by rw[h0];trivial) hfr hpo hlp
end Go.Av
theorem Exists.k{H:Go.Av.Heap}{g:List (Nat×Nat)}{nw:List Nat}{fr:List (Nat×Go.Av.AV)}{t:Nat}{y:Go.Av.AV}(h:Go.Av.lk fr t=some y:=by rfl)(hn:Go.Av.bQ y:=by simp):∃x,Go.Av.lk fr t=some x∧Go.Av.gi H g nw x y:=⟨y,h,.same y hn⟩
end

section
namespace Go.Av
section
variable {P:Program} {W0:bS} {fr:Fr} {H:Heap} {o:Oper}
theorem b_.re{r r':AV}{H1 H2:Heap}(h:b_ P W0 o fr H r H1)(g:List (Nat×Nat))(hs:gi H1 g [] r r')(hH:jC H1 g [] H2.next H2.bV)(hid:g.all (fun p=>p.1==p.2)=true:=by rfl)(hnext:H1.next≤H2.next:=by exact afk _)
  (hinj:g.all (fun p=>g.all (fun q=>p.2 !=q.2||p.1==q.1))=true:=by rfl)(hlt:g.all (fun p=>decide (p.1<H2.next))=true:=by rfl)(hpo:DM W0.p g [] H2.next=true:=by rfl)(hlp:H2.ec=H1.ec:=by rfl):b_ P W0 o fr H r' H2:=by
 intro C a hI hCH hop K Q hK;refine h C a hI hCH hop K Q (fun v C1 h1 h2 h3 h4=> ?_);have hr:Rel W0 1 (lk [(0,r)]) H1 C1 {a with tmps:= #[v],defers:=(C1.iu.map fun d=>{target:=.collected d,args:= #[]})++W0.dx}:=⟨h3,h2,rfl,rfl,fun t x hx=>by
  simp_all [lk]⟩
 obtain⟨hM,hR⟩:=Pu (st:=⟨[(0,r)],H1⟩) (fr':=[(0,r')]) (H':=H2) g [] hinj hlt rfl hH ⟨⟨r,rfl,hs⟩,trivial⟩ hpo hlp hr;refine hK v (C1.re g H2) (h1.trans ?_) hR.inv rfl (hR.rep 0 r' rfl);refine⟨hM.below,hM.keep,hM.own,by rw[h3];exact hnext,fun id es' hlt' hg=> ?_,rfl,rfl,rfl⟩;simp only[Ctx.re,Heap.get,ae5] at hg;obtain⟨⟨s,e⟩,hq,rfl⟩:=hg;obtain⟨h5,_⟩:=hH.spec hq;rcases h5 with⟨old,es,q1,q2,_⟩|⟨q,_⟩
 ·have:=List.all_eq_true.1 hid _ (iL q1)
  simp only[beq_iff_eq] at this;subst this;refine⟨⟨es, ?_⟩, ?_⟩
  ·grind [Heap.get]
  ·show(match lk g id with|some old=>C1.pl old|none=>_)=_
   rw[q1]
 ·cases q
theorem aiM{α:Type}{t e:TypeId}{s eN:Nat}{xo yo zo:Operand}{kb kc:IntKind}{b:Int}(enc:α→AV)(l L:List α)(hL:Sh.sub l 0 b=some L)(hfl:∀x:α,(enc x).flat.length=s)(ho:o.op=.slice t xo none (some yo) (some zo)){ax:AV}(hx:aD fr xo=some ax)(hax:ax=.sl (l.map enc)∨ax=.clip (l.map enc))
  (hy:aD fr yo=some (.imm (.int kb b)))(hz:aD fr zo=some (.imm (.int kc b)))(ht:oK P t=some (e,s,eN)):b_ P W0 o fr H (.clip (L.map enc)) H:=by
 obtain⟨m,k,h0,rfl,_,h2,rfl⟩:=Sh.Fg hL
 have hm:m=0:=by omega
 have hb:fW fr (some yo) (l.map enc).length=some k:=by simp[fW,hy]
 have hc:fW fr (some zo) (l.map enc).length=some k:=by simp[fW,hz]
 have h1:=KS (P:=P) (W0:=W0) (o:=o) (fr:=fr) (H:=H) ho hx hax ht (l:=0) rfl rfl rfl hb hc (afR _) (by grind) (tg hfl l)
 simp_all
end
section
variable {α:Type}
def Ta(enc:α→AV)(sz:Nat):Nat→List (List α)→List (Nat×(Nat×List AV))
 |_,[]=>[]
 |M,l::L=>(M,(sz,l.map enc))::Ta enc sz (M+1) L
def HZ(enc:α→AV):Nat→List (List α)→List AV
 |_,[]=>[]
 |M,l::L=>.view M 0 (l.map enc).length::HZ enc (M+1) L
@[simp] theorem QE(enc:α→AV):∀(L:List (List α)) (M:Nat),(HZ enc M L).length=L.length
 |[],_=>rfl
 |_::L,M=>by simp[HZ,QE enc L]
theorem Lm(enc:α→AV):∀(L:List (List α)) (M i:Nat),(HZ enc M L)[i]? =L[i]?.map fun l=>.view (M+i) 0 (l.map enc).length
 |[],_,i=>by rfl
 |l::L,M,0=>by rfl
 |l::L,M,i+1=>by simp only[HZ,List.getElem?_cons_succ,Lm enc L];grind
theorem Tv(enc:α→AV)(sz:Nat):∀(L:List (List α)) (M k:Nat),lk (Ta enc sz M L) k=if M≤k then L[k - M]?.map fun l=>(sz,l.map enc) else none
 |[],M,k=>by simp[Ta,lk]
 |l::L,M,k=>by
  simp only[Ta,lk];by_cases h:M=k
  ·grind
  ·rw[if_neg h,Tv enc sz L]
   grind
abbrev qL(F:List (Nat×(Nat×List AV)))(enc:α→AV)(sz M:Nat)(L:List (List α)):Heap:=⟨M+L.length,F++Ta enc sz M L,[]⟩
variable {F:List (Nat×(Nat×List AV))}{M k:Nat}
theorem Ai(hF:F.all (fun p=>decide (p.1<M))=true){x:Nat×List AV}(h:lk F k=some x):k<M:=by simpa using List.all_eq_true.1 hF _ (iL h)
variable {sz i:Nat}
theorem zd{enc:α→AV}{L:List (List α)}(hF:F.all (fun p=>decide (p.1<M))=true){l:List α}(h:L[i]? =some l):lk (F++Ta enc sz M L) (M+i)=some (sz,l.map enc):=by
 rw[lC];have h0:lk F (M+i)=none:=by
  cases hc:lk F (M+i) with
  |none=>rfl
  |some v=>have:=Ai hF hc;omega
 simp_all [Tv]
theorem C_{enc:α→AV}{L:List (List α)}(hk:k<M):lk (F++Ta enc sz M L) k=lk F k:=by
 rw[lC,Tv,if_neg (by omega)];grind

def vS(gr:Nat→Option Nat)(M:Nat):Nat→Nat→List (Nat×Nat)
 |_,0=>[]
 |i,n+1=>match gr i with
  |some o=>(M+i,o)::vS gr M (i+1) n
  |none=>vS gr M (i+1) n
def FU(gr:Nat→Option Nat)(M:Nat):Nat→Nat→List Nat
 |_,0=>[]
 |i,n+1=>match gr i with
  |some _=>FU gr M (i+1) n
  |none=>(M+i)::FU gr M (i+1) n
variable {gr:Nat→Option Nat}
theorem lS:∀{n i:Nat} {p:Nat×Nat},p∈vS gr M i n↔∃j o,i≤j∧j<i+n∧gr j=some o∧p=(M+j,o)
 |0,i,p=>by grind [vS]
 |n+1,i,p=>by
  unfold vS;cases hg:gr i with
  |none=>
   simp only[lS (n:=n)];grind
  |some o=>
   simp only[agV,lS (n:=n)];grind
theorem Cf:∀{n i k:Nat},k∈FU gr M i n↔∃j,i≤j∧j<i+n∧gr j=none∧k=M+j
 |0,i,p=>by grind [FU]
 |n+1,i,p=>by
  unfold FU;cases hg:gr i with
  |some o=>
   simp only[Cf (n:=n)];grind
  |none=>
   simp only[agV,Cf (n:=n)];grind
theorem Ih:∀{n i j:Nat},i≤j→j<i+n→lk (vS gr M i n) (M+j)=gr j
 |0,i,j,h1,h2=>by omega
 |n+1,i,j,h1,h2=>by
  unfold vS;by_cases h:j=i
  ·subst h
   cases hg:gr j with
   |some o=>simp[lk]
   |none=>
    cases hc:lk (vS gr M (j+1) n) (M+j) with
    |none=>rfl
    |some v=>
     obtain⟨k,o,k1,_,_,k2⟩:=lS.1 (iL hc);grind
  ·cases hg:gr i with
   |some o=>simp only[lk];rw[if_neg (by omega),Ih (n:=n) (by omega) (by omega)]
   |none=>rw[Ih (n:=n) (by omega) (by omega)]
variable {H:Heap}
theorem jC.append{g:List (Nat×Nat)}{nw:List Nat}{next:Nat}:∀{l m:List (Nat×(Nat×List AV))},jC H g nw next l→jC H g nw next m→jC H g nw next (l++m)
 |[],_,_,h=>h
 |_::_,_,h1,h2=>⟨h1.1,h1.2.1,jC.append h1.2.2 h2⟩
theorem jC.rows{g:List (Nat×Nat)}{nw:List Nat}{next:Nat}{enc:α→AV}(hno:∀x,bQ (enc x)):∀(L:List (List α)) (M:Nat),(∀i l,L[i]? =some l→(∃o,lk g (M+i)=some o∧lk H.bV o=some (sz,l.map enc))∨(M+i∈nw∧l=[]))→M+L.length≤next→jC H g nw next (Ta enc sz M L)
 |[],M,_,_=>trivial
 |l::L,M,h,hn=>by
  simp only[acN] at hn;refine⟨?_,by omega,jC.rows hno L (M+1) (fun i l' hi=> ?_) (by omega)⟩
  ·rcases h 0 l rfl with⟨o,h1,h2⟩|⟨h1,h2⟩
   ·refine .inl ⟨_,_,h1,h2,.same fun e he=> ?_⟩
    grind
   grind
  ·have:=h (i+1) l' (by grind)
   grind
variable {es:List AV}
theorem Xt{g0:List (Nat×Nat)}{enc:α→AV}{L:List (List α)}(Sn:g0.all (fun p=>decide (p.1<M))=true)(hl:es.length=L.length)
  (h:∀i l,L[i]? =some l→(∃o,gr i=some o∧es[i]? =some (.view o 0 (l.map enc).length))∨(gr i=none∧es[i]? =some dy∧l=[])):rU H (g0++vS gr M 0 L.length) (FU gr M 0 L.length) es (HZ enc M L):=
 ⟨by simp[hl],fun k e e' h1 h2=>by
  rw[Lm] at h2
  simp only[ae5] at h2
  obtain⟨l,h2,rfl⟩:=h2
  have hk:k<L.length:=(List.getElem?_eq_some_iff.1 h2).1
  have hlk:lk (g0++vS gr M 0 L.length) (M+k)=gr k:=by
   rw[lC]
   have:lk g0 (M+k)=none:=by
    cases hc:lk g0 (M+k) with
    |none=>rfl
    |some v=>
     have:=List.all_eq_true.1 Sn _ (iL hc)
     grind
   simp_all [Ih]
  rcases h k l h2 with⟨o,h3,h4⟩|⟨h3,h4,h5⟩
  ·rw[h1] at h4;cases h4
   exact⟨.view (hlk.trans h3),rfl⟩
  ·rw[h1] at h4;cases h4
   subst h5
   exact⟨.nil (Cf.2 ⟨k,afR _,by omega,h3,rfl⟩),rfl⟩⟩
theorem b8.rows{W0:bS}{N:Nat}{st:St}{fr':List (Nat×AV)}{F':List (Nat×(Nat×List AV))}(g0:List (Nat×Nat)){enc:α→AV}(L:List (List α))(gr:Nat→Option Nat)(hno:∀x,bQ (enc x))
  (hrow:∀i l,L[i]? =some l→(∃o,gr i=some o∧lk st.H.bV o=some (sz,l.map enc))∨(gr i=none∧l=[]))
  (hinj:∀i j o,i<L.length→j<L.length→gr i=some o→gr j=some o→i=j)
  (hdis:∀i o,i<L.length→gr i=some o→∀p∈g0,p.2≠o)
  (hfront:jC st.H (g0++vS gr M 0 L.length) (FU gr M 0 L.length) (M+L.length) F')
  (hfr:Seen st.H (g0++vS gr M 0 L.length) (FU gr M 0 L.length) st.fr fr')
  (Sn:g0.all (fun p=>decide (p.1<M))=true:=by rfl)(z8:g0.all (fun p=>g0.all (fun q=>p.2 !=q.2||p.1==q.1))=true:=by rfl)(hp:W0.p=0:=by rfl)(hlp:st.H.ec=[]:=by rfl):
  b8 W0 N st ⟨fr',⟨M+L.length,F'++Ta enc sz M L,[]⟩⟩:=by
 have acP:∀p∈g0,p.1<M:=fun p hp=>by grind
 have axU:∀i,lk g0 (M+i)=none:=fun i=>by
  cases hc:lk g0 (M+i) with
  |none=>rfl
  |some v=>have:=acP _ (iL hc);omega
 have hlk:∀i,i<L.length→lk (g0++vS gr M 0 L.length) (M+i)=gr i:=fun i hi=>by
  simp_all [lC,Ih]
 refine bE (H':=⟨M+L.length,F'++Ta enc sz M L,[]⟩) (g0++vS gr M 0 L.length) (FU gr M 0 L.length) ?_ ?_ ?_ (jC.append hfront (jC.rows hno L M (fun i l hi=> ?_) (afk _))) hfr ?_ hlp.symm
 ·rw[agP]
  intro p hp'
  rw[agP]
  intro q hq
  rcases List.mem_append.1 hp' with h1|h1 <;> rcases List.mem_append.1 hq with h2|h2
  ·grind
  ·obtain⟨j,o,_,hj,ho,rfl⟩:=lS.1 h2
   grind
  ·obtain⟨j,o,_,hj,ho,rfl⟩:=lS.1 h1
   grind
  ·obtain⟨i,o,_,hi,ho,rfl⟩:=lS.1 h1
   obtain⟨j,o',_,hj,ho',rfl⟩:=lS.1 h2
   grind
 ·rw[agP]
  intro p hp'
  simp only[decide_eq_true_eq]
  rcases List.mem_append.1 hp' with h1|h1
  ·grind
  ·obtain⟨j,o,_,hj,_,rfl⟩:=lS.1 h1
   omega
 ·simp_all [Cf]
 ·have hi':i<L.length:=(List.getElem?_eq_some_iff.1 hi).1
  simp_all [Cf]
 ·rw[hp];rfl

theorem QC{enc:α→AV}{L:List (List α)}{l:List α}(h:L[i]? =some l)(hF:F.all (fun p=>decide (p.1<M))=true:=by rfl):(qL F enc sz M L).get (M+i)=some (l.map enc):=by
 grind [Heap.get,zd]
theorem U5{enc:α→AV}{L:List (List α)}{l:List α}(h:L[i]? =some l)(hF:F.all (fun p=>decide (p.1<M))=true:=by rfl):(qL F enc sz M L).sz (M+i)=some sz:=by
 simp only[Heap.sz,zd hF h,Option.map_some]
variable {oid:Nat}
theorem QB{enc:α→AV}{s:Nat}{L:List (List α)}(ho:oid<M):lk (((qL F enc sz M L).del (M+k)).push s es).bV oid=lk F oid:=by
 simp only[Heap.push,Heap.del,Ah,GW]
 rw[if_neg (by omega),if_neg (by omega),C_ ho]
theorem zu{enc:α→AV}{s q:Nat}{L:List (List α)}{v:List AV}(h:lk F oid=some (q,v))(hF:F.all (fun p=>decide (p.1<M))=true:=by rfl):(((qL F enc sz M L).del (M+k)).push s es).get oid=some v:=by
 grind [Heap.get,QB,Ai]
theorem b8.newRow{W0:bS}{N:Nat}{fr fr':List (Nat×AV)}{F':List (Nat×(Nat×List AV))}(g0:List (Nat×Nat)){enc:α→AV}{L:List (List α)}(L2:List (List α))(h2:L2=L++[[]])(hno:∀x,bQ (enc x))(ho:lk F oid=some (1,HZ enc M L))
  (hfront:∀(H:Heap) (g:List (Nat×Nat)) (nw:List Nat),(∀n,n<M→lk g n=lk g0 n)→(∀n x,n≠oid→lk F n=some x→lk H.bV n=some x)→
   ∀es,lk H.bV (M+L.length)=some (1,es)→rU H g nw es (HZ enc M L2)→jC H g nw (M+L2.length) F'∧Seen H g nw fr fr')
  (hF:F.all (fun p=>decide (p.1<M))=true:=by rfl)(Sn:g0.all (fun p=>decide (p.1<M))=true:=by rfl)(hg2:∀p∈g0,p.2<M∨p.2=M+L.length:=by simp)(z8:g0.all (fun p=>g0.all (fun q=>p.2 !=q.2||p.1==q.1))=true:=by simp)(hp:W0.p=0:=by rfl):
  b8 W0 N ⟨fr,(((qL F enc sz M L).del oid).push 1 (HZ enc M L++[dy]))⟩ ⟨fr',qL F' enc sz M L2⟩:=by
 subst h2
 have hoM:=Ai hF ho
 have hlk:∀n,lk ((((qL F enc sz M L).del oid).push 1 (HZ enc M L++[dy]))).bV n=if n=M+L.length then some (1,HZ enc M L++[dy]) else if n=oid then none else lk (F++Ta enc sz M L) n:=fun n=>by
  simp only[Heap.push,Heap.del,Ah,GW]
 let gr:Nat→Option Nat:=fun i=>if i<L.length then some (M+i) else none
 have hsee:=Xt (H:=(((qL F enc sz M L).del oid).push 1 (HZ enc M L++[dy]))) (g0:=g0) (gr:=gr) (M:=M) (enc:=enc) (L:=L++[[]]) (es:=HZ enc M L++[dy]) Sn (by simp) (fun i l2 hi=>by
  rw[agT] at hi ⊢
  rw[QE]
  by_cases hik:i<L.length
  ·rw[if_pos hik] at hi ⊢
   rw[Lm,hi]
   grind
  grind)
 obtain⟨hf1,hf2⟩:=hfront (((qL F enc sz M L).del oid).push 1 (HZ enc M L++[dy])) (g0++vS gr M 0 (L++[[]]).length) (FU gr M 0 (L++[[]]).length) (fun n hn=>by
   rw[lC]
   cases hc:lk g0 n with
   |some v=>rfl
   |none=>
    cases MO:lk (vS gr M 0 (L++[[]]).length) n with
    |none=>rfl
    |some v=>
     obtain⟨j,o,_,_,_,h5⟩:=lS.1 (iL MO)
     grind) (fun n x hn hx=>by
   have:=Ai hF hx
   rw[hlk,if_neg (by omega),if_neg hn,C_ this,hx]) _ (by grind) hsee
 refine b8.rows g0 (L++[[]]) gr hno (fun i l2 hi=> ?_) (fun i j o hi hj h1 h2=> ?_) (fun i o hi h1 p hp'=> ?_) hf1 hf2 Sn z8 hp rfl
 ·rw[agT] at hi
  by_cases hik:i<L.length
  ·rw[if_pos hik] at hi
   refine .inl ⟨M+i,if_pos hik, ?_⟩
   rw[hlk,if_neg (by omega),if_neg (by omega)]
   exact zd hF hi
  grind
 ·grind
 grind
end

section
variable {P:Program} {W0:bS} {fr:Fr} {H:Heap} {o:Oper} {α:Type} {i:Int} {x:List α} {ki:IntKind}
theorem Rs{s:Nat}{es:List AV}:(H.push s es).get H.next=some es:=by simp_all [Heap.zX]
end
end Go.Av
end

section
namespace Go.Av
open Go.RowKit (Below)
section
variable {P:Program} {W0:bS} {C:Ctx} {fr:Fr} {a:Act} {H:Heap} {o:Oper}

variable {ob:Obj}
theorem HJ{w:World}{b c:Nat}{es:List AV}(hd:yH c es ob)(h:w.heap[b]? =some ob)(j:Nat):w.cell? ⟨b,j,none⟩=none:=by
 grind [yH,World.cell?]
variable {l:List (Value×Value)}
theorem VE(hI:Inv W0 C){c:Nat}(hc:1≤c)(hd:yH c [.fL l] ob):
  Ext C ((C.uG (C.w.alloc ob)).push ⟨C.w.heap.size,0,1,c,false⟩ [.fL l])∧
  Inv W0 ((C.uG (C.w.alloc ob)).push ⟨C.w.heap.size,0,1,c,false⟩ [.fL l]):=by
 have hb:=xE C.w ob
 have h1:Ext C (C.uG (C.w.alloc ob)):=dh hb
 have I1:=hI.uG hb
 have hE:=zT (C:=C.uG (C.w.alloc ob)) h1 ⟨C.w.heap.size,0,1,c,false⟩ [.fL l] (fun _=>.inl (afk _))
 refine⟨hE,I1.push _ _ (fun h=>by cases h) (fun _=>⟨fun ho=> ?_,fun hp=> ?_,hI.size⟩) (fun k e h hn=> ?_) (fun _=> ?_) (W0.st C _ hE.mem hI.fe hI.gh)⟩
 ·exact afr _ (hI.G0 ho)
 ·exact afr _ (hI.dU _ hp)
 ·have:=hI.obj k e h hn
  exact this.ext hE (hb.block _ (hI.lt h hn))
 ·have hh:((C.uG (C.w.alloc ob)).push ⟨C.w.heap.size,0,1,c,false⟩ [.fL l]).w.heap[C.w.heap.size]? =some ob:=wC C.w _
  refine⟨rfl,hc,.inr ⟨rfl,ob,hh,hd⟩,fun o v h=> ?_,fun i e he=> ?_,fun i j e x v h1 h2 h3=> ?_⟩
  ·grind [HJ]
  ·cases i with
   |zero=>simp at he;subst he;rfl
   |succ i=>simp at he
  grind [HJ]

theorem Qh{t k v:TypeId}(ho:o.op=.makeMap t none)(_hu:P.underlying t=some (.map k v)):b_ P W0 o fr H (.mref H.next) (H.push 0 [.fL []]):=
 .of_run fun C a hI hH hop=>by
  subst hH;obtain⟨h1,h2⟩:=VE (c:=1) (l:=[]) (ob:=.map #[] 0) hI (afk 1) ⟨rfl,fun l hl=>by simp only[List.cons.injEq,AV.fL.injEq,and_true] at hl;subst hl;exact⟨rfl,fun q hq=>by cases hq⟩⟩;refine⟨.map (some C.w.heap.size),_, ?_,h1,h2,rfl, ?_⟩
  ·simp[execOp,ho,Instr.makeMap,newObj];rfl
  ·exact .mref _ _ (afv _) (fun es he=>by
    have e:((C.uG (C.w.alloc (.map #[] 0))).push ⟨C.w.heap.size,0,1,1,false⟩ [.fL []]).pl C.H.next=⟨C.w.heap.size,0,1,1,false⟩:=by
     show(if C.H.next=C.H.next then _ else _)=_;grind
    rw[e];exact⟨rfl,rfl⟩) rfl

theorem ID{t:TypeId}{n:Nat}(ht:EB P t n=true)(ks:List Int)(hk:ks.length=n)(em:Bool)(w:World):
  (Instr.checkKey em 10000 t (.agg (ks.map fun n=>Value.int .i64 n).toArray)).run P w=.ok () w:=by
 simp only[EB,aiq,ajh] at ht;obtain⟨⟨h1,h2⟩,h3⟩:=ht;split at h1
 ·rename_i fs hu
  simp only[aiq,decide_eq_true_eq] at h1;obtain⟨h4,h5⟩:=h1;rw[show(10000:Nat)=9999+1 from rfl,Instr.checkKey];simp only[Sem.run_bind,run_underlying hu,Result.andThen_ok];have hlen:fs.toList.length=n:=by omega
  have key:∀(l:List Field) (k:Nat),(l.zipIdx k).all (fun p=>p.1.offset==p.2&&p.1.name != "_" &&(match P.underlying p.1.type with|some (.int .i64)=>true|_=>false))=true→k+l.length=ks.length→
    (forIn l PUnit.unit fun f r=>(do
     if f.name≠ "_" then Instr.checkKey em 9999 f.type (←part f.type (ks.map fun n=>Value.int .i64 n).toArray f.offset)
     pure (ForInStep.yield PUnit.unit):Sem (ForInStep PUnit))).run P w=.ok PUnit.unit w:=by
   intro l
   induction l with
   |nil=>simp_all
   |cons f l ih=>
    intro k h Lz;simp only[aeX,agO,aiq,beq_iff_eq,bne_iff_ne] at h;obtain⟨⟨⟨g1,g2⟩,g3⟩,g4⟩:=h;have hu2:P.underlying f.type=some (.int .i64):=by
     grind
    simp only[acN] at Lz;have ga:(ks.map fun n=>Value.int .i64 n).toArray[f.offset]? =some (.int .i64 ks[k]):=by grind
    have hc:(Instr.checkKey em 9999 f.type (.int .i64 ks[k])).run P w=.ok () w:=by
     rw[show(9999:Nat)=9998+1 from rfl,Instr.checkKey];simp_all [run_underlying]
    simp only[List.forIn_cons,Sem.run_bind,Iw hu2 ga,hc,Result.andThen_ok,Sem.run_pure,ne_eq,not_false_eq_true,if_true,g2];grind
  have:=key fs.toList 0 h5 (by omega);simp_all
 grind

def kvE(e:List Int×Bool):Value×Value:=(.agg (e.1.map fun n=>Value.int .i64 n).toArray,.bool e.2)
def mpE(L:List (List Int×Bool)):AV:=.fL (L.map kvE)
variable {id:Nat}
theorem Kv(hI:Inv W0 C)(hid:C.H.get id=some [.fL l])(hn:(C.pl id).nil=false):(C.pl id).sz=0∧∃ob:Obj,C.w.heap[(C.pl id).de]? =some ob∧yH (C.pl id).cap [.fL l] ob:=by
 have hO:=hI.obj id _ hid hn
 have hz:(C.pl id).sz=0:=by have:=hO.flat 0 (.fL l) rfl;grind [AV.flat]
 rcases hO.de with⟨h,_⟩|h
 ·omega
 ·exact h
def Om(l:List (Value×Value)):Prop:=∀q,q∈l→q.1≠.nilFunc
theorem Kz(hI:Inv W0 C)(hid:C.H.get id=some [.fL l])(hn:(C.pl id).nil=false)(hc:Om l):(C.pl id).ref=.map (some (C.pl id).de)∧(C.pl id).sz=0∧∃ms clock,C.w.heap[(C.pl id).de]? =some (.map ms clock)∧F3 l ms:=by
 obtain⟨hz,ob,h1,h2⟩:=Kv hI hid hn
 unfold yH at h2
 split at h2
 ·simp_all [Place.ref]
 ·have:=h2.2.2.2 l rfl
  subst this
  exact absurd rfl (hc _ (ad2 ..))
 grind

theorem Oh(hI:Inv W0 C){l':List (Value×Value)}(hid:C.H.get id=some [.fL l])(hn:(C.pl id).nil=false){ob':Obj}
  (hb:C.w.heap[(C.pl id).de]? =some ob)(hd:yH (C.pl id).cap [.fL l'] ob'):
  Ext C (C.write id (C.w.putObj (C.pl id).de ob') [.fL l'])∧Inv W0 (C.write id (C.w.putObj (C.pl id).de ob') [.fL l']):=by
 have hO:=hI.obj id _ hid hn
 obtain⟨hz,ob0,hb0,hd0⟩:=Kv hI hid hn
 obtain rfl:=Option.some.inj (hb0.symm.trans hb)
 have hlt:=hI.lt hid hn
 have other:∀b,b≠(C.pl id).de→(C.w.putObj (C.pl id).de ob').heap[b]? =C.w.heap[b]? :=fun b h=>World.putObj_heap_other h
 have hrow:(C.w.putObj (C.pl id).de ob').heap[(C.pl id).de]? =some ob':=World.putObj_heap_same hlt
 have hsame:∀b,(C.write id (C.w.putObj (C.pl id).de ob') [.fL l']).own b→C.own b:=by
  rintro b (⟨k,e,h1,h2,h3⟩|h)
  ·simp only[Ctx.write,Heap.tQ] at h1
   split at h1
   ·rename_i hk;subst hk;exact .inl ⟨k,_,hid,h2,h3⟩
   ·exact .inl ⟨k,e,h1,h2,h3⟩
  ·exact .inr h
 have hE:Ext C (C.write id (C.w.putObj (C.pl id).de ob') [.fL l']):={
  below:=⟨rfl,rfl,rfl,by simp[Ctx.write],fun k hk=>absurd hk (aie k)⟩
  keep:=fun b _ ho=>other b (fun hbb=>ho (.inl ⟨id,_,hid,hn,hbb.symm⟩))
  own:=fun b _ h=>hsame b h
  next:=afk _
  id:=fun i es' _ h=>by
   simp only[Ctx.write,Heap.tQ] at h
   split at h
   ·rename_i hk;subst hk;exact⟨⟨_,hid⟩,rfl⟩
   ·exact⟨⟨es',h⟩,rfl⟩
  cI:=rfl
  iu:=rfl
  nI:=rfl}
 have hspne:∀b,C.sp b→b≠(C.pl id).de:=fun b h he=>by subst he;exact hI.AD h hb hd0.dat
 have cases':∀k e,(C.write id (C.w.putObj (C.pl id).de ob') [.fL l']).H.get k=some e→(k=id∧e=[.fL l'])∨(k≠id∧C.H.get k=some e):=by
  grind [Ctx.write,Heap.tQ]
 refine⟨hE,{
  fresh:=fun k e h=>by
   rcases cases' k e h with⟨rfl,_⟩|⟨_,h'⟩
   ·exact hI.fresh k _ hid
   ·exact hI.fresh k e h'
  nil:=fun k e h hk=>by
   rcases cases' k e h with⟨rfl,_⟩|⟨_,h'⟩
   ·have hk':(C.pl k).nil=true:=hk
    grind
   ·exact hI.nil k e h' hk
  obj:=fun k e h hk=>by
   rcases cases' k e h with⟨rfl,rfl⟩|⟨hne,h'⟩
   ·refine⟨hO.n.trans rfl,hO.cap,.inr ⟨hz,ob',hrow,hd⟩,fun o v hv=> ?_,fun i e he=> ?_,fun i j e' x v h1 h2 h3=> ?_⟩
    ·have hv':(C.w.putObj (C.pl k).de ob').cell? ⟨(C.pl k).de,o,none⟩=some v:=hv
     grind [HJ]
    ·cases i with
     |zero=>simp at he;subst he;exact hz.symm
     |succ i=>simp at he
    ·have hv':(C.w.putObj (C.pl k).de ob').cell? ⟨(C.pl k).de,i*(C.pl k).sz+j,none⟩=some v:=h3
     grind [HJ]
   ·exact(hI.obj k e h' hk).ext hE (other _ (fun hbb=>hne (hI.sep k id e _ h' hid hk hn hbb)))
  sep:=fun a b ea eb ha hb na nb hab=>by
   have g:∀k e,(C.write id (C.w.putObj (C.pl id).de ob') [.fL l']).H.get k=some e→∃e',C.H.get k=some e':=by
    grind
   obtain⟨e1,h1⟩:=g a ea ha
   obtain⟨e2,h2⟩:=g b eb hb
   exact hI.sep a b e1 e2 h1 h2 na nb hab
  cI:=fun k e h hk=>by
   rcases cases' k e h with⟨rfl,_⟩|⟨_,h'⟩
   ·exact hI.cI k _ hid hk
   ·exact hI.cI k e h' hk
  jX:=fun k s h=>hI.jX k s (by rw[←Heap.Mq C.H id [.fL l'] _ hid k];exact h)
  dU:=fun b h=>by simpa [Ctx.write] using hI.dU b h
  eG:=hI.eG
  size:=by simpa [Ctx.write] using hI.size
  gD:=fun b h=>⟨by
   have hne:b≠(C.pl id).de:=fun hbb=>(hI.gD b h).2 (.inl ⟨id,_,hid,hn,hbb.symm⟩)
   rw[←(hI.gD b h).1]
   exact other _ hne,fun ho=>(hI.gD b h).2 (hsame b ho)⟩
  ec:=fun l r h=>by
   rw[←hI.ec l r h]
   exact other _ (hspne l (.inl ⟨r,h⟩))
  iu:=fun d h=>by
   rw[←hI.iu d h]
   exact other _ (hspne d (.inr h))
  BX:=hI.BX
  Cn:=hI.Cn
  eS:=hI.eS
  lU:=hI.lU
  fe:=hI.fe
  gh:=W0.st C _ hE.mem hI.fe hI.gh}⟩

theorem FP(hI:Inv W0 C){l':List (Value×Value)}(hid:C.H.get id=some [.fL l])(hn:(C.pl id).nil=false){ms ms':Array MapEntry}{ck ck':Nat}(_hc:Om l)
  (hb:C.w.heap[(C.pl id).de]? =some (.map ms ck))(hl:F3 l' ms')(hc':Om l'):
  Ext C (C.write id (C.w.putObj (C.pl id).de (.map ms' ck')) [.fL l'])∧Inv W0 (C.write id (C.w.putObj (C.pl id).de (.map ms' ck')) [.fL l']):=by
 obtain⟨_,ob,h1,h2⟩:=Kv hI hid hn;obtain rfl:=Option.some.inj (h1.symm.trans hb);refine Oh hI hid hn hb ⟨h2.1,fun l2 Zj=> ?_⟩;simp only[List.cons.injEq,AV.fL.injEq,and_true] at Zj;subst Zj;exact⟨hl,hc'⟩

theorem M0(ks:List Int):Instr.sameBits 10000 (.agg (ks.map fun n=>Value.int .i64 n).toArray) (.agg (ks.map fun n=>Value.int .i64 n).toArray)=true:=by
 unfold Instr.sameBits;simp only[beq_self_eq_true,Bool.true_and,agP];rintro⟨x,y⟩ h;have hxy:x=y∧∃n,x=Value.int .i64 n:=by
  grind
 obtain⟨rfl,n,rfl⟩:=hxy;simp[Instr.sameBits]

end
end Go.Av
end

section
namespace Go.Sh
def either{α β γ:Type}(s:α⊕β)(f:α→Option γ)(g:β→Option γ):Option γ:=match s with|.inl a=>f a|.inr b=>g b
end Go.Sh
namespace Go.Av
open Go
section
variable {P:Program} {W0:bS} {fr:Fr} {H:Heap} {o:Oper}

theorem Yj{t:TypeId}{x:Operand}(ho:o.op=.box t x):b_ P W0 o fr H .any H:=
 .of_run fun C a hI hH _=>by
  have hb:=xE C.w (.cells (a.eval x).cells t)
  refine⟨.pointer (some ⟨C.w.heap.size,0,none⟩),C.uG (C.w.alloc (.cells (a.eval x).cells t)), ?_,dh hb,hI.uG hb,hH,.any _⟩
  simp[execOp,ho,Instr.box,newVar,newRow,newObj]
  rfl

theorem Bp{α:Type}{enc:α→AV}{t ty e:TypeId}{s eN:Nat}{z:Value}{xo yo:Operand}{ay:AV}(m L:List α)(hL:Sh.app eN [] m=some L)(hT:AM P t e s eN z)(hfl:∀x:α,(enc x).flat.length=s)(ho:o.op=.call {callee:=.builtin .append,args:= #[xo,yo],argTypes:= #[t,t]})(hty:o.type=ty)
  (hx:aD fr xo=some (.clip []))(hy:aD fr yo=some ay)(hys:ay.elems H=some (m.map enc)):b_ P W0 o fr H (.view H.next 0 (L.map enc).length) (H.push s (L.map enc)):=by
 obtain⟨h1,rfl⟩:=Sh.qR hL
 have:=D8 (P:=P) (W0:=W0) (o:=o) (fr:=fr) (H:=H) hT ho hty hx (.inr rfl) hy hys (tg hfl _) (by grind)
 omega

theorem S4{H:Heap}{id:Nat}{es:List AV}(h:H.get id=some es):(AV.view id 0 es.length).elems H=some es:=by simp[AV.elems,h]

def mpC{κ:Type}(ky:κ→List Int)(L:List (κ×Bool)):AV:=mpE (L.map fun e=>(ky e.1,e.2))
@[simp] theorem anR{κ:Type}(ky:κ→List Int)(L:List (κ×Bool)):bQ (mpC ky L):=.fL _
@[simp] theorem alC{κ:Type}(ky:κ→List Int)(L:List (κ×Bool)):(mpC ky L).flat=[]:=rfl

end

section
variable {P:Program} {W0:bS} {N:Nat} {st:St} {Q:Exit→St→Prop}

theorem I9{id d1 d2:Nat}{t t' e:TypeId}{x:Operand}{es:List AV}{o1 o2:Oper}(h1:o1.op=.move x)(g1:o1.guard=none)(q1:o1.dst=some d1)(h2:o2.op=.binOp .eql t (.tmp d1) (.const (.slice none 0 0)) t')(g2:o2.guard=none)(q2:o2.dst=some d2)
  (l1:d1<N)(l2:d2<N)(hu:P.underlying t=some (.slice e))(hx:aD (lk st.fr) x=some (.sl es))
  (hQ:∀b,(b=true→es=[])→Q .normal ⟨gP (gP st.fr (some d1) (.sl es)) (some d2) (bl b),st.H⟩):iD P W0 N (.region id [o1,o2].toArray false) st Q:=by
 intro C a hr;refine wpIn_region_lit ?_;unfold wpListIn;have w1:Region.wanted o1 (yielded [o1,o2].toArray a.tmps)=true:=by simp[Region.wanted,g1]
 rw[w1];refine pQ (fun c hc=>by grind) (od (.inl h1) hx C a hr.inv hr.heap (fun y _ t _ av hav=>hr.rep t av hav) _ _ (fun v C1 he hi hH hv=> ?_));rw[q1];have MQ:Rel W0 N (Fr.put (lk st.fr) (some d1) (.sl es)) st.H C1 (a.put (some d1) v):=hr.put he hi hH hv (fun d hd=>by grind);unfold wpListIn;have w2:Region.wanted o2 (yielded [o1,o2].toArray (a.put (some d1) v).tmps)=true:=by simp[Region.wanted,g2]
 rw[w2];have hsl:∃ad n c,v=.slice ad n c∧(ad=none→es=[]):=by
  cases hv with
  |slNil ad c=>grind
  |sl _ b off sz cap c=>grind
 obtain⟨ad,n,c,rfl,hnil⟩:=hsl;have hev:(a.put (some d1) (.slice ad n c)).eval (.tmp d1)=.slice ad n c:=by
  have hlt:d1<a.tmps.size:=by rw[hr.size];exact l1
  simp_all [Act.eval,Act.put]
 have hrun:(execOp (a.put (some d1) (.slice ad n c)).eval o2).run P C1.w=.ok (.value (.bool ad.isNone)) C1.w:=by
  have hc:(a.put (some d1) (.slice ad n c)).eval (.const (.slice none 0 0))=.slice none 0 0:=rfl;simp_all [execOp,eqGuard,binOp,run_equal_slice_nil]
 refine pQ (fun c hc=>by grind) ?_;unfold Oper.wp;rw[hrun];have hr2:Rel W0 N (Fr.put (Fr.put (lk st.fr) (some d1) (.sl es)) (some d2) (bl ad.isNone)) st.H C1 ((a.put (some d1) (.slice ad n c)).put (some d2) (.bool ad.isNone)):=
  MQ.put (.refl C1) MQ.inv MQ.heap (.imm _ rfl) (fun d hd=>by grind)
 refine⟨_,C1,rfl,he.mem, ?_,hQ ad.isNone (fun h=>hnil (by simp_all))⟩;grind [vm]
theorem SO{id d1 d2 i0 n0:Nat}{t t' e:TypeId}{x:Operand}{es:List AV}{o1 o2:Oper}(h1:o1.op=.move x)(g1:o1.guard=none)(q1:o1.dst=some d1)(h2:o2.op=.binOp .eql t (.tmp d1) (.const (.slice none 0 0)) t')(g2:o2.guard=none)(q2:o2.dst=some d2)
  (l1:d1<N)(l2:d2<N)(hu:P.underlying t=some (.slice e))(hx:aD (lk st.fr) x=some (.view i0 0 n0))(hid:st.H.get i0=some es)
  (hQ:∀b,(b=true→es=[])→Q .normal ⟨gP (gP st.fr (some d1) (.view i0 0 n0)) (some d2) (bl b),st.H⟩):iD P W0 N (.region id [o1,o2].toArray false) st Q:=by
 intro C a hr
 refine wpIn_region_lit ?_
 unfold wpListIn
 have w1:Region.wanted o1 (yielded [o1,o2].toArray a.tmps)=true:=by simp[Region.wanted,g1]
 rw[w1]
 refine pQ (fun c hc=>by grind) (od (.inl h1) hx C a hr.inv hr.heap (fun y _ t _ av hav=>hr.rep t av hav) _ _ (fun v C1 he hi hH hv=> ?_))
 rw[q1]
 have MQ:Rel W0 N (Fr.put (lk st.fr) (some d1) (.view i0 0 n0)) st.H C1 (a.put (some d1) v):=hr.put he hi hH hv (fun d hd=>by grind)
 unfold wpListIn
 have w2:Region.wanted o2 (yielded [o1,o2].toArray (a.put (some d1) v).tmps)=true:=by simp[Region.wanted,g2]
 rw[w2]
 have hsl:∃ad n c,v=.slice ad n c∧(ad=none→es=[]):=by
  cases hv with
  |view _ _ _ _ _ hs _=>
   have amA:C1.H.get i0=some es:=by grind
   have X4:=hs es amA
   unfold jl at X4
   cases hn:(C1.pl i0).nil with
   |true=>
    rw[hn] at X4
    obtain⟨_,_,ad,rfl⟩:=X4
    exact⟨ad,0,0,rfl,fun _=>hi.nil i0 es amA hn⟩
   |false=>
    grind
 obtain⟨ad,n,c,rfl,hnil⟩:=hsl
 have hev:(a.put (some d1) (.slice ad n c)).eval (.tmp d1)=.slice ad n c:=by
  have hlt:d1<a.tmps.size:=by rw[hr.size];exact l1
  simp_all [Act.eval,Act.put]
 have hrun:(execOp (a.put (some d1) (.slice ad n c)).eval o2).run P C1.w=.ok (.value (.bool ad.isNone)) C1.w:=by
  have hc:(a.put (some d1) (.slice ad n c)).eval (.const (.slice none 0 0))=.slice none 0 0:=rfl
  simp_all [execOp,eqGuard,binOp,run_equal_slice_nil]
 refine pQ (fun c hc=>by grind) ?_
 unfold Oper.wp
 rw[hrun]
 have hr2:Rel W0 N (Fr.put (Fr.put (lk st.fr) (some d1) (.view i0 0 n0)) (some d2) (bl ad.isNone)) st.H C1 ((a.put (some d1) (.slice ad n c)).put (some d2) (.bool ad.isNone)):=
  MQ.put (.refl C1) MQ.inv MQ.heap (.imm _ rfl) (fun d hd=>by grind)
 refine⟨_,C1,rfl,he.mem, ?_,hQ ad.isNone (fun h=>hnil (by simp_all))⟩
 grind [vm]
end
end Go.Av
end

section
namespace Go.Sh
def bor(k:IntKind)(a b:Int):Int:=k.wrap ((BitVec.ofInt k.bits a|||BitVec.ofInt k.bits b).toNat:Int)
def aqX(k:IntKind)(a b:Int):Int:=k.wrap ((BitVec.ofInt k.bits a&&&BitVec.ofInt k.bits b).toNat:Int)
def anw(k:IntKind)(a n:Int):Option Int:=if n<0 then none else some (k.wrap (a*2 ^ (Min.min n.toNat k.bits)))
def anx(k:IntKind)(a n:Int):Option Int:=if n<0 then none else some (a.fdiv (2 ^ (Min.min n.toNat k.bits)))
def cat(a b:List UInt8):Option (List UInt8):=if(a.length:Int)+b.length≤9223372036854775807 then some (a++b) else none
end Go.Sh
namespace Go.Av
open Go
abbrev dP(s:List UInt8):AV:=.imm (.string ⟨s.toArray⟩)
section
variable {P:Program} {W0:bS} {fr:Fr} {H:Heap} {o:Oper}

variable {t t':TypeId}{x y:Operand}{k:IntKind}{a:Int}
theorem ab0{b:Int}(ho:o.op=.binOp .or t x y t')(hx:aD fr x=some (.imm (.int k a)))(hy:aD fr y=some (.imm (.int k b))):b_ P W0 o fr H (.imm (.int k (Sh.bor k a b))) H:=
 mN ho hx hy (fun w=>by simp only[binOp,ne_eq,not_true_eq_false,if_false,Op.intBits];rfl) rfl
theorem Yi{b:Int}(ho:o.op=.binOp .and t x y t')(hx:aD fr x=some (.imm (.int k a)))(hy:aD fr y=some (.imm (.int k b))):b_ P W0 o fr H (.imm (.int k (Sh.aqX k a b))) H:=
 mN ho hx hy (fun w=>by simp only[binOp,ne_eq,not_true_eq_false,if_false,Op.intBits];rfl) rfl
theorem aiO{k':IntKind}{n r:Int}(h:Sh.anw k a n=some r)(ho:o.op=.binOp .shl t x y t')(hx:aD fr x=some (.imm (.int k a)))(hy:aD fr y=some (.imm (.int k' n))):b_ P W0 o fr H (.imm (.int k r)) H:=
 zp ho hx hy (fun w=>by
  unfold Sh.anw at h;split at h
  ·cases h
  ·rename_i hn
   cases h
   simp only[binOp,Op.shift,hn,if_false];rfl) rfl
theorem aiP{k':IntKind}{n r:Int}(h:Sh.anx k a n=some r)(ho:o.op=.binOp .shr t x y t')(hx:aD fr x=some (.imm (.int k a)))(hy:aD fr y=some (.imm (.int k' n))):b_ P W0 o fr H (.imm (.int k r)) H:=
 zp ho hx hy (fun w=>by
  unfold Sh.anx at h;split at h
  ·cases h
  ·rename_i hn
   cases h
   simp only[binOp,Op.shift,hn,if_false];rfl) rfl

theorem Qn(a b:List UInt8):((⟨a.toArray⟩:ByteArray).toList==(⟨b.toArray⟩:ByteArray).toList)=decide (a=b):=by
 grind [ByteArray.toList_eq]
theorem Ct(s:List UInt8):(⟨s.toArray⟩:ByteArray).size=s.length:=by rfl
variable {s:List UInt8}
theorem tZ{C:Ctx}{v:Value}(h:c4 C (dP s) v):v=.string ⟨s.toArray⟩:=bR (v:=.string ⟨s.toArray⟩) rfl h

variable {b:List UInt8}
theorem abg{a:List UInt8}(ho:o.op=.binOp .eql t x y t')(hx:aD fr x=some (dP a))(hy:aD fr y=some (dP b)):b_ P W0 o fr H (bl (decide (a=b))) H:=
 .cz fun C e _ _ hr=>by
  have e1:=tZ (aQ (hr x (by simp[ho,Op.operands])) hx);have e2:=tZ (aQ (hr y (by simp[ho,Op.operands])) hy);refine⟨.bool (decide (a=b)), ?_,.imm _ rfl⟩;have hg:(eqGuard .eql t x y (.string ⟨a.toArray⟩) (.string ⟨b.toArray⟩)).run P C.w=.ok () C.w:=by
   rfl
  simp only[execOp,ho,e1,e2,Sem.run_bind,hg,Result.andThen_ok,binOp,Op.stringOp,Qn];rfl
theorem abk{a:List UInt8}(ho:o.op=.binOp .neq t x y t')(hx:aD fr x=some (dP a))(hy:aD fr y=some (dP b)):b_ P W0 o fr H (bl (!decide (a=b))) H:=
 .cz fun C e _ _ hr=>by
  have e1:=tZ (aQ (hr x (by simp[ho,Op.operands])) hx);have e2:=tZ (aQ (hr y (by simp[ho,Op.operands])) hy);refine⟨.bool (!decide (a=b)), ?_,.imm _ rfl⟩;have hg:(eqGuard .neq t x y (.string ⟨a.toArray⟩) (.string ⟨b.toArray⟩)).run P C.w=.ok () C.w:=by
   rfl
  simp only[execOp,ho,e1,e2,Sem.run_bind,hg,Result.andThen_ok,binOp,Op.stringOp,Qn];rfl
theorem XE{a r:List UInt8}(h:Sh.cat a b=some r)(ho:o.op=.binOp .add t x y t')(hx:aD fr x=some (dP a))(hy:aD fr y=some (dP b)):b_ P W0 o fr H (dP r) H:=
 .cz fun C e _ _ hr=>by
  have e1:=tZ (aQ (hr x (by simp[ho,Op.operands])) hx);have e2:=tZ (aQ (hr y (by simp[ho,Op.operands])) hy);unfold Sh.cat at h;split at h
  ·cases h
   refine⟨.string ⟨(a++b).toArray⟩, ?_,.imm _ rfl⟩;have hg:(eqGuard .add t x y (.string ⟨a.toArray⟩) (.string ⟨b.toArray⟩)).run P C.w=.ok () C.w:=by
    rfl
   have hsz:¬(((⟨a.toArray⟩:ByteArray).size+(⟨b.toArray⟩:ByteArray).size:Nat):Int)>IntKind.i64.max:=by
    simp_all [Ct]
   simp only[execOp,ho,e1,e2,Sem.run_bind,hg,Result.andThen_ok,binOp,Op.stringOp,hsz,if_false];rfl
  ·cases h
theorem XF(ho:o.op=.call {callee:=.builtin .len,args:= #[x],argTypes:= #[t]})(hx:aD fr x=some (dP s))(hu:P.underlying t=some .string):b_ P W0 o fr H (J (Sh.len s)) H:=
 .cz fun C a _ _ hr=>by
  have e1:=tZ (aQ (hr x (by simp[ho,Op.operands,Call.operands])) hx);obtain⟨cs,hb⟩:=je (P:=P) ho a;refine⟨.int .i64 (Sh.len s), ?_,.imm _ rfl⟩;simp_all [builtin,Builtin.len_,run_underlying,goInt,Ct]
theorem RX{ki:IntKind}{i:Int}{b:UInt8}(h:Sh.idx s i=some b)(ho:o.op=.index t x y)(hx:aD fr x=some (dP s))(hy:aD fr y=some (.imm (.int ki i)))(hu:P.underlying t=some .string):b_ P W0 o fr H (kA .u8 (b.toNat:Int)) H:=
 .cz fun C a _ _ hr=>by
  have e1:=tZ (aQ (hr x (by simp[ho,Op.operands])) hx);have e2:=bR (v:=.int ki i) rfl (aQ (hr y (by simp[ho,Op.operands])) hy);refine⟨.int .u8 b.toNat, ?_,.imm _ rfl⟩;unfold Sh.idx at h;split at h
  ·have hb:(⟨s.toArray⟩:ByteArray)[i.toNat]? =some b:=by
    obtain⟨hlt,hv⟩:=List.getElem?_eq_some_iff.1 h;rw[getElem?_pos (⟨s.toArray⟩:ByteArray) i.toNat (by assumption)];rw[←hv];rfl
   simp_all [execOp,Instr.index,asIntOf,run_underlying]
  ·cases h
theorem Bo(s:List UInt8)(l h:Nat):(⟨s.toArray⟩:ByteArray).extract l h=⟨((s.drop l).take (h - l)).toArray⟩:=by
 apply ByteArray.ext;simp_all
theorem XG{ki:IntKind}{r:List UInt8}{i:Int}(h:Sh.sub s i (Sh.len s)=some r)(ho:o.op=.slice t x (some y) none none)(hx:aD fr x=some (dP s))(hy:aD fr y=some (.imm (.int ki i)))(hu:P.underlying t=some .string):b_ P W0 o fr H (dP r) H:=
 .cz fun C a _ _ hr=>by
  have e1:=tZ (aQ (hr x (by simp[ho,Op.operands])) hx);have e2:=bR (v:=.int ki i) rfl (aQ (hr y (by simp[ho,Op.operands])) hy);obtain⟨m,k,rfl,hk,h1,h2,rfl⟩:=Sh.Fg h;have hks:k=s.length:=by grind
  subst hks;refine⟨.string ⟨((s.drop m).take (s.length - m)).toArray⟩, ?_,.imm _ rfl⟩;simp_all [execOp,Instr.sliceAt,Instr.slice,Instr.sliceBounds,Instr.sliceBound,asIntOf,run_underlying,Ct,Bo]
end
end Go.Av
end

section
namespace Go.Sh
def lim(n:Nat)(i:Int):Option Nat:=if 0≤i∧i<n then some i.toNat else none
theorem xR{n:Nat}{i:Int}{k:Nat}(h:lim n i=some k):i=k∧k<n:=by
 grind [lim]
end Go.Sh
namespace Go.Av
open Go
section
variable {P:Program} {W0:bS} {fr:Fr} {H:Heap} {o:Oper}

end
end Go.Av
end
