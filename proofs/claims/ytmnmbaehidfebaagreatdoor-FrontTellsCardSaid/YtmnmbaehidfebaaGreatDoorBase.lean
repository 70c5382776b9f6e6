/- What a proof sees of a run, and the rules by which it goes through a text. -/
import Derived.Calls
import Derived.Laws.Sem
import Derived.Below
import Derived.Laws.Tables
import Derived.TacticsIn
import Derived.Laws.Cells
import Derived.Laws.CopyRow
import Derived.Laws.Append
import Derived.Laws.MakeOwn
import Derived.Laws.Slices
import Derived.Laws.OwnMore
import Derived.StillTail
import Derived.IntWalk
import Derived.Laws.StructEq
set_option linter.unusedSimpArgs false
set_option linter.unusedVariables false
section
/- The values, states and contexts of the abstract walk: what a proof sees of a run. -/
namespace Go.Av

inductive AV where
 |imm (v:Value)
 |sl (es:List AV)
 |clip (es:List AV)
 |view (id off len:Nat)
 |ref (id i j:Nat)
 |pp (fl:List AV) (j:Nat)
 |agg (cs:List AV)
 |tuple (vs:List AV)
 |ifc (t:TypeId) (x:AV)
 |bX (fn:Fn) (caps:List AV)
 |any
 deriving Inhabited

def AV.flat:AV→List AV
 |.agg cs=>cs
 |x=>[x]

structure Place where
 gN:Nat
 sz:Nat
 n:Nat
 cap:Nat
 nil:Bool

structure aX where
 next:Nat
 ef:List (Nat×(Nat×List AV))
 e8:List (Nat×Loop)

def lk{α:Type}:List (Nat×α)→Nat→Option α
 |[],_=>none
 |(t,v)::l,s=>if t=s then some v else lk l s

def up{α:Type}:List (Nat×α)→Nat→α→List (Nat×α)
 |[],s,v=>[(s,v)]
 |(t,u)::l,s,v=>if t=s then(t,v)::l else(t,u)::up l s v

def del{α:Type}:List (Nat×α)→Nat→List (Nat×α)
 |[],_=>[]
 |(t,u)::l,s=>if t=s then del l s else(t,u)::del l s

theorem Ip{α:Type}(l:List (Nat×α))(s:Nat)(v:α)(t:Nat):lk (up l s v) t=if t=s then some v else lk l t:=by
 induction l with
 |nil=>simp only[up,lk];split <;> split <;> first|rfl|omega
 |cons p l ih=>
  obtain⟨q,u⟩:=p
  simp only[up]
  split
  ·simp only[lk];split
   ·split <;> first|rfl|omega
   ·rw[if_neg (by omega)]
  ·simp only[lk,ih]
   split
   ·rw[if_neg (by omega)]
   ·rfl

theorem M_{α:Type}(l:List (Nat×α))(s:Nat)(t:Nat):lk (del l s) t=if t=s then none else lk l t:=by
 induction l with
 |nil=>simp[del,lk]
 |cons p l ih=>
  obtain⟨q,u⟩:=p
  simp only[del]
  split
  ·rw[ih];simp only[lk];split
   ·rfl
   ·rw[if_neg (by omega)]
  ·simp only[lk,ih]
   split
   ·rw[if_neg (by omega)]
   ·rfl

theorem aa9{α:Type}(l:List (Nat×α))(s:Nat)(v:α):del (up l s v) s=del l s:=by
 induction l with
 |nil=>simp[up,del]
 |cons p l ih=>
  obtain⟨q,u⟩:=p
  simp only[up]
  split
  ·rename_i h;simp[del,h]
  ·rename_i h;simp[del,h,ih]

def aX.get(H:aX)(id:Nat):Option (List AV):=(lk H.ef id).map (·.2)
def aX.sz(H:aX)(id:Nat):Option Nat:=(lk H.ef id).map (·.1)
def aX.set(H:aX)(id:Nat)(es:List AV):aX:={H with ef:=up H.ef id ((H.sz id).getD 0,es)}
def aX.del(H:aX)(id:Nat):aX:={H with ef:=Av.del H.ef id}
def aX.push(H:aX)(s:Nat)(es:List AV):aX:={next:=H.next+1,ef:=up H.ef H.next (s,es),e8:=H.e8}
def aX.empty:aX:={next:=0,ef:=[],e8:=[]}

theorem aX.NR(H:aX)(id:Nat)(es:List AV):(H.set id es).del id=H.del id:=by
 simp only[aX.set,aX.del,aa9]

theorem aX.wB(H:aX)(id:Nat)(es:List AV)(k:Nat):(H.set id es).get k=if k=id then some es else H.get k:=by
 simp only[aX.get,aX.set,Ip];split <;> rfl
theorem aX.A7(H:aX)(id:Nat)(k:Nat):(H.del id).get k=if k=id then none else H.get k:=by
 simp only[aX.get,aX.del,M_];split <;> rfl
theorem aX.z7(H:aX)(s:Nat)(es:List AV)(k:Nat):(H.push s es).get k=if k=H.next then some es else H.get k:=by
 simp only[aX.get,aX.push,Ip];split <;> rfl
theorem aX.J1(H:aX)(id:Nat)(es yd:List AV)(h:H.get id=some yd)(k:Nat):(H.set id es).sz k=H.sz k:=by
 simp only[aX.sz,aX.set,Ip];split
 ·rename_i hk;subst hk
  simp only[aX.get,Option.map_eq_some_iff] at h
  obtain⟨p,h1,_⟩:=h
  simp[h1]
 ·rfl
theorem aX.ZA(H:aX)(id:Nat)(k:Nat):(H.del id).sz k=if k=id then none else H.sz k:=by
 simp only[aX.sz,aX.del,M_];split <;> rfl
theorem aX.Om(H:aX)(s:Nat)(es:List AV)(k:Nat):(H.push s es).sz k=if k=H.next then some s else H.sz k:=by
 simp only[aX.sz,aX.push,Ip];split <;> rfl

structure Ctx where
 w:World
 H:aX
 pl:Nat→Place
 dm:Nat→Prop
 mI:List Nat
 tn:Nat

def Ctx.cells(C:Ctx)(b:Nat):Prop:=∃id es,C.H.get id=some es∧(C.pl id).nil=false∧(C.pl id).gN=b
def Ctx.sp(C:Ctx)(b:Nat):Prop:=(∃r,lk C.H.e8 b=some r)∨b∈C.mI
def Ctx.own(C:Ctx)(b:Nat):Prop:=C.cells b∨C.sp b
def Ctx.bad(C:Ctx)(b:Nat):Prop:=C.own b∨C.dm b

def oO(p:Place)(off len:Nat)(v:Value):Prop:=
 if p.nil then off=0∧len=0∧∃a,v=.slice a 0 0
 else ∃a cap,v=.slice (some a) len cap∧off+len≤p.n∧off+cap≤p.cap∧len≤cap∧(cap=0∨a=⟨p.gN,off*p.sz,none⟩)

def Holds(w:World)(b o:Nat)(v:Value):Prop:=w.cell? ⟨b,o,none⟩=some v∧v.oneCell'=true

inductive dO (C:Ctx):AV→Value→Prop
 |any (v:Value):dO C .any v
 |imm (v:Value):v.oneCell'=true→dO C (.imm v) v
 |slNil (a:Option Addr) (cap:Nat):dO C (.sl []) (.slice a 0 cap)
 |sl (es:List AV) (b off sz cap:Nat) (c:Nat→Nat→Value):b<C.w.heap.size→¬C.bad b→es.length≤cap→
   (∀(i:Nat) (e:AV),es[i]? =some e→e.flat.length=sz)→
   (∀(i j:Nat) (e x:AV),es[i]? =some e→e.flat[j]? =some x→Holds C.w b (off+i*sz+j) (c i j))→
   (∀(i j:Nat) (e x:AV),es[i]? =some e→e.flat[j]? =some x→dO C x (c i j))→
   dO C (.sl es) (.slice (some ⟨b,off,none⟩) es.length cap)
 |clipNil (a:Option Addr):dO C (.clip []) (.slice a 0 0)
 |clip (es:List AV) (b off sz:Nat) (c:Nat→Nat→Value):b<C.w.heap.size→¬C.bad b→
   (∀(i:Nat) (e:AV),es[i]? =some e→e.flat.length=sz)→
   (∀(i j:Nat) (e x:AV),es[i]? =some e→e.flat[j]? =some x→Holds C.w b (off+i*sz+j) (c i j))→
   (∀(i j:Nat) (e x:AV),es[i]? =some e→e.flat[j]? =some x→dO C x (c i j))→
   dO C (.clip es) (.slice (some ⟨b,off,none⟩) es.length es.length)
 |view (id off len:Nat) (v:Value):id<C.H.next→(∀es,C.H.get id=some es→oO (C.pl id) off len v)→v.oneCell'=true→dO C (.view id off len) v
 |ref (id i j:Nat) (v:Value):id<C.H.next→
   (∀es,C.H.get id=some es→(C.pl id).nil=false∧v=.pointer (some ⟨(C.pl id).gN,i*(C.pl id).sz+j,none⟩))→v.oneCell'=true→dO C (.ref id i j) v
 |pp (fl:List AV) (j b off:Nat) (c:Nat→Value):b<C.w.heap.size→¬C.bad b→
   (∀(k:Nat) (x:AV),fl[k]? =some x→Holds C.w b (off+k) (c k))→(∀(k:Nat) (x:AV),fl[k]? =some x→dO C x (c k))→
   dO C (.pp fl j) (.pointer (some ⟨b,off+j,none⟩))
 |agg (cs:List AV) (vs:Array Value):vs.size=cs.length→(∀(k:Nat) (v:Value),vs[k]? =some v→v.oneCell'=true)→
   (∀(k:Nat) (x:AV),cs[k]? =some x→dO C x (vs.getD k undef))→dO C (.agg cs) (.agg vs)
 |tuple (cs:List AV) (vs:Array Value):vs.size=cs.length→
   (∀(k:Nat) (x:AV),cs[k]? =some x→dO C x (vs.getD k undef))→dO C (.tuple cs) (.tuple vs)
 |ifc (t:TypeId) (x:AV) (v:Value):dO C x v→dO C (.ifc t x) (.iface t v)
 |bX (fn:Fn) (caps:List AV) (vs:Array Value):vs.size=caps.length→
   (∀(k:Nat) (x:AV),caps[k]? =some x→dO C x (vs.getD k undef))→dO C (.bX fn caps) (.func fn #[] vs)

structure Fb (C:Ctx) (p:Place) (es:List AV):Prop where
 n:p.n=es.length
 cap:p.n≤p.cap
 gN:∃arr el,C.w.heap[p.gN]? =some (.cells arr el (0,0))∧p.cap*p.sz≤arr.size
 one:∀(o:Nat) (v:Value),C.w.cell? ⟨p.gN,o,none⟩=some v→v.oneCell'=true
 flat:∀(i:Nat) (e:AV),es[i]? =some e→e.flat.length=p.sz
 cell:∀(i j:Nat) (e x:AV) (v:Value),es[i]? =some e→e.flat[j]? =some x→C.w.cell? ⟨p.gN,i*p.sz+j,none⟩=some v→dO C x v

structure Ext (C C':Ctx):Prop where
 below:RowKit.Below 0 C.w C'.w
 keep:∀b,b<C.w.heap.size→¬C.own b→C'.w.heap[b]? =C.w.heap[b]?
 own:∀b,b<C.w.heap.size→C'.own b→C.own b
 next:C.H.next≤C'.H.next
 id:∀id es',id<C.H.next→C'.H.get id=some es'→(∃es,C.H.get id=some es)∧C'.pl id=C.pl id
 dm:C'.dm=C.dm
 mI:C'.mI=C.mI
 tn:C'.tn=C.tn

theorem Ext.refl(C:Ctx):Ext C C:=⟨.refl _ _,fun _ _ _=>rfl,fun _ _ h=>h,Nat.le_refl _,fun _ es _ h=>⟨⟨es,h⟩,rfl⟩,rfl,rfl,rfl⟩

theorem Ext.trans{A B C:Ctx}(h:Ext A B)(k:Ext B C):Ext A C where
 below:=h.below.trans k.below
 keep b hb hn:=by
  have h1:=h.keep b hb hn
  rw[k.keep b (Nat.lt_of_lt_of_le hb h.below.size) (fun ho=>hn (h.own b hb ho)),h1]
 own b hb ho:=h.own b hb (k.own b (Nat.lt_of_lt_of_le hb h.below.size) ho)
 next:=Nat.le_trans h.next k.next
 id i es' hi hg:=by
  obtain⟨⟨es,he⟩,hp⟩:=k.id i es' (Nat.lt_of_lt_of_le hi h.next) hg
  obtain⟨h1,h2⟩:=h.id i es hi he
  exact⟨h1,hp.trans h2⟩
 dm:=k.dm.trans h.dm
 mI:=k.mI.trans h.mI
 tn:=k.tn.trans h.tn

theorem Ext.bad{C C':Ctx}(h:Ext C C'){b:Nat}(hb:b<C.w.heap.size)(hn:¬C.bad b):¬C'.bad b:=by
 rintro(ho|hp)
 ·exact hn (.inl (h.own b hb ho))
 ·rw[h.dm] at hp;exact hn (.inr hp)

theorem Ext.holds{C C':Ctx}(h:Ext C C'){b o:Nat}{v:Value}(hb:b<C.w.heap.size)(hn:¬C.bad b)(hh:Holds C.w b o v):Holds C'.w b o v:=by
 have hk:=h.keep b hb (fun ho=>hn (.inl ho))
 refine⟨?_,hh.2⟩
 rw[World.cell?_of_block (w:=C.w) (a:=⟨b,o,none⟩) hk]
 exact hh.1

theorem dO.ext{C C':Ctx}(h:Ext C C'){x:AV}{v:Value}(hr:dO C x v):dO C' x v:=by
 induction hr with
 |any v=>exact .any v
 |imm v hv=>exact .imm v hv
 |slNil a cap=>exact .slNil a cap
 |sl es b off sz cap c hb hn hc hf hcell _ ih=>
  exact .sl es b off sz cap c (Nat.lt_of_lt_of_le hb h.below.size) (h.bad hb hn) hc hf (fun i j e x he hx=>h.holds hb hn (hcell i j e x he hx)) ih
 |clipNil a=>exact .clipNil a
 |clip es b off sz c hb hn hf hcell _ ih=>
  exact .clip es b off sz c (Nat.lt_of_lt_of_le hb h.below.size) (h.bad hb hn) hf (fun i j e x he hx=>h.holds hb hn (hcell i j e x he hx)) ih
 |view id off len v hid hs h1=>
  refine .view id off len v (Nat.lt_of_lt_of_le hid h.next) (fun es he=> ?_) h1
  obtain⟨⟨yd,h0⟩,hp⟩:=h.id id es hid he
  rw[hp];exact hs yd h0
 |ref id i j v hid hs h1=>
  refine .ref id i j v (Nat.lt_of_lt_of_le hid h.next) (fun es he=> ?_) h1
  obtain⟨⟨yd,h0⟩,hp⟩:=h.id id es hid he
  rw[hp];exact hs yd h0
 |pp fl j b off c hb hn hcell _ ih=>
  exact .pp fl j b off c (Nat.lt_of_lt_of_le hb h.below.size) (h.bad hb hn) (fun k x hx=>h.holds hb hn (hcell k x hx)) ih
 |agg cs vs hs h1 _ ih=>exact .agg cs vs hs h1 ih
 |tuple cs vs hs _ ih=>exact .tuple cs vs hs ih
 |ifc t x v _ ih=>exact .ifc t x v ih
 |bX fn caps vs hs _ ih=>exact .bX fn caps vs hs ih

structure Mem (C C':Ctx):Prop where
 below:RowKit.Below 0 C.w C'.w
 keep:∀b,b<C.w.heap.size→¬C.own b→C'.w.heap[b]? =C.w.heap[b]?
 own:∀b,b<C.w.heap.size→C'.own b→C.own b
 dm:C'.dm=C.dm
 tn:C'.tn=C.tn
 pins:C.tn≤C.H.next→C'.tn≤C'.H.next∧∀k es',k<C.tn→C'.H.get k=some es'→(∃es,C.H.get k=some es)∧C'.pl k=C.pl k

theorem Ext.mem{C C':Ctx}(h:Ext C C'):Mem C C':=⟨h.below,h.keep,h.own,h.dm,h.tn,fun hp=>⟨by rw[h.tn];exact Nat.le_trans hp h.next,fun k es' hk hg=>h.id k es' (Nat.lt_of_lt_of_le hk hp) hg⟩⟩
theorem Mem.refl(C:Ctx):Mem C C:=(Ext.refl C).mem

structure dU where
 w:World
 p:Nat
 ro:Option Nat
 G:Ctx→Prop
 st:∀C C',Mem C C'→C.tn≤C.H.next→G C→G C'
 dx:List Deferred

@[reducible] def dU.of(W:World):dU:=⟨W,0,none,fun _=>True,fun _ _ _ _ _=>trivial,[]⟩
@[reducible] def dU.pinned(W:World)(p:Nat):dU:=⟨W,p,none,fun _=>True,fun _ _ _ _ _=>trivial,[]⟩

structure Inv (W0:dU) (C:Ctx):Prop where
 fresh:∀id es,C.H.get id=some es→id<C.H.next
 nil:∀id es,C.H.get id=some es→(C.pl id).nil=true→es=[]
 obj:∀id es,C.H.get id=some es→(C.pl id).nil=false→Fb C (C.pl id) es
 sep:∀i1 i2 e1 e2,C.H.get i1=some e1→C.H.get i2=some e2→(C.pl i1).nil=false→(C.pl i2).nil=false→(C.pl i1).gN=(C.pl i2).gN→i1=i2
 dm:∀id es,C.H.get id=some es→(C.pl id).nil=false→¬C.dm (C.pl id).gN
 oM:∀id s,C.H.sz id=some s→(C.pl id).nil=false→(C.pl id).sz=s
 eE:∀b,C.dm b→b<C.w.heap.size
 eZ:∀b,C.dm b→W0.w.heap.size≤b
 size:W0.w.heap.size≤C.w.heap.size
 iK:∀b,b<W0.w.heap.size→C.w.heap[b]? =W0.w.heap[b]? ∧¬C.own b
 e8:∀l r,lk C.H.e8 l=some r→C.w.heap[l]? =some (.loop r)
 mI:∀d,d∈C.mI→C.w.heap[d]? =some (.deferred (some []))
 y7:C.mI.Nodup
 zM:∀l,W0.ro=some l→C.mI=[]
 fD:∀b,C.sp b→¬C.dm b
 pP:C.tn=W0.p
 fZ:C.tn≤C.H.next
 gh:W0.G C

theorem Mem.trans{A B C:Ctx}(h:Mem A B)(k:Mem B C):Mem A C where
 below:=h.below.trans k.below
 keep b hb hn:=by
  have h1:=h.keep b hb hn
  rw[k.keep b (Nat.lt_of_lt_of_le hb h.below.size) (fun ho=>hn (h.own b hb ho)),h1]
 own b hb ho:=h.own b hb (k.own b (Nat.lt_of_lt_of_le hb h.below.size) ho)
 dm:=k.dm.trans h.dm
 tn:=k.tn.trans h.tn
 pins hA:=by
  obtain⟨hB,p1⟩:=h.pins hA
  obtain⟨hC,p2⟩:=k.pins hB
  refine⟨hC,fun i es' hi hg=> ?_⟩
  obtain⟨⟨es,he⟩,hp⟩:=p2 i es' (by rw[h.tn];exact hi) hg
  obtain⟨h1,h2⟩:=p1 i es hi he
  exact⟨h1,hp.trans h2⟩

inductive mw (p:Nat):AV→Prop
 |any:mw p .any
 |imm (v:Value):mw p (.imm v)
 |sl (es:List AV):(∀e∈es,∀x∈e.flat,mw p x)→mw p (.sl es)
 |clip (es:List AV):(∀e∈es,∀x∈e.flat,mw p x)→mw p (.clip es)
 |view (id off len:Nat):id<p→mw p (.view id off len)
 |ref (id i j:Nat):id<p→mw p (.ref id i j)
 |pp (fl:List AV) (j:Nat):(∀e∈fl,mw p e)→mw p (.pp fl j)
 |agg (cs:List AV):(∀e∈cs,mw p e)→mw p (.agg cs)
 |tuple (cs:List AV):(∀e∈cs,mw p e)→mw p (.tuple cs)
 |ifc (t:TypeId) (x:AV):mw p x→mw p (.ifc t x)
 |bX (fn:Fn) (cs:List AV):(∀e∈cs,mw p e)→mw p (.bX fn cs)

theorem Mem.bad{C C':Ctx}(h:Mem C C'){b:Nat}(hb:b<C.w.heap.size)(hn:¬C.bad b):¬C'.bad b:=by
 rintro(ho|hp)
 ·exact hn (.inl (h.own b hb ho))
 ·rw[h.dm] at hp;exact hn (.inr hp)

theorem Mem.holds{C C':Ctx}(h:Mem C C'){b o:Nat}{v:Value}(hb:b<C.w.heap.size)(hn:¬C.bad b)(hh:Holds C.w b o v):Holds C'.w b o v:=by
 have hk:=h.keep b hb (fun ho=>hn (.inl ho))
 refine⟨?_,hh.2⟩
 rw[World.cell?_of_block (w:=C.w) (a:=⟨b,o,none⟩) hk]
 exact hh.1

theorem dO.mem{C C':Ctx}(h:Mem C C')(hA:C.tn≤C.H.next){x:AV}{v:Value}(hr:dO C x v)(hb:mw C.tn x):dO C' x v:=by
 obtain⟨hC,hpins⟩:=h.pins hA
 induction hr with
 |any v=>exact .any v
 |imm v hv=>exact .imm v hv
 |slNil a cap=>exact .slNil a cap
 |sl es b off sz cap c hlt hn hc hf hcell _ ih=>
  cases hb with
  |sl _ hb=>exact .sl es b off sz cap c (Nat.lt_of_lt_of_le hlt h.below.size) (h.bad hlt hn) hc hf (fun i j e x he hx=>h.holds hlt hn (hcell i j e x he hx)) (fun i j e x he hx=>ih i j e x he hx (hb e (List.mem_of_getElem? he) x (List.mem_of_getElem? hx)))
 |clipNil a=>exact .clipNil a
 |clip es b off sz c hlt hn hf hcell _ ih=>
  cases hb with
  |clip _ hb=>exact .clip es b off sz c (Nat.lt_of_lt_of_le hlt h.below.size) (h.bad hlt hn) hf (fun i j e x he hx=>h.holds hlt hn (hcell i j e x he hx)) (fun i j e x he hx=>ih i j e x he hx (hb e (List.mem_of_getElem? he) x (List.mem_of_getElem? hx)))
 |view id off len v hid hs h1=>
  cases hb with
  |view _ _ _ hp=>
  refine .view id off len v (by have:=h.tn;omega) (fun es he=> ?_) h1
  obtain⟨⟨yd,h0⟩,hpl⟩:=hpins id es hp he
  rw[hpl];exact hs yd h0
 |ref id i j v hid hs h1=>
  cases hb with
  |ref _ _ _ hp=>
  refine .ref id i j v (by have:=h.tn;omega) (fun es he=> ?_) h1
  obtain⟨⟨yd,h0⟩,hpl⟩:=hpins id es hp he
  rw[hpl];exact hs yd h0
 |pp fl j b off c hlt hn hcell _ ih=>
  cases hb with
  |pp _ _ hb=>exact .pp fl j b off c (Nat.lt_of_lt_of_le hlt h.below.size) (h.bad hlt hn) (fun k x hx=>h.holds hlt hn (hcell k x hx)) (fun k x hx=>ih k x hx (hb x (List.mem_of_getElem? hx)))
 |agg cs vs hs h1 _ ih=>cases hb with|agg _ hb=>exact .agg cs vs hs h1 (fun k x hx=>ih k x hx (hb x (List.mem_of_getElem? hx)))
 |tuple cs vs hs _ ih=>cases hb with|tuple _ hb=>exact .tuple cs vs hs (fun k x hx=>ih k x hx (hb x (List.mem_of_getElem? hx)))
 |ifc t x v _ ih=>cases hb with|ifc _ _ hb=>exact .ifc t x v (ih hb)
 |bX fn caps vs hs _ ih=>cases hb with|bX _ _ hb=>exact .bX fn caps vs hs (fun k x hx=>ih k x hx (hb x (List.mem_of_getElem? hx)))

end Go.Av
end

section
/- Steps from one context to the next: a new block, a new object, an object written, an object given up. -/
namespace Go.Av
open Go.RowKit (Below)

section
variable {W0:dU} {C:Ctx}

def Ctx.xE(C:Ctx)(w':World):Ctx:={C with w:=w'}

theorem lP{w':World}(hb:Below C.w.heap.size C.w w'):Ext C (C.xE w') where
 below:=hb.mono (Nat.zero_le _)
 keep b h _:=hb.block b h
 own _ _ h:=h
 next:=Nat.le_refl _
 id _ es _ h:=⟨⟨es,h⟩,rfl⟩
 dm:=rfl
 mI:=rfl
 tn:=rfl

theorem Fb.ext{C':Ctx}{p:Place}{es:List AV}(h:Fb C p es)(he:Ext C C')(hb:C'.w.heap[p.gN]? =C.w.heap[p.gN]?):Fb C' p es where
 n:=h.n
 cap:=h.cap
 gN:=by obtain⟨arr,el,h1,h2⟩:=h.gN;exact⟨arr,el,by rw[hb];exact h1,h2⟩
 one o v hv:=h.one o v (by rw[←hv];exact(World.cell?_of_block (w:=C.w) (a:=⟨p.gN,o,none⟩) hb).symm)
 flat:=h.flat
 cell i j e x v h1 h2 h3:=(h.cell i j e x v h1 h2 (by rw[←h3];exact(World.cell?_of_block (w:=C.w) (a:=⟨p.gN,_,none⟩) hb).symm)).ext he

theorem Inv.lt(hI:Inv W0 C){id:Nat}{es:List AV}(h:C.H.get id=some es)(hn:(C.pl id).nil=false):(C.pl id).gN<C.w.heap.size:=by
 obtain⟨arr,el,h1,_⟩:=(hI.obj id es h hn).gN
 exact(Array.getElem?_eq_some_iff.1 h1).1

theorem Inv.JY(hI:Inv W0 C){b:Nat}(h:C.sp b):∃o:Obj,C.w.heap[b]? =some o∧∀arr el fz,o≠.cells arr el fz:=by
 rcases h with⟨r,h⟩|h
 ·exact⟨_,hI.e8 b r h,fun _ _ _=>by simp⟩
 ·exact⟨_,hI.mI b h,fun _ _ _=>by simp⟩

theorem Inv.ahV(hI:Inv W0 C){b:Nat}(h:C.sp b):b<C.w.heap.size:=by
 obtain⟨o,h1,_⟩:=hI.JY h
 exact(Array.getElem?_eq_some_iff.1 h1).1

theorem Inv.GG(hI:Inv W0 C){b:Nat}(h:C.own b):b<C.w.heap.size:=by
 rcases h with⟨id,es,h1,h2,rfl⟩|h
 ·exact hI.lt h1 h2
 ·exact hI.ahV h

theorem Inv.Dc(hI:Inv W0 C){b:Nat}{arr:Array Value}{el:TypeId}{fz:Nat×Nat}(h:C.sp b)(hb:C.w.heap[b]? =some (.cells arr el fz)):False:=by
 obtain⟨o,h1,h2⟩:=hI.JY h
 rw[h1] at hb
 exact h2 _ _ _ (Option.some.inj hb)

theorem Inv.xE(hI:Inv W0 C){w':World}(hb:Below C.w.heap.size C.w w'):Inv W0 (C.xE w') where
 fresh:=hI.fresh
 nil:=hI.nil
 obj id es h hn:=(hI.obj id es h hn).ext (lP hb) (hb.block _ (hI.lt h hn))
 sep:=hI.sep
 dm:=hI.dm
 oM:=hI.oM
 eE b h:=Nat.lt_of_lt_of_le (hI.eE b h) hb.size
 eZ:=hI.eZ
 size:=Nat.le_trans hI.size hb.size
 iK b h:=⟨by
  have:=(hI.iK b h).1
  rw[←this]
  exact hb.block b (Nat.lt_of_lt_of_le h hI.size),(hI.iK b h).2⟩
 e8 l r h:=by
  have h1:=hI.e8 l r h
  rw[←h1];exact hb.block l (Array.getElem?_eq_some_iff.1 h1).1
 mI d h:=by
  have h1:=hI.mI d h
  rw[←h1];exact hb.block d (Array.getElem?_eq_some_iff.1 h1).1
 y7:=hI.y7
 zM:=hI.zM
 fD:=hI.fD
 pP:=hI.pP
 fZ:=hI.fZ
 gh:=W0.st C _ (lP hb).mem hI.fZ hI.gh

theorem MA(w:World):Below w.heap.size w w.drew:=⟨rfl,rfl,rfl,Nat.le_refl _,fun _ _=>rfl⟩
theorem D6(w:World)(o:Obj):Below w.heap.size w (w.alloc o):=(Below.refl _ _).alloc (Nat.le_refl _) o

theorem tB(w:World)(o:Obj):(w.alloc o).heap[w.heap.size]? =some o:=by show(w.heap.push o)[_]? =_;simp
theorem vo(w:World)(o:Obj):(w.alloc o).heap.size=w.heap.size+1:=by show(w.heap.push o).size=_;simp

def Ctx.del(C:Ctx)(id:Nat):Ctx:={C with H:=C.H.del id}

theorem Ctx.JN{id b:Nat}(h:(C.del id).own b):C.own b:=by
 rcases h with⟨k,es,h1,h2,h3⟩|h
 ·simp only[Ctx.del,aX.A7] at h1
  split at h1
  ·cases h1
  ·exact .inl ⟨k,es,h1,h2,h3⟩
 ·exact .inr h

theorem A6(id:Nat):Ext C (C.del id) where
 below:=.refl _ _
 keep _ _ _:=rfl
 own _ _ h:=Ctx.JN h
 next:=Nat.le_refl _
 id i es _ h:=by
  simp only[Ctx.del,aX.A7] at h
  split at h
  ·cases h
  ·exact⟨⟨es,h⟩,rfl⟩
 dm:=rfl
 mI:=rfl
 tn:=rfl

theorem Inv.del(hI:Inv W0 C)(id:Nat):Inv W0 (C.del id):=by
 have sub:∀k es,(C.del id).H.get k=some es→C.H.get k=some es:=by
  intro k es h
  simp only[Ctx.del,aX.A7] at h
  split at h
  ·cases h
  ·exact h
 exact{
  fresh:=fun k es h=>hI.fresh k es (sub k es h)
  nil:=fun k es h=>hI.nil k es (sub k es h)
  obj:=fun k es h hn=>(hI.obj k es (sub k es h) hn).ext (A6 id) rfl
  sep:=fun a b ea eb ha hb=>hI.sep a b ea eb (sub _ _ ha) (sub _ _ hb)
  dm:=fun k es h=>hI.dm k es (sub k es h)
  oM:=fun k s h=>hI.oM k s (by
   simp only[Ctx.del,aX.ZA] at h
   split at h
   ·cases h
   ·exact h)
  eE:=hI.eE
  eZ:=hI.eZ
  size:=hI.size
  iK:=fun b h=>⟨(hI.iK b h).1,fun ho=>(hI.iK b h).2 (Ctx.JN ho)⟩
  e8:=hI.e8
  mI:=hI.mI
  y7:=hI.y7
  zM:=hI.zM
  fD:=hI.fD
  pP:=hI.pP
  fZ:=hI.fZ
  gh:=W0.st C _ (A6 id).mem hI.fZ hI.gh}

def Ctx.push(C:Ctx)(p:Place)(es:List AV):Ctx:={C with H:=C.H.push p.sz es,pl:=fun k=>if k=C.H.next then p else C.pl k}

theorem Ctx.qL(p:Place)(es:List AV):(C.push p es).pl C.H.next=p:=by simp[Ctx.push]
theorem Ctx.wI(p:Place)(es:List AV){k:Nat}(h:k≠C.H.next):(C.push p es).pl k=C.pl k:=by simp[Ctx.push,h]

theorem Ctx.LS{p:Place}{es:List AV}{b:Nat}(h:(C.push p es).own b):C.own b∨(p.nil=false∧b=p.gN):=by
 rcases h with⟨k,e,h1,h2,h3⟩|h
 ·by_cases hk:k=C.H.next
  ·subst hk
   rw[Ctx.qL] at h2 h3
   exact .inr ⟨h2,h3.symm⟩
  ·simp only[Ctx.push,aX.z7,if_neg hk] at h1
   rw[Ctx.wI _ _ hk] at h2 h3
   exact .inl (.inl ⟨k,e,h1,h2,h3⟩)
 ·exact .inl (.inr h)

theorem zV{C0:Ctx}(he:Ext C0 C)(p:Place)(es:List AV)(hp:p.nil=false→C0.w.heap.size≤p.gN∨C0.own p.gN):Ext C0 (C.push p es) where
 below:=he.below
 keep:=he.keep
 own b hb h:=by
  rcases Ctx.LS h with h|⟨h1,h2⟩
  ·exact he.own b hb h
  ·rcases hp h1 with h3|h3
   ·omega
   ·rw[h2];exact h3
 next:=Nat.le_trans he.next (Nat.le_succ _)
 id i es' hi h:=by
  have hne:i≠C.H.next:=by have:=he.next;omega
  simp only[Ctx.push,aX.z7,if_neg hne] at h
  rw[Ctx.wI _ _ hne]
  exact he.id i es' hi h
 dm:=he.dm
 mI:=he.mI
 tn:=he.tn

theorem dO.push{p:Place}{es:List AV}(hp:p.nil=false→¬C.own p.gN∧(C.w.heap.size≤p.gN)){x:AV}{v:Value}(h:dO C x v):dO (C.push p es) x v:=
 h.ext (zV (.refl C) p es (fun hn=>.inl (hp hn).2))

theorem Inv.push(hI:Inv W0 C)(p:Place)(es:List AV)(hnil:p.nil=true→es=[])(hfree:p.nil=false→¬C.own p.gN∧¬C.dm p.gN∧W0.w.heap.size≤p.gN)
  (hold:∀k e,C.H.get k=some e→(C.pl k).nil=false→Fb (C.push p es) (C.pl k) e)
  (hnew:p.nil=false→Fb (C.push p es) p es)(hG:W0.G (C.push p es)):Inv W0 (C.push p es):=by
 have cases':∀k e,(C.push p es).H.get k=some e→(k=C.H.next∧e=es∧(C.push p es).pl k=p)∨(k≠C.H.next∧C.H.get k=some e∧(C.push p es).pl k=C.pl k):=by
  intro k e h
  by_cases hk:k=C.H.next
  ·subst hk
   simp only[Ctx.push,aX.z7,if_true,Option.some.injEq] at h
   exact .inl ⟨rfl,h.symm,Ctx.qL _ _⟩
  ·simp only[Ctx.push,aX.z7,if_neg hk] at h
   exact .inr ⟨hk,h,Ctx.wI _ _ hk⟩
 exact{
  fresh:=fun k e h=>by
   show k<C.H.next+1
   rcases cases' k e h with⟨rfl,_,_⟩|⟨_,h',_⟩
   ·exact Nat.lt_succ_self _
   ·exact Nat.lt_succ_of_lt (hI.fresh k e h')
  nil:=fun k e h hn=>by
   rcases cases' k e h with⟨rfl,rfl,hp⟩|⟨_,h',hp⟩
   ·rw[hp] at hn;exact hnil hn
   ·rw[hp] at hn;exact hI.nil k e h' hn
  obj:=fun k e h hn=>by
   rcases cases' k e h with⟨rfl,rfl,hp⟩|⟨_,h',hp⟩
   ·rw[hp] at hn ⊢;exact hnew hn
   ·rw[hp] at hn ⊢;exact hold k e h' hn
  sep:=fun a b ea eb ha hb na nb hab=>by
   rcases cases' a ea ha with⟨rfl,rfl,hpa⟩|⟨_,ha',hpa⟩ <;> rcases cases' b eb hb with⟨rfl,rfl,hpb⟩|⟨_,hb',hpb⟩
   ·rfl
   ·rw[hpa] at na hab;rw[hpb] at nb hab
    exact absurd (.inl ⟨b,eb,hb',nb,hab.symm⟩) (hfree na).1
   ·rw[hpa] at na hab;rw[hpb] at nb hab
    exact absurd (.inl ⟨a,ea,ha',na,hab⟩) (hfree nb).1
   ·rw[hpa] at na hab;rw[hpb] at nb hab
    exact hI.sep a b ea eb ha' hb' na nb hab
  dm:=fun k e h hn=>by
   rcases cases' k e h with⟨rfl,rfl,hp⟩|⟨_,h',hp⟩
   ·rw[hp] at hn ⊢;exact(hfree hn).2.1
   ·rw[hp] at hn ⊢;exact hI.dm k e h' hn
  oM:=fun k s h hn=>by
   simp only[Ctx.push,aX.Om] at h
   split at h
   ·rename_i hk;subst hk
    rw[Ctx.qL]
    simpa using h
   ·rename_i hk
    rw[Ctx.wI _ _ hk] at hn ⊢
    exact hI.oM k s h hn
  eE:=hI.eE
  eZ:=hI.eZ
  size:=hI.size
  iK:=fun b h=>⟨(hI.iK b h).1,fun ho=>by
   rcases Ctx.LS ho with h1|⟨h1,h2⟩
   ·exact(hI.iK b h).2 h1
   ·have:=(hfree h1).2.2;omega⟩
  e8:=hI.e8
  mI:=hI.mI
  y7:=hI.y7
  zM:=hI.zM
  fD:=hI.fD
  pP:=hI.pP
  fZ:=Nat.le_succ_of_le hI.fZ
  gh:=hG}

theorem jC{w:World}{b:Nat}{arr:Array Value}{el:TypeId}{fz:Nat×Nat}(h:w.heap[b]? =some (.cells arr el fz))(o:Nat):w.cell? ⟨b,o,none⟩=arr[o]? :=by
 simp[World.cell?,h]

theorem vK(hI:Inv W0 C)(arr:Array Value)(el:TypeId)(es:List AV)(sz cap:Nat)(hsz:cap*sz≤arr.size)(hcap:es.length≤cap)
  (hone:∀v∈arr,v.oneCell'=true)(hfl:∀(i:Nat) (e:AV),es[i]? =some e→e.flat.length=sz)
  (hcell:∀(i j:Nat) (e x:AV) (v:Value),es[i]? =some e→e.flat[j]? =some x→arr[i*sz+j]? =some v→dO C x v):
  Ext C ((C.xE (C.w.alloc (.cells arr el (0,0)))).push ⟨C.w.heap.size,sz,es.length,cap,false⟩ es)∧
  Inv W0 ((C.xE (C.w.alloc (.cells arr el (0,0)))).push ⟨C.w.heap.size,sz,es.length,cap,false⟩ es):=by
 have hb:=D6 C.w (.cells arr el (0,0))
 have h1:Ext C (C.xE (C.w.alloc (.cells arr el (0,0)))):=lP hb
 have I1:=hI.xE hb
 have hE:=zV (C:=C.xE (C.w.alloc (.cells arr el (0,0)))) h1 ⟨C.w.heap.size,sz,es.length,cap,false⟩ es (fun _=>.inl (Nat.le_refl _))
 have hE':=zV (C:=C.xE (C.w.alloc (.cells arr el (0,0)))) (.refl _) ⟨C.w.heap.size,sz,es.length,cap,false⟩ es
 refine⟨hE,I1.push _ _ (fun h=>by cases h) (fun _=>⟨fun ho=> ?_,fun hp=> ?_,hI.size⟩) (fun k e h hn=> ?_) (fun _=> ?_) (W0.st C _ hE.mem hI.fZ hI.gh)⟩
 ·exact Nat.lt_irrefl _ (hI.GG ho)
 ·exact Nat.lt_irrefl _ (hI.eE _ hp)
 ·have:=hI.obj k e h hn
  exact this.ext hE (hb.block _ (hI.lt h hn))
 ·refine⟨rfl,hcap,⟨arr,el,tB _ _,hsz⟩,fun o v h=> ?_,hfl,fun i j e x v h1 h2 h3=> ?_⟩
  ·rw[show((C.xE (C.w.alloc (.cells arr el (0,0)))).push ⟨C.w.heap.size,sz,es.length,cap,false⟩ es).w=C.w.alloc (.cells arr el (0,0)) from rfl,jC (tB C.w _)] at h
   exact hone v (Array.mem_of_getElem? h)
  ·rw[show((C.xE (C.w.alloc (.cells arr el (0,0)))).push ⟨C.w.heap.size,sz,es.length,cap,false⟩ es).w=C.w.alloc (.cells arr el (0,0)) from rfl,jC (tB C.w _)] at h3
   exact(hcell i j e x v h1 h2 h3).ext hE

theorem Nd(hI:Inv W0 C)(sz:Nat):Ext C (C.push ⟨0,sz,0,0,true⟩ [])∧Inv W0 (C.push ⟨0,sz,0,0,true⟩ []):=by
 have hE:=zV (C:=C) (.refl _) ⟨0,sz,0,0,true⟩ [] (fun h=>by cases h)
 exact⟨hE,hI.push _ _ (fun _=>rfl) (fun h=>by cases h) (fun k e h hn=>(hI.obj k e h hn).ext hE rfl) (fun h=>by cases h) (W0.st C _ hE.mem hI.fZ hI.gh)⟩

def Ctx.write(C:Ctx)(id:Nat)(w':World)(es:List AV):Ctx:={C with w:=w',H:=C.H.set id es}

theorem vf(hI:Inv W0 C){id:Nat}{yd:List AV}(hid:C.H.get id=some yd)(hn:(C.pl id).nil=false){arr:Array Value}{el:TypeId}
  (harr:C.w.heap[(C.pl id).gN]? =some (.cells arr el (0,0)))(arr':Array Value)(hsize:arr'.size=arr.size)(es:List AV)(hlen:es.length=yd.length)
  (hone:∀v∈arr',v.oneCell'=true)(hfl:∀(i:Nat) (e:AV),es[i]? =some e→e.flat.length=(C.pl id).sz)
  (hcell:∀(i j:Nat) (e x:AV) (v:Value),es[i]? =some e→e.flat[j]? =some x→arr'[i*(C.pl id).sz+j]? =some v→dO C x v):
  Ext C (C.write id (C.w.setRow (C.pl id).gN arr') es)∧Inv W0 (C.write id (C.w.setRow (C.pl id).gN arr') es):=by
 have hO:=hI.obj id yd hid hn
 have hsame:∀b,(C.write id (C.w.setRow (C.pl id).gN arr') es).own b→C.own b:=by
  rintro b (⟨k,e,h1,h2,h3⟩|h)
  ·simp only[Ctx.write,aX.wB] at h1
   split at h1
   ·rename_i hk;subst hk;exact .inl ⟨k,yd,hid,h2,h3⟩
   ·exact .inl ⟨k,e,h1,h2,h3⟩
  ·exact .inr h
 have hE:Ext C (C.write id (C.w.setRow (C.pl id).gN arr') es):={
  below:=⟨rfl,rfl,rfl,by simp[Ctx.write,World.setRow],fun k hk=>absurd hk (Nat.not_lt_zero k)⟩
  keep:=fun b hb ho=>setRow_other _ _ _ _ (fun hbb=>ho (.inl ⟨id,yd,hid,hn,hbb.symm⟩))
  own:=fun b _ h=>hsame b h
  next:=Nat.le_refl _
  id:=fun i es' _ h=>by
   simp only[Ctx.write,aX.wB] at h
   split at h
   ·rename_i hk;subst hk;exact⟨⟨yd,hid⟩,rfl⟩
   ·exact⟨⟨es',h⟩,rfl⟩
  dm:=rfl
  mI:=rfl
  tn:=rfl}
 have hspne:∀b,C.sp b→b≠(C.pl id).gN:=fun b hb he=>by subst he;exact hI.Dc hb harr
 have hrow:=setRow_heap C.w (C.pl id).gN arr arr' el (0,0) harr
 have cases':∀k e,(C.write id (C.w.setRow (C.pl id).gN arr') es).H.get k=some e→(k=id∧e=es)∨(k≠id∧C.H.get k=some e):=by
  intro k e h
  simp only[Ctx.write,aX.wB] at h
  split at h
  ·rename_i hk;exact .inl ⟨hk,by simpa using h.symm⟩
  ·rename_i hk;exact .inr ⟨hk,h⟩
 refine⟨hE,{
  fresh:=fun k e h=>by
   rcases cases' k e h with⟨rfl,_⟩|⟨_,h'⟩
   ·exact hI.fresh k yd hid
   ·exact hI.fresh k e h'
  nil:=fun k e h hk=>by
   rcases cases' k e h with⟨rfl,_⟩|⟨_,h'⟩
   ·have hk':(C.pl k).nil=true:=hk
    rw[hn] at hk';cases hk'
   ·exact hI.nil k e h' hk
  obj:=fun k e h hk=>by
   rcases cases' k e h with⟨rfl,rfl⟩|⟨hne,h'⟩
   ·refine⟨hO.n.trans hlen.symm,hO.cap,⟨arr',el,hrow, ?_⟩,fun o v hv=> ?_,hfl,fun i j e' x v h1 h2 h3=> ?_⟩
    ·obtain⟨a2,e2,h2,h3⟩:=hO.gN
     rw[harr] at h2
     simp only[Option.some.injEq,Obj.cells.injEq] at h2
     obtain⟨rfl,_⟩:=h2
     rw[hsize];exact h3
    ·have hv':(C.w.setRow (C.pl k).gN arr').cell? ⟨(C.pl k).gN,o,none⟩=some v:=hv
     rw[jC hrow] at hv'
     exact hone v (Array.mem_of_getElem? hv')
    ·have hv':(C.w.setRow (C.pl k).gN arr').cell? ⟨(C.pl k).gN,i*(C.pl k).sz+j,none⟩=some v:=h3
     rw[jC hrow] at hv'
     exact(hcell i j e' x v h1 h2 hv').ext hE
   ·exact(hI.obj k e h' hk).ext hE (setRow_other _ _ _ _ (fun hbb=>hne (hI.sep k id e yd h' hid hk hn hbb)))
  sep:=fun a b ea eb ha hb na nb hab=>by
   have g:∀k e,(C.write id (C.w.setRow (C.pl id).gN arr') es).H.get k=some e→∃e',C.H.get k=some e':=by
    intro k e h
    rcases cases' k e h with⟨rfl,_⟩|⟨_,h'⟩
    ·exact⟨yd,hid⟩
    ·exact⟨e,h'⟩
   obtain⟨e1,h1⟩:=g a ea ha
   obtain⟨e2,h2⟩:=g b eb hb
   exact hI.sep a b e1 e2 h1 h2 na nb hab
  dm:=fun k e h hk=>by
   rcases cases' k e h with⟨rfl,_⟩|⟨_,h'⟩
   ·exact hI.dm k yd hid hk
   ·exact hI.dm k e h' hk
  oM:=fun k s h=>hI.oM k s (by rw[←aX.J1 C.H id es yd hid k];exact h)
  eE:=fun b h=>by simpa [Ctx.write,World.setRow] using hI.eE b h
  eZ:=hI.eZ
  size:=by simpa [Ctx.write,World.setRow] using hI.size
  iK:=fun b h=>⟨by
   have hne:b≠(C.pl id).gN:=fun hbb=>(hI.iK b h).2 (.inl ⟨id,yd,hid,hn,hbb.symm⟩)
   rw[←(hI.iK b h).1]
   exact setRow_other _ _ _ _ hne,fun ho=>(hI.iK b h).2 (hsame b ho)⟩
  e8:=fun l r h=>by
   rw[←hI.e8 l r h]
   exact setRow_other _ _ _ _ (hspne l (.inl ⟨r,h⟩))
  mI:=fun d h=>by
   rw[←hI.mI d h]
   exact setRow_other _ _ _ _ (hspne d (.inr h))
  y7:=hI.y7
  zM:=hI.zM
  fD:=hI.fD
  pP:=hI.pP
  fZ:=hI.fZ
  gh:=W0.st C _ hE.mem hI.fZ hI.gh}⟩

end
end Go.Av
end

section
/- The operations, one by one: what a proof sees of each, and that the model does it. -/
namespace Go.Av
open Go.RowKit (Below)

abbrev Fr:=Nat→Option AV

def _root_.Go.Value.Xd:Value→Bool
 |.agg cs=>cs.all (·.oneCell')
 |.tuple _=>false
 |_=>true

def AV.Is:Value→AV
 |.agg cs=>.agg (cs.toList.map .imm)
 |v=>.imm v

def Nx:List AV→Option (List Value)
 |[]=>some []
 |.imm v::r=>(Nx r).map (v:: ·)
 |_::_=>none

def AV.toV:AV→Option Value
 |.imm v=>some v
 |.agg cs=>(Nx cs).map fun l=>.agg l.toArray
 |_=>none

def AV.dw:AV→Bool
 |.any|.tuple _=>false
 |_=>true

def bA(fr:Fr):Operand→Option AV
 |.tmp t=>fr t
 |.const v=>if v.Xd then some (.Is v) else none
 |.func f=>some (.bX (.func f) [])
 |.global _=>none

def vm(C:Ctx)(fr:Fr)(a:Act)(x:Operand):Prop:=∀t,x=.tmp t→∀av,fr t=some av→dO C av (a.tmps.getD t undef)

def gD(P:Program)(W0:dU)(o:Oper)(fr:Fr)(H:aX)(r:AV)(H':aX):Prop:=
 ∀(C:Ctx) (a:Act),Inv W0 C→C.H=H→(∀x∈o.op.operands,vm C fr a x)→
  ∀(K:Act→World→Prop) (Q:Exit→Act→World→Prop),
   (∀v C',Ext C C'→Inv W0 C'→C'.H=H'→dO C' r v→K (a.put o.dst v) C'.w)→o.wp P a C.w K Q

def Fw(ro:Option Nat):Fence:={fn:=fun _=>True,depth:=none,alive:=false,round:=ro}
theorem EU:Fw none=Fence.wide:=rfl

def Xy(P:Program)(W0:dU)(o:Oper)(fr:Fr)(H:aX)(r:AV)(H':aX):Prop:=
 ∀(C:Ctx) (a:Act),Inv W0 C→C.H=H→(∀x∈o.op.operands,vm C fr a x)→
  ∀(K:Act→World→Prop) (Q:Exit→Act→World→Prop),
   (∀v C',Ext C C'→Inv W0 C'→C'.H=H'→dO C' r v→K (a.put o.dst v) C'.w)→o.wpIn (Fw W0.ro) 0 P a C.w K Q

theorem Py{ro:Option Nat}{n:Nat}{P:Program}{row:String}{args:Array Value}{w:World}{R:Value→World→Prop}(h:Rows P row args w R):RowsIn (Fw ro) n P row args w R:=
 fun c cs _=>let⟨v,w',r,s⟩:=h c cs;⟨v,w',r,stepsIn_wide.2 s⟩
theorem MC{ro:Option Nat}{n:Nat}{P:Program}{f:FuncId}{args:Array Value}{w:World}{R:Ending→World→Prop}:CallsIn (Fw ro) n P f args w R↔Calls P f args w R:=
 ⟨fun h=>(callsIn_wide (n:=n)).1 ⟨trivial,fun cs hr=>h.2 cs hr⟩,fun h=>⟨trivial,fun cs hr=>((callsIn_wide (n:=n)).2 h).2 cs hr⟩⟩

theorem NF{ro:Option Nat}{P:Program}{o:Oper}{a:Act}{w:World}{K:Act→World→Prop}{Q:Exit→Act→World→Prop}(hd:∀c,o.op≠.defer c)(h:o.wp P a w K Q):o.wpIn (Fw ro) 0 P a w K Q:=by
 refine⟨fun _ _=>trivial, ?_⟩
 have hs:o.semAt (Fw ro).round a.eval=execOp a.eval o:=by
  cases ro with
  |none=>rfl
  |some l=>exact Oper.semAt_some l a.eval o hd
 rw[hs]
 unfold Oper.wp at h
 revert h
 generalize (execOp a.eval o).run P w=r
 intro h
 cases r with
 |ok n w'=>
  cases n <;> first|exact h|exact h.elim|skip
  case enter f args=>exact⟨fun hd=>by simp[Fw] at hd,MC.2 h⟩
  case row row args=>exact⟨fun hd=>by simp[Fw] at hd,Py h⟩
 |halt x w'=>cases x <;> first|exact h|exact h.elim

section
variable {P:Program} {W0:dU} {C:Ctx} {fr:Fr} {a:Act} {H:aX} {o:Oper}

theorem pM{vs:Array Value}{k:Nat}(h:k<vs.size):vs[k]? =some (vs.getD k undef):=by
 simp[Array.getD,h]

theorem E_{v:Value}(h:v.Xd=true):dO C (.Is v) v:=by
 cases v <;> try exact dO.imm _ rfl
 case agg cs=>
  have hall:∀(k:Nat) (v:Value),cs[k]? =some v→v.oneCell'=true:=fun k v hv=>by
   have:=Array.all_eq_true'.1 h v (Array.mem_of_getElem? hv);exact this
  refine dO.agg _ cs (by simp) hall (fun k x hx=> ?_)
  simp only[List.getElem?_map,Option.map_eq_some_iff] at hx
  obtain⟨v,hv,rfl⟩:=hx
  have hv':cs[k]? =some v:=by simpa using hv
  have hk:k<cs.size:=(Array.getElem?_eq_some_iff.1 hv').1
  have:cs.getD k undef=v:=by have:=pM hk;rw[hv'] at this;exact(Option.some.inj this).symm
  rw[this]
  exact .imm v (hall k v hv')
 case tuple=>simp[Value.Xd] at h

theorem IM:∀(cs:List AV) (l:List Value),Nx cs=some l→cs=l.map .imm
 |[],l,h=>by simp only[Nx,Option.some.injEq] at h;subst h;rfl
 |x::r,l,h=>by
  cases x <;> simp only[Nx] at h <;> try cases h
  case imm v=>
   obtain⟨l',h',rfl⟩:=Option.map_eq_some_iff.1 h
   rw[List.map_cons,←IM r l' h']

theorem gM{x:AV}{v u:Value}(h:x.toV=some v)(hr:dO C x u):u=v:=by
 cases hr <;> simp only[AV.toV] at h <;> try cases h
 case imm=>rfl
 case agg cs vs hs h1 hx=>
  obtain⟨l,hl,rfl⟩:=Option.map_eq_some_iff.1 h
  have:=IM cs l hl
  subst this
  congr 1
  apply Array.ext
  ·simpa using hs
  ·intro k hk hk'
   have h2:((l.map AV.imm)[k]? :Option AV)=some (.imm (l[k]'(by simpa using hk'))):=by simp at hk' ⊢
   have h3:=hx k _ h2
   have:=pM hk
   rw[Array.getElem?_eq_getElem hk] at this
   generalize vs.getD k undef=q at h3 this
   cases h3
   simpa using this

theorem b6{x:Operand}{av:AV}(h:vm C fr a x)(he:bA fr x=some av):dO C av (a.eval x):=by
 cases x with
 |tmp t=>exact h t rfl av he
 |const v=>
  simp only[bA] at he
  split at he
  ·rename_i hv;simp only[Option.some.injEq] at he;subst he;exact E_ hv
  ·cases he
 |global g=>cases he
 |func f=>
  simp only[bA,Option.some.injEq] at he;subst he
  exact .bX _ [] #[] rfl (fun k x hx=>by simp at hx)


def pv{α:Type}(P:Program):Sem α→Option α
 |.pure a=>some a
 |.program k=>pv P (k P)
 |.mark _ k=>pv P k
 |_=>none

theorem Zl{α:Type}(s:Sem α)(x:α)(w:World)(h:pv P s=some x):s.run P w=.ok x w:=by
 induction s with
 |pure a=>simp only[pv,Option.some.injEq] at h;subst h;rfl
 |program k ih=>exact ih P h
 |mark m k ih=>exact ih h
 |_=>cases h

theorem gD.AA{r:AV}{H':aX}
  (h:∀(C:Ctx) (a:Act),Inv W0 C→C.H=H→(∀x∈o.op.operands,vm C fr a x)→
   ∃v C',(execOp a.eval o).run P C.w=.ok (.value v) C'.w∧Ext C C'∧Inv W0 C'∧C'.H=H'∧dO C' r v):gD P W0 o fr H r H':=by
 intro C a hI hH hx K Q hK
 obtain⟨v,C',hr,h1,h2,h3,h4⟩:=h C a hI hH hx
 unfold Oper.wp
 rw[hr]
 exact hK v C' h1 h2 h3 h4

theorem gD.iA{r:AV}
  (h:∀(C:Ctx) (a:Act),Inv W0 C→C.H=H→(∀x∈o.op.operands,vm C fr a x)→
   ∃v,(execOp a.eval o).run P C.w=.ok (.value v) C.w∧dO C r v):gD P W0 o fr H r H:=
 .AA fun C a hI hH hx=>let⟨v,h1,h2⟩:=h C a hI hH hx;⟨v,C,h1,.refl C,hI,hH,h2⟩

theorem Fi{x:Operand}{r:AV}(ho:o.op=.move x∨o.op=.assign x)(h:bA fr x=some r):gD P W0 o fr H r H:=
 .iA fun C a _ _ hx=>⟨a.eval x,by rcases ho with ho|ho <;> simp[execOp,ho],b6 (hx x (by rcases ho with ho|ho <;> simp[ho,Op.operands])) h⟩

theorem Qn{c x y:Operand}{t:Bool}{r:AV}(ho:o.op=.pick c x y)(hc:bA fr c=some (.imm (.bool t)))(h:bA fr (if t then x else y)=some r):gD P W0 o fr H r H:=
 .iA fun C a _ _ hx=>by
  have h1:=b6 (hx c (by simp[ho,Op.operands])) hc
  have h2:dO C r (a.eval (if t then x else y)):=b6 (by cases t <;> exact hx _ (by simp[ho,Op.operands])) h
  have h3:=gM (v:=.bool t) rfl h1
  refine⟨_, ?_,h2⟩
  cases t <;> simp[execOp,ho,h3,asBool]

def Va(P:Program)(s:Sem Value):Option AV:=
 match pv P s with
 |some v=>if v.Xd then some (.Is v) else none
 |none=>none

theorem Pk{s:Sem Value}{r:AV}(h:Va P s=some r)(w:World):∃v,s.run P w=.ok v w∧∀C,dO C r v:=by
 unfold Va at h
 split at h
 ·rename_i v hv
  split at h
  ·rename_i hk
   simp only[Option.some.injEq] at h;subst h
   exact⟨v,Zl s v w hv,fun C=>E_ hk⟩
  ·cases h
 ·cases h

theorem Qp{op:UnOp}{t:TypeId}{x:Operand}{ax r:AV}{vx:Value}(ho:o.op=.unOp op t x)(hx:bA fr x=some ax)(hvx:ax.toV=some vx)
  (h:Va P (Op.unary op vx)=some r):gD P W0 o fr H r H:=
 .iA fun C a _ _ hr=>by
  obtain⟨v,h1,h2⟩:=Pk h C.w
  have e1:=gM hvx (b6 (hr x (by simp[ho,Op.operands])) hx)
  refine⟨v, ?_,h2 C⟩
  simp[execOp,ho,e1,h1]

theorem bN{x:Operand}{i:Nat}{vs:List AV}{r:AV}(ho:o.op=.extract x i)(hx:bA fr x=some (.tuple vs))(h:vs[i]? =some r):gD P W0 o fr H r H:=
 .iA fun C a _ _ hr=>by
  have h1:=b6 (hr x (by simp[ho,Op.operands])) hx
  generalize hu:a.eval x=u at h1
  cases h1
  case tuple us hs hk=>
   have hlt:i<us.size:=by rw[hs];exact(List.getElem?_eq_some_iff.1 h).1
   refine⟨us.getD i undef, ?_,hk i r h⟩
   have e:=pM hlt
   simp only[execOp,ho,hu,Instr.extract,e]
   rfl

theorem qn{t:TypeId}{d:TypeDesc}{x:Operand}{ax:AV}(ho:o.op=.makeInterface t x)(hx:bA fr x=some ax)(hd:P.underlying t=some d)(hn:∀ms,d≠.interface ms):gD P W0 o fr H (.ifc t ax) H:=
 .iA fun C a _ _ hr=>by
  have h1:=b6 (hr x (by simp[ho,Op.operands])) hx
  refine⟨.iface t (a.eval x), ?_,.ifc t ax _ h1⟩
  cases d <;> first
   |exact absurd rfl (hn _)
   |simp[execOp,ho,Instr.makeInterface,run_underlying hd]

theorem eP{fn:Fn}{caps:Array Operand}{cs:List AV}(ho:o.op=.makeFunc fn #[] caps)(hc:caps.toList.mapM (bA fr)=some cs):gD P W0 o fr H (.bX fn cs) H:=
 .iA fun C a _ _ hr=>by
  refine⟨.func fn #[] (caps.map a.eval),by simp[execOp,ho,Instr.makeFunc], ?_⟩
  have key:∀(l:List Operand) (cs:List AV),l.mapM (bA fr)=some cs→cs.length=l.length∧∀(k:Nat) (x:AV),cs[k]? =some x→∃y,l[k]? =some y∧bA fr y=some x:=by
   intro l
   induction l with
   |nil=>intro cs h;simp only[List.mapM_nil,Option.pure_def,Option.some.injEq] at h;subst h;exact⟨rfl,fun k x hk=>by simp at hk⟩
   |cons y l ih=>
    intro cs h
    rw[List.mapM_cons] at h
    simp only[Option.bind_eq_bind,Option.bind_eq_some_iff,Option.pure_def,Option.some.injEq] at h
    obtain⟨z,hz,zs,hzs,rfl⟩:=h
    obtain⟨h1,h2⟩:=ih zs hzs
    refine⟨by simp[h1],fun k x hk=> ?_⟩
    cases k with
    |zero=>simp at hk;subst hk;exact⟨y,by simp,hz⟩
    |succ k=>simp at hk;simpa using h2 k x hk
  obtain⟨h1,h2⟩:=key _ _ hc
  refine .bX fn cs _ (by simpa using h1.symm) (fun k x hx=> ?_)
  obtain⟨y,hy,he⟩:=h2 k x hx
  have hy':caps[k]? =some y:=by simpa using hy
  have hlt:k<caps.size:=(Array.getElem?_eq_some_iff.1 hy').1
  have:(caps.map a.eval).getD k undef=a.eval y:=by
   have e:=pM (vs:=caps.map a.eval) (k:=k) (by simpa using hlt)
   rw[Array.getElem?_map,hy'] at e
   simpa using e.symm
  rw[this]
  exact b6 (hr y (by simp[ho,Op.operands];exact Array.mem_of_getElem? hy')) he

end
end Go.Av
end

section
/- Reading: the elements of a slice, addresses, loads, lengths, slices of slices. -/
namespace Go.Av
open Go.RowKit (Below)

def Reads(C:Ctx)(es:List AV)(a:Option Addr):Prop:=
 es=[]∨∃b off sz,a=some ⟨b,off,none⟩∧b<C.w.heap.size∧(∀(i:Nat) (e:AV),es[i]? =some e→e.flat.length=sz)∧
  ∀(i j:Nat) (e x:AV),es[i]? =some e→e.flat[j]? =some x→∃v,Holds C.w b (off+i*sz+j) v∧dO C x v

def AV.elems(H:aX):AV→Option (List AV)
 |.imm (.slice none 0 0)=>some []
 |.sl es=>some es
 |.clip es=>some es
 |.view id off len=>(H.get id).map fun es=>(es.drop off).take len
 |_=>none

section
variable {P:Program} {W0:dU} {C:Ctx} {fr:Fr} {a:Act} {H:aX} {o:Oper}

theorem A8(hI:Inv W0 C){id:Nat}{es:List AV}(hid:C.H.get id=some es)(hn:(C.pl id).nil=false){i j:Nat}{e x:AV}(he:es[i]? =some e)(hx:e.flat[j]? =some x):
  ∃v,Holds C.w (C.pl id).gN (i*(C.pl id).sz+j) v∧dO C x v:=by
 have hO:=hI.obj id es hid hn
 obtain⟨arr,el,harr,hsz⟩:=hO.gN
 have hi:i<es.length:=(List.getElem?_eq_some_iff.1 he).1
 have hj:j<(C.pl id).sz:=by rw[←hO.flat i e he];exact(List.getElem?_eq_some_iff.1 hx).1
 have hlt:i*(C.pl id).sz+j<arr.size:=by
  have h1:i+1≤(C.pl id).cap:=by have:=hO.n;have:=hO.cap;omega
  have h2:(i+1)*(C.pl id).sz≤(C.pl id).cap*(C.pl id).sz:=Nat.mul_le_mul_right _ h1
  rw[Nat.add_mul,Nat.one_mul] at h2
  omega
 have hc:C.w.cell? ⟨(C.pl id).gN,i*(C.pl id).sz+j,none⟩=some arr[i*(C.pl id).sz+j]:=by
  rw[jC harr];exact Array.getElem?_eq_getElem hlt
 exact⟨_,⟨hc,hO.one _ _ hc⟩,hO.cell i j e x _ he hx hc⟩

theorem xQ(hI:Inv W0 C){x:AV}{v:Value}{es:List AV}(hr:dO C x v)(he:x.elems C.H=some es):
  ∃a cap,v=.slice a es.length cap∧es.length≤cap∧Reads C es a:=by
 cases hr <;> simp only[AV.elems] at he <;> try cases he
 case imm h1=>
  split at he
  ·rename_i h;injection h with h;subst h
   simp only[Option.some.injEq] at he;subst he
   exact⟨none,0,rfl,Nat.le_refl _,.inl rfl⟩
  ·rename_i h;cases h
  ·rename_i h;cases h
  ·rename_i h;cases h
  ·cases he
 case slNil a cap=>exact⟨a,cap,rfl,Nat.zero_le _,.inl rfl⟩
 case sl b off sz cap c hb hn hc hf hcell hrec=>
  exact⟨_,cap,rfl,hc,.inr ⟨b,off,sz,rfl,hb,hf,fun i j e x h1 h2=>⟨c i j,hcell i j e x h1 h2,hrec i j e x h1 h2⟩⟩⟩
 case clipNil a=>exact⟨a,0,rfl,Nat.zero_le _,.inl rfl⟩
 case clip b off sz c hb hn hf hcell hrec=>
  exact⟨_,_,rfl,Nat.le_refl _,.inr ⟨b,off,sz,rfl,hb,hf,fun i j e x h1 h2=>⟨c i j,hcell i j e x h1 h2,hrec i j e x h1 h2⟩⟩⟩
 case view=>
  rename_i id off len hid hs h1
  obtain⟨yd,h0,rfl⟩:=Option.map_eq_some_iff.1 he
  have:=hs yd h0
  unfold oO at this
  split at this
  ·rename_i hnil
   obtain⟨rfl,rfl,a,rfl⟩:=this
   exact⟨a,0,by simp,by simp,.inl (by simp)⟩
  ·rename_i hnil
   have hnil':(C.pl id).nil=false:=by simpa using hnil
   obtain⟨a,cap,rfl,h2,h3,h4,h5⟩:=this
   have hO:=hI.obj id yd h0 hnil'
   have hlen:((yd.drop off).take len).length=len:=by have:=hO.n;simp;omega
   refine⟨some a,cap,by rw[hlen],by rw[hlen];exact h4, ?_⟩
   rcases h5 with h5|rfl
   ·exact .inl (List.eq_nil_of_length_eq_zero (by rw[hlen];omega))
   ·refine .inr ⟨_,_,(C.pl id).sz,rfl,hI.lt h0 hnil',fun i e h6=> ?_,fun i j e x h6 h7=> ?_⟩
    ·rw[List.getElem?_take] at h6
     split at h6
     ·rw[List.getElem?_drop] at h6;exact hO.flat _ e h6
     ·cases h6
    ·rw[List.getElem?_take] at h6
     split at h6
     ·rw[List.getElem?_drop] at h6
      have:=A8 hI h0 hnil' h6 h7
      rwa [Nat.add_mul] at this
     ·cases h6

theorem sP(b o n:Nat):(⟨b,o,none⟩:Addr).add n=⟨b,o+n,none⟩:=by
 unfold Addr.add;split
 ·subst_vars;rfl
 ·rfl


def vU(P:Program)(t:TypeId):Option (Nat×Bool):=
 match P.info? t,P.underlying t with
 |some i,some d=>some (i.size,match d with|.struct _|.array _ _=>true|_=>false)
 |_,_=>none

def yc(P:Program)(t:TypeId):Option (TypeId×Nat×Nat):=
 match P.underlying t with
 |some (.slice e)=>(P.info? e).map fun i=>(e,i.size,i.bytes)
 |_=>none

def Uh(P:Program)(t:TypeId):Option (Nat×Nat):=
 match P.underlying t with
 |some (.array n e)=>(P.info? e).map fun i=>(n,i.size)
 |_=>none

def u7(P:Program)(t:TypeId)(f:Nat):Option (Nat×Nat×Bool):=
 match P.underlying t with
 |some (.struct fs)=>match(fs[f]? :Option Field) with
  |some fd=>(vU P fd.type).map fun(n,g)=>(fd.offset,n,g)
  |none=>none
 |_=>none

def wP(P:Program)(t:TypeId):Option Value:=(P.info? t).bind (·.zero)

def uv(cs:List AV)(off n:Nat)(ag:Bool):Option AV:=
 if ag then(if off+n≤cs.length then some (.agg ((cs.drop off).take n)) else none) else cs[off]?

theorem GW{t:TypeId}{n:Nat}{g:Bool}(h:vU P t=some (n,g))(w:World):(sizeOf t).run P w=.ok n w∧(isAgg t).run P w=.ok g w:=by
 unfold vU at h
 split at h
 ·rename_i i d hi hd
  simp only[Option.some.injEq,Prod.mk.injEq] at h
  obtain⟨h1,h2⟩:=h
  refine⟨by simp[sizeOf,typeInfo,hi,h1], ?_⟩
  simp only[isAgg,Sem.run_bind,run_underlying hd,Result.andThen_ok]
  subst h2
  cases d <;> rfl
 ·cases h

theorem qx{t e:TypeId}{n m:Nat}(h:yc P t=some (e,n,m)):P.underlying t=some (.slice e)∧∃i,P.info? e=some i∧i.size=n∧i.bytes=m:=by
 unfold yc at h
 split at h
 ·rename_i e' hu
  obtain⟨i,hi,h2⟩:=Option.map_eq_some_iff.1 h
  simp only[Prod.mk.injEq] at h2
  obtain⟨rfl,h3,h4⟩:=h2
  exact⟨hu,i,hi,h3,h4⟩
 ·cases h

theorem Qr{t:TypeId}{n m:Nat}(h:Uh P t=some (n,m)):∃e i,P.underlying t=some (.array n e)∧P.info? e=some i∧i.size=m:=by
 unfold Uh at h
 split at h
 ·rename_i n' e' hu
  obtain⟨i,hi,h2⟩:=Option.map_eq_some_iff.1 h
  simp only[Prod.mk.injEq] at h2
  obtain⟨rfl,h3⟩:=h2
  exact⟨e',i,hu,hi,h3⟩
 ·cases h

theorem QU{t:TypeId}{f:Nat}{off n:Nat}{g:Bool}(h:u7 P t f=some (off,n,g)):∃fs fd,P.underlying t=some (.struct fs)∧fs[f]? =some fd∧fd.offset=off∧vU P fd.type=some (n,g):=by
 unfold u7 at h
 split at h
 ·rename_i fs hu
  split at h
  ·rename_i fd hfd
   obtain⟨⟨n',g'⟩,h1,h2⟩:=Option.map_eq_some_iff.1 h
   simp only[Prod.mk.injEq] at h2
   obtain⟨rfl,rfl,rfl⟩:=h2
   exact⟨fs,fd,hu,hfd,rfl,h1⟩
  ·cases h
 ·cases h

def xZ(C:Ctx)(b off:Nat)(cs:List AV):Prop:=∀(k:Nat) (x:AV),cs[k]? =some x→∃v,Holds C.w b (off+k) v∧dO C x v

theorem xZ.choose{b off:Nat}{cs:List AV}(h:xZ C b off cs):∃vs:List Value,vs.length=cs.length∧(∀(k:Nat) (v:Value),vs[k]? =some v→Holds C.w b (off+k) v)∧∀(k:Nat) (x:AV),cs[k]? =some x→∃v,vs[k]? =some v∧dO C x v:=by
 induction cs generalizing off with
 |nil=>exact⟨[],rfl,fun k v h=>by simp at h,fun k x h=>by simp at h⟩
 |cons c cs ih=>
  obtain⟨v,h1,h2⟩:=h 0 c rfl
  obtain⟨vs,l1,l2,l3⟩:=ih (off:=off+1) (fun k x hk=>by
   have:=h (k+1) x (by simpa using hk)
   rwa [show off+(k+1)=off+1+k by omega] at this)
  refine⟨v::vs,by simp[l1],fun k u hk=> ?_,fun k x hk=> ?_⟩
  ·cases k with
   |zero=>simp at hk;subst hk;simpa using h1
   |succ k=>simp at hk;have:=l2 k u hk;rwa [show off+1+k=off+(k+1) by omega] at this
  ·cases k with
   |zero=>simp at hk;subst hk;exact⟨v,rfl,h2⟩
   |succ k=>simp at hk;simpa using l3 k x hk

theorem Nq{cs:List AV}{vs:List Value}(hl:vs.length=cs.length)(h1:∀(k:Nat) (v:Value),vs[k]? =some v→v.oneCell'=true)(h2:∀(k:Nat) (x:AV),cs[k]? =some x→∃v,vs[k]? =some v∧dO C x v):dO C (.agg cs) (.agg vs.toArray):=by
 refine .agg cs _ (by simpa using hl) (fun k v h=>h1 k v (by simpa using h)) (fun k x h=> ?_)
 obtain⟨v,h3,h4⟩:=h2 k x h
 have:vs.toArray.getD k undef=v:=by
  have hk:k<vs.toArray.size:=by simpa using (List.getElem?_eq_some_iff.1 h3).1
  have e:=pM hk
  simp only[List.getElem?_toArray,h3,Option.some.injEq] at e
  exact e.symm
 rw[this];exact h4

theorem GQ{b o:Nat}{v:Value}(w:World)(h:Holds w b o v):(load ⟨b,o,none⟩).run P w=.ok v w:=by
 rw[run_load,h.1]

theorem th{t:TypeId}{n:Nat}{g:Bool}(ht:vU P t=some (n,g)){b off:Nat}{cs:List AV}(hc:xZ C b off cs){r:AV}(hr:uv cs 0 n g=some r):
  ∃v,(loadVar t ⟨b,off,none⟩).run P C.w=.ok v C.w∧dO C r v:=by
 obtain⟨h1,h2⟩:=GW ht C.w
 unfold uv at hr
 cases g
 ·simp only[Bool.false_eq_true,if_false] at hr
  obtain⟨v,h3,h4⟩:=hc 0 r hr
  refine⟨v, ?_,h4⟩
  simp only[loadVar,Sem.run_bind,h2,Result.andThen_ok,Bool.false_eq_true,if_false]
  exact GQ C.w h3
 ·simp only[if_true,Nat.zero_add,List.drop_zero] at hr
  split at hr
  ·rename_i hle
   simp only[Option.some.injEq] at hr;subst hr
   have hc':xZ C b off (cs.take n):=fun k x hk=>by
    rw[List.getElem?_take] at hk
    split at hk
    ·exact hc k x hk
    ·cases hk
   obtain⟨vs,l1,l2,l3⟩:=hc'.choose
   have hn:vs.length=n:=by rw[l1];simp;omega
   have hrun:=run_loadCells_list (P:=P) C.w ⟨b,off,none⟩ vs (fun j v hj=>by rw[sP];exact(l2 j v hj).1)
   refine⟨.agg vs.toArray, ?_,Nq l1 (fun k v hk=>(l2 k v hk).2) l3⟩
   rw[hn] at hrun
   simp[loadVar,h2,h1,hrun]
  ·cases hr


theorem zS{t:TypeId}{x:Operand}{fl:List AV}{j n:Nat}{g:Bool}{r:AV}(ho:o.op=.load t x)(hx:bA fr x=some (.pp fl j))(ht:vU P t=some (n,g))(hr:uv fl j n g=some r):gD P W0 o fr H r H:=
 .iA fun C a _ _ hop=>by
  have h1:=b6 (hop x (by simp[ho,Op.operands])) hx
  generalize hu:a.eval x=u at h1
  cases h1
  case pp b off c hb hn hcell hrec=>
   have hc:xZ C b (off+j) (fl.drop j):=fun k y hk=>by
    rw[List.getElem?_drop] at hk
    exact⟨c (j+k),by have:=hcell (j+k) y hk;rwa [←Nat.add_assoc] at this,hrec (j+k) y hk⟩
   have hr':uv (fl.drop j) 0 n g=some r:=by
    unfold uv at hr ⊢
    cases g
    ·simpa using hr
    ·simp only[if_true,Nat.zero_add,List.drop_zero,List.length_drop] at hr ⊢
     split at hr
     ·rw[if_pos (by omega)];exact hr
     ·cases hr
   obtain⟨v,h2,h3⟩:=th ht hc hr'
   refine⟨v, ?_,h3⟩
   simp[execOp,ho,hu,Instr.loadAt,Instr.sureAddr,h2]

theorem D7(hI:Inv W0 C){id:Nat}{es:List AV}(hid:C.H.get id=some es)(hn:(C.pl id).nil=false){i:Nat}{e:AV}(he:es[i]? =some e)(j:Nat):
  xZ C (C.pl id).gN (i*(C.pl id).sz+j) (e.flat.drop j):=fun k y hk=>by
 rw[List.getElem?_drop] at hk
 have:=A8 hI hid hn he hk
 rwa [←Nat.add_assoc] at this

theorem GI{cs:List AV}{j n:Nat}{g:Bool}{r:AV}(h:uv cs j n g=some r):uv (cs.drop j) 0 n g=some r:=by
 unfold uv at h ⊢
 cases g
 ·simpa using h
 ·simp only[if_true,Nat.zero_add,List.drop_zero,List.length_drop] at h ⊢
  split at h
  ·rw[if_pos (by omega)];exact h
  ·cases h

theorem bq{t:TypeId}{x:Operand}{id i j n:Nat}{g:Bool}{es:List AV}{e r:AV}(ho:o.op=.load t x)(hx:bA fr x=some (.ref id i j))(hid:H.get id=some es)(he:es[i]? =some e)
  (ht:vU P t=some (n,g))(hr:uv e.flat j n g=some r):gD P W0 o fr H r H:=
 .iA fun C a hI hH hop=>by
  subst hH
  have h1:=b6 (hop x (by simp[ho,Op.operands])) hx
  generalize hu:a.eval x=u at h1
  cases h1
  case ref=>
   rename_i h1 h3 h2
   obtain⟨hn,rfl⟩:=h2 es hid
   obtain⟨v,h4,h5⟩:=th ht (D7 hI hid hn he j) (GI hr)
   refine⟨v, ?_,h5⟩
   simp[execOp,ho,hu,Instr.loadAt,Instr.sureAddr,h4]

end
end Go.Av
end

section
/- Addresses, lengths, slices of slices. -/
namespace Go.Av
open Go.RowKit (Below)

section
variable {P:Program} {W0:dU} {C:Ctx} {fr:Fr} {a:Act} {H:aX} {o:Oper}

theorem zd{s:TypeId}{f off n:Nat}{g:Bool}(h:u7 P s f=some (off,n,g))(hn:0<n)(b p:Nat)(w:World):
  (Instr.fieldAt s (.pointer (some ⟨b,p,none⟩)) f).run P w=.ok (.pointer (some ⟨b,p+off,none⟩)) w:=by
 obtain⟨fs,fd,h1,h2,h3,h4⟩:=QU h
 obtain⟨h5,_⟩:=GW h4 w
 have hn':n≠0:=by omega
 simp[Instr.fieldAt,run_underlying h1,h2,Instr.sureAddr,fieldPlace,h5,hn',h3,sP]

theorem IS{s:TypeId}{x:Operand}{f off n:Nat}{g:Bool}{fl:List AV}{j:Nat}(ho:o.op=.fieldAddr s x f)(hx:bA fr x=some (.pp fl j))(h:u7 P s f=some (off,n,g))(hn:0<n):
  gD P W0 o fr H (.pp fl (j+off)) H:=
 .iA fun C a _ _ hop=>by
  have h1:=b6 (hop x (by simp[ho,Op.operands])) hx
  generalize hu:a.eval x=u at h1
  cases h1
  case pp b q c hb hbad hcell hrec=>
   refine⟨_, ?_,.pp fl (j+off) b q c hb hbad hcell hrec⟩
   simp only[execOp,ho,hu]
   rw[Sem.run_bind,zd h hn,←Nat.add_assoc]
   rfl

theorem yQ{id i j:Nat}{b q:Nat}{u:Value}(hu:u=.pointer (some ⟨b,q,none⟩))(h:id<C.H.next)(h2:∀es,C.H.get id=some es→(C.pl id).nil=false∧b=(C.pl id).gN∧q=i*(C.pl id).sz+j):dO C (.ref id i j) u:=by
 subst hu
 refine .ref id i j _ h (fun es he=> ?_) rfl
 obtain⟨h3,h4,h5⟩:=h2 es he
 exact⟨h3,by rw[h4,h5]⟩

theorem bO{s:TypeId}{x:Operand}{f off n:Nat}{g:Bool}{id i j:Nat}{es:List AV}(ho:o.op=.fieldAddr s x f)(hx:bA fr x=some (.ref id i j))(hid:H.get id=some es)(h:u7 P s f=some (off,n,g))(hn:0<n):
  gD P W0 o fr H (.ref id i (j+off)) H:=
 .iA fun C a _ hH hop=>by
  subst hH
  have h1:=b6 (hop x (by simp[ho,Op.operands])) hx
  generalize hu:a.eval x=u at h1
  cases h1
  case ref=>
   rename_i h1 h3 h2
   obtain⟨hnil,rfl⟩:=h2 es hid
   refine⟨.pointer (some ⟨(C.pl id).gN,i*(C.pl id).sz+(j+off),none⟩), ?_,yQ rfl h1 (fun es he=>⟨hnil,rfl,rfl⟩)⟩
   simp only[execOp,ho,hu]
   rw[Sem.run_bind,zd h hn,Nat.add_assoc]
   rfl


theorem AS{t e:TypeId}{s by':Nat}(h:yc P t=some (e,s,by'))(b p len cap:Nat)(k:IntKind)(n:Nat)(hn:n<len)(w:World):
  (Instr.indexAt t (.slice (some ⟨b,p,none⟩) len cap) (.int k n)).run P w=.ok (.pointer (some ⟨b,p+n*s,none⟩)) w:=by
 obtain⟨hu,i,hi,hs,_⟩:=qx h
 simp[Instr.indexAt,asIntOf,run_underlying hu,sizeOf,typeInfo,hi,hs,sP,hn]

theorem AQ{t:TypeId}{len s:Nat}(h:Uh P t=some (len,s))(b p:Nat)(k:IntKind)(n:Nat)(hn:n<len)(w:World):
  (Instr.indexAt t (.pointer (some ⟨b,p,none⟩)) (.int k n)).run P w=.ok (.pointer (some ⟨b,p+n*s,none⟩)) w:=by
 obtain⟨e,i,hu,hi,hs⟩:=Qr h
 simp[Instr.indexAt,asIntOf,run_underlying hu,sizeOf,typeInfo,hi,hs,sP,hn,Instr.sureAddr]

theorem m6{t e:TypeId}{s by':Nat}{x i:Operand}{ax:AV}{es:List AV}{k:IntKind}{n:Int}{m:Nat}{el:AV}(ho:o.op=.indexAddr t x i)(hx:bA fr x=some ax)(hax:ax=.sl es∨ax=.clip es)(hi:bA fr i=some (.imm (.int k n)))
  (ht:yc P t=some (e,s,by'))(hn:n=m)(hel:es[m]? =some el)(hs:el.flat.length=s):gD P W0 o fr H (.pp el.flat 0) H:=
 .iA fun C a hI hH hop=>by
  have h1:=b6 (hop x (by simp[ho,Op.operands])) hx
  have h2:=gM (v:=.int k n) rfl (b6 (hop i (by simp[ho,Op.operands])) hi)
  have hlt:=(List.getElem?_eq_some_iff.1 hel).1
  generalize hu:a.eval x=u at h1
  subst hn
  have key:∀b off cap sz (c:Nat→Nat→Value),b<C.w.heap.size→¬C.bad b→(∀(i:Nat) (e:AV),es[i]? =some e→e.flat.length=sz)→
    (∀(i j:Nat) (e x:AV),es[i]? =some e→e.flat[j]? =some x→Holds C.w b (off+i*sz+j) (c i j))→(∀(i j:Nat) (e x:AV),es[i]? =some e→e.flat[j]? =some x→dO C x (c i j))→
    u=.slice (some ⟨b,off,none⟩) es.length cap→∃v,(execOp a.eval o).run P C.w=.ok (.value v) C.w∧dO C (.pp el.flat 0) v:=by
   intro b off cap sz c hb hbad hf hcell hrec huv
   have hsz:sz=s:=by rw[←hf m el hel];exact hs
   subst hsz
   refine⟨.pointer (some ⟨b,off+m*sz+0,none⟩), ?_,.pp el.flat 0 b (off+m*sz) (c m) hb hbad (fun j y hy=>hcell m j el y hel hy) (fun j y hy=>hrec m j el y hel hy)⟩
   simp only[execOp,ho,hu,h2,huv]
   rw[Sem.run_bind,AS ht b off es.length cap k m hlt]
   rfl
  rcases hax with rfl|rfl
  ·cases h1
   case slNil=>simp at hlt
   case sl b off sz cap c hb hbad hc hf hcell hrec=>exact key b off cap sz c hb hbad hf hcell hrec rfl
  ·cases h1
   case clipNil=>simp at hlt
   case clip b off sz c hb hbad hf hcell hrec=>exact key b off _ sz c hb hbad hf hcell hrec rfl

theorem Ff{t e:TypeId}{s by':Nat}{x i:Operand}{id off len:Nat}{es:List AV}{k:IntKind}{n:Int}{m:Nat}{el:AV}(ho:o.op=.indexAddr t x i)(hx:bA fr x=some (.view id off len))(hid:H.get id=some es)(hi:bA fr i=some (.imm (.int k n)))
  (ht:yc P t=some (e,s,by'))(hn:n=m)(hm:m<len)(hel:es[off+m]? =some el)(hs:el.flat.length=s):gD P W0 o fr H (.ref id (off+m) 0) H:=
 .iA fun C a hI hH hop=>by
  subst hH
  have h1:=b6 (hop x (by simp[ho,Op.operands])) hx
  have h2:=gM (v:=.int k n) rfl (b6 (hop i (by simp[ho,Op.operands])) hi)
  generalize hu:a.eval x=u at h1
  subst hn
  cases h1
  case view=>
   rename_i hid' h3 h4
   have h5:=h4 es hid
   unfold oO at h5
   split at h5
   ·obtain⟨_,h6,_⟩:=h5;omega
   ·rename_i hnil
    have hnil':(C.pl id).nil=false:=by simpa using hnil
    obtain⟨ad,cap,rfl,h6,h7,h8,h9⟩:=h5
    rcases h9 with h9|rfl
    ·omega
    ·have hsz:(C.pl id).sz=s:=by rw[←(hI.obj id es hid hnil').flat _ el hel];exact hs
     refine⟨.pointer (some ⟨(C.pl id).gN,off*(C.pl id).sz+m*s,none⟩), ?_,yQ rfl hid' (fun es he=>⟨hnil',rfl,by rw[hsz,Nat.add_mul];rfl⟩)⟩
     simp only[execOp,ho,hu,h2]
     rw[Sem.run_bind,AS ht _ _ len cap k m hm]
     rfl

theorem IT{t:TypeId}{N s:Nat}{x i:Operand}{id p j:Nat}{es:List AV}{k:IntKind}{n:Int}{m:Nat}(ho:o.op=.indexAddr t x i)(hx:bA fr x=some (.ref id p j))(hid:H.get id=some es)(hi:bA fr i=some (.imm (.int k n)))
  (ht:Uh P t=some (N,s))(hn:n=m)(hm:m<N):gD P W0 o fr H (.ref id p (j+m*s)) H:=
 .iA fun C a hI hH hop=>by
  subst hH
  have h1:=b6 (hop x (by simp[ho,Op.operands])) hx
  have h2:=gM (v:=.int k n) rfl (b6 (hop i (by simp[ho,Op.operands])) hi)
  generalize hu:a.eval x=u at h1
  subst hn
  cases h1
  case ref=>
   rename_i hid' h3 h4
   obtain⟨hnil,rfl⟩:=h4 es hid
   refine⟨.pointer (some ⟨(C.pl id).gN,p*(C.pl id).sz+j+m*s,none⟩), ?_,yQ rfl hid' (fun es he=>⟨hnil,rfl,by omega⟩)⟩
   simp only[execOp,ho,hu,h2]
   rw[Sem.run_bind,AQ ht _ _ k m hm]
   rfl


theorem sK{b:Builtin}{args:Array Operand}{tys:Array TypeId}(ho:o.op=.call {callee:=.builtin b,args:=args,argTypes:=tys})(a:Act):
  ∃cs,∀w,(execOp a.eval o).run P w=(builtin b tys o.type cs (args.map a.eval)).run P w:=
 ⟨_,fun w=>by simp only[execOp,ho,resolve,invoke];rfl⟩

theorem ET{t e:TypeId}{s by':Nat}{x:Operand}{ax:AV}{es:List AV}(ho:o.op=.call {callee:=.builtin .len,args:= #[x],argTypes:= #[t]})(hx:bA fr x=some ax)(he:ax.elems H=some es)(ht:yc P t=some (e,s,by')):
  gD P W0 o fr H (.imm (.int .i64 es.length)) H:=
 .iA fun C a hI hH hop=>by
  subst hH
  obtain⟨ad,cap,h1,_,_⟩:=xQ hI (b6 (hop x (by simp[ho,Op.operands,Call.operands])) hx) he
  obtain⟨hu,_⟩:=qx ht
  refine⟨.int .i64 es.length, ?_,.imm _ rfl⟩
  obtain⟨cs,hb⟩:=sK (P:=P) ho a
  rw[hb]
  simp[builtin,Builtin.len_,h1,run_underlying hu,goInt]


def n7(fr:Fr)(x:Option Operand)(d:Nat):Option Nat:=
 match x with
 |none=>some d
 |some x=>match bA fr x with
  |some (.imm (.int _ n))=>if 0≤n then some n.toNat else none
  |_=>none

theorem sy{x:Operand}{y m:Nat}{code:BoundsCode}(h:n7 fr (some x) 0=some m)(hr:vm C fr a x)(hm:m≤y)(w:World):(Instr.sliceBound (a.eval x) y code).run P w=.ok m w:=by
 simp only[n7] at h
 split at h
 ·rename_i k n he
  split at h
  ·rename_i h0
   simp only[Option.some.injEq] at h;subst h
   have h1:=gM (v:=.int k n) rfl (b6 hr he)
   have h2:n≤(y:Int):=by omega
   simp[Instr.sliceBound,asIntOf,h1,h0,h2]
  ·cases h
 ·cases h

theorem BK{lo hi mx:Option Operand}{len cap l h m:Nat}(hl:n7 fr lo 0=some l)(hh:n7 fr hi len=some h)(hm:n7 fr mx cap=some m)(hmx:mx.isSome=true→hi.isSome=true)
  (h1:l≤h)(h2:h≤m)(h3:m≤cap)(rl:∀x,lo=some x→vm C fr a x)(rh:∀x,hi=some x→vm C fr a x)(rm:∀x,mx=some x→vm C fr a x)(w:World):
  (Instr.sliceBounds true len cap (lo.map a.eval) (hi.map a.eval) (mx.map a.eval)).run P w=.ok (l,h,m) w:=by
 have e1:∀(code:BoundsCode) x,lo=some x→(Instr.sliceBound (a.eval x) h code).run P w=.ok l w:=fun code x hx=>by
  subst hx;exact sy hl (rl x rfl) h1 w
 have e2:∀(y:Nat) (code:BoundsCode) x,h≤y→hi=some x→(Instr.sliceBound (a.eval x) y code).run P w=.ok h w:=fun y code x hy hx=>by
  subst hx;exact sy (by simpa [n7] using hh) (rh x rfl) hy w
 have e3:∀(code:BoundsCode) x,mx=some x→(Instr.sliceBound (a.eval x) cap code).run P w=.ok m w:=fun code x hx=>by
  subst hx;exact sy (by simpa [n7] using hm) (rm x rfl) h3 w
 cases mx with
 |none=>
  simp only[n7,Option.some.injEq] at hm;subst hm
  cases hi with
  |none=>
   simp only[n7,Option.some.injEq] at hh;subst hh
   cases lo with
   |none=>simp only[n7,Option.some.injEq] at hl;subst hl;simp[Instr.sliceBounds]
   |some x=>simp[Instr.sliceBounds,e1 _ x rfl]
  |some y=>
   cases lo with
   |none=>simp only[n7,Option.some.injEq] at hl;subst hl;simp[Instr.sliceBounds,e2 _ _ y h2 rfl]
   |some x=>simp[Instr.sliceBounds,e1 _ x rfl,e2 _ _ y h2 rfl]
 |some z=>
  cases hi with
  |none=>simp at hmx
  |some y=>
   cases lo with
   |none=>simp only[n7,Option.some.injEq] at hl;subst hl;simp[Instr.sliceBounds,e2 _ _ y h2 rfl,e3 _ z rfl]
   |some x=>simp[Instr.sliceBounds,e1 _ x rfl,e2 _ _ y h2 rfl,e3 _ z rfl]

theorem uR{t e:TypeId}{s by':Nat}(ht:yc P t=some (e,s,by')){x:Operand}{lo hi mx:Option Operand}{ad:Option Addr}{len cap l h m:Nat}(ho:o.op=.slice t x lo hi mx)(hu:a.eval x=.slice ad len cap)
  (hl:n7 fr lo 0=some l)(hh:n7 fr hi len=some h)(hm:n7 fr mx cap=some m)(hmx:mx.isSome=true→hi.isSome=true)
  (h1:l≤h)(h2:h≤m)(h3:m≤cap)(hop:∀x∈o.op.operands,vm C fr a x)(w:World):
  (execOp a.eval o).run P w=.ok (.value (.slice (if m=l then ad else ad.map (·.add (l*s))) (h - l) (m - l))) w:=by
 obtain⟨hty,i,hi',hs,_⟩:=qx ht
 have hb:=BK (P:=P) (a:=a) hl hh hm hmx h1 h2 h3 (fun y hy=>hop y (by simp[ho,Op.operands,hy])) (fun y hy=>hop y (by simp[ho,Op.operands,hy])) (fun y hy=>hop y (by simp[ho,Op.operands,hy])) w
 simp[execOp,ho,hu,Instr.sliceAt,run_underlying hty,Instr.slice,hb,sizeOf,typeInfo,hi',hs]

theorem Oh{es:List AV}{b off sz:Nat}{c:Nat→Nat→Value}{l h:Nat}{s:Nat}(hb:b<C.w.heap.size)(hbad:¬C.bad b)(hf:∀(i:Nat) (e:AV),es[i]? =some e→e.flat.length=sz)
  (hcell:∀(i j:Nat) (e x:AV),es[i]? =some e→e.flat[j]? =some x→Holds C.w b (off+i*sz+j) (c i j))(hrec:∀(i j:Nat) (e x:AV),es[i]? =some e→e.flat[j]? =some x→dO C x (c i j))
  (h1:l≤h)(h2:h≤es.length)(cap:Nat)(hc:h≤cap)(hs:∀e∈es,e.flat.length=s):
  dO C (.sl ((es.drop l).take (h - l))) (.slice (if cap=l then some ⟨b,off,none⟩ else(some (⟨b,off,none⟩:Addr)).map (·.add (l*s))) (h - l) (cap - l)):=by
 have hlen:((es.drop l).take (h - l)).length=h - l:=by simp;omega
 by_cases h0:h - l=0
 ·have:(es.drop l).take (h - l)=[]:=List.eq_nil_of_length_eq_zero (by rw[hlen];exact h0)
  rw[this,h0];exact .slNil _ _
 ·have hne:¬cap=l:=by omega
  rw[if_neg hne]
  have hsz:sz=s:=by
   have hlt:l<es.length:=by omega
   rw[←hf l _ (List.getElem?_eq_getElem hlt)];exact hs _ (List.getElem_mem hlt)
  subst hsz
  have get:∀(i:Nat) (e:AV),((es.drop l).take (h - l))[i]? =some e→es[l+i]? =some e:=fun i e he=>by
   rw[List.getElem?_take] at he
   split at he
   ·rwa [List.getElem?_drop] at he
   ·cases he
  have:=dO.sl (C:=C) ((es.drop l).take (h - l)) b (off+l*sz) sz (cap - l) (fun i j=>c (l+i) j) hb hbad (by rw[hlen];omega) (fun i e he=>hf _ e (get i e he))
   (fun i j e x he hx=>by have:=hcell (l+i) j e x (get i e he) hx;rwa [Nat.add_mul,←Nat.add_assoc] at this) (fun i j e x he hx=>hrec (l+i) j e x (get i e he) hx)
  rw[hlen] at this
  simpa [sP] using this

theorem IX{t e:TypeId}{s by':Nat}{x:Operand}{lo hi:Option Operand}{ax:AV}{es:List AV}{l h:Nat}(ho:o.op=.slice t x lo hi none)(hx:bA fr x=some ax)(hax:ax=.sl es∨ax=.clip es)(ht:yc P t=some (e,s,by'))
  (hl:n7 fr lo 0=some l)(hh:n7 fr hi es.length=some h)(h1:l≤h)(h2:h≤es.length)(hs:∀e∈es,e.flat.length=s):gD P W0 o fr H (.sl ((es.drop l).take (h - l))) H:=
 .iA fun C a hI hH hop=>by
  have hr:=b6 (hop x (by simp[ho,Op.operands])) hx
  generalize hu:a.eval x=u at hr
  have nilcase:es=[]→∀ad cap,u=.slice ad 0 cap→∃v,(execOp a.eval o).run P C.w=.ok (.value v) C.w∧dO C (.sl ((es.drop l).take (h - l))) v:=by
   rintro rfl ad cap rfl
   have hz:l=0∧h=0:=by simp at h2;omega
   obtain⟨rfl,rfl⟩:=hz
   refine⟨_,uR (C:=C) (m:=cap) ht ho hu hl hh rfl (by simp) (Nat.le_refl _) (Nat.zero_le _) (Nat.le_refl _) hop C.w, ?_⟩
   simp only[List.drop_nil,List.take_nil,Nat.sub_zero]
   exact .slNil _ _
  rcases hax with rfl|rfl
  ·cases hr
   case slNil ad cap=>exact nilcase rfl ad cap rfl
   case sl b off sz cap c hb hbad hc hf hcell hrec=>
    exact⟨_,uR (C:=C) (m:=cap) ht ho hu hl hh rfl (by simp) h1 (by omega) (Nat.le_refl _) hop C.w,Oh hb hbad hf hcell hrec h1 h2 cap (by omega) hs⟩
  ·cases hr
   case clipNil ad=>exact nilcase rfl ad 0 rfl
   case clip b off sz c hb hbad hf hcell hrec=>
    exact⟨_,uR (C:=C) (m:=es.length) ht ho hu hl hh rfl (by simp) h1 (by omega) (Nat.le_refl _) hop C.w,Oh hb hbad hf hcell hrec h1 h2 es.length (by omega) hs⟩

end
end Go.Av
end

section
/- Memory that is made, and written. -/
namespace Go.Av
open Go.RowKit (Below)

section
variable {P:Program} {W0:dU} {C:Ctx} {fr:Fr} {a:Act} {H:aX} {o:Oper}

theorem gD.U6{H':aX}
  (h:∀(C:Ctx) (a:Act),Inv W0 C→C.H=H→(∀x∈o.op.operands,vm C fr a x)→
   ∃C',(execOp a.eval o).run P C.w=.ok .skip C'.w∧Ext C C'∧Inv W0 C'∧C'.H=H'):gD P W0 o fr H .any H':=by
 intro C a hI hH hx K Q hK
 obtain⟨C',hr,h1,h2,h3⟩:=h C a hI hH hx
 unfold Oper.wp
 rw[hr]
 exact hK undef C' h1 h2 h3 (.any _)

theorem yP{x:AV}{v:Value}(h:dO C x v)(h1:v.oneCell'=true):x.flat=[x]:=by
 cases h <;> first|rfl|(simp[Value.oneCell'] at h1)

theorem H9{v:Value}(h1:v.oneCell'=true):v.cells= #[v]:=by
 cases v <;> first|rfl|(simp[Value.oneCell'] at h1)

theorem qf{x:AV}{v:Value}(hr:dO C x v)(hs:x.dw=true):
  v.cells.size=x.flat.length∧(∀(k:Nat) (u:Value),v.cells[k]? =some u→u.oneCell'=true)∧∀(k:Nat) (y:AV),x.flat[k]? =some y→∃u,v.cells[k]? =some u∧dO C y u:=by
 have one:v.oneCell'=true→v.cells.size=x.flat.length∧(∀(k:Nat) (u:Value),v.cells[k]? =some u→u.oneCell'=true)∧∀(k:Nat) (y:AV),x.flat[k]? =some y→∃u,v.cells[k]? =some u∧dO C y u:=by
  intro h1
  rw[H9 h1,yP hr h1]
  refine⟨rfl,fun k u hk=> ?_,fun k y hk=> ?_⟩
  ·cases k with
   |zero=>simp at hk;subst hk;exact h1
   |succ k=>simp at hk
  ·cases k with
   |zero=>simp at hk;subst hk;exact⟨v,rfl,hr⟩
   |succ k=>simp at hk
 cases hr
 case any=>cases hs
 case tuple=>cases hs
 case agg cs vs hsz h1 hx=>
  refine⟨hsz,h1,fun k y hk=> ?_⟩
  have hlt:k<vs.size:=by rw[hsz];exact(List.getElem?_eq_some_iff.1 hk).1
  exact⟨_,pM hlt,hx k y hk⟩
 case imm h1=>exact one h1
 case view=>exact one (by assumption)
 case ref=>exact one (by assumption)
 all_goals exact one rfl

theorem tS{α:Type}(cur vs:List α)(p:Nat)(h:p+vs.length≤cur.length)(k:Nat):
  (cur.take p++vs++cur.drop (p+vs.length))[k]? =if k<p then cur[k]? else if k<p+vs.length then vs[k - p]? else cur[k]? :=by
 by_cases h1:k<p
 ·rw[if_pos h1,List.append_assoc,List.getElem?_append_left (by simp;omega),List.getElem?_take,if_pos h1]
 ·rw[if_neg h1]
  by_cases h2:k<p+vs.length
  ·rw[if_pos h2,List.getElem?_append_left (by simp;omega),List.getElem?_append_right (by simp;omega)]
   congr 1;simp;omega
  ·rw[if_neg h2,List.getElem?_append_right (by simp;omega),List.getElem?_drop]
   congr 1;simp;omega

theorem BL{t:TypeId}{n:Nat}{g:Bool}(ht:vU P t=some (n,g)){w:World}{b p:Nat}{arr:Array Value}{el:TypeId}(harr:w.heap[b]? =some (.cells arr el (0,0))){v:Value}(hn:v.cells.size=n)
  (hp:p+n≤arr.size)(h1:∀(k:Nat) (u:Value),v.cells[k]? =some u→u.oneCell'=true):
  (storeVar t ⟨b,p,none⟩ v).run P w=.ok () (w.setRow b (arr.toList.take p++v.cells.toList++arr.toList.drop (p+n)).toArray):=by
 obtain⟨hs,_⟩:=GW ht w
 have:=run_storeCells_at P b p el v.cells.toList 0 arr w harr (by simp;omega) (fun u hu=>by
  obtain⟨k,hk⟩:=List.getElem?_of_mem hu
  exact h1 k u (by simpa using hk))
 simp only[Nat.add_zero,Array.length_toList,hn] at this
 simp[storeVar,hs,hn,this]

theorem aS{t:TypeId}{x y:Operand}{id i j n:Nat}{g:Bool}{es:List AV}{e e' ay:AV}(ho:o.op=.store t x y)(hx:bA fr x=some (.ref id i j))(hy:bA fr y=some ay)(hsol:ay.dw=true)
  (hid:H.get id=some es)(he:es[i]? =some e)(ht:vU P t=some (n,g))(hn:ay.flat.length=n)(hj:j+n≤e.flat.length)(he':e'.flat=e.flat.take j++ay.flat++e.flat.drop (j+n)):
  gD P W0 o fr H .any (H.set id (es.set i e')):=
 .U6 fun C a hI hH hop=>by
  subst hH
  have hrx:=b6 (hop x (by simp[ho,Op.operands])) hx
  have hry:=b6 (hop y (by simp[ho,Op.operands])) hy
  generalize hux:a.eval x=ux at hrx
  generalize huy:a.eval y=v at hry
  obtain⟨c1,c2,c3⟩:=qf hry hsol
  rw[hn] at c1
  cases hrx
  case ref=>
   rename_i hid' h3 h4
   obtain⟨hnil,rfl⟩:=h4 es hid
   have hO:=hI.obj id es hid hnil
   obtain⟨arr,el,harr,hcap⟩:=hO.gN
   have hi:i<es.length:=(List.getElem?_eq_some_iff.1 he).1
   have hel:e.flat.length=(C.pl id).sz:=hO.flat i e he
   have hi1:(i+1)*(C.pl id).sz≤(C.pl id).cap*(C.pl id).sz:=Nat.mul_le_mul_right _ (by have:=hO.n;have:=hO.cap;omega)
   have UA:(i+1)*(C.pl id).sz=i*(C.pl id).sz+(C.pl id).sz:=by rw[Nat.add_mul,Nat.one_mul]
   have hp:i*(C.pl id).sz+j+n≤arr.size:=by omega
   have hrun:=BL (P:=P) ht harr c1 hp c2
   have hlen:∀q,(arr.toList.take (i*(C.pl id).sz+j)++v.cells.toList++arr.toList.drop (i*(C.pl id).sz+j+n))[q]? =
     if q<i*(C.pl id).sz+j then arr.toList[q]? else if q<i*(C.pl id).sz+j+n then v.cells.toList[q - (i*(C.pl id).sz+j)]? else arr.toList[q]? :=fun q=>by
    have:=tS arr.toList v.cells.toList (i*(C.pl id).sz+j) (by simp[c1];omega) q
    simpa [c1] using this
   have hfl':e'.flat.length=(C.pl id).sz:=by rw[he'];simp;omega
   have hw:=vf hI hid hnil harr (arr.toList.take (i*(C.pl id).sz+j)++v.cells.toList++arr.toList.drop (i*(C.pl id).sz+j+n)).toArray (by simp[c1];omega) (es.set i e') (by simp)
    (fun u hu=>by
     obtain⟨q,hq⟩:=Array.getElem?_of_mem hu
     have hq':=hq
     simp only[List.getElem?_toArray] at hq'
     rw[hlen q] at hq'
     have old:arr.toList[q]? =some u→u.oneCell'=true:=fun h=>hO.one q u (by rw[jC harr];simpa using h)
     split at hq'
     ·exact old hq'
     ·split at hq'
      ·exact c2 _ u (by simpa using hq')
      ·exact old hq')
    (fun i' e2 h2=>by
     by_cases hii:i'=i
     ·subst hii
      rw[List.getElem?_set_self hi] at h2
      cases h2;exact hfl'
     ·rw[List.getElem?_set_ne (Ne.symm hii)] at h2
      exact hO.flat i' e2 h2)
    (fun i' j' e2 x2 u h2 h5 h6=>by
     simp only[List.getElem?_toArray] at h6
     rw[hlen] at h6
     have old:∀(e0:AV),es[i']? =some e0→e0.flat[j']? =some x2→arr.toList[i'*(C.pl id).sz+j']? =some u→dO C x2 u:=fun e0 g1 g2 g3=>
      hO.cell i' j' e0 x2 u g1 g2 (by rw[jC harr];simpa using g3)
     by_cases hii:i'=i
     ·subst hii
      rw[List.getElem?_set_self hi] at h2
      cases h2
      rw[he'] at h5
      have h5':=tS e.flat ay.flat j (by omega) j'
      rw[hn] at h5'
      rw[h5'] at h5
      split at h5
      ·rename_i hlt
       rw[if_pos (by omega)] at h6
       exact old e he h5 h6
      ·rename_i hge
       split at h5
       ·rename_i ajW
        rw[if_neg (by omega),if_pos (by omega)] at h6
        obtain⟨u',g1,g2⟩:=c3 _ x2 h5
        have:i'*(C.pl id).sz+j' - (i'*(C.pl id).sz+j)=j' - j:=by omega
        rw[this] at h6
        simp only[Array.getElem?_toList] at h6
        rw[g1] at h6
        cases h6;exact g2
       ·rename_i aiZ
        rw[if_neg (by omega),if_neg (by omega)] at h6
        exact old e he h5 h6
     ·rw[List.getElem?_set_ne (Ne.symm hii)] at h2
      have hj':j'<(C.pl id).sz:=by rw[←hO.flat i' e2 h2];exact(List.getElem?_eq_some_iff.1 h5).1
      have hout:i'*(C.pl id).sz+j'<i*(C.pl id).sz+j∨i*(C.pl id).sz+j+n≤i'*(C.pl id).sz+j':=by
       rcases Nat.lt_or_ge i' i with hlt|hge
       ·have:(i'+1)*(C.pl id).sz≤i*(C.pl id).sz:=Nat.mul_le_mul_right _ hlt
        rw[Nat.add_mul,Nat.one_mul] at this
        omega
       ·have:(i+1)*(C.pl id).sz≤i'*(C.pl id).sz:=Nat.mul_le_mul_right _ (by omega)
        omega
      rcases hout with hlt|hge
      ·rw[if_pos hlt] at h6;exact old e2 h2 h5 h6
      ·rw[if_neg (by omega),if_neg (by omega)] at h6;exact old e2 h2 h5 h6)
   refine⟨_, ?_,hw.1,hw.2,rfl⟩
   simp[execOp,ho,hux,huy,Instr.storeAt,Instr.sureAddr,hrun]
   rfl


theorem N9(hI:Inv W0 C){x:AV}{v:Value}(hr:dO C x v)(hs:x.dw=true)(t:TypeId)(sz:Nat)(es:List AV)(hes:(es=[x]∧sz=x.flat.length)∨(x=.agg es∧sz=1)):
  ∃C',C'.w=C.w.alloc (.cells v.cells t)∧Ext C C'∧Inv W0 C'∧C'.H=C.H.push sz es∧dO C' (.ref C.H.next 0 0) (.pointer (some ⟨C.w.heap.size,0,none⟩)):=by
 obtain⟨c1,c2,c3⟩:=qf hr hs
 have hone:∀u∈v.cells,u.oneCell'=true:=fun u hu=>by
  obtain⟨k,hk⟩:=Array.getElem?_of_mem hu;exact c2 k u hk
 have fin:∀(cap:Nat),(Ext C ((C.xE (C.w.alloc (.cells v.cells t (0,0)))).push ⟨C.w.heap.size,sz,es.length,cap,false⟩ es)∧Inv W0 ((C.xE (C.w.alloc (.cells v.cells t (0,0)))).push ⟨C.w.heap.size,sz,es.length,cap,false⟩ es))→
   ∃C',C'.w=C.w.alloc (.cells v.cells t)∧Ext C C'∧Inv W0 C'∧C'.H=C.H.push sz es∧dO C' (.ref C.H.next 0 0) (.pointer (some ⟨C.w.heap.size,0,none⟩)):=by
  intro cap h
  refine⟨_,rfl,h.1,h.2,rfl,yQ rfl (Nat.lt_succ_self _) (fun es' he=> ?_)⟩
  have hp:((C.xE (C.w.alloc (.cells v.cells t (0,0)))).push ⟨C.w.heap.size,sz,es.length,cap,false⟩ es).pl C.H.next=⟨C.w.heap.size,sz,es.length,cap,false⟩:=Ctx.qL (C:=C.xE _) _ _
  rw[hp]
  exact⟨rfl,rfl,by simp⟩
 rcases hes with⟨rfl,rfl⟩|⟨rfl,rfl⟩
 ·refine fin 1 (vK hI v.cells t [x] x.flat.length 1 (by omega) (by simp) hone (fun i e he=> ?_) (fun i j e y u he hy hu=> ?_))
  ·cases i with
   |zero=>simp at he;subst he;rfl
   |succ i=>simp at he
  ·cases i with
   |zero=>
    simp at he;subst he
    obtain⟨u',g1,g2⟩:=c3 j y hy
    rw[Nat.zero_mul,Nat.zero_add,g1] at hu
    cases hu;exact g2
   |succ i=>simp at he
 ·have hfl:∀(i:Nat) (e:AV),es[i]? =some e→e.flat=[e]:=fun i e he=>by
   obtain⟨u,g1,g2⟩:=c3 i e he
   exact yP g2 (c2 i u g1)
  refine fin es.length (vK hI v.cells t es 1 es.length (by rw[c1];simp[AV.flat]) (Nat.le_refl _) hone (fun i e he=>by rw[hfl i e he];rfl) (fun i j e y u he hy hu=> ?_))
  rw[hfl i e he] at hy
  cases j with
  |zero=>
   simp at hy;subst hy
   obtain⟨u',g1,g2⟩:=c3 i e he
   rw[Nat.mul_one,Nat.add_zero,g1] at hu
   cases hu;exact g2
  |succ j=>simp at hy

theorem bx{t:TypeId}{x:Operand}{ax:AV}(sz:Nat)(es:List AV)(ho:o.op=.box t x)(hx:bA fr x=some ax)(hs:ax.dw=true)(hes:(es=[ax]∧sz=ax.flat.length)∨(ax=.agg es∧sz=1)):gD P W0 o fr H (.ref H.next 0 0) (H.push sz es):=
 .AA fun C a hI hH hop=>by
  subst hH
  have hr:=b6 (hop x (by simp[ho,Op.operands])) hx
  obtain⟨C',h1,h2,h3,h4,h5⟩:=N9 hI hr hs t sz es hes
  refine⟨_,C', ?_,h2,h3,h4,h5⟩
  simp[execOp,ho,Instr.box,newVar,newRow,h1]

theorem bh{t:TypeId}{z:Value}(sz:Nat)(es:List AV)(ho:o.op=.alloc t)(hz:wP P t=some z)(hk:z.Xd=true)(hes:(es=[AV.Is z]∧sz=(AV.Is z).flat.length)∨(AV.Is z=.agg es∧sz=1)):gD P W0 o fr H (.ref H.next 0 0) (H.push sz es):=
 .AA fun C a hI hH hop=>by
  subst hH
  have hr:dO C (.Is z) z:=E_ hk
  have hs:(AV.Is z).dw=true:=by cases z <;> rfl
  obtain⟨C',h1,h2,h3,h4,h5⟩:=N9 hI hr hs t sz es hes
  refine⟨_,C', ?_,h2,h3,h4,h5⟩
  unfold wP at hz
  cases hi:P.info? t with
  |none=>simp[hi] at hz
  |some i=>
   simp only[hi,Option.bind_some] at hz
   simp[execOp,ho,Instr.alloc,zeroValue,typeInfo,hi,hz,newVar,newRow,h1]

end
end Go.Av
end

section
/- Slices that are made: literals, make, append, copy. -/
namespace Go.Av
open Go.RowKit (Below)

section
variable {P:Program} {W0:dU} {C:Ctx} {fr:Fr} {a:Act} {H:aX} {o:Oper}

theorem Ih(vs:List Value)(off:Nat):∀(k:Nat) (cells:Array Value),
  ((vs.zipIdx k).foldl (fun(cs:Array Value) (p:Value×Nat)=>cs.setIfInBounds (off+p.2) p.1) cells).size=cells.size∧
  ∀q,(off+k+vs.length≤cells.size)→((vs.zipIdx k).foldl (fun(cs:Array Value) (p:Value×Nat)=>cs.setIfInBounds (off+p.2) p.1) cells)[q]? =
   if off+k≤q∧q<off+k+vs.length then vs[q - (off+k)]? else cells[q]? :=by
 induction vs with
 |nil=>intro k cells;refine⟨rfl,fun q _=> ?_⟩;rw[if_neg (by simp)];rfl
 |cons v vs ih=>
  intro k cells
  obtain⟨h1,h2⟩:=ih (k+1) (cells.setIfInBounds (off+k) v)
  simp only[List.zipIdx_cons,List.foldl_cons]
  refine⟨by rw[h1];simp,fun q hq=> ?_⟩
  simp only[List.length_cons] at hq
  rw[h2 q (by simp;omega)]
  by_cases hlt:off+k≤q∧q<off+k+(vs.length+1)
  ·rw[List.length_cons,if_pos hlt]
   by_cases h0:q=off+k
   ·subst h0
    rw[if_neg (by omega)]
    simp only[Nat.sub_self,List.getElem?_cons_zero]
    rw[Array.getElem?_setIfInBounds_self_of_lt (by omega)]
   ·rw[if_pos (by omega)]
    rw[show q - (off+k)=(q - (off+(k+1)))+1 by omega,List.getElem?_cons_succ]
  ·rw[List.length_cons,if_neg hlt,if_neg (by omega),Array.getElem?_setIfInBounds_ne (by omega)]

theorem KG(size:Nat):∀(vs:List Value) (k:Nat) (cells:Array Value),(∀v∈vs,v.cells.size=size)→(k+vs.length)*size≤cells.size→
  ∃cells',Instr.fill (fun i=>some (i*size,size)) cells ((vs.zipIdx k).map fun p=>(p.2,p.1))=some cells'∧cells'.size=cells.size∧(∀q,q<k*size→cells'[q]? =cells[q]?)∧
   ∀(i:Nat) (v:Value),vs[i]? =some v→∀j,j<size→cells'[(k+i)*size+j]? =v.cells[j]? :=by
 intro vs
 induction vs with
 |nil=>intro k cells _ _;exact⟨cells,rfl,rfl,fun _ _=>rfl,fun i v h=>by simp at h⟩
 |cons v vs ih=>
  intro k cells hv hsz
  have hvs:v.cells.size=size:=hv v (by simp)
  have e1:(k+(vs.length+1))*size=k*size+(vs.length*size+size):=by rw[Nat.add_mul,Nat.add_mul,Nat.one_mul]
  have e2:(k+1+vs.length)*size=k*size+(vs.length*size+size):=by rw[Nat.add_mul,Nat.add_mul,Nat.one_mul];omega
  simp only[List.length_cons] at hsz
  rw[e1] at hsz
  obtain⟨g1,g2⟩:=Ih v.cells.toList (k*size) 0 cells
  have hg:v.cells.zipIdx.foldl (fun cs (p:Value×Nat)=>cs.setIfInBounds (k*size+p.2) p.1) cells=(v.cells.toList.zipIdx 0).foldl (fun cs (p:Value×Nat)=>cs.setIfInBounds (k*size+p.2) p.1) cells:=by
   rw[←Array.foldl_toList];simp
  have hl:v.cells.toList.length=size:=by simpa using hvs
  have g3:=fun q=>g2 q (by simp only[Array.length_toList,hvs];omega)
  obtain⟨cells',f1,f2,f3,f4⟩:=ih (k+1) ((v.cells.toList.zipIdx 0).foldl (fun cs (p:Value×Nat)=>cs.setIfInBounds (k*size+p.2) p.1) cells) (fun u hu=>hv u (by simp[hu])) (by rw[g1,e2];omega)
  have e3:(k+1)*size=k*size+size:=by rw[Nat.add_mul,Nat.one_mul]
  refine⟨cells', ?_,by rw[f2,g1],fun q hq=> ?_,fun i u hu j hj=> ?_⟩
  ·simp only[List.zipIdx_cons,List.map_cons,Instr.fill]
   rw[if_neg (by simp only[hvs,ne_eq,not_true_eq_false,false_or,Bool.or_eq_true,decide_eq_true_eq];omega)]
   have hfun:(fun(cs:Array Value) (x:Value×Nat)=>cs.setIfInBounds (k*size+x.snd) x.fst)=(fun cs (p:Value×Nat)=>cs.setIfInBounds (k*size+p.2) p.1):=rfl
   first
    |(rw[hg];exact f1)
    |(simp only[] at*;rw[←hg] at f1;exact f1)
  ·rw[f3 q (by omega),g3 q,if_neg (by omega)]
  ·cases i with
   |zero=>
    simp at hu;subst hu
    rw[Nat.add_zero,f3 _ (by omega),g3,if_pos (by rw[hl];omega)]
    simp only[Nat.add_zero,Nat.add_sub_cancel_left,Array.getElem?_toList]
   |succ i=>
    simp at hu
    have:=f4 i u hu j hj
    rwa [show k+1+i=k+(i+1) by omega] at this

theorem Bb(xo:List Operand):∀(xs:List AV),xo.mapM (bA fr)=some xs→xs.length=xo.length∧∀(k:Nat) (x:AV),xs[k]? =some x→∃y,xo[k]? =some y∧bA fr y=some x:=by
 induction xo with
 |nil=>intro xs h;simp only[List.mapM_nil,Option.pure_def,Option.some.injEq] at h;subst h;exact⟨rfl,fun k x hk=>by simp at hk⟩
 |cons y l ih=>
  intro xs h
  rw[List.mapM_cons] at h
  simp only[Option.bind_eq_bind,Option.bind_eq_some_iff,Option.pure_def,Option.some.injEq] at h
  obtain⟨z,hz,zs,hzs,rfl⟩:=h
  obtain⟨h1,h2⟩:=ih zs hzs
  refine⟨by simp[h1],fun k x hk=> ?_⟩
  cases k with
  |zero=>simp at hk;subst hk;exact⟨y,by simp,hz⟩
  |succ k=>simp at hk;simpa using h2 k x hk

theorem S3(hI:Inv W0 C)(es:List AV)(arr:Array Value)(el:TypeId)(sz:Nat)(hone:∀v∈arr,v.oneCell'=true)(hfl:∀(i:Nat) (e:AV),es[i]? =some e→e.flat.length=sz)
  (hcell:∀(i j:Nat) (e x:AV),es[i]? =some e→e.flat[j]? =some x→∃v,arr[i*sz+j]? =some v∧dO C x v):
  Ext C (C.xE (C.w.alloc (.cells arr el)))∧Inv W0 (C.xE (C.w.alloc (.cells arr el)))∧dO (C.xE (C.w.alloc (.cells arr el))) (.clip es) (.slice (some ⟨C.w.heap.size,0,none⟩) es.length es.length):=by
 have hb:=D6 C.w (.cells arr el)
 have hE:Ext C (C.xE (C.w.alloc (.cells arr el))):=lP hb
 refine⟨hE,hI.xE hb, ?_⟩
 refine .clip es C.w.heap.size 0 sz (fun i j=>arr.getD (i*sz+j) undef) (by show _<(C.w.alloc _).heap.size;rw[vo];omega) ?_ hfl (fun i j e x h1 h2=> ?_) (fun i j e x h1 h2=> ?_)
 ·rintro(ho|hp)
  ·exact Nat.lt_irrefl _ (hI.GG ho)
  ·exact Nat.lt_irrefl _ (hI.eE _ hp)
 ·obtain⟨v,g1,g2⟩:=hcell i j e x h1 h2
  have hlt:=(Array.getElem?_eq_some_iff.1 g1).1
  have hv:arr.getD (i*sz+j) undef=v:=by have:=pM hlt;rw[g1] at this;exact(Option.some.inj this).symm
  refine⟨?_,by rw[hv];exact hone v (Array.mem_of_getElem? g1)⟩
  show(C.w.alloc _).cell? _=_
  rw[jC (tB C.w _),hv,Nat.zero_add];exact g1
 ·obtain⟨v,g1,g2⟩:=hcell i j e x h1 h2
  have hlt:=(Array.getElem?_eq_some_iff.1 g1).1
  have hv:arr.getD (i*sz+j) undef=v:=by have:=pM hlt;rw[g1] at this;exact(Option.some.inj this).symm
  rw[hv];exact g2.ext hE

theorem bE{t e:TypeId}{s by' len:Nat}{parts:Array (Nat×Operand)}{xo:List Operand}{xs:List AV}(ho:o.op=.buildSlice t len parts)(hp:parts.toList=xo.zipIdx.map fun p=>(p.2,p.1))(hlen:len=xo.length)
  (hxs:xo.mapM (bA fr)=some xs)(hsol:∀x∈xs,x.dw=true)(hfl:∀x∈xs,x.flat.length=s)(ht:yc P t=some (e,s,by'))(hz:(wP P e).isSome=true)(hsmall:len*s≤16777216):
  gD P W0 o fr H (.clip xs) H:=
 .AA fun C a hI hH hop=>by
  obtain⟨hu,i,hi,hs,_⟩:=qx ht
  unfold wP at hz
  rw[hi] at hz
  obtain⟨z,hz⟩:=Option.isSome_iff_exists.1 hz
  simp only[Option.bind_some] at hz
  obtain⟨m1,m2⟩:=Bb xo xs hxs
  have hops:o.op.operands=(parts.toList.map (·.2)).toArray:=by simp[ho,Op.operands]
  have hrep:∀(k:Nat) (x:AV),xs[k]? =some x→∃y,xo[k]? =some y∧dO C x (a.eval y):=fun k x hk=>by
   obtain⟨y,g1,g2⟩:=m2 k x hk
   refine⟨y,g1,b6 (hop y ?_) g2⟩
   rw[hops,hp]
   simp only[List.mem_toArray,List.map_map,List.mem_map]
   exact⟨(y,k),by rw[List.mem_zipIdx_iff_getElem?];exact g1,rfl⟩
  let vs:=xo.map a.eval
  have hv1:∀v∈vs,v.cells.size=s:=fun v hv=>by
   obtain⟨k,hk⟩:=List.getElem?_of_mem hv
   simp only[vs,List.getElem?_map,Option.map_eq_some_iff] at hk
   obtain⟨y,g1,rfl⟩:=hk
   have hlt:k<xs.length:=by rw[m1];exact(List.getElem?_eq_some_iff.1 g1).1
   obtain⟨y',g2,g3⟩:=hrep k _ (List.getElem?_eq_getElem hlt)
   rw[g1] at g2;cases g2
   rw[(qf g3 (hsol _ (List.getElem_mem hlt))).1]
   exact hfl _ (List.getElem_mem hlt)
  have SJ:∀n,((Array.range (len*s)).map (fun q=>(n:Array Value)[q % n.size]!)).size=len*s:=fun n=>by simp
  obtain⟨cells',f1,f2,f3,f4⟩:=KG s vs 0 ((Array.range (len*s)).map (fun q=>((if len*s=0 then #[] else z.cells:Array Value))[q % (if len*s=0 then #[] else z.cells:Array Value).size]!)) hv1
   (by rw[SJ,hlen];simp[vs])
  have hcells:cells'.size=len*s:=by rw[f2,SJ]
  have hget:∀(k j:Nat) (x y:AV),xs[k]? =some x→x.flat[j]? =some y→∃v,cells'[k*s+j]? =some v∧dO C y v:=fun k j x y hk hj=>by
   obtain⟨yo,g1,g2⟩:=hrep k x hk
   have hm:=List.mem_of_getElem? hk
   obtain⟨c1,c2,c3⟩:=qf g2 (hsol x hm)
   obtain⟨u,g3,g4⟩:=c3 j y hj
   have hjs:j<s:=by rw[←hfl x hm];exact(List.getElem?_eq_some_iff.1 hj).1
   have:=f4 k (a.eval yo) (by simp only[vs,List.getElem?_map,g1];rfl) j hjs
   rw[Nat.zero_add] at this
   exact⟨u,by rw[this];exact g3,g4⟩
  have hone:∀u∈cells',u.oneCell'=true:=fun u hu=>by
   obtain⟨q,hq⟩:=Array.getElem?_of_mem hu
   have hqlt:q<len*s:=by rw[←hcells];exact(Array.getElem?_eq_some_iff.1 hq).1
   have hs0:0<s:=by
    rcases Nat.eq_zero_or_pos s with h|h
    ·subst h;simp at hqlt
    ·exact h
   have hk:q / s<len:=Nat.div_lt_of_lt_mul (by rwa [Nat.mul_comm] at hqlt)
   have hkx:q / s<xs.length:=by rw[m1,←hlen];exact hk
   obtain⟨yo,g1,g2⟩:=hrep (q / s) _ (List.getElem?_eq_getElem hkx)
   obtain⟨c1,c2,c3⟩:=qf g2 (hsol _ (List.getElem_mem hkx))
   have:=f4 (q / s) (a.eval yo) (by simp only[vs,List.getElem?_map,g1];rfl) (q % s) (Nat.mod_lt _ hs0)
   rw[Nat.zero_add,show q / s*s+q % s=q by rw[Nat.mul_comm];exact Nat.div_add_mod q s,hq] at this
   exact c2 _ u this.symm
  obtain⟨h1,h2,h3⟩:=S3 hI xs cells' e s hone (fun k x hk=>hfl x (List.mem_of_getElem? hk)) hget
  refine⟨_,_, ?_,h1,h2,hH,h3⟩
  have hmap:(parts.toList.map fun(p:Nat×Operand)=>(p.1,a.eval p.2))=(vs.zipIdx 0).map fun p=>(p.2,p.1):=by
   rw[hp]
   simp only[vs,List.zipIdx_map,List.map_map]
   rfl
  have hlit:¬(16777216<len*s):=by omega
  have hrun:(Instr.buildSlice t len (parts.map fun(p:Nat×Operand)=>(p.1,a.eval p.2))).run P C.w=.ok (.slice (some ⟨C.w.heap.size,0,none⟩) len len) (C.w.alloc (.cells cells' e)):=by
   by_cases h0:len*s=0
   ·simp only[h0,if_true] at f1
    have f1':Instr.fill (fun i=>some (i*s,s)) #[] ((vs.zipIdx 0).map fun p=>(p.2,p.1))=some cells':=by
     have e0:(Array.map (fun q=>(#[]:Array Value)[q % (#[]:Array Value).size]!) (Array.range 0))= #[]:=Array.eq_empty_of_size_eq_zero (by simp)
     rw[e0] at f1;exact f1
    have e1:∀g:Nat→Value,Array.map g (Array.range 0)= #[]:=fun g=>Array.eq_empty_of_size_eq_zero (by simp)
    simp[Instr.buildSlice,run_underlying hu,sizeOf,typeInfo,hi,hs,h0,hmap,e1,f1',newRow]
   ·simp only[h0,if_false] at f1
    simp[Instr.buildSlice,run_underlying hu,sizeOf,typeInfo,hi,hs,hz,h0,hlit,hmap,f1,newRow,zeroValue]
  have UF:xs.length=len:=by rw[m1,hlen]
  rw[UF]
  simp only[execOp,ho]
  rw[Sem.run_bind,hrun]
  rfl

end
end Go.Av
end

section
/- make, append, copy. -/
namespace Go.Av
open Go.RowKit (Below)

section
variable {P:Program} {W0:dU} {C:Ctx} {fr:Fr} {a:Act} {H:aX} {o:Oper}

theorem BV(z:Array Value)(n k:Nat)(h:k<n)(hz:0<z.size):(madeCells z n)[k]? =z[k % z.size]? :=by
 have:k % z.size<z.size:=Nat.mod_lt _ hz
 simp[madeCells,h,this]

theorem BR{t e:TypeId}{s by':Nat}{x y:Operand}{kl kc:IntKind}{nl nc:Int}{m c:Nat}{z:Value}(ho:o.op=.makeSlice t x y)(hx:bA fr x=some (.imm (.int kl nl)))(hy:bA fr y=some (.imm (.int kc nc)))
  (hl:nl=m)(hc:nc=c)(hmc:m≤c)(ht:yc P t=some (e,s,by'))(hb:by'*c≤140737488355328)(h62:c≤4611686018427387904)(hz:wP P e=some z)(hk:z.Xd=true)(hs:(AV.Is z).flat.length=s):
  gD P W0 o fr H (.view H.next 0 m) (H.push s (List.replicate m (.Is z))):=
 .AA fun C a hI hH hop=>by
  subst hH hl hc
  obtain⟨hu,i,hi,his,hib⟩:=qx ht
  unfold wP at hz
  rw[hi] at hz
  simp only[Option.bind_some] at hz
  have e1:=gM (v:=.int kl m) rfl (b6 (hop x (by simp[ho,Op.operands])) hx)
  have e2:=gM (v:=.int kc c) rfl (b6 (hop y (by simp[ho,Op.operands])) hy)
  have hbc:(i.bytes:Int)*(c:Int)≤281474976710656:=by
   have h1:((by'*c:Nat):Int)≤140737488355328:=by omega
   rw[Int.natCast_mul] at h1
   rw[hib];omega
  have hrun:=run_make (P:=P) C.w t e i z hu hi hz kl kc m c (by omega) (by omega) hbc (by omega)
  simp only[Int.toNat_natCast] at hrun
  obtain⟨c1,c2,c3⟩:=qf (E_ (C:=C) hk) (by cases z <;> rfl)
  rw[hs] at c1
  have hsize:(madeCells z.cells (c*i.size)).size=c*s:=by rw[his];exact size_madeCells _ _
  have key:∀k j,j<s→(k*s+j) % s=j:=fun k j hj=>by rw[Nat.mul_comm,Nat.mul_add_mod];exact Nat.mod_eq_of_lt hj
  have hn:=vK hI (madeCells z.cells (c*i.size)) e (List.replicate m (.Is z)) s c (by rw[hsize];omega) (by simpa using hmc)
   (fun u hu=>by
    obtain⟨q,hq⟩:=Array.getElem?_of_mem hu
    have hlt:=(Array.getElem?_eq_some_iff.1 hq).1
    have hs0:0<s:=by
     rcases Nat.eq_zero_or_pos s with h|h
     ·subst h;omega
     ·exact h
    rw[BV _ _ _ (by rw[hsize] at hlt;rw[his];exact hlt) (by omega)] at hq
    exact c2 _ u hq)
   (fun k e' he=>by
    have:=List.mem_of_getElem? he
    rw[List.eq_of_mem_replicate this];exact hs)
   (fun k j e' x' v he hx' hv=>by
    have he':=List.eq_of_mem_replicate (List.mem_of_getElem? he)
    subst he'
    have hj:j<s:=by rw[←hs];exact(List.getElem?_eq_some_iff.1 hx').1
    have hkm:k<m:=by have:=(List.getElem?_eq_some_iff.1 he).1;simpa using this
    have hlt:k*s+j<c*s:=by
     have:(k+1)*s≤c*s:=Nat.mul_le_mul_right _ (by omega)
     rw[Nat.add_mul,Nat.one_mul] at this;omega
    rw[BV _ _ _ (by rw[his];exact hlt) (by omega),c1,key k j hj] at hv
    obtain⟨u,g1,g2⟩:=c3 j x' hx'
    rw[g1] at hv;cases hv;exact g2)
  refine⟨.slice (some ⟨C.w.heap.size,0,none⟩) m c,_, ?_,hn.1,hn.2,rfl, ?_⟩
  ·simp only[execOp,ho,e1,e2]
   rw[Sem.run_bind,hrun]
   rfl
  ·refine .view _ 0 m _ (Nat.lt_succ_self _) (fun es he=> ?_) rfl
   have hp:((C.xE (C.w.alloc (.cells (madeCells z.cells (c*i.size)) e (0,0)))).push ⟨C.w.heap.size,s,(List.replicate m (AV.Is z)).length,c,false⟩ (List.replicate m (AV.Is z))).pl C.H.next=⟨C.w.heap.size,s,(List.replicate m (AV.Is z)).length,c,false⟩:=Ctx.qL (C:=C.xE _) _ _
   rw[hp]
   unfold oO
   rw[if_neg (by simp)]
   exact⟨_,c,rfl,by simp,by simp,hmc,.inr (by simp)⟩

theorem xg{p:Place}{es:List AV}{off len:Nat}{v:Value}(hp:oO p off len v)(h1:v.oneCell'=true):dO (C.push p es) (.view C.H.next off len) v:=by
 refine .view _ off len v (Nat.lt_succ_self _) (fun es' _=> ?_) h1
 rw[Ctx.qL]
 exact hp

theorem Db{p:Place}{off len cap:Nat}{A:Addr}(hn:p.nil=false)(h1:off+len≤p.n)(h2:off+cap≤p.cap)(h3:len≤cap)(h4:cap=0∨A=⟨p.gN,off*p.sz,none⟩):oO p off len (.slice (some A) len cap):=by
 unfold oO
 rw[if_neg (by simp[hn])]
 exact⟨A,cap,rfl,h1,h2,h3,h4⟩


theorem Ea{s:Nat}:∀(es:List AV),(∀e∈es,e.flat.length=s)→∀(i j:Nat) (e:AV),es[i]? =some e→j<s→(es.flatMap AV.flat)[i*s+j]? =e.flat[j]?
 |[],_,i,j,e,h,_=>by simp at h
 |x::es,hf,i,j,e,h,hj=>by
  have hx:=hf x (by simp)
  simp only[List.flatMap_cons]
  cases i with
  |zero=>
   simp at h;subst h
   rw[Nat.zero_mul,Nat.zero_add,List.getElem?_append_left (by omega)]
  |succ i=>
   have hi:es[i]? =some e:=by simpa using h
   rw[Nat.add_mul,Nat.one_mul,List.getElem?_append_right (by omega),show i*s+s+j - x.flat.length=i*s+j by omega]
   exact Ea es (fun y hy=>hf y (by simp[hy])) i j e hi hj

theorem Eb{s:Nat}:∀(es:List AV),(∀e∈es,e.flat.length=s)→(es.flatMap AV.flat).length=es.length*s
 |[],_=>by simp
 |x::es,hf=>by
  rw[List.flatMap_cons,List.length_append,hf x (by simp),Eb es (fun y hy=>hf y (by simp[hy])),List.length_cons,Nat.add_mul,Nat.one_mul,Nat.add_comm]

theorem FI{s:Nat}:∀(es:List AV),(∀e∈es,e.flat.length=s)→∀(k:Nat) (x:AV),(es.flatMap AV.flat)[k]? =some x→∃i j e,k=i*s+j∧es[i]? =some e∧e.flat[j]? =some x
 |[],_,k,x,h=>by simp at h
 |y::es,hf,k,x,h=>by
  have hy:=hf y (by simp)
  rw[List.flatMap_cons] at h
  by_cases hk:k<s
  ·rw[List.getElem?_append_left (by omega)] at h
   exact⟨0,k,y,by omega,rfl,h⟩
  ·rw[List.getElem?_append_right (by omega),hy] at h
   obtain⟨i,j,e,h1,h2,h3⟩:=FI es (fun z hz=>hf z (by simp[hz])) _ x h
   exact⟨i+1,j,e,by rw[Nat.add_mul,Nat.one_mul];omega,by simpa using h2,h3⟩

theorem Reads.cells{es:List AV}{ad:Option Addr}{s:Nat}(h:Reads C es ad)(hne:es≠[])(hf:∀e∈es,e.flat.length=s):
  ∃b off,ad=some ⟨b,off,none⟩∧∃vs:List Value,vs.length=es.length*s∧(∀(k:Nat) (v:Value),vs[k]? =some v→C.w.cell? ((⟨b,off,none⟩:Addr).add k)=some v∧v.oneCell'=true)∧
   ∀(i j:Nat) (e x:AV),es[i]? =some e→e.flat[j]? =some x→∃v,vs[i*s+j]? =some v∧dO C x v:=by
 rcases h with h|⟨b,off,sz,h1,h2,h3,h4⟩
 ·exact absurd h hne
 ·have hsz:sz=s:=by
   cases es with
   |nil=>exact absurd rfl hne
   |cons e es=>rw[←h3 0 e rfl];exact hf e (by simp)
  subst hsz
  have hc:xZ C b off (es.flatMap AV.flat):=fun k x hk=>by
   obtain⟨i,j,e,rfl,g1,g2⟩:=FI es hf k x hk
   have:=h4 i j e x g1 g2
   rwa [Nat.add_assoc] at this
  obtain⟨vs,l1,l2,l3⟩:=hc.choose
  refine⟨b,off,h1,vs,by rw[l1,Eb es hf],fun k v hk=>by rw[sP];exact⟨(l2 k v hk).1,(l2 k v hk).2⟩,fun i j e x he hx=> ?_⟩
  have hj:j<sz:=by rw[←hf e (List.mem_of_getElem? he)];exact(List.getElem?_eq_some_iff.1 hx).1
  exact l3 _ x (by rw[Ea es hf i j e he hj];exact hx)

theorem Reads.ext{C':Ctx}{es:List AV}{ad:Option Addr}(h:Reads C es ad)(he:Ext C C')(hw:C'.w=C.w):Reads C' es ad:=by
 rcases h with h|⟨b,off,sz,h1,h2,h3,h4⟩
 ·exact .inl h
 ·exact .inr ⟨b,off,sz,h1,by rw[hw];exact h2,h3,fun i j e x g1 g2=>by
   obtain⟨v,g3,g4⟩:=h4 i j e x g1 g2
   exact⟨v,by rw[hw];exact g3,g4.ext he⟩⟩

theorem Mx{vs us:List Value}{s n i j:Nat}(hl:vs.length=n*s)(hj:j<s):(i<n→(vs++us)[i*s+j]? =vs[i*s+j]?)∧(n≤i→(vs++us)[i*s+j]? =us[(i - n)*s+j]?):=by
 refine⟨fun h=> ?_,fun h=> ?_⟩
 ·have:(i+1)*s≤n*s:=Nat.mul_le_mul_right _ h
  rw[Nat.add_mul,Nat.one_mul] at this
  exact List.getElem?_append_left (by omega)
 ·have h1:n*s≤i*s:=Nat.mul_le_mul_right _ h
  rw[List.getElem?_append_right (by omega),hl,Nat.sub_mul]
  congr 1;omega

structure Ow (P:Program) (t e:TypeId) (s by':Nat) (z:Value):Prop where
 el:yc P t=some (e,s,by')
 zr:wP P e=some z
 zs:z.cells.size=s
 z1:z.cells.all (·.oneCell')=true
 pos:0<s
 aiP:0<by'

theorem zT(hI:Inv W0 C){t ty e:TypeId}{s by':Nat}{z:Value}(hT:Ow P t e s by' z){es ys:List AV}{ad bd:Option Addr}{cap capy:Nat}(hes:Reads C es ad)(hys:Reads C ys bd)
  (hfe:∀x∈es,x.flat.length=s)(hfy:∀x∈ys,x.flat.length=s)(hcap:es.length≤cap)(hno:cap<es.length+ys.length)(hnil:ad=none→cap=0)(hsz:(es.length+ys.length)*by'≤140737488355328):
  ∃v C',(Builtin.append_ #[t,t] ty #[.slice ad es.length cap,.slice bd ys.length capy]).run P C.w=.ok v C'.w∧Ext C C'∧Inv W0 C'∧C'.H=C.H.push s (es++ys)∧dO C' (.view C.H.next 0 (es.length+ys.length)) v:=by
 obtain⟨hu,i,hi,his,hib⟩:=qx hT.el
 have hzr:=hT.zr
 unfold wP at hzr
 rw[hi] at hzr
 simp only[Option.bind_some] at hzr
 have hny:ys≠[]:=by rintro rfl;simp at hno;omega
 obtain⟨b,off,rfl,vy,ly,cy,ry⟩:=hys.cells hny hfy
 have hD:Below C.w.heap.size C.w C.w.drew:=MA _
 have I1:=hI.xE hD
 have E1:Ext C (C.xE C.w.drew):=lP hD
 -- what the new block holds
 have fin:∀(ve:List Value) (cap':Nat),ve.length=es.length*s→(∀u∈ve,u.oneCell'=true)→(∀(i j:Nat) (e x:AV),es[i]? =some e→e.flat[j]? =some x→∃v,ve[i*s+j]? =some v∧dO C x v)→es.length+ys.length≤cap'→
   ∃C',C'.w=C.w.drew.alloc (.cells (ve.toArray++vy.toArray++Builtin.zeroCells z.cells (cap' - (es.length+ys.length))) e)∧Ext C C'∧Inv W0 C'∧C'.H=C.H.push s (es++ys)∧
    dO C' (.view C.H.next 0 (es.length+ys.length)) (.slice (some ⟨C.w.heap.size,0,none⟩) (es.length+ys.length) cap'):=by
  intro ve cap' le oe re hcap'
  have hsize:(ve.toArray++vy.toArray++Builtin.zeroCells z.cells (cap' - (es.length+ys.length))).size=cap'*s:=by
   simp only[Array.size_append,List.size_toArray,le,ly,size_zeroCells,hT.zs,Nat.sub_mul,Nat.add_mul]
   have:(es.length+ys.length)*s≤cap'*s:=Nat.mul_le_mul_right _ hcap'
   rw[Nat.add_mul] at this
   omega
  have hfl:∀(k:Nat) (x:AV),(es++ys)[k]? =some x→x.flat.length=s:=fun k x hk=>by
   rcases List.mem_append.1 (List.mem_of_getElem? hk) with h|h
   ·exact hfe x h
   ·exact hfy x h
  have hn:=vK I1 (ve.toArray++vy.toArray++Builtin.zeroCells z.cells (cap' - (es.length+ys.length))) e (es++ys) s cap' (by rw[hsize];omega) (by simpa using hcap')
   (fun u hu=>by
    rcases Array.mem_append.1 hu with h|h
    ·rcases Array.mem_append.1 h with h|h
     ·exact oe u (by simpa using h)
     ·obtain⟨k,hk⟩:=List.getElem?_of_mem (show u∈vy by simpa using h)
      exact(cy k u hk).2
    ·simp only[Builtin.zeroCells,Array.mem_map] at h
     obtain⟨k,hk,rfl⟩:=h
     have h0:0<z.cells.size:=by rw[hT.zs];exact hT.pos
     have hlt:k % z.cells.size<z.cells.size:=Nat.mod_lt _ h0
     rw[getElem!_pos z.cells _ hlt]
     exact Array.all_eq_true'.1 hT.z1 _ (Array.getElem_mem hlt))
   hfl
   (fun k j x y v h1 h2 h3=>by
    have hj:j<s:=by rw[←hfl k x h1];exact(List.getElem?_eq_some_iff.1 h2).1
    have hk:k<es.length+ys.length:=by have:=(List.getElem?_eq_some_iff.1 h1).1;simpa using this
    have hpos:k*s+j<(ve.toArray++vy.toArray).size:=by
     have:(k+1)*s≤(es.length+ys.length)*s:=Nat.mul_le_mul_right _ hk
     rw[Nat.add_mul,Nat.one_mul,Nat.add_mul] at this
     simp only[Array.size_append,List.size_toArray,le,ly];omega
    rw[Array.getElem?_append_left hpos,List.append_toArray,List.getElem?_toArray] at h3
    obtain⟨g1,g2⟩:=Mx (us:=vy) (i:=k) le hj
    by_cases hlt:k<es.length
    ·rw[g1 hlt] at h3
     rw[List.getElem?_append_left hlt] at h1
     obtain⟨u,q1,q2⟩:=re k j x y h1 h2
     rw[q1] at h3;cases h3;exact q2.ext E1
    ·rw[g2 (by omega)] at h3
     rw[List.getElem?_append_right (by omega)] at h1
     obtain⟨u,q1,q2⟩:=ry _ j x y h1 h2
     rw[q1] at h3;cases h3;exact q2.ext E1)
  refine⟨_,rfl,E1.trans hn.1,hn.2,rfl,xg (C:=(C.xE C.w.drew).xE _) (Db rfl (by simp) (by simp) hcap' (.inr ?_)) rfl⟩
  rw[Nat.zero_mul];rfl
 have h63:((es.length+ys.length:Nat):Int)≤9223372036854775807:=by
  have:(es.length+ys.length)*1≤(es.length+ys.length)*by':=Nat.mul_le_mul_left _ hT.aiP
  omega
 have hfit:=growslice_fits (old:=cap) hno hsz
 rw[←hib] at hfit
 cases ad with
 |none=>
  have hc0:=hnil rfl
  subst hc0
  have Wy:es=[]:=List.eq_nil_of_length_eq_zero (by omega)
  subst Wy
  simp only[List.length_nil,Nat.zero_add] at*
  have hr:=run_append_nil (P:=P) C.w t ty e i z hu hi hzr ⟨b,off,none⟩ ys.length capy vy (by rw[ly,his]) (fun j v hj=>(cy j v hj).1) (by omega) (by omega) (by rw[hib];omega)
  obtain⟨C',w1,w2,w3,w4,w5⟩:=fin [] (grownCap C.w ys.length 0 e) (by simp) (by simp) (fun i j e x h=>by rw[List.getElem?_nil] at h;cases h) (grownCap_ge _ _ _ _)
  exact⟨_,C',by rw[hr,w1,show([]:List Value).toArray++vy.toArray=vy.toArray by simp],w2,w3,w4,w5⟩
 |some A=>
  by_cases Wy:es=[]
  ·subst Wy
   simp only[List.length_nil,Nat.zero_add] at*
   have hr:=run_append_grow (P:=P) C.w t ty e i z hu hi hzr A 0 cap [] (by simp) (fun j v h=>by simp at h) ⟨b,off,none⟩ ys.length capy vy (by rw[ly,his]) (fun j v hj=>(cy j v hj).1) (by omega) (by simpa using h63) (by simpa using hfit)
   obtain⟨C',w1,w2,w3,w4,w5⟩:=fin [] (grownCap C.w ys.length cap e) (by simp) (by simp) (fun i j e x h=>by rw[List.getElem?_nil] at h;cases h) (grownCap_ge _ _ _ _)
   exact⟨_,C',by rw[w1];simpa using hr,w2,w3,w4,w5⟩
  ·obtain⟨b',off',hA,ve,le,ce,re⟩:=hes.cells Wy hfe
   cases hA
   have hr:=run_append_grow (P:=P) C.w t ty e i z hu hi hzr ⟨b',off',none⟩ es.length cap ve (by rw[le,his]) (fun j v hj=>(ce j v hj).1) ⟨b,off,none⟩ ys.length capy vy (by rw[ly,his]) (fun j v hj=>(cy j v hj).1) (by omega) h63 hfit
   obtain⟨C',w1,w2,w3,w4,w5⟩:=fin ve (grownCap C.w (es.length+ys.length) cap e) le (fun u hu=>by obtain⟨k,hk⟩:=List.getElem?_of_mem hu;exact(ce k u hk).2) re (grownCap_ge _ _ _ _)
   exact⟨_,C',by rw[hr,w1],w2,w3,w4,w5⟩

theorem uQ{t ty e:TypeId}{s by':Nat}(ht:yc P t=some (e,s,by'))(ad bd:Option Addr)(n cap capy:Nat)(h:n≤cap)(w:World):
  (Builtin.append_ #[t,t] ty #[.slice ad n cap,.slice bd 0 capy]).run P w=.ok (.slice ad n cap) w:=by
 obtain⟨hu,i,hi,his,_⟩:=qx ht
 cases bd <;> cases ad <;> simp[Builtin.append_,run_underlying hu,sizeOf,typeInfo,hi,Builtin.lenOf,h,Builtin.firstCells,loadCells,loadCellsFrom,storeCells]

theorem BQ{t ty:TypeId}{x y:Operand}{r:AV}{H':aX}(ho:o.op=.call {callee:=.builtin .append,args:= #[x,y],argTypes:= #[t,t]})(hty:o.type=ty){ax ay:AV}(hx:bA fr x=some ax)(hy:bA fr y=some ay){ys:List AV}(hys:ay.elems H=some ys)
  (key:∀(C:Ctx) (u:Value) (bd:Option Addr) (capy:Nat),Inv W0 C→C.H=H→dO C ax u→Reads C ys bd→ys.length≤capy→
   ∃v C',(Builtin.append_ #[t,t] ty #[u,.slice bd ys.length capy]).run P C.w=.ok v C'.w∧Ext C C'∧Inv W0 C'∧C'.H=H'∧dO C' r v):gD P W0 o fr H r H':=
 .AA fun C a hI hH hop=>by
  subst hH
  have hrx:=b6 (hop x (by simp[ho,Op.operands,Call.operands])) hx
  obtain⟨bd,capy,e1,e2,e3⟩:=xQ hI (b6 (hop y (by simp[ho,Op.operands,Call.operands])) hy) hys
  obtain⟨v,C',h1,h2,h3,h4,h5⟩:=key C (a.eval x) bd capy hI rfl hrx e3 e2
  refine⟨v,C', ?_,h2,h3,h4,h5⟩
  obtain⟨cs,hb⟩:=sK (P:=P) ho a
  rw[hb]
  simp[builtin,e1,hty,h1]

theorem C8(hI:Inv W0 C)(sz:Nat)(ad:Option Addr):∃C',C'.w=C.w∧Ext C C'∧Inv W0 C'∧C'.H=C.H.push sz []∧dO C' (.view C.H.next 0 0) (.slice ad 0 0):=by
 obtain⟨h1,h2⟩:=Nd hI sz
 refine⟨C.push ⟨0,sz,0,0,true⟩ [],rfl,h1,h2,rfl,xg (by unfold oO;rw[if_pos rfl];exact⟨rfl,rfl,ad,rfl⟩) rfl⟩

theorem Fc{t ty e:TypeId}{s by':Nat}{z:Value}{x y:Operand}(hT:Ow P t e s by' z)(ho:o.op=.call {callee:=.builtin .append,args:= #[x,y],argTypes:= #[t,t]})(hty:o.type=ty){ax ay:AV}(hx:bA fr x=some ax)(hax:ax=.imm (.slice none 0 0)∨ax=.clip [])(hy:bA fr y=some ay){ys:List AV}(hys:ay.elems H=some ys)
  (hfy:∀x∈ys,x.flat.length=s)(hsz:ys.length*by'≤140737488355328):gD P W0 o fr H (.view H.next 0 ys.length) (H.push s ys):=
 BQ ho hty hx hy hys fun C u bd capy hI hH hr hrd hcy=>by
  have hu:∃ad,u=.slice ad 0 0:=by
   rcases hax with rfl|rfl
   ·exact⟨none,gM rfl hr⟩
   ·cases hr
    case clipNil ad=>exact⟨ad,rfl⟩
    case clip=>exact⟨_,rfl⟩
  obtain⟨ad,rfl⟩:=hu
  by_cases h0:ys=[]
  ·subst h0
   obtain⟨C',h1,h2,h3,h4,h5⟩:=C8 hI s ad
   exact⟨.slice ad 0 0,C',by rw[h1];exact uQ hT.el ad bd 0 0 capy (Nat.le_refl _) C.w,h2,h3,by rw[h4,hH],by rw[←hH];exact h5⟩
  ·have hpos:0<ys.length:=List.length_pos_iff.2 h0
   obtain⟨v,C',h1,h2,h3,h4,h5⟩:=zT (P:=P) (ty:=ty) hI hT (es:=[]) (ad:=ad) (cap:=0) (capy:=capy) (.inl rfl) hrd (by simp) hfy (by simp) (by simpa using hpos) (fun _=>rfl) (by simpa using hsz)
   simp only[List.length_nil,Nat.zero_add,List.nil_append] at h1 h4 h5
   exact⟨v,C',h1,h2,h3,by rw[h4,hH],by rw[←hH];exact h5⟩

theorem Km(hI:Inv W0 C){t ty e:TypeId}{s by':Nat}{z:Value}(hT:Ow P t e s by' z){id:Nat}{es ys:List AV}(hid:C.H.get id=some es)(hs:C.H.sz id=some s)(hnil':(C.pl id).nil=false){A:Addr}{bd:Option Addr}{cap capy:Nat}(hrd:Reads C ys bd)
  (hfe:∀x∈es,x.flat.length=s)(hfy:∀x∈ys,x.flat.length=s)(g2:0+cap≤(C.pl id).cap)(g4:cap=0∨A=⟨(C.pl id).gN,0*(C.pl id).sz,none⟩)(hroom:es.length+ys.length≤cap):
  ∃v C',(Builtin.append_ #[t,t] ty #[.slice (some A) es.length cap,.slice bd ys.length capy]).run P C.w=.ok v C'.w∧Ext C C'∧Inv W0 C'∧C'.H=(C.H.del id).push s (es++ys)∧dO C' (.view C.H.next 0 (es.length+ys.length)) v:=by
 have hO:=hI.obj id es hid hnil'
 obtain⟨arr,el,harr,hcap⟩:=hO.gN
 have hszp:(C.pl id).sz=s:=hI.oM id s hs hnil'
 rw[hszp] at hcap
 have abq:cap≠0∨ys=[]:=by
  rcases Nat.eq_zero_or_pos cap with h|h
  ·right;exact List.eq_nil_of_length_eq_zero (by omega)
  ·left;omega
 obtain⟨hu,ti,hi,his,_⟩:=qx hT.el
 -- the new cells
 have hnews:∃vy:List Value,vy.length=ys.length*s∧(∀v∈vy,v.oneCell'=true)∧(∀(i j:Nat) (e x:AV),ys[i]? =some e→e.flat[j]? =some x→∃v,vy[i*s+j]? =some v∧dO C x v)∧
   (Builtin.append_ #[t,t] ty #[.slice (some A) es.length cap,.slice bd ys.length capy]).run P C.w=
    .ok (.slice (some A) (es.length+ys.length) cap) (C.w.setRow (C.pl id).gN (arr.toList.take (es.length*s)++vy++arr.toList.drop (es.length*s+vy.length)).toArray):=by
  by_cases h0:ys=[]
  ·subst h0
   refine⟨[],by simp,by simp,fun i j e x h=>by simp at h, ?_⟩
   have:=uQ (P:=P) (ty:=ty) hT.el (some A) bd es.length cap capy (by simpa using hroom) C.w
   simp only[List.length_nil,Nat.add_zero,List.append_nil,List.take_append_drop,Array.toArray_toList]
   rw[setRow_self C.w _ arr el (0,0) harr]
   exact this
  ·obtain⟨b,off,rfl,vy,ly,cy,ry⟩:=hrd.cells h0 hfy
   have hA:A=⟨(C.pl id).gN,0,none⟩:=by
    rcases g4 with g4|g4
    ·rcases abq with h|h
     ·exact absurd g4 h
     ·exact absurd h h0
    ·rw[g4,Nat.zero_mul]
   subst hA
   refine⟨vy,ly,fun v hv=>by obtain⟨k,hk⟩:=List.getElem?_of_mem hv;exact(cy k v hk).2,ry, ?_⟩
   have hf:=run_firstCells_some (P:=P) C.w ti.size ys.length ⟨b,off,none⟩ ys.length capy vy (by rw[ly,his]) (fun j v hj=>(cy j v hj).1)
   have hfit:es.length*s+vy.length≤arr.size:=by
    rw[ly,←Nat.add_mul]
    exact Nat.le_trans (Nat.mul_le_mul_right _ (by omega)) hcap
   have hst:=run_storeCells_at P (C.pl id).gN (es.length*s) el vy 0 arr C.w harr (by simpa using hfit) (fun v hv=>by obtain⟨k,hk⟩:=List.getElem?_of_mem hv;exact(cy k v hk).2)
   simp only[Nat.add_zero] at hst
   simp only[his] at hf
   simp[Builtin.append_,run_underlying hu,sizeOf,typeInfo,hi,his,Builtin.lenOf,hroom,hf,sP,hst]
 obtain⟨vy,ly,oy,ry,hrun⟩:=hnews
 have hfit:es.length*s+vy.length≤arr.size:=by
  rw[ly,←Nat.add_mul]
  exact Nat.le_trans (Nat.mul_le_mul_right _ (by omega)) hcap
 have hget:=fun q=>tS arr.toList vy (es.length*s) (by simpa using hfit) q
 have hlen':(arr.toList.take (es.length*s)++vy++arr.toList.drop (es.length*s+vy.length)).length=arr.size:=by simp;omega
 generalize (arr.toList.take (es.length*s)++vy++arr.toList.drop (es.length*s+vy.length))=arr' at hget hrun hlen'
 -- first the cells are written: the object stays as it is
 have hw:=vf hI hid hnil' harr arr'.toArray (by simpa using hlen') es rfl
  (fun u hu=>by
   obtain⟨q,hq⟩:=Array.getElem?_of_mem hu
   rw[List.getElem?_toArray,hget q] at hq
   have old:arr.toList[q]? =some u→u.oneCell'=true:=fun h=>hO.one q u (by rw[jC harr];simpa using h)
   split at hq
   ·exact old hq
   ·split at hq
    ·exact oy u (List.mem_of_getElem? hq)
    ·exact old hq)
  hO.flat
  (fun i j e' x' u h1 h2 h3=>by
   rw[List.getElem?_toArray,hget] at h3
   have hj:j<s:=by rw[←hfe e' (List.mem_of_getElem? h1)];exact(List.getElem?_eq_some_iff.1 h2).1
   have hi':i<es.length:=(List.getElem?_eq_some_iff.1 h1).1
   have:(i+1)*s≤es.length*s:=Nat.mul_le_mul_right _ hi'
   rw[Nat.add_mul,Nat.one_mul] at this
   rw[hszp,if_pos (by omega)] at h3
   exact hO.cell i j e' x' u h1 h2 (by rw[jC harr,hszp];simpa using h3))
 -- then it is given up, and laid anew
 refine⟨_,(((C.write id (C.w.setRow (C.pl id).gN arr'.toArray) es).del id).push ⟨(C.pl id).gN,s,es.length+ys.length,(C.pl id).cap,false⟩ (es++ys)),hrun, ?_⟩
 generalize hC2:C.write id (C.w.setRow (C.pl id).gN arr'.toArray) es=C2 at hw
 obtain⟨E2,I2⟩:=hw
 have q1:C2.H.get id=some es:=by rw[←hC2];simp[Ctx.write,aX.wB]
 have q2:C2.pl=C.pl:=by rw[←hC2];rfl
 have q3:C2.w.heap[(C.pl id).gN]? =some (.cells arr'.toArray el (0,0)):=by
  rw[←hC2];exact setRow_heap C.w (C.pl id).gN arr _ el (0,0) harr
 have q4:C2.H.next=C.H.next:=by rw[←hC2];rfl
 have E3:Ext C2 ((C2.del id).push ⟨(C.pl id).gN,s,es.length+ys.length,(C.pl id).cap,false⟩ (es++ys)):=zV (C:=C2.del id) (A6 id) _ _ (fun _=>.inr (.inl ⟨id,es,q1,by rw[q2];exact hnil',by rw[q2]⟩))
 have I3:Inv W0 ((C2.del id).push ⟨(C.pl id).gN,s,es.length+ys.length,(C.pl id).cap,false⟩ (es++ys)):=by
  refine(I2.del id).push _ _ (fun h=>by cases h) (fun _=>⟨?_, ?_, ?_⟩) (fun k e' hk hn=> ?_) (fun _=> ?_) (W0.st C2 _ E3.mem I2.fZ I2.gh)
  ·rintro(⟨k,e',h1,h2,h3⟩|h)
   rotate_left
   ·exact I2.Dc h q3
   have h1':=h1
   simp only[Ctx.del,aX.A7] at h1'
   split at h1'
   ·cases h1'
   ·rename_i hne
    have h2':(C2.pl k).nil=false:=h2
    exact hne (I2.sep k id e' es h1' q1 h2' (by rw[q2];exact hnil') (by rw[q2];have h3':(C2.pl k).gN=_:=h3;rw[q2] at h3';exact h3'))
  ·have:=I2.dm id es q1 (by rw[q2];exact hnil')
   rw[q2] at this;exact this
  ·rcases Nat.lt_or_ge (C.pl id).gN W0.w.heap.size with h|h
   ·exact absurd (.inl ⟨id,es,hid,hnil',rfl⟩) (hI.iK _ h).2
   ·exact h
  ·simp only[Ctx.del,aX.A7] at hk
   split at hk
   ·cases hk
   ·exact(I2.obj k e' hk hn).ext E3 rfl
  ·refine⟨by simp,by show es.length+ys.length≤(C.pl id).cap;omega,⟨_,el,q3,by simpa [hlen'] using hcap⟩,fun q u hu=> ?_,fun i e' he=> ?_,fun i j e' x' u h1 h2 h3=> ?_⟩
   ·have:=(I2.obj id es q1 (by rw[q2];exact hnil')).one q u
    rw[q2] at this
    exact this hu
   ·rcases List.mem_append.1 (List.mem_of_getElem? he) with h|h
    ·exact hfe _ h
    ·exact hfy _ h
   ·have hfl:e'.flat.length=s:=by
     rcases List.mem_append.1 (List.mem_of_getElem? h1) with h|h
     ·exact hfe _ h
     ·exact hfy _ h
    have hj:j<s:=by rw[←hfl];exact(List.getElem?_eq_some_iff.1 h2).1
    have h3':C2.w.cell? ⟨(C.pl id).gN,i*s+j,none⟩=some u:=h3
    rw[jC q3,List.getElem?_toArray,hget] at h3'
    by_cases hlt:i<es.length
    ·rw[List.getElem?_append_left hlt] at h1
     have hc:=(I2.obj id es q1 (by rw[q2];exact hnil')).cell i j e' x' u h1 h2
     rw[q2,hszp] at hc
     exact(hc h3).ext E3
    ·rw[List.getElem?_append_right (by omega)] at h1
     obtain⟨u',g5,g6⟩:=ry _ j e' x' h1 h2
     have UA:i - es.length<ys.length:=(List.getElem?_eq_some_iff.1 h1).1
     have e1:es.length*s≤i*s:=Nat.mul_le_mul_right _ (by omega)
     have e2:(i - es.length+1)*s≤ys.length*s:=Nat.mul_le_mul_right _ UA
     rw[Nat.add_mul,Nat.one_mul,Nat.sub_mul] at e2
     rw[if_neg (by omega),if_pos (by rw[ly];omega)] at h3'
     rw[Nat.sub_mul,show i*s - es.length*s+j=i*s+j - es.length*s by omega,h3'] at g5
     cases g5
     exact(g6.ext E2).ext E3
 have q5:C2.w=C.w.setRow (C.pl id).gN arr'.toArray:=by rw[←hC2];rfl
 have q6:(C2.H.del id)=C.H.del id:=by rw[←hC2];exact aX.NR _ _ _
 refine⟨E2.trans E3,I3, ?_, ?_⟩
 ·show(C2.H.del id).push s (es++ys)=_
  rw[q6]
 ·have hn:C.H.next=(C2.del id).H.next:=q4.symm
  rw[hn]
  refine xg (Db rfl (by simp) (by simpa using g2) hroom ?_) rfl
  rcases g4 with g4|g4
  ·exact .inl g4
  ·exact .inr (by rw[g4];simp)

theorem Et{t ty e:TypeId}{s by':Nat}{z:Value}{x y:Operand}(hT:Ow P t e s by' z)(ho:o.op=.call {callee:=.builtin .append,args:= #[x,y],argTypes:= #[t,t]})(hty:o.type=ty){ay:AV}{id:Nat}{es:List AV}(hx:bA fr x=some (.view id 0 es.length))(hid:H.get id=some es)(hs:H.sz id=some s)(hy:bA fr y=some ay){ys:List AV}(hys:ay.elems H=some ys)
  (hfe:∀x∈es,x.flat.length=s)(hfy:∀x∈ys,x.flat.length=s)(hsz:(es.length+ys.length)*by'≤140737488355328):gD P W0 o fr H (.view H.next 0 (es.length+ys.length)) ((H.del id).push s (es++ys)):=
 BQ ho hty hx hy hys fun C u bd capy hI hH hr hrd hcy=>by
  subst hH
  obtain⟨ad',cap',h1,h2,h3⟩:=xQ hI hr (es:=es) (by simp[AV.elems,hid])
  have hE:=A6 (C:=C) id
  have hI':=hI.del id
  cases hr
  case view=>
   rename_i hid' h4 h5
   have h6:=h5 es hid
   unfold oO at h6
   split at h6
   · -- no memory yet
    rename_i hnil
    obtain⟨_,hl,ad,rfl⟩:=h6
    have Wy:es=[]:=List.eq_nil_of_length_eq_zero hl
    subst Wy
    by_cases h0:ys=[]
    ·subst h0
     obtain⟨C',g1,g2,g3,g4,g5⟩:=C8 hI' s ad
     exact⟨.slice ad 0 0,C',by rw[g1];exact uQ hT.el ad bd 0 0 capy (Nat.le_refl _) C.w,hE.trans g2,g3,g4,g5⟩
    ·have hpos:0<ys.length:=List.length_pos_iff.2 h0
     obtain⟨v,C',g1,g2,g3,g4,g5⟩:=zT (P:=P) (ty:=ty) hI' hT (es:=[]) (ad:=ad) (cap:=0) (capy:=capy) (.inl rfl) (hrd.ext hE rfl) (by simp) hfy (by simp) (by simpa using hpos) (fun _=>rfl) (by simpa using hsz)
     exact⟨v,C',g1,hE.trans g2,g3,g4,g5⟩
   ·rename_i hnil
    have hnil':(C.pl id).nil=false:=by simpa using hnil
    obtain⟨A,cap,hu6,g1,g2,g3,g4⟩:=h6
    subst hu6
    simp only[Value.slice.injEq,true_and] at h1
    obtain⟨rfl,rfl⟩:=h1
    by_cases hroom:es.length+ys.length≤cap
    ·exact Km (P:=P) (ty:=ty) hI hT hid hs hnil' hrd hfe hfy g2 g4 hroom
    · -- no room
     obtain⟨v,C',q1,q2,q3,q4,q5⟩:=zT (P:=P) (ty:=ty) hI' hT (ad:=some A) (cap:=cap) (capy:=capy) (h3.ext hE rfl) (hrd.ext hE rfl) hfe hfy h2 (by omega) (fun h=>by cases h) hsz
     exact⟨v,C',q1,hE.trans q2,q3,q4,q5⟩

theorem Ql{t e ty':TypeId}{s by':Nat}{x y:Operand}{id off dlen:Nat}{es ys:List AV}{ay:AV}(ho:o.op=.call {callee:=.builtin .copy,args:= #[x,y],argTypes:= #[t,ty']})(hx:bA fr x=some (.view id off dlen))(hid:H.get id=some es)(hs:H.sz id=some s)(hy:bA fr y=some ay)
  (hys:ay.elems H=some ys)(ht:yc P t=some (e,s,by'))(hfy:∀x∈ys,x.flat.length=s)(hle:ys.length=dlen):
  gD P W0 o fr H (.imm (.int .i64 ys.length)) (H.set id (es.take off++ys++es.drop (off+ys.length))):=
 .AA fun C a hI hH hop=>by
  subst hH
  have hrx:=b6 (hop x (by simp[ho,Op.operands,Call.operands])) hx
  obtain⟨bd,capy,e1,e2,hrd⟩:=xQ hI (b6 (hop y (by simp[ho,Op.operands,Call.operands])) hy) hys
  obtain⟨hu,ti,hi,his,_⟩:=qx ht
  obtain⟨cs,hb⟩:=sK (P:=P) ho a
  generalize hux:a.eval x=ux at hrx
  cases hrx
  case view=>
   rename_i hid' h4 h5
   have h6:=h5 es hid
   unfold oO at h6
   split at h6
   ·rename_i hnil
    obtain⟨rfl,hl,ad,rfl⟩:=h6
    have hy0:ys=[]:=List.eq_nil_of_length_eq_zero (by omega)
    have Wy:=hI.nil id es hid hnil
    subst hy0 Wy
    have hset:Ext C {C with H:=C.H.set id []}∧Inv W0 {C with H:=C.H.set id []}:=by
     have hg:∀k e,(C.H.set id []).get k=some e→C.H.get k=some e:=fun k e h=>by
      rw[aX.wB] at h
      split at h
      ·rename_i hk;subst hk;cases h;exact hid
      ·exact h
     have ho':∀b,Ctx.own {C with H:=C.H.set id []} b→C.own b:=by
      rintro b (⟨k,e,h1,h2,h3⟩|h)
      ·exact .inl ⟨k,e,hg k e h1,h2,h3⟩
      ·exact .inr h
     have hE:Ext C {C with H:=C.H.set id []}:=⟨.refl _ _,fun _ _ _=>rfl,fun b _ h=>ho' b h,Nat.le_refl _,fun k e _ h=>⟨⟨e,hg k e h⟩,rfl⟩,rfl,rfl,rfl⟩
     exact⟨hE,{
      fresh:=fun k e h=>hI.fresh k e (hg k e h)
      nil:=fun k e h=>hI.nil k e (hg k e h)
      obj:=fun k e h hn=>(hI.obj k e (hg k e h) hn).ext hE rfl
      sep:=fun p q ep eq hp hq=>hI.sep p q ep eq (hg _ _ hp) (hg _ _ hq)
      dm:=fun k e h=>hI.dm k e (hg k e h)
      oM:=fun k s' h=>hI.oM k s' (by rw[←aX.J1 C.H id [] [] hid k];exact h)
      eE:=hI.eE
      eZ:=hI.eZ
      size:=hI.size
      iK:=fun b h=>⟨(hI.iK b h).1,fun hh=>(hI.iK b h).2 (ho' b hh)⟩
      e8:=hI.e8
      mI:=hI.mI
      y7:=hI.y7
      zM:=hI.zM
      fD:=hI.fD
      pP:=hI.pP
      fZ:=hI.fZ
      gh:=W0.st C _ hE.mem hI.fZ hI.gh}⟩
    refine⟨.int .i64 0,{C with H:=C.H.set id []}, ?_,hset.1,hset.2,by simp,.imm _ rfl⟩
    rw[hb]
    cases bd <;> cases ad <;> simp[builtin,hux,e1,Builtin.copy_,run_underlying hu,Builtin.lenOf,sizeOf,typeInfo,hi,Builtin.firstCells,loadCells,loadCellsFrom,storeCells,goInt]
   ·rename_i hnil
    have hnil':(C.pl id).nil=false:=by simpa using hnil
    obtain⟨A,cap,rfl,g1,g2,g3,g4⟩:=h6
    have hO:=hI.obj id es hid hnil'
    obtain⟨arr,el,harr,hcap⟩:=hO.gN
    have hszp:(C.pl id).sz=s:=hI.oM id s hs hnil'
    rw[hszp] at hcap
    have hn:=hO.n
    have hnc:=hO.cap
    have hnews:∃vy:List Value,vy.length=ys.length*s∧(∀v∈vy,v.oneCell'=true)∧(∀(i j:Nat) (e x:AV),ys[i]? =some e→e.flat[j]? =some x→∃v,vy[i*s+j]? =some v∧dO C x v)∧
      (Builtin.copy_ #[t,ty'] o.type #[.slice (some A) dlen cap,.slice bd ys.length capy]).run P C.w=
       .ok (.int .i64 ys.length) (C.w.setRow (C.pl id).gN (arr.toList.take (off*s)++vy++arr.toList.drop (off*s+vy.length)).toArray):=by
     have hmin:Nat.min ys.length dlen=ys.length:=by rw[←hle];exact Nat.min_self _
     by_cases h0:ys=[]
     ·subst h0
      refine⟨[],by simp,by simp,fun i j e x h=>(by rw[List.getElem?_nil] at h;cases h), ?_⟩
      have hd:dlen=0:=by rw[←hle];rfl
      subst hd
      simp only[List.length_nil,Nat.add_zero,List.append_nil,List.take_append_drop,Array.toArray_toList]
      rw[setRow_self C.w _ arr el (0,0) harr]
      cases bd <;> simp[Builtin.copy_,run_underlying hu,Builtin.lenOf,sizeOf,typeInfo,hi,Builtin.firstCells,loadCells,loadCellsFrom,storeCells,goInt]
     ·obtain⟨b,off',rfl,vy,ly,cy,ry⟩:=hrd.cells h0 hfy
      have hpos:0<ys.length:=List.length_pos_iff.2 h0
      have hA:A=⟨(C.pl id).gN,off*s,none⟩:=by
       rcases g4 with g4|g4
       ·omega
       ·rw[g4,hszp]
      subst hA
      refine⟨vy,ly,fun v hv=>by obtain⟨k,hk⟩:=List.getElem?_of_mem hv;exact(cy k v hk).2,ry, ?_⟩
      have hf:=run_firstCells_some (P:=P) C.w ti.size ys.length ⟨b,off',none⟩ ys.length capy vy (by rw[ly,his]) (fun j v hj=>(cy j v hj).1)
      have hfit:off*s+vy.length≤arr.size:=by
       rw[ly,←Nat.add_mul]
       exact Nat.le_trans (Nat.mul_le_mul_right _ (by omega)) hcap
      have hst:=run_storeCells_at P (C.pl id).gN (off*s) el vy 0 arr C.w harr (by simpa using hfit) (fun v hv=>by obtain⟨k,hk⟩:=List.getElem?_of_mem hv;exact(cy k v hk).2)
      simp only[Nat.add_zero] at hst
      simp only[his] at hf
      simp[Builtin.copy_,run_underlying hu,sizeOf,typeInfo,hi,his,Builtin.lenOf,hmin,hf,hst,goInt]
    obtain⟨vy,ly,oy,ry,hrun⟩:=hnews
    have hfit:off*s+vy.length≤arr.size:=by
     rw[ly,←Nat.add_mul]
     exact Nat.le_trans (Nat.mul_le_mul_right _ (by omega)) hcap
    have hget:=fun q=>tS arr.toList vy (off*s) (by simpa using hfit) q
    have hgetE:=fun q=>tS es ys off (by omega) q
    have hlen':(arr.toList.take (off*s)++vy++arr.toList.drop (off*s+vy.length)).length=arr.size:=by simp;omega
    generalize (arr.toList.take (off*s)++vy++arr.toList.drop (off*s+vy.length))=arr' at hget hrun hlen'
    have hw:=vf hI hid hnil' harr arr'.toArray (by simpa using hlen') (es.take off++ys++es.drop (off+ys.length)) (by simp;omega)
     (fun u hu=>by
      obtain⟨q,hq⟩:=Array.getElem?_of_mem hu
      rw[List.getElem?_toArray,hget q] at hq
      have old:arr.toList[q]? =some u→u.oneCell'=true:=fun h=>hO.one q u (by rw[jC harr];simpa using h)
      split at hq
      ·exact old hq
      ·split at hq
       ·exact oy u (List.mem_of_getElem? hq)
       ·exact old hq)
     (fun i e' he=>by
      rw[hgetE] at he
      rw[hszp]
      split at he
      ·rw[←hszp];exact hO.flat _ _ he
      ·split at he
       ·exact hfy _ (List.mem_of_getElem? he)
       ·rw[←hszp];exact hO.flat _ _ he)
     (fun i j e' x' u h1 h2 h3=>by
      rw[hszp,List.getElem?_toArray,hget] at h3
      rw[hgetE] at h1
      have old:es[i]? =some e'→j<s→arr.toList[i*s+j]? =some u→dO C x' u:=fun g _ g'=>hO.cell i j e' x' u g h2 (by rw[jC harr,hszp];simpa using g')
      have hj:j<s:=by
       have:e'.flat.length=s:=by
        split at h1
        ·rw[←hszp];exact hO.flat _ _ h1
        ·split at h1
         ·exact hfy _ (List.mem_of_getElem? h1)
         ·rw[←hszp];exact hO.flat _ _ h1
       rw[←this];exact(List.getElem?_eq_some_iff.1 h2).1
      split at h1
      ·rename_i hlt
       have:(i+1)*s≤off*s:=Nat.mul_le_mul_right _ hlt
       rw[Nat.add_mul,Nat.one_mul] at this
       rw[if_pos (by omega)] at h3
       exact old h1 hj h3
      ·rename_i hge
       have q1:off*s≤i*s:=Nat.mul_le_mul_right _ (by omega)
       split at h1
       ·rename_i hlt
        have q2:(i+1)*s≤(off+ys.length)*s:=Nat.mul_le_mul_right _ hlt
        rw[Nat.add_mul,Nat.add_mul,Nat.one_mul] at q2
        rw[if_neg (by omega),if_pos (by rw[ly];omega)] at h3
        obtain⟨u',g5,g6⟩:=ry _ j e' x' h1 h2
        rw[Nat.sub_mul,show i*s - off*s+j=i*s+j - off*s by omega,h3] at g5
        cases g5;exact g6
       ·rename_i aiZ
        have q2:(off+ys.length)*s≤i*s:=Nat.mul_le_mul_right _ (by omega)
        rw[Nat.add_mul] at q2
        rw[if_neg (by omega),if_neg (by rw[ly];omega)] at h3
        exact old h1 hj h3)
    refine⟨.int .i64 ys.length,_, ?_,hw.1,hw.2,rfl,.imm _ rfl⟩
    rw[hb]
    simp[builtin,hux,e1,hrun]
    rfl

end
end Go.Av
end

section
/- Regions: in the order of the text, or in whatever order is drawn. -/
namespace Go.Av
open Go.RowKit (Below)

def Fr.put(fr:Fr)(dst:Option Nat)(r:AV):Fr:=
 match dst with
 |some d=>fun t=>if t=d then some r else fr t
 |none=>fr

def lM(ops:Array Oper)(fr:Fr)(o:Oper):Option Bool:=
 match o.guard with
 |none=>some true
 |some (j,b)=>match(ops[j]?).bind (·.dst) with
  |some d=>match fr d with
   |some (.imm (.bool c))=>some (c==b)
   |some (.tuple [])=>some false
   |_=>none
  |none=>none

structure Rel (W0:dU) (N:Nat) (fr:Fr) (H:aX) (C:Ctx) (a:Act):Prop where
 heap:C.H=H
 inv:Inv W0 C
 size:a.tmps.size=N
 defers:a.defers=(C.mI.map fun d=>{target:=.collected d,args:= #[]})++W0.dx
 rep:∀t x,fr t=some x→dO C x (a.tmps.getD t undef)

inductive Eo (P:Program) (W0:dU) (ops:Array Oper):List Oper→Fr→aX→Fr→aX→Prop
 |nil (fr:Fr) (H:aX):Eo P W0 ops [] fr H fr H
 |skip {o:Oper} {rest:List Oper} {fr fr':Fr} {H H':aX}:lM ops fr o=some false→Eo P W0 ops rest (fr.put o.dst (.tuple [])) H fr' H'→Eo P W0 ops (o::rest) fr H fr' H'
 |op {o:Oper} {rest:List Oper} {fr fr':Fr} {H H1 H':aX} {r:AV}:lM ops fr o=some true→gD P W0 o fr H r H1→Eo P W0 ops rest (fr.put o.dst r) H1 fr' H'→Eo P W0 ops (o::rest) fr H fr' H'
 |P8 {o:Oper} {rest:List Oper} {fr fr':Fr} {H H1 H':aX} {r:AV}:lM ops fr o=some true→Xy P W0 o fr H r H1→Eo P W0 ops rest (fr.put o.dst r) H1 fr' H'→Eo P W0 ops (o::rest) fr H fr' H'
 |drop {l:List Oper} {fr Cv fr':Fr} {H H':aX}:(∀t x,Cv t=some x→fr t=some x)→Eo P W0 ops l Cv H fr' H'→Eo P W0 ops l fr H fr' H'

def s4(N:Nat)(o:Oper):Bool:=(match o.dst with|some d=>decide (d<N)|none=>true)&&(match o.op with|.defer _=>false|_=>true)

theorem s4.lt{N:Nat}{o:Oper}(h:s4 N o=true):∀d,o.dst=some d→d<N:=fun d hd=>by simp[s4,hd] at h;exact h.1
theorem s4.ahq{N:Nat}{o:Oper}(h:s4 N o=true):∀c,o.op≠.defer c:=fun c hc=>by simp[s4,hc] at h

section
variable {P:Program} {W0:dU} {N:Nat} {C:Ctx} {fr:Fr} {a:Act} {H:aX} {ops:Array Oper} {md:Region.Mode}

theorem Rel.put(h:Rel W0 N fr H C a){C':Ctx}{H':aX}{r:AV}{v:Value}{dst:Option Nat}(he:Ext C C')(hi:Inv W0 C')(hH:C'.H=H')(hr:dO C' r v)(hd:∀d,dst=some d→d<N):Rel W0 N (fr.put dst r) H' C' (a.put dst v) where
 heap:=hH
 inv:=hi
 size:=by cases dst <;> simp[Act.put,h.size]
 defers:=by cases dst <;> simp[Act.put,h.defers,he.mI]
 rep t x hx:=by
  cases dst with
  |none=>exact(h.rep t x hx).ext he
  |some d=>
   have hdN:d<a.tmps.size:=by rw[h.size];exact hd d rfl
   simp only[Fr.put] at hx
   by_cases htd:t=d
   ·subst htd
    rw[if_pos rfl] at hx
    cases hx
    have:(a.put (some t) v).tmps.getD t undef=v:=by simp[Act.put,Array.getD,hdN]
    rw[this];exact hr
   ·rw[if_neg htd] at hx
    have:(a.put (some d) v).tmps.getD t undef=a.tmps.getD t undef:=by
     simp only[Act.put,Array.getD_eq_getD_getElem?]
     rw[Array.getElem?_setIfInBounds_ne (Ne.symm htd)]
    rw[this];exact(h.rep t x hx).ext he

theorem L3:dO C (.tuple []) undef:=.tuple [] #[] rfl (fun k x h=>by simp at h)

theorem vX{o:Oper}{b:Bool}(hr:∀t x,fr t=some x→dO C x (a.tmps.getD t undef))(h:lM ops fr o=some b):Region.wanted o (yielded ops a.tmps)=b:=by
 unfold lM at h
 unfold Region.wanted
 split at h
 ·rename_i hg;rw[hg];simpa using h
 ·rename_i j c hg
  rw[hg]
  split at h
  ·rename_i d hd
   split at h
   ·rename_i q hq
    simp only[Option.some.injEq] at h
    have h1:=gM (v:=.bool q) rfl (hr d _ hq)
    have h2:a.tmps[d]? =some (.bool q):=by
     by_cases hlt:d<a.tmps.size
     ·rw[pM hlt,h1]
     ·simp[Array.getD,hlt,undef] at h1
    simp only[yielded,hd,Option.bind_some,h2]
    cases q <;> cases c <;> simp_all
   ·rename_i hq
    simp only[Option.some.injEq] at h
    have h1:=hr d _ hq
    have h2:a.tmps.getD d undef=.tuple #[]:=by
     generalize a.tmps.getD d undef=u at h1
     match h1 with
     |.tuple _ vs h3 _=>have:vs= #[]:=Array.eq_empty_of_size_eq_zero (by simpa using h3);rw[this]
    have h3:yielded ops a.tmps j=none:=by
     simp only[yielded,hd,Option.bind_some]
     by_cases hlt:d<a.tmps.size
     ·rw[pM hlt,h2]
     ·rw[Array.getElem?_eq_none (Nat.le_of_not_lt hlt)]
    simp only[h3];simpa using h
   ·cases h
  ·cases h

theorem EM{l:List Oper}{fr':Fr}{H':aX}(h:Eo P W0 ops l fr H fr' H')(hN:∀o∈l,s4 N o=true):∀(C:Ctx) (a:Act) (Q:Exit→Act→World→Prop),Rel W0 N fr H C a→
  (∀C' a',Mem C C'→Rel W0 N fr' H' C' a'→Q .normal a' C'.w)→wpListIn (Fw W0.ro) 0 P ops Q l a C.w:=by
 induction h with
 |nil fr H=>intro C a Q hr hQ;exact hQ C a (.refl C) hr
 |skip hw _ ih=>
  intro C a Q hr hQ
  unfold wpListIn
  rw[vX hr.rep hw]
  simp only[Bool.false_eq_true,if_false]
  exact⟨fun _ _=>trivial,ih (fun o ho=>hN o (List.mem_cons_of_mem _ ho)) C _ Q (hr.put (.refl C) hr.inv hr.heap L3 (s4.lt (hN _ (List.mem_cons_self ..)))) hQ⟩
 |op hw hop _ ih=>
  intro C a Q hr hQ
  unfold wpListIn
  rw[vX hr.rep hw]
  simp only[if_true]
  refine NF (s4.ahq (hN _ (List.mem_cons_self ..))) (hop C a hr.inv hr.heap (fun x _ t _ av hav=>hr.rep t av hav) _ _ (fun v C' he hi hH hv=> ?_))
  exact ih (fun o ho=>hN o (List.mem_cons_of_mem _ ho)) C' _ Q (hr.put he hi hH hv (s4.lt (hN _ (List.mem_cons_self ..)))) (fun C2 a2 h2=>hQ C2 a2 (he.mem.trans h2))
 |P8 hw hop _ ih=>
  intro C a Q hr hQ
  unfold wpListIn
  rw[vX hr.rep hw]
  simp only[if_true]
  refine hop C a hr.inv hr.heap (fun x _ t _ av hav=>hr.rep t av hav) _ _ (fun v C' he hi hH hv=> ?_)
  exact ih (fun o ho=>hN o (List.mem_cons_of_mem _ ho)) C' _ Q (hr.put he hi hH hv (s4.lt (hN _ (List.mem_cons_self ..)))) (fun C2 a2 h2=>hQ C2 a2 (he.mem.trans h2))
 |drop hk _ ih=>
  intro C a Q hr hQ
  exact ih hN C a Q ⟨hr.heap,hr.inv,hr.size,hr.defers,fun t x hx=>hr.rep t x (hk t x hx)⟩ hQ

theorem VS{id:Nat}{Q:Exit→Act→World→Prop}{fr':Fr}{H':aX}{l:List Oper}(hN:∀o∈l,s4 N o=true)(h:Eo P W0 l.toArray l fr H fr' H')(hr:Rel W0 N fr H C a)(hQ:∀C' a',Mem C C'→Rel W0 N fr' H' C' a'→Q .normal a' C'.w):
  (Code.region id l.toArray false).wpIn (Fw W0.ro) 0 P Q a C.w:=
 wpIn_region_lit (EM h hN C a Q hr hQ)


theorem Fr.DZ{fr:Fr}{dst:Option Nat}{r:AV}{t:Nat}(h:dst≠some t):fr.put dst r t=fr t:=by
 cases dst with
 |none=>rfl
 |some d=>
  simp only[Fr.put]
  rw[if_neg (fun e=>h (by rw[e]))]

theorem Fr.put_comm(fr:Fr){x y:Option Nat}(r s:AV)(h:∀d,x=some d→y≠some d):(fr.put x r).put y s=(fr.put y s).put x r:=by
 cases x with
 |none=>rfl
 |some d=>
  cases y with
  |none=>rfl
  |some e=>
   have hne:e≠d:=fun he=>h d rfl (by rw[he])
   funext t
   simp only[Fr.put]
   by_cases h1:t=e
   ·rw[if_pos h1,if_neg (by omega),if_pos h1]
   ·rw[if_neg h1]
    by_cases h2:t=d
    ·rw[if_pos h2,if_pos h2]
    ·rw[if_neg h2,if_neg h2,if_neg h1]

theorem zc{o:Oper}{t:Nat}(h:Operand.tmp t∈o.op.operands):t∈o.looksAt ops:=by
 unfold Oper.looksAt
 refine List.mem_append_left _ ?_
 rw[List.mem_filterMap]
 exact⟨.tmp t,by simpa using h,rfl⟩

theorem Tz(h:Rel W0 N fr H C a):Ext C (C.xE {C.w with drawn:=C.w.drawn+1})∧Rel W0 N fr H (C.xE {C.w with drawn:=C.w.drawn+1}) a:=by
 have hD:Below C.w.heap.size C.w {C.w with drawn:=C.w.drawn+1}:=⟨rfl,rfl,rfl,Nat.le_refl _,fun _ _=>rfl⟩
 have hE:Ext C (C.xE {C.w with drawn:=C.w.drawn+1}):=lP hD
 exact⟨hE,h.heap,h.inv.xE hD,h.size,h.defers,fun t x hx=>(h.rep t x hx).ext hE⟩

end
end Go.Av
end

section
/- Code: what a proof sees of a run, statement by statement. -/
namespace Go.Av
open Go.RowKit (Below)

structure St where
 fr:List (Nat×AV)
 H:aX

def Xz(W0:dU)(N:Nat)(C:Ctx)(Q:Exit→St→Prop)(e:Exit)(a':Act)(w':World):Prop:=
 ∃st' C',C'.w=w'∧Mem C C'∧Rel W0 N (lk st'.fr) st'.H C' a'∧Q e st'

def aZ(P:Program)(W0:dU)(N:Nat)(c:Code)(st:St)(Q:Exit→St→Prop):Prop:=
 ∀(C:Ctx) (a:Act),Rel W0 N (lk st.fr) st.H C a→c.wpIn (Fw W0.ro) 0 P (Xz W0 N C Q) a C.w

def an(W0:dU)(N:Nat)(st st':St):Prop:=
 ∀(C:Ctx) (a:Act),Rel W0 N (lk st.fr) st.H C a→∃C',C'.w=C.w∧Mem C C'∧Rel W0 N (lk st'.fr) st'.H C' a

section
variable {P:Program} {W0:dU} {N:Nat} {st:St} {Q:Exit→St→Prop}

theorem aZ.mono{c:Code}{Q':Exit→St→Prop}(h:aZ P W0 N c st Q)(hq:∀e s,Q e s→Q' e s):aZ P W0 N c st Q':=
 fun C a hr=>wpIn_mono (h C a hr) fun _ _ _ ⟨st',C',h1,h2,h3,h4⟩=>⟨st',C',h1,h2,h3,hq _ _ h4⟩

theorem aZ.aQ{c:Code}{st':St}(hw:an W0 N st st')(h:aZ P W0 N c st' Q):aZ P W0 N c st Q:=fun C a hr=>by
 obtain⟨C1,h1,h2,h3⟩:=hw C a hr
 rw[←h1]
 exact wpIn_mono (h C1 a h3) fun _ _ _ ⟨s,C',g1,g2,g3,g4⟩=>⟨s,C',g1,h2.trans g2,g3,g4⟩

theorem aZ.at{c:Code}{C C1:Ctx}{a:Act}(h:aZ P W0 N c st Q)(he:Mem C C1)(hr:Rel W0 N (lk st.fr) st.H C1 a):
  c.wpIn (Fw W0.ro) 0 P (Xz W0 N C Q) a C1.w:=
 wpIn_mono (h C1 a hr) fun _ _ _ ⟨s,C',g1,g2,g3,g4⟩=>⟨s,C',g1,he.trans g2,g3,g4⟩

theorem aI(h:Q .normal st):aZ P W0 N .skip st Q:=fun C _ hr=>wpIn_skip ⟨st,C,rfl,.refl C,hr,h⟩
theorem bp{id:Nat}(h:Q (.exit id) st):aZ P W0 N (.exit id) st Q:=fun C _ hr=>wpIn_exit ⟨st,C,rfl,.refl C,hr,h⟩
theorem aH(h:Q .ret st):aZ P W0 N .ret st Q:=fun C _ hr=>wpIn_ret ⟨st,C,rfl,.refl C,hr,h⟩

def Er(K:St→Prop)(Q:Exit→St→Prop):Exit→St→Prop
 |.normal,s=>K s
 |e,s=>Q e s

theorem IY{x y:Code}(h:aZ P W0 N x st (Er (fun s=>aZ P W0 N y s Q) Q)):aZ P W0 N (.seq x y) st Q:=fun C a hr=>
 wpIn_seq (wpIn_mono (h C a hr) fun e a' w' ⟨s,C',g1,g2,g3,g4⟩=>by
  subst g1
  cases e with
  |normal=>exact aZ.at (Q:=Q) g4 g2 g3
  |_=>exact⟨s,C',rfl,g2,g3,g4⟩)

theorem aF{x y:Code}(h:∀K:St→Prop,(∀s,aZ P W0 N y s Q→K s)→aZ P W0 N x st (Er K Q)):aZ P W0 N (.seq x y) st Q:=
 IY (h _ fun _ h=>h)

def NJ(id:Nat)(Q:Exit→St→Prop):Exit→St→Prop
 |.exit id',s=>if id'=id then Q .normal s else Q (.exit id') s
 |e,s=>Q e s

theorem aG{id:Nat}{c:Code}(h:aZ P W0 N c st (NJ id Q)):aZ P W0 N (.block id c) st Q:=fun C a hr=>
 wpIn_block (wpIn_mono (h C a hr) fun e a' w' ⟨s,C',g1,g2,g3,g4⟩=>by
  cases e with
  |exit id'=>
   simp only[NJ] at g4
   simp only[Exit.inBlock]
   split
   ·rename_i h;rw[if_pos h] at g4;exact⟨s,C',g1,g2,g3,g4⟩
   ·rename_i h;rw[if_neg h] at g4;exact⟨s,C',g1,g2,g3,g4⟩
  |_=>exact⟨s,C',g1,g2,g3,g4⟩)

theorem aJ{c:Operand}{x y:Code}{t:Bool}(hc:bA (lk st.fr) c=some (.imm (.bool t)))(ht:t=true→aZ P W0 N x st Q)(hf:t=false→aZ P W0 N y st Q):aZ P W0 N (.cond c x y) st Q:=fun C a hr=>by
 have h1:=gM (v:=.bool t) rfl (b6 (C:=C) (a:=a) (fun q _ av hav=>hr.rep q av hav) hc)
 exact wpIn_cond_split h1 (fun h=>ht h C a hr) (fun h=>hf h C a hr)

theorem exists_least(p:Nat→Prop)(h:∃k,p k):∃k,p k∧∀j,p j→k≤j:=by
 obtain⟨k,hk⟩:=h
 induction k using Nat.strongRecOn with
 |_ k ih=>
  by_cases hq:∃j,j<k∧p j
  ·obtain⟨j,h1,h2⟩:=hq
   exact ih j h1 h2
  ·exact⟨k,hk,fun j hj=>by
    rcases Nat.lt_or_ge j k with h|h
    ·exact absurd ⟨j,h,hj⟩ hq
    ·exact h⟩

theorem Ko{c:Code}(I:St→Prop)(μ:St→Nat)(h0:I st)
  (round:∀s,I s→aZ P W0 N c s (Er (fun s1=>∃s2,an W0 N s1 s2∧I s2∧μ s2<μ s) Q)):aZ P W0 N (.loop c) st Q:=fun C a hr=>by
 classical
 -- the least measure of a state that fits
 let Fit:Act→World→Nat→Prop:=fun a' w' k=>∃s C',C'.w=w'∧Mem C C'∧Rel W0 N (lk s.fr) s.H C' a'∧I s∧μ s=k
 let m:Act→World→Nat:=fun a' w'=>if h:∃k,Fit a' w' k then Classical.choose (exists_least _ h) else 0
 refine wpIn_loop (fun a' w'=>∃k,Fit a' w' k) m ⟨μ st,st,C,rfl,.refl C,hr,h0,rfl⟩ (fun a' w' hI=> ?_)
 obtain⟨s,C',g1,g2,g3,g4,g5⟩:=(Classical.choose_spec (exists_least _ hI)).1
 subst g1
 have hm:m a' C'.w=μ s:=by rw[g5];exact dif_pos hI
 refine wpIn_mono (aZ.at (round s g4) g2 g3) fun e a2 w2 ⟨s1,C2,q1,q2,q3,q4⟩=> ?_
 subst q1
 cases e with
 |normal=>
  obtain⟨s2,hw,Ec,hlt⟩:=q4
  obtain⟨C3,p1,p2,p3⟩:=hw C2 a2 q3
  have hf:Fit a2 C2.w (μ s2):=⟨s2,C3,p1,q2.trans p2,p3,Ec,rfl⟩
  refine⟨⟨_,hf⟩, ?_⟩
  rw[hm]
  have:m a2 C2.w≤μ s2:=by
   show(if h:∃k,Fit a2 C2.w k then Classical.choose (exists_least _ h) else 0)≤μ s2
   rw[dif_pos ⟨_,hf⟩]
   exact(Classical.choose_spec (exists_least _ ⟨_,hf⟩)).2 _ hf
  omega
 |_=>exact⟨s1,C2,rfl,q2,q3,q4⟩


def tg(fr:List (Nat×AV))(dst:Option Nat)(r:AV):List (Nat×AV):=
 match dst with
 |some d=>up fr d r
 |none=>fr

theorem A_(fr:List (Nat×AV))(dst:Option Nat)(r:AV):lk (tg fr dst r)=Fr.put (lk fr) dst r:=by
 cases dst with
 |none=>rfl
 |some d=>funext t;simp only[tg,Fr.put,Ip]

def AR(P:Program)(W0:dU)(ops:Array Oper)(l:List Oper)(fr:List (Nat×AV))(H:aX)(K:List (Nat×AV)→aX→Prop):Prop:=
 ∃fr' H',Eo P W0 ops l (lk fr) H (lk fr') H'∧K fr' H'

variable {ops:Array Oper} {fr:List (Nat×AV)} {H:aX} {K:List (Nat×AV)→aX→Prop} {o:Oper} {rest:List Oper}

theorem AR.nil(h:K fr H):AR P W0 ops [] fr H K:=⟨fr,H,.nil _ _,h⟩
theorem AR.op{r:AV}{H1:aX}(hw:lM ops (lk fr) o=some true)(h:gD P W0 o (lk fr) H r H1)(k:AR P W0 ops rest (tg fr o.dst r) H1 K):AR P W0 ops (o::rest) fr H K:=by
 obtain⟨fr',H',h1,h2⟩:=k
 rw[A_] at h1
 exact⟨fr',H',.op hw h h1,h2⟩
theorem AR.skip(hw:lM ops (lk fr) o=some false)(k:AR P W0 ops rest (tg fr o.dst (.tuple [])) H K):AR P W0 ops (o::rest) fr H K:=by
 obtain⟨fr',H',h1,h2⟩:=k
 rw[A_] at h1
 exact⟨fr',H',.skip hw h1,h2⟩
theorem AR.mono{K':List (Nat×AV)→aX→Prop}{l:List Oper}(h:AR P W0 ops l fr H K)(hk:∀f g,K f g→K' f g):AR P W0 ops l fr H K':=by
 obtain⟨fr',H',h1,h2⟩:=h
 exact⟨fr',H',h1,hk _ _ h2⟩

theorem AR.P8{r:AV}{H1:aX}(hw:lM ops (lk fr) o=some true)(h:Xy P W0 o (lk fr) H r H1)(k:AR P W0 ops rest (tg fr o.dst r) H1 K):AR P W0 ops (o::rest) fr H K:=by
 obtain⟨fr',H',h1,h2⟩:=k
 rw[A_] at h1
 exact⟨fr',H',.P8 hw h h1,h2⟩

theorem Mz{id:Nat}{l:List Oper}(hN:l.all (s4 N)=true)(h:AR P W0 l.toArray l st.fr st.H (fun f g=>Q .normal ⟨f,g⟩)):aZ P W0 N (.region id l.toArray false) st Q:=fun C a hr=>by
 obtain⟨fr',H',h1,h2⟩:=h
 exact VS (fun o ho=>List.all_eq_true.1 hN o ho) h1 hr fun C' a' he hrel=>⟨⟨fr',H'⟩,C',rfl,he,hrel,h2⟩


theorem an.ahi{fr':List (Nat×AV)}(h:∀p∈fr',lk st.fr p.1=some p.2):an W0 N st ⟨fr',st.H⟩:=fun C a hr=>
 ⟨C,rfl,.refl C,hr.heap,hr.inv,hr.size,hr.defers,fun t x hx=>by
  have key:∀(l:List (Nat×AV)),lk l t=some x→(t,x)∈l:=by
   intro l
   induction l with
   |nil=>intro h;cases h
   |cons p l ih=>
    obtain⟨s,u⟩:=p
    intro h
    simp only[lk] at h
    split at h
    ·rename_i hs;subst hs;cases h;exact List.mem_cons_self ..
    ·exact List.mem_cons_of_mem _ (ih h)
  exact hr.rep t x (h _ (key fr' hx))⟩

def vl(fr:List (Nat×AV)):List (Nat×AV)→Prop
 |[]=>True
 |(t,x)::r=>lk fr t=some x∧vl fr r

theorem vl.spec{fr:List (Nat×AV)}:∀{l:List (Nat×AV)},vl fr l→∀p∈l,lk fr p.1=some p.2
 |[],_,_,hp=>by cases hp
 |(t,x)::r,h,p,hp=>by
  rcases List.mem_cons.1 hp with rfl|hp
  ·exact h.1
  ·exact vl.spec h.2 p hp

theorem an.keep{fr':List (Nat×AV)}(h:vl st.fr fr'):an W0 N st ⟨fr',st.H⟩:=.ahi h.spec

theorem vl.lk{fr:List (Nat×AV)}:∀{l:List (Nat×AV)},vl fr l→∀t x,lk l t=some x→lk fr t=some x
 |[],_,_,_,hp=>by cases hp
 |(s,u)::r,h,t,x,hp=>by
  simp only[Av.lk] at hp
  split at hp
  ·rename_i hs;subst hs;cases hp;exact h.1
  ·exact vl.lk h.2 t x hp

theorem AR.drop{l:List Oper}{frx:List (Nat×AV)}(h:vl fr frx)(k:AR P W0 ops l frx H K):AR P W0 ops l fr H K:=by
 obtain⟨fr',H',h1,h2⟩:=k
 exact⟨fr',H',.drop (vl.lk h) h1,h2⟩

def pick(fr:List (Nat×AV)):List Nat→Option (List (Nat×AV))
 |[]=>some []
 |t::ts=>match Av.lk fr t with
  |some x=>match pick fr ts with
   |some l=>some ((t,x)::l)
   |none=>none
  |none=>none
theorem vN{fr:List (Nat×AV)}:∀{ts:List Nat} {frx:List (Nat×AV)},pick fr ts=some frx→vl fr frx
 |[],frx,h=>by simp[pick] at h;subst h;trivial
 |t::ts,frx,h=>by
  simp only[pick] at h
  split at h
  ·rename_i x hx
   split at h
   ·rename_i l hl
    cases h
    exact⟨hx,vN hl⟩
   ·cases h
  ·cases h
theorem AR.keep(ts:List Nat){l:List Oper}{frx:List (Nat×AV)}(h:pick fr ts=some frx)(k:AR P W0 ops l frx H K):AR P W0 ops l fr H K:=.drop (vN h) k

theorem OG{c:Code}{σ:Type}(S:σ→St)(ok:σ→Prop)(μ:σ→Nat)(p0:σ)(h0:ok p0)(hw:an W0 N st (S p0))
  (round:∀p,ok p→aZ P W0 N c (S p) (Er (fun s1=>∃p',ok p'∧μ p'<μ p∧an W0 N s1 (S p')) Q)):aZ P W0 N (.loop c) st Q:=by
 classical
 refine aZ.aQ hw ?_
 -- of two parameters with one state the lower counts
 refine Ko (fun s=>∃p,ok p∧s=S p) (fun s=>if h:∃k,∃p,ok p∧s=S p∧μ p=k then Classical.choose (exists_least _ h) else 0) ⟨p0,h0,rfl⟩ ?_
 rintro s ⟨p,hp,rfl⟩
 have hex:∃k,∃q,ok q∧S p=S q∧μ q=k:=⟨_,p,hp,rfl,rfl⟩
 obtain⟨⟨q,hq,hs,hk⟩,_⟩:=Classical.choose_spec (exists_least _ hex)
 have hm:(if h:∃k,∃q,ok q∧S p=S q∧μ q=k then Classical.choose (exists_least _ h) else 0)=μ q:=by rw[dif_pos hex,hk]
 rw[hm,hs]
 refine(round q hq).mono fun e s1 h1=> ?_
 cases e with
 |normal=>
  obtain⟨p',g1,g2,g3⟩:=h1
  refine⟨S p',g3,⟨p',g1,rfl⟩, ?_⟩
  have hex':∃k,∃q,ok q∧S p'=S q∧μ q=k:=⟨_,p',g1,rfl,rfl⟩
  have:=(Classical.choose_spec (exists_least _ hex')).2 (μ p') ⟨p',g1,rfl,rfl⟩
  show(if h:∃k,∃q,ok q∧S p'=S q∧μ q=k then Classical.choose (exists_least _ h) else 0)<μ q
  rw[dif_pos hex']
  omega
 |_=>exact h1

theorem an.trans{s1 s2 s3:St}(h:an W0 N s1 s2)(k:an W0 N s2 s3):an W0 N s1 s3:=fun C a hr=>by
 obtain⟨C1,h1,h2,h3⟩:=h C a hr
 obtain⟨C2,k1,k2,k3⟩:=k C1 a h3
 exact⟨C2,k1.trans h1,h2.trans k2,k3⟩

theorem an.refl(s:St):an W0 N s s:=fun C _ hr=>⟨C,rfl,.refl C,hr⟩

end
end Go.Av
end

section
/- Calls: what a function does with values that it only reads. -/
namespace Go.Av
open Go.RowKit (Below)

inductive dn:AV→Prop
 |any:dn .any
 |imm (v:Value):dn (.imm v)
 |sl (es:List AV):(∀e∈es,dn e)→dn (.sl es)
 |clip (es:List AV):(∀e∈es,dn e)→dn (.clip es)
 |pp (fl:List AV) (j:Nat):(∀e∈fl,dn e)→dn (.pp fl j)
 |agg (cs:List AV):(∀e∈cs,dn e)→dn (.agg cs)
 |tuple (cs:List AV):(∀e∈cs,dn e)→dn (.tuple cs)
 |ifc (t:TypeId) (x:AV):dn x→dn (.ifc t x)
 |bX (fn:Fn) (cs:List AV):(∀e∈cs,dn e)→dn (.bX fn cs)

@[simp] theorem ahn:dn .any:=.any
@[simp] theorem aho(v:Value):dn (.imm v):=.imm v
@[simp] theorem U5(es:List AV):dn (.sl es)↔∀e∈es,dn e:=⟨fun h=>by cases h;assumption,.sl es⟩
@[simp] theorem Pc(es:List AV):dn (.clip es)↔∀e∈es,dn e:=⟨fun h=>by cases h;assumption,.clip es⟩
@[simp] theorem U4(es:List AV)(j:Nat):dn (.pp es j)↔∀e∈es,dn e:=⟨fun h=>by cases h;assumption,.pp es j⟩
@[simp] theorem xP(es:List AV):dn (.agg es)↔∀e∈es,dn e:=⟨fun h=>by cases h;assumption,.agg es⟩
@[simp] theorem Nf(es:List AV):dn (.tuple es)↔∀e∈es,dn e:=⟨fun h=>by cases h;assumption,.tuple es⟩
@[simp] theorem S5(t:TypeId)(x:AV):dn (.ifc t x)↔dn x:=⟨fun h=>by cases h;assumption,.ifc t x⟩
@[simp] theorem S4(fn:Fn)(es:List AV):dn (.bX fn es)↔∀e∈es,dn e:=⟨fun h=>by cases h;assumption,.bX fn es⟩
@[simp] theorem aaR(a b c:Nat):dn (.view a b c)↔False:=⟨(by intro h;cases h),False.elim⟩
@[simp] theorem ahp(a b c:Nat):dn (.ref a b c)↔False:=⟨(by intro h;cases h),False.elim⟩

theorem dO.move{C C':Ctx}{x:AV}{v:Value}(h:dO C x v)(hn:dn x)(hs:C.w.heap.size≤C'.w.heap.size)(hk:∀b,b<C.w.heap.size→¬C.bad b→C'.w.heap[b]? =C.w.heap[b]? ∧¬C'.bad b):dO C' x v:=by
 have hh:∀{b o:Nat} {v:Value},b<C.w.heap.size→¬C.bad b→Holds C.w b o v→Holds C'.w b o v:=fun{b o v} hb hn h=>by
  refine⟨?_,h.2⟩
  rw[World.cell?_of_block (w:=C.w) (a:=⟨b,o,none⟩) (hk b hb hn).1]
  exact h.1
 induction h with
 |any v=>exact .any v
 |imm v hv=>exact .imm v hv
 |slNil a cap=>exact .slNil a cap
 |sl es b off sz cap c hb hbad hc hf hcell _ ih=>
  simp only[U5] at hn
  refine .sl es b off sz cap c (Nat.lt_of_lt_of_le hb hs) (hk b hb hbad).2 hc hf (fun i j e x he hx=>hh hb hbad (hcell i j e x he hx)) (fun i j e x he hx=>ih i j e x he hx ?_)
  have h1:=hn e (List.mem_of_getElem? he)
  cases e <;> simp only[AV.flat] at hx
  case agg cs=>simp only[xP] at h1;exact h1 x (List.mem_of_getElem? hx)
  all_goals
   have:=List.mem_of_getElem? hx
   simp only[List.mem_singleton] at this
   rw[this];exact h1
 |clipNil a=>exact .clipNil a
 |clip es b off sz c hb hbad hf hcell _ ih=>
  simp only[Pc] at hn
  refine .clip es b off sz c (Nat.lt_of_lt_of_le hb hs) (hk b hb hbad).2 hf (fun i j e x he hx=>hh hb hbad (hcell i j e x he hx)) (fun i j e x he hx=>ih i j e x he hx ?_)
  have h1:=hn e (List.mem_of_getElem? he)
  cases e <;> simp only[AV.flat] at hx
  case agg cs=>simp only[xP] at h1;exact h1 x (List.mem_of_getElem? hx)
  all_goals
   have:=List.mem_of_getElem? hx
   simp only[List.mem_singleton] at this
   rw[this];exact h1
 |view id off len v _ _ _=>simp at hn
 |ref id i j v _ _ _=>simp at hn
 |pp fl j b off c hb hbad hcell _ ih=>
  simp only[U4] at hn
  exact .pp fl j b off c (Nat.lt_of_lt_of_le hb hs) (hk b hb hbad).2 (fun k x hx=>hh hb hbad (hcell k x hx)) (fun k x hx=>ih k x hx (hn x (List.mem_of_getElem? hx)))
 |agg cs vs hsz h1 _ ih=>simp only[xP] at hn;exact .agg cs vs hsz h1 (fun k x hx=>ih k x hx (hn x (List.mem_of_getElem? hx)))
 |tuple cs vs hsz _ ih=>simp only[Nf] at hn;exact .tuple cs vs hsz (fun k x hx=>ih k x hx (hn x (List.mem_of_getElem? hx)))
 |ifc t x v _ ih=>simp only[S5] at hn;exact .ifc t x v (ih hn)
 |bX fn caps vs hsz _ ih=>simp only[S4] at hn;exact .bX fn caps vs hsz (fun k x hx=>ih k x hx (hn x (List.mem_of_getElem? hx)))

inductive BP:AV→Prop
 |any:BP .any
 |imm (v:Value):BP (.imm v)
 |agg (cs:List AV):(∀e∈cs,BP e)→BP (.agg cs)
 |tuple (cs:List AV):(∀e∈cs,BP e)→BP (.tuple cs)
 |ifc (t:TypeId) (x:AV):BP x→BP (.ifc t x)

@[simp] theorem aif:BP .any:=.any
@[simp] theorem aii(v:Value):BP (.imm v):=.imm v
@[simp] theorem aie(es:List AV):BP (.agg es)↔∀e∈es,BP e:=⟨fun h=>by cases h;assumption,.agg es⟩
@[simp] theorem aaK(es:List AV):BP (.tuple es)↔∀e∈es,BP e:=⟨fun h=>by cases h;assumption,.tuple es⟩
@[simp] theorem aih(t:TypeId)(x:AV):BP (.ifc t x)↔BP x:=⟨fun h=>by cases h;assumption,.ifc t x⟩

theorem BP.rep{C C':Ctx}{x:AV}{v:Value}(hd:BP x)(h:dO C x v):dO C' x v:=by
 induction hd generalizing v with
 |any=>exact .any v
 |imm u=>cases h;exact .imm _ (by assumption)
 |agg cs _ ih=>
  match h with
  |.agg _ vs h1 h2 h3=>exact .agg cs vs h1 h2 (fun k x hx=>ih x (List.mem_of_getElem? hx) (h3 k x hx))
 |tuple cs _ ih=>
  match h with
  |.tuple _ vs h1 h3=>exact .tuple cs vs h1 (fun k x hx=>ih x (List.mem_of_getElem? hx) (h3 k x hx))
 |ifc t x _ ih=>
  match h with
  |.ifc _ _ v h1=>exact .ifc t x v (ih h1)

def oR(P:Program)(f:FuncId):Prop:=∀args w,(callFunc f args).run P w=.ok (.enter f args) w

theorem sF{P:Program}{f:FuncId}{fn:Func}{c:Code}(hf:P.funcs[f]? =some fn)(hn:(fn.name== "runtime.NumGoroutine")=false)(hb:fn.body=some c):oR P f:=fun args w=>by
 have hn':¬fn.name= "runtime.NumGoroutine" :=by simpa using hn
 simp[callFunc,hf,hn',hb]

structure bJ (P:Program) (W0:World) (f:FuncId) (xs:List AV) (r:AV):Prop where
 call:oR P f
 wm:dn r
 runs:∀(C:Ctx) (vals:Array Value),Inv (.of W0) C→C.H=.empty→C.mI=[]→vals.size=xs.length→(∀(k:Nat) (x:AV),xs[k]? =some x→dO C x (vals.getD k undef))→
  Calls P f vals C.w (fun e w'=>∃v C',e=.returned v∧C'.w=w'∧Ext C C'∧Inv (.of W0) C'∧dO C' r v)

section
variable {P:Program} {W0:dU} {C:Ctx} {fr:Fr} {a:Act} {H:aX} {o:Oper} {N:Nat}

def Ctx.bare(C:Ctx)(pr:Nat→Prop):Ctx:={w:=C.w,H:=.empty,pl:=C.pl,dm:=pr,mI:=[],tn:=0}

theorem xp(pr:Nat→Prop)(b:Nat):¬(C.bare pr).own b:=by
 rintro(⟨id,es,h,_⟩|⟨r,h⟩|h)
 ·simp[Ctx.bare,aX.empty,aX.get,lk] at h
 ·simp[Ctx.bare,aX.empty,lk] at h
 ·simp[Ctx.bare] at h

theorem CX{C:Ctx}(hH:C.H=.empty)(hd:C.mI=[])(b:Nat):¬C.own b:=by
 rintro(⟨id,es,h,_⟩|⟨r,h⟩|h)
 ·simp[hH,aX.empty,aX.get,lk] at h
 ·simp[hH,aX.empty,lk] at h
 ·simp[hd] at h

theorem Inv.bare(hI:Inv W0 C){pr:Nat→Prop}(hp:∀b,pr b→b<C.w.heap.size)(hp2:∀b,pr b→W0.w.heap.size≤b):Inv (.of W0.w) (C.bare pr) where
 fresh id es h:=by simp[Ctx.bare,aX.empty,aX.get,lk] at h
 nil id es h:=by simp[Ctx.bare,aX.empty,aX.get,lk] at h
 obj id es h:=by simp[Ctx.bare,aX.empty,aX.get,lk] at h
 sep i1 i2 e1 e2 h:=by simp[Ctx.bare,aX.empty,aX.get,lk] at h
 dm id es h:=by simp[Ctx.bare,aX.empty,aX.get,lk] at h
 oM id s h:=by simp[Ctx.bare,aX.empty,aX.sz,lk] at h
 eE:=hp
 eZ:=hp2
 size:=hI.size
 iK b h:=⟨(hI.iK b h).1,xp pr b⟩
 e8 l r h:=by simp[Ctx.bare,aX.empty,lk] at h
 mI d h:=by simp[Ctx.bare] at h
 y7:=.nil
 zM:=fun _ _=>rfl
 fD b h:=absurd (.inr h) (xp pr b)
 pP:=rfl
 fZ:=Nat.zero_le _
 gh:=trivial

theorem Inv.Nk(hI:Inv W0 C){b:Nat}(h:C.own b):W0.w.heap.size≤b:=by
 rcases Nat.lt_or_ge b W0.w.heap.size with hb|hb
 ·exact absurd h (hI.iK b hb).2
 ·exact hb

theorem dO.bare{x:AV}{v:Value}(h:dO C x v)(hn:dn x){pr:Nat→Prop}(hp:∀b,¬C.bad b→¬pr b):dO (C.bare pr) x v:=
 h.move hn (Nat.le_refl _) (fun b _ hb=>⟨rfl,fun h=>by
  rcases h with h|h
  ·exact xp pr b h
  ·exact hp b hb h⟩)

theorem vb{f:FuncId}{args:Array Operand}{tys:Array TypeId}(ho:o.op=.call {callee:=.value (.func f),args:=args,argTypes:=tys})(hc:oR P f)(w:World):
  (execOp a.eval o).run P w=.ok (.enter f (args.map a.eval)) w:=by
 have h1:a.eval (.func f)=.func (.func f) #[] #[]:=rfl
 have h2:=hc (args.map a.eval) w
 simp only[execOp,ho,resolve,h1,Deferred.ofValue]
 simpa [invoke] using h2

theorem x8{C1 C2:Ctx}(h:Ext C1 C2)(hn:∀b,¬C1.own b):Below C1.w.heap.size C1.w C2.w:=
 ⟨h.below.os,h.below.tape,h.below.output,h.below.size,fun k hk=>h.keep k hk (hn k)⟩

theorem aL{f:FuncId}{args:Array Operand}{tys:Array TypeId}{xs:List AV}{r:AV}(ho:o.op=.call {callee:=.value (.func f),args:=args,argTypes:=tys})(hxs:args.toList.mapM (bA fr)=some xs)(hno:∀x∈xs,dn x)(hf:bJ P W0.w f xs r):gD P W0 o fr H r H:=by
 intro C a hI hH hop K Q hK
 unfold Oper.wp
 rw[vb ho hf.call,Oper.upon_enter]
 obtain⟨m1,m2⟩:=Bb args.toList xs hxs
 have MM:Inv (.of W0.w) (C.bare (fun b=>C.dm b∨C.own b)):=hI.bare (fun b hb=>by
  rcases hb with h|h
  ·exact hI.eE b h
  ·exact hI.GG h) (fun b hb=>by
  rcases hb with h|h
  ·exact hI.eZ b h
  ·exact hI.Nk h)
 have hrep:∀(k:Nat) (x:AV),xs[k]? =some x→dO (C.bare (fun b=>C.dm b∨C.own b)) x ((args.map a.eval).getD k undef):=fun k x hx=>by
  obtain⟨y,g1,g2⟩:=m2 k x hx
  have hy:args[k]? =some y:=by simpa using g1
  have hlt:k<(args.map a.eval).size:=by have:=(Array.getElem?_eq_some_iff.1 hy).1;simpa using this
  have e:(args.map a.eval).getD k undef=a.eval y:=by
   have:=pM hlt
   rw[Array.getElem?_map,hy] at this
   exact(Option.some.inj this).symm
  rw[e]
  have hmem:y∈o.op.operands:=by rw[ho];simp[Op.operands,Call.operands];exact .inr (Array.mem_of_getElem? hy)
  exact(b6 (hop y hmem) g2).bare (hno x (List.mem_of_getElem? hx)) (fun b hb h=>hb (h.elim .inr .inl))
 refine(hf.runs _ (args.map a.eval) MM rfl rfl (by simpa using m1.symm) hrep).mono ?_
 rintro e w' ⟨v,C1,rfl,rfl,hE,hI',hr⟩
 have hB:=x8 hE (xp _)
 have hB':Below C.w.heap.size C.w C1.w:=hB
 refine hK v (C.xE C1.w) (lP hB') (hI.xE hB') hH (hr.move hf.wm (Nat.le_refl _) (fun b hb hn=>⟨rfl,fun h=>hn ?_⟩))
 rcases h with h|h
 ·exact .inr (by rw[hE.dm];exact .inr h)
 ·exact .inr (by rw[hE.dm];exact .inl h)


def cO:Nat→List AV→List (Nat×AV)
 |_,[]=>[]
 |k,x::xs=>(k,x)::cO (k+1) xs

theorem tR:∀(xs:List AV) (k t:Nat) (x:AV),lk (cO k xs) t=some x→k≤t∧xs[t - k]? =some x
 |[],k,t,x,h=>by cases h
 |y::xs,k,t,x,h=>by
  simp only[cO,lk] at h
  split at h
  ·rename_i hk;subst hk;cases h;simp
  ·rename_i hk
   obtain⟨h1,h2⟩:=tR xs (k+1) t x h
   refine⟨by omega, ?_⟩
   rw[show t - k=(t - (k+1))+1 by omega]
   simpa using h2

def D0(P:Program)(st:St):ResultVar→Option AV
 |.tmp t=>lk st.fr t
 |.cell q T=>match lk st.fr q,vU P T with
  |some (.ref id i j),some (n,g)=>match st.H.get id with
   |some es=>match es[i]? with
    |some e=>uv e.flat j n g
    |none=>none
   |none=>none
  |_,_=>none

def Nr(P:Program)(rs:List ResultVar)(st:St):Option AV:=
 match rs.mapM (D0 P st) with
 |some [r]=>some r
 |some l=>some (.tuple l)
 |none=>none

def TB(tm:Array Value):ResultVar→Sem Value
 |.tmp t=>Pure.pure (tm.getD t undef)
 |.cell q t=>do loadVar t (←asAddr (tm.getD q undef))

theorem Nt{st:St}(hr:Rel W0 N (lk st.fr) st.H C a){x:ResultVar}{r:AV}(h:D0 P st x=some r):
  ∃v,(TB a.tmps x).run P C.w=.ok v C.w∧dO C r v:=by
 cases x with
 |tmp t=>exact⟨_,rfl,hr.rep t r h⟩
 |cell q T=>
  simp only[D0] at h
  split at h
  ·rename_i id i j n g h1 h2
   split at h
   ·rename_i es h3
    split at h
    ·rename_i e h4
     have h5:=hr.rep q _ h1
     have hid:C.H.get id=some es:=by rw[hr.heap];exact h3
     generalize hu:a.tmps.getD q undef=u at h5
     match h5 with
     |.ref _ _ _ _ hid' h6 _=>
     obtain⟨hn,hu2⟩:=h6 es hid
     subst hu2
     obtain⟨v,h7,h8⟩:=th h2 (D7 hr.inv hid hn h4 j) (GI h)
     refine⟨v, ?_,h8⟩
     show((do loadVar T (←asAddr (a.tmps.getD q undef))):Sem Value).run P C.w=_
     rw[hu]
     simp[asAddr,h7]
    ·cases h
   ·cases h
  ·cases h

theorem L6{st:St}(hr:Rel W0 N (lk st.fr) st.H C a){fn:Func}{r:AV}(h:Nr P fn.results.toList st=some r):∃v,(results fn a.tmps).run P C.w=.ok v C.w∧dO C r v:=by
 have key:∀(l:List ResultVar) (rs:List AV),l.mapM (D0 P st)=some rs→
   ∃vs:List Value,(l.mapM (TB a.tmps)).run P C.w=.ok vs C.w∧vs.length=rs.length∧∀(k:Nat) (x:AV),rs[k]? =some x→∃v,vs[k]? =some v∧dO C x v:=by
  intro l
  induction l with
  |nil=>
   intro rs h
   simp only[List.mapM_nil,Option.pure_def,Option.some.injEq] at h
   subst h
   exact⟨[],rfl,rfl,fun k x hk=>by simp at hk⟩
  |cons x l ih=>
   intro rs h
   rw[List.mapM_cons] at h
   simp only[Option.bind_eq_bind,Option.bind_eq_some_iff,Option.pure_def,Option.some.injEq] at h
   obtain⟨z,hz,zs,hzs,rfl⟩:=h
   obtain⟨v,g1,g2⟩:=Nt (P:=P) hr hz
   obtain⟨vs,g3,g4,g5⟩:=ih zs hzs
   refine⟨v::vs, ?_,by simp[g4],fun k x hk=> ?_⟩
   ·rw[List.mapM_cons,Sem.run_bind,g1]
    simp only[Result.andThen_ok]
    rw[Sem.run_bind,g3]
    rfl
   ·cases k with
    |zero=>simp at hk;subst hk;exact⟨v,rfl,g2⟩
    |succ k=>simp at hk;simpa using g5 k x hk
 have hra:fn.results=fn.results.toList.toArray:=by simp
 have gen:∀(g:ResultVar→Sem Value),(∀x,g x=TB a.tmps x)→∀vs:List Value,(fn.results.toList.mapM (TB a.tmps)).run P C.w=.ok vs C.w→
   (do let vs←fn.results.mapM g;pure (if h:vs.size=1 then vs[0] else .tuple vs):Sem Value).run P C.w=.ok (if h:vs.toArray.size=1 then vs.toArray[0] else .tuple vs.toArray) C.w:=fun g hg vs hvs=>by
  rw[funext hg,hra,List.mapM_toArray,Sem.run_bind,Sem.run_map,hvs]
  rfl
 have hrun:∀vs:List Value,(fn.results.toList.mapM (TB a.tmps)).run P C.w=.ok vs C.w→
   (results fn a.tmps).run P C.w=.ok (if h:vs.toArray.size=1 then vs.toArray[0] else .tuple vs.toArray) C.w:=fun vs hvs=>gen _ (fun x=>by cases x <;> rfl) vs hvs
 unfold Nr at h
 split at h
 ·rename_i r' h1
  simp only[Option.some.injEq] at h;subst h
  obtain⟨vs,g1,g2,g3⟩:=key _ _ h1
  obtain⟨v,g4,g5⟩:=g3 0 r' rfl
  refine⟨v, ?_,g5⟩
  have hvs:vs=[v]:=by
   cases vs with
   |nil=>simp at g2
   |cons u vs=>cases vs with
    |nil=>simp at g4;rw[g4]
    |cons _ _=>simp at g2
  subst hvs
  rw[hrun _ g1]
  rfl
 ·rename_i rs hne h1
  simp only[Option.some.injEq] at h;subst h
  obtain⟨vs,g1,g2,g3⟩:=key _ _ h1
  have hl:vs.toArray.size≠1:=fun h=>by
   have:rs.length=1:=by rw[←g2];simpa using h
   obtain⟨r',hr'⟩:=List.length_eq_one_iff.1 this
   exact hne r' hr'
  refine⟨.tuple vs.toArray, ?_,.tuple rs _ (by simpa using g2) (fun k x hk=> ?_)⟩
  ·rw[hrun _ g1,dif_neg hl]
  ·obtain⟨v,g4,g5⟩:=g3 k x hk
   have hlt:k<vs.toArray.size:=by simpa using (List.getElem?_eq_some_iff.1 g4).1
   have:vs.toArray.getD k undef=v:=by
    have:=pM hlt
    simp only[List.getElem?_toArray,g4,Option.some.injEq] at this
    exact this.symm
   rw[this];exact g5
 ·cases h

end
end Go.Av
end

section
/- The rules by which a proof goes through a text: numbers and bools in plain forms. -/
namespace Go.Av

abbrev u64(x:BitVec 64):AV:=.imm (.int .u64 (x.toNat:Int))
abbrev i64(n:Int):AV:=.imm (.int .i64 n)
abbrev bl(b:Bool):AV:=.imm (.bool b)
abbrev bw:AV:=.imm (.slice none 0 0)

section
variable {P:Program} {W0:dU} {fr:Fr} {H:aX} {o:Oper}

theorem qm{op:BinOp}{t t':TypeId}{x y:Operand}{k:IntKind}{m n:Int}{v:Value}(ho:o.op=.binOp op t x y t')(hx:bA fr x=some (.imm (.int k m)))(hy:bA fr y=some (.imm (.int k n)))
  (h:∀w,(binOp op t (.int k m) (.int k n)).run P w=.ok v w)(hv:v.oneCell'=true):gD P W0 o fr H (.imm v) H:=
 .iA fun C a _ _ hr=>by
  have e1:=gM (v:=.int k m) rfl (b6 (hr x (by simp[ho,Op.operands])) hx)
  have e2:=gM (v:=.int k n) rfl (b6 (hr y (by simp[ho,Op.operands])) hy)
  refine⟨v, ?_,.imm v hv⟩
  have hg:(eqGuard op t x y (.int k m) (.int k n)).run P C.w=.ok () C.w:=by
   unfold eqGuard
   split <;> rfl
  simp only[execOp,ho,e1,e2,Sem.run_bind,hg,Result.andThen_ok,h C.w]
  rfl

theorem a_{t t':TypeId}{x y:Operand}{k:IntKind}{m n:Int}(ho:o.op=.binOp .lss t x y t')(hx:bA fr x=some (.imm (.int k m)))(hy:bA fr y=some (.imm (.int k n))):gD P W0 o fr H (bl (decide (m<n))) H:=
 qm ho hx hy (fun w=>by simp[binOp,Op.intCmp]) rfl
theorem IV{t t':TypeId}{x y:Operand}{k:IntKind}{m n:Int}(ho:o.op=.binOp .leq t x y t')(hx:bA fr x=some (.imm (.int k m)))(hy:bA fr y=some (.imm (.int k n))):gD P W0 o fr H (bl (decide (m≤n))) H:=
 qm ho hx hy (fun w=>by simp[binOp,Op.intCmp]) rfl
theorem jm{t t':TypeId}{x y:Operand}{k:IntKind}{m n:Int}(ho:o.op=.binOp .gtr t x y t')(hx:bA fr x=some (.imm (.int k m)))(hy:bA fr y=some (.imm (.int k n))):gD P W0 o fr H (bl (decide (n<m))) H:=
 qm ho hx hy (fun w=>by simp[binOp,Op.intCmp]) rfl
theorem dG{t t':TypeId}{x y:Operand}{k:IntKind}{m n:Int}(ho:o.op=.binOp .geq t x y t')(hx:bA fr x=some (.imm (.int k m)))(hy:bA fr y=some (.imm (.int k n))):gD P W0 o fr H (bl (decide (n≤m))) H:=
 qm ho hx hy (fun w=>by simp[binOp,Op.intCmp]) rfl
theorem bY{t t':TypeId}{x y:Operand}{k:IntKind}{m n:Int}(ho:o.op=.binOp .eql t x y t')(hx:bA fr x=some (.imm (.int k m)))(hy:bA fr y=some (.imm (.int k n))):gD P W0 o fr H (bl (decide (m=n))) H:=
 qm ho hx hy (fun w=>by simp[binOp,Op.intCmp];by_cases h:m=n <;> simp[h]) rfl
theorem fA{t t':TypeId}{x y:Operand}{k:IntKind}{m n:Int}(ho:o.op=.binOp .neq t x y t')(hx:bA fr x=some (.imm (.int k m)))(hy:bA fr y=some (.imm (.int k n))):gD P W0 o fr H (bl (decide (m≠n))) H:=
 qm ho hx hy (fun w=>by simp[binOp,Op.intCmp];by_cases h:m=n <;> simp[h,bne]) rfl
theorem bB{t t':TypeId}{x y:Operand}{k:IntKind}{m n s:Int}(ho:o.op=.binOp .add t x y t')(hx:bA fr x=some (.imm (.int k m)))(hy:bA fr y=some (.imm (.int k n)))(hs:k.wrap (m+n)=s):gD P W0 o fr H (.imm (.int k s)) H:=
 qm ho hx hy (fun w=>by simp[binOp,Op.intArith,hs]) rfl
theorem qo{t t':TypeId}{x y:Operand}{k:IntKind}{m n s:Int}(ho:o.op=.binOp .sub t x y t')(hx:bA fr x=some (.imm (.int k m)))(hy:bA fr y=some (.imm (.int k n)))(hs:k.wrap (m - n)=s):gD P W0 o fr H (.imm (.int k s)) H:=
 qm ho hx hy (fun w=>by simp[binOp,Op.intArith,hs]) rfl
theorem NL{t t':TypeId}{x y:Operand}{k:IntKind}{m n s:Int}(ho:o.op=.binOp .mul t x y t')(hx:bA fr x=some (.imm (.int k m)))(hy:bA fr y=some (.imm (.int k n)))(hs:k.wrap (m*n)=s):gD P W0 o fr H (.imm (.int k s)) H:=
 qm ho hx hy (fun w=>by simp[binOp,Op.intArith,hs]) rfl
theorem Ug{t t':TypeId}{x y:Operand}{k:IntKind}{m n s:Int}(ho:o.op=.binOp .quo t x y t')(hx:bA fr x=some (.imm (.int k m)))(hy:bA fr y=some (.imm (.int k n)))(h0:n≠0)(hs:k.wrap (m.tdiv n)=s):gD P W0 o fr H (.imm (.int k s)) H:=
 qm ho hx hy (fun w=>by simp[binOp,Op.intDiv,h0,hs]) rfl
theorem IW{t t':TypeId}{x y:Operand}{k:IntKind}{m n s:Int}(ho:o.op=.binOp .rem t x y t')(hx:bA fr x=some (.imm (.int k m)))(hy:bA fr y=some (.imm (.int k n)))(h0:n≠0)(hs:m.tmod n=s):gD P W0 o fr H (.imm (.int k s)) H:=
 qm ho hx hy (fun w=>by simp[binOp,Op.intDiv,h0,hs]) rfl

theorem Fm(x:BitVec 64):BitVec.ofInt 64 (x.toNat:Int)=x:=by simp
theorem Df(x:BitVec 64):IntKind.u64.wrap (x.toNat:Int)=x.toNat:=by
 have:=x.isLt
 simp only[IntKind.wrap,IntKind.signed,IntKind.bits,Bool.false_and,Bool.false_eq_true,if_false]
 omega

theorem Qm{t t':TypeId}{x y:Operand}{a b:BitVec 64}(ho:o.op=.binOp .or t x y t')(hx:bA fr x=some (u64 a))(hy:bA fr y=some (u64 b)):gD P W0 o fr H (u64 (a|||b)) H:=
 qm ho hx hy (fun w=>by simp only[binOp,ne_eq,not_true_eq_false,if_false,Op.intBits,IntKind.bits,Fm,Df];rfl) rfl
theorem NK{t t':TypeId}{x y:Operand}{a b:BitVec 64}(ho:o.op=.binOp .and t x y t')(hx:bA fr x=some (u64 a))(hy:bA fr y=some (u64 b)):gD P W0 o fr H (u64 (a&&&b)) H:=
 qm ho hx hy (fun w=>by simp only[binOp,ne_eq,not_true_eq_false,if_false,Op.intBits,IntKind.bits,Fm,Df];rfl) rfl
theorem Mv{t t':TypeId}{x y:Operand}{a b:BitVec 64}(ho:o.op=.binOp .andNot t x y t')(hx:bA fr x=some (u64 a))(hy:bA fr y=some (u64 b)):gD P W0 o fr H (u64 (a&&& ~~~b)) H:=
 qm ho hx hy (fun w=>by simp only[binOp,ne_eq,not_true_eq_false,if_false,Op.intBits,IntKind.bits,Fm,Df];rfl) rfl

theorem cg{t:TypeId}{x:Operand}{b:Bool}(ho:o.op=.unOp .not t x)(hx:bA fr x=some (bl b)):gD P W0 o fr H (bl (!b)) H:=
 Qp ho hx rfl (by rfl)

end
theorem gD.conv{P:Program}{W0:dU}{o:Oper}{fr:Fr}{H H':aX}{r r':AV}(h:gD P W0 o fr H r H')(e:r=r'):gD P W0 o fr H r' H':=e▸h
theorem gD.tt{P:Program}{W0:dU}{o:Oper}{fr:Fr}{H H':aX}{p:Prop} [Decidable p] (h:gD P W0 o fr H (bl (decide p)) H')(hp:p):gD P W0 o fr H (bl true) H':=h.conv (by rw[decide_eq_true hp])
theorem gD.ff{P:Program}{W0:dU}{o:Oper}{fr:Fr}{H H':aX}{p:Prop} [Decidable p] (h:gD P W0 o fr H (bl (decide p)) H')(hp:¬p):gD P W0 o fr H (bl false) H':=h.conv (by rw[decide_eq_false hp])

theorem gQ{P:Program}{W0:dU}{N:Nat}{st:St}{Q:Exit→St→Prop}{c:Operand}{x y:Code}(hc:bA (lk st.fr) c=some (bl true))(h:aZ P W0 N x st Q):aZ P W0 N (.cond c x y) st Q:=
 aJ hc (fun _=>h) (fun h=>by cases h)
theorem mH{P:Program}{W0:dU}{N:Nat}{st:St}{Q:Exit→St→Prop}{c:Operand}{x y:Code}(hc:bA (lk st.fr) c=some (bl false))(h:aZ P W0 N y st Q):aZ P W0 N (.cond c x y) st Q:=
 aJ hc (fun h=>by cases h) (fun _=>h)

section
variable {P:Program} {W0:dU} {fr:Fr} {H:aX} {o:Oper}

theorem IN(n:Int):IntKind.u64.wrap n=((BitVec.ofInt 64 n).toNat:Int):=by
 rw[BitVec.toNat_ofInt]
 simp only[IntKind.wrap,IntKind.signed,IntKind.bits,Bool.false_and,Bool.false_eq_true,if_false]
 omega

theorem HV{t t':TypeId}{x y:Operand}{a b:BitVec 64}(ho:o.op=.binOp .add t x y t')(hx:bA fr x=some (u64 a))(hy:bA fr y=some (u64 b)):gD P W0 o fr H (u64 (a+b)) H:=
 bB ho hx hy (by
  have e:BitVec.ofInt 64 ((a.toNat:Int)+b.toNat)=a+b:=by
   apply BitVec.eq_of_toNat_eq
   rw[BitVec.toNat_ofInt,BitVec.toNat_add];omega
  rw[IN,e])
theorem HX{t t':TypeId}{x y:Operand}{a b:BitVec 64}(ho:o.op=.binOp .sub t x y t')(hx:bA fr x=some (u64 a))(hy:bA fr y=some (u64 b)):gD P W0 o fr H (u64 (a - b)) H:=
 qo ho hx hy (by
  have e:BitVec.ofInt 64 ((a.toNat:Int) - b.toNat)=a - b:=by
   apply BitVec.eq_of_toNat_eq
   have:=a.isLt;have:=b.isLt
   rw[BitVec.toNat_ofInt,BitVec.toNat_sub];omega
  rw[IN,e])
theorem OA{t t':TypeId}{x y:Operand}{a b:BitVec 64}(ho:o.op=.binOp .mul t x y t')(hx:bA fr x=some (u64 a))(hy:bA fr y=some (u64 b)):gD P W0 o fr H (u64 (a*b)) H:=
 NL ho hx hy (by
  have e:BitVec.ofInt 64 ((a.toNat:Int)*b.toNat)=a*b:=by
   apply BitVec.eq_of_toNat_eq
   rw[BitVec.toNat_ofInt,BitVec.toNat_mul]
   have:(a.toNat:Int)*(b.toNat:Int)=((a.toNat*b.toNat:Nat):Int):=by simp
   rw[this];omega
  rw[IN,e])

theorem A1{op:BinOp}{t t':TypeId}{x y:Operand}{k k':IntKind}{m n:Int}{v:Value}(ho:o.op=.binOp op t x y t')(hx:bA fr x=some (.imm (.int k m)))(hy:bA fr y=some (.imm (.int k' n)))
  (h:∀w,(binOp op t (.int k m) (.int k' n)).run P w=.ok v w)(hv:v.oneCell'=true):gD P W0 o fr H (.imm v) H:=
 .iA fun C a _ _ hr=>by
  have e1:=gM (v:=.int k m) rfl (b6 (hr x (by simp[ho,Op.operands])) hx)
  have e2:=gM (v:=.int k' n) rfl (b6 (hr y (by simp[ho,Op.operands])) hy)
  refine⟨v, ?_,.imm v hv⟩
  have hg:(eqGuard op t x y (.int k m) (.int k' n)).run P C.w=.ok () C.w:=by
   unfold eqGuard
   split <;> rfl
  simp only[execOp,ho,e1,e2,Sem.run_bind,hg,Result.andThen_ok,h C.w]
  rfl

theorem OE{t t':TypeId}{x y:Operand}{a:BitVec 64}{k':IntKind}{n:Int}(ho:o.op=.binOp .shl t x y t')(hx:bA fr x=some (u64 a))(hy:bA fr y=some (.imm (.int k' n)))(h0:0≤n)(XQ:n<64):gD P W0 o fr H (u64 (a<<<n.toNat)) H:=
 A1 ho hx hy (fun w=>by
  have hn:¬n<0:=by omega
  have hm:min n.toNat 64=n.toNat:=by omega
  simp only[binOp,Op.shift,hn,if_false,IntKind.bits,hm,IN]
  show Result.ok _ w=Result.ok _ w
  congr 4
  apply BitVec.eq_of_toNat_eq
  rw[BitVec.toNat_ofInt,BitVec.toNat_shiftLeft,Nat.shiftLeft_eq]
  have:(a.toNat:Int)*2 ^ n.toNat=((a.toNat*2 ^ n.toNat:Nat):Int):=by simp
  rw[this];omega) rfl
theorem OF{t t':TypeId}{x y:Operand}{a:BitVec 64}{k':IntKind}{n:Int}(ho:o.op=.binOp .shr t x y t')(hx:bA fr x=some (u64 a))(hy:bA fr y=some (.imm (.int k' n)))(h0:0≤n)(XQ:n<64):gD P W0 o fr H (u64 (a>>>n.toNat)) H:=
 A1 ho hx hy (fun w=>by
  have hn:¬n<0:=by omega
  have hm:min n.toNat 64=n.toNat:=by omega
  simp only[binOp,Op.shift,hn,if_false,IntKind.bits,hm]
  show Result.ok _ w=Result.ok _ w
  congr 2
  rw[BitVec.toNat_ushiftRight,Nat.shiftRight_eq_div_pow]
  have:(2:Int) ^ n.toNat=((2 ^ n.toNat:Nat):Int):=by simp
  rw[this,Int.fdiv_eq_ediv_of_nonneg _ (Int.natCast_nonneg _)]
  simp) rfl

theorem Qk{s d:TypeId}{x:Operand}{k k':IntKind}{n m:Int}(ho:o.op=.convert s d x)(hx:bA fr x=some (.imm (.int k n)))(hs:P.underlying s=some (.int k))(hd:P.underlying d=some (.int k'))(hm:k'.wrap n=m):gD P W0 o fr H (.imm (.int k' m)) H:=
 .iA fun C a _ _ hr=>by
  have e1:=gM (v:=.int k n) rfl (b6 (hr x (by simp[ho,Op.operands])) hx)
  refine⟨.int k' m, ?_,.imm _ rfl⟩
  simp only[execOp,ho,e1,Sem.run_bind,convert,run_underlying hs,run_underlying hd,Result.andThen_ok,Conv.intToInt,Sem.run_pure,hm]

theorem IU{t e:TypeId}{s by':Nat}{x:Operand}{id off len:Nat}{es:List AV}(ho:o.op=.call {callee:=.builtin .len,args:= #[x],argTypes:= #[t]})(hx:bA fr x=some (.view id off len))(hid:H.get id=some es)(ht:yc P t=some (e,s,by')):
  gD P W0 o fr H (i64 len) H:=
 .iA fun C a hI hH hop=>by
  subst hH
  have hr:=b6 (hop x (by simp[ho,Op.operands,Call.operands])) hx
  obtain⟨hu,_⟩:=qx ht
  generalize hux:a.eval x=u at hr
  have hu2:∃ad cap,u=.slice ad len cap:=match hr with
   |.view _ _ _ _ _ hs _=>by
    have:=hs es hid
    unfold oO at this
    split at this
    ·obtain⟨_,rfl,ad,h⟩:=this;exact⟨ad,0,h⟩
    ·obtain⟨ad,cap,h,_⟩:=this;exact⟨some ad,cap,h⟩
  obtain⟨ad,cap,rfl⟩:=hu2
  refine⟨.int .i64 len, ?_,.imm _ rfl⟩
  obtain⟨cs,hb⟩:=sK (P:=P) ho a
  rw[hb]
  have e:(#[x].map a.eval)= #[.slice ad len cap]:=by simp[hux]
  rw[e]
  simp[builtin,Builtin.len_,run_underlying hu,goInt]

end

theorem Fe{W0:dU}{P:Program}{fr:Fr}{H:aX}{o:Oper}{t:TypeId}{N:Nat}{g:Nat}{i:Operand}{fl:List AV}{vs:List Value}{k:IntKind}{n:Int}{m:Nat}(ho:o.op=.indexAddr t (.global g) i)(hi:bA fr i=some (.imm (.int k n)))
  (ht:Uh P t=some (N,1))(hn:n=m)(hm:m<N)(hfl:fl=vs.map .imm)(hT:∀(j:Nat) (v:Value),vs[j]? =some v→W0.w.cell? ⟨g,j,none⟩=some v∧v.oneCell'=true)(h0:vs≠[]):gD P W0 o fr H (.pp fl m) H:=
 .iA fun C a hI _ hop=>by
  have h2:=gM (v:=.int k n) rfl (b6 (hop i (by simp[ho,Op.operands])) hi)
  have hx:a.eval (.global g)=.pointer (some ⟨g,0,none⟩):=rfl
  subst hn
  have hg:g<W0.w.heap.size:=by
   obtain⟨v,vs',rfl⟩:=List.exists_cons_of_ne_nil h0
   have:=(hT 0 v rfl).1
   unfold World.cell? at this
   split at this
   ·rename_i h9;exact(Array.getElem?_eq_some_iff.1 h9).1
   ·cases this
  have hblk:=hI.iK g hg
  have hc:∀(j:Nat) (v:Value),vs[j]? =some v→Holds C.w g (0+j) v:=fun j v hj=>by
   obtain⟨h3,h4⟩:=hT j v hj
   refine⟨?_,h4⟩
   rw[Nat.zero_add,World.cell?_of_block (w:=W0.w) (a:=⟨g,j,none⟩) hblk.1]
   exact h3
  have hsz:=hI.size
  refine⟨_, ?_,.pp fl m g 0 (fun j=>vs.getD j undef) (by omega) (fun hb=> ?_) (fun j x hj=> ?_) (fun j x hj=> ?_)⟩
  ·simp only[execOp,ho,hx,h2]
   rw[Sem.run_bind,AQ ht g 0 k m hm,Nat.mul_one]
   rfl
  ·rcases hb with hb|hb
   ·exact hblk.2 hb
   ·have:=hI.eZ g hb;omega
  ·rw[hfl] at hj
   simp only[List.getElem?_map,Option.map_eq_some_iff] at hj
   obtain⟨v,hv,rfl⟩:=hj
   have:vs.getD j undef=v:=by rw[List.getD_eq_getElem?_getD,hv];rfl
   rw[this];exact hc j v hv
  ·rw[hfl] at hj
   simp only[List.getElem?_map,Option.map_eq_some_iff] at hj
   obtain⟨v,hv,rfl⟩:=hj
   have:vs.getD j undef=v:=by rw[List.getD_eq_getElem?_getD,hv];rfl
   rw[this];exact .imm v (hT j v hv).2

theorem SP{n:Int}(h1: -9223372036854775808≤n)(h2:n<9223372036854775808):IntKind.i64.wrap n=n:=by
 rw[IntKind.wrap_i64];omega

end Go.Av
end

section
/- Objects under other names: what a proof may do with its heap between two statements. -/
namespace Go.Av

inductive vn (H:aX) (g:List (Nat×Nat)) (nw:List Nat):AV→AV→Prop
 |same (x:AV):dn x→vn H g nw x x
 |any (x:AV):vn H g nw x .any
 |view {old new off len:Nat}:lk g new=some old→vn H g nw (.view old off len) (.view new off len)
 |viewL {old new off len len':Nat}:lk g new=some old→len=len'→vn H g nw (.view old off len) (.view new off len')
 |ref {old new i j:Nat}:lk g new=some old→vn H g nw (.ref old i j) (.ref new i j)
 |nil {n:Nat}:n∈nw→vn H g nw (.imm (.slice none 0 0)) (.view n 0 0)
 |lend {id off len:Nat} {es ys:List AV}:H.get id=some es→(∀p∈g,p.2≠id)→(es.drop off).take len=ys→(∀e∈ys,dn e)→vn H g nw (.view id off len) (.sl ys)
 |agg (cs cs':List AV):cs.length=cs'.length→(∀(k:Nat) (x x':AV),cs[k]? =some x→cs'[k]? =some x'→vn H g nw x x')→vn H g nw (.agg cs) (.agg cs')
 |tuple (cs cs':List AV):cs.length=cs'.length→(∀(k:Nat) (x x':AV),cs[k]? =some x→cs'[k]? =some x'→vn H g nw x x')→vn H g nw (.tuple cs) (.tuple cs')
 |bX (fn:Fn) (cs cs':List AV):cs.length=cs'.length→(∀(k:Nat) (x x':AV),cs[k]? =some x→cs'[k]? =some x'→vn H g nw x x')→vn H g nw (.bX fn cs) (.bX fn cs')
 |ifc (t:TypeId) (x x':AV):vn H g nw x x'→vn H g nw (.ifc t x) (.ifc t x')
 |wide (es:List AV):(∀e∈es,dn e)→vn H g nw (.clip es) (.sl es)
 |nilsl:vn H g nw (.imm (.slice none 0 0)) (.sl [])
 |frz {id i j:Nat} {es fl:List AV} {e:AV}:H.get id=some es→(∀p∈g,p.2≠id)→es[i]? =some e→e.flat=fl→(∀x∈fl,dn x)→vn H g nw (.ref id i j) (.pp fl j)

structure Hf (H:aX) (g:List (Nat×Nat)) (nw:List Nat) (es es':List AV):Prop where
 len:es.length=es'.length
 see:∀(k:Nat) (e e':AV),es[k]? =some e→es'[k]? =some e'→vn H g nw e e'∧e.flat.length=e'.flat.length

def rZ(H:aX)(g:List (Nat×Nat))(nw:List Nat)(next:Nat):List (Nat×(Nat×List AV))→Prop
 |[]=>True
 |(n,(s,es'))::r=>((∃old es,lk g n=some old∧lk H.ef old=some (s,es)∧Hf H g nw es es')∨(n∈nw∧es'=[]))∧n<next∧rZ H g nw next r

def Seen(H:aX)(g:List (Nat×Nat))(nw:List Nat)(fr:List (Nat×AV)):List (Nat×AV)→Prop
 |[]=>True
 |(t,x')::r=>(∃x,lk fr t=some x∧vn H g nw x x')∧Seen H g nw fr r

theorem o9{α:Type}:∀{l:List (Nat×α)} {t:Nat} {x:α},lk l t=some x→(t,x)∈l
 |[],_,_,h=>by cases h
 |(s,u)::l,t,x,h=>by
  simp only[lk] at h
  split at h
  ·rename_i hs;subst hs;cases h;exact List.mem_cons_self ..
  ·exact List.mem_cons_of_mem _ (o9 h)

section
variable {P:Program} {W0:dU} {C:Ctx} {N:Nat} {H:aX} {g:List (Nat×Nat)} {nw:List Nat}

theorem Hf.same{es:List AV}(h:∀e∈es,dn e):Hf H g nw es es:=
 ⟨rfl,fun k e e' h1 h2=>by rw[h1] at h2;cases h2;exact⟨.same e (h e (List.mem_of_getElem? h1)),rfl⟩⟩

theorem rZ.spec{next:Nat}:∀{l:List (Nat×(Nat×List AV))},rZ H g nw next l→∀{n s:Nat} {es':List AV},lk l n=some (s,es')→
  ((∃old es,lk g n=some old∧lk H.ef old=some (s,es)∧Hf H g nw es es')∨(n∈nw∧es'=[]))∧n<next
 |[],_,_,_,_,h=>by cases h
 |(m,(s,es))::l,hl,n,s',es',h=>by
  simp only[lk] at h
  split at h
  ·rename_i hm;subst hm;cases h;exact⟨hl.1,hl.2.1⟩
  ·exact rZ.spec hl.2.2 h

theorem Seen.spec{fr:List (Nat×AV)}:∀{l:List (Nat×AV)},Seen H g nw fr l→∀{t:Nat} {x':AV},lk l t=some x'→∃x,lk fr t=some x∧vn H g nw x x'
 |[],_,_,_,h=>by cases h
 |(m,u)::l,hl,t,x',h=>by
  simp only[lk] at h
  split at h
  ·rename_i hm;subst hm;cases h;exact hl.1
  ·exact Seen.spec hl.2 h

theorem vn.flat{e e' x x':AV}(h:vn H g nw e e'){j:Nat}(hl:e.flat.length=e'.flat.length)(h1:e.flat[j]? =some x)(h2:e'.flat[j]? =some x'):vn H g nw x x':=by
 cases h with
 |same _ hn=>
  rw[h1] at h2;cases h2
  refine .same _ ?_
  cases e <;> simp only[AV.flat] at h1
  case agg cs=>simp only[xP] at hn;exact hn x (List.mem_of_getElem? h1)
  all_goals
   have:=List.mem_of_getElem? h1
   simp only[List.mem_singleton] at this
   rw[this];exact hn
 |any=>
  have:=List.mem_of_getElem? h2
  simp only[AV.flat,List.mem_singleton] at this
  rw[this];exact .any _
 |agg cs cs' hl' hs=>exact hs j x x' h1 h2
 |tuple cs cs' hl' hs=>
  have a:=List.mem_of_getElem? h1;have b:=List.mem_of_getElem? h2
  simp only[AV.flat,List.mem_singleton] at a b
  rw[a,b];exact .tuple cs cs' hl' hs
 |bX fn cs cs' hl' hs=>
  have a:=List.mem_of_getElem? h1;have b:=List.mem_of_getElem? h2
  simp only[AV.flat,List.mem_singleton] at a b
  rw[a,b];exact .bX fn cs cs' hl' hs
 |ifc t y y' hs=>
  have a:=List.mem_of_getElem? h1;have b:=List.mem_of_getElem? h2
  simp only[AV.flat,List.mem_singleton] at a b
  rw[a,b];exact .ifc t y y' hs
 |wide es hn=>
  have a:=List.mem_of_getElem? h1;have b:=List.mem_of_getElem? h2
  simp only[AV.flat,List.mem_singleton] at a b
  rw[a,b];exact .wide es hn
 |nilsl=>
  have a:=List.mem_of_getElem? h1;have b:=List.mem_of_getElem? h2
  simp only[AV.flat,List.mem_singleton] at a b
  rw[a,b];exact .nilsl
 |frz q1 q2 q3 q4 q5=>
  have a:=List.mem_of_getElem? h1;have b:=List.mem_of_getElem? h2
  simp only[AV.flat,List.mem_singleton] at a b
  rw[a,b];exact .frz q1 q2 q3 q4 q5
 |view hg=>
  have a:=List.mem_of_getElem? h1;have b:=List.mem_of_getElem? h2
  simp only[AV.flat,List.mem_singleton] at a b
  rw[a,b];exact .view hg
 |viewL hg he=>
  have a:=List.mem_of_getElem? h1;have b:=List.mem_of_getElem? h2
  simp only[AV.flat,List.mem_singleton] at a b
  rw[a,b];exact .viewL hg he
 |ref hg=>
  have a:=List.mem_of_getElem? h1;have b:=List.mem_of_getElem? h2
  simp only[AV.flat,List.mem_singleton] at a b
  rw[a,b];exact .ref hg
 |nil hn=>
  have a:=List.mem_of_getElem? h1;have b:=List.mem_of_getElem? h2
  simp only[AV.flat,List.mem_singleton] at a b
  rw[a,b];exact .nil hn
 |lend q1 q2 q3 q4=>
  have a:=List.mem_of_getElem? h1;have b:=List.mem_of_getElem? h2
  simp only[AV.flat,List.mem_singleton] at a b
  rw[a,b];exact .lend q1 q2 q3 q4

theorem IB{C':Ctx}(hI:Inv W0 C){id off len:Nat}{v:Value}{es:List AV}(h:dO C (.view id off len) v)(hg:C.H.get id=some es)(hn:∀e∈(es.drop off).take len,dn e)(hw:C'.w=C.w)
  (hbad:∀b,C'.bad b→C.bad b)(hfree:(C.pl id).nil=false→¬C'.bad (C.pl id).gN):dO C' (.sl ((es.drop off).take len)) v:=by
 obtain⟨ad,cap,rfl,h2,h3⟩:=xQ hI h (es:=(es.drop off).take len) (by simp[AV.elems,hg])
 rcases h3 with h3|⟨b,o,sz,rfl,h4,h5,h6⟩
 ·rw[h3];exact .slNil _ _
 ·by_cases hes:(es.drop off).take len=[]
  ·rw[hes];exact .slNil _ _
  ·have hne:(C.pl id).nil=false:=by
    cases hq:(C.pl id).nil with
    |false=>rfl
    |true=>exact absurd (by rw[hI.nil id es hg hq];simp) hes
   have hb:b=(C.pl id).gN:=by
    have this:oO (C.pl id) off len _:=match h with
     |.view _ _ _ _ _ hs _=>hs es hg
    unfold oO at this
    rw[if_neg (by simp[hne])] at this
    obtain⟨A,cap',h7,h8,h9,h10,h11⟩:=this
    simp only[Value.slice.injEq] at h7
    obtain⟨h7,h12,h13⟩:=h7
    rcases h11 with h11|h11
    ·subst h11
     have:((es.drop off).take len).length=0:=by omega
     exact absurd (List.eq_nil_of_length_eq_zero this) hes
    ·subst h11;cases h7;rfl
   have hch:∀i j,∃u:Value,∀e x,((es.drop off).take len)[i]? =some e→e.flat[j]? =some x→Holds C.w b (o+i*sz+j) u∧dO C x u:=fun i j=>by
    cases he:((es.drop off).take len)[i]? with
    |none=>exact⟨undef,fun e x h=>by cases h⟩
    |some e=>
     cases hx:e.flat[j]? with
     |none=>exact⟨undef,fun e' x h hx'=>by cases h;rw[hx] at hx';cases hx'⟩
     |some x=>
      obtain⟨u,h7,h8⟩:=h6 i j e x he hx
      exact⟨u,fun e' x' h hx'=>by cases h;rw[hx] at hx';cases hx';exact⟨h7,h8⟩⟩
   refine .sl _ b o sz cap (fun i j=>Classical.choose (hch i j)) (by rw[hw];exact h4) (by rw[hb];exact hfree hne) h2 h5 (fun i j e x he hx=>by rw[hw];exact(Classical.choose_spec (hch i j) e x he hx).1) (fun i j e x he hx=> ?_)
   have hne':=hn e (List.mem_of_getElem? he)
   refine(Classical.choose_spec (hch i j) e x he hx).2.move ?_ (by rw[hw];exact Nat.le_refl _) (fun b _ hb=>⟨by rw[hw],fun h=>hb (hbad b h)⟩)
   cases e <;> simp only[AV.flat] at hx
   case agg cs=>simp only[xP] at hne';exact hne' x (List.mem_of_getElem? hx)
   all_goals
    have:=List.mem_of_getElem? hx
    simp only[List.mem_singleton] at this
    rw[this];exact hne'

def AJ(p:Nat)(g:List (Nat×Nat))(nw:List Nat)(next:Nat):Bool:=decide (p≤next)&&(List.range p).all fun k=>(lk g k==some k||lk g k==none)&& !nw.contains k

theorem AJ.spec{p:Nat}{g:List (Nat×Nat)}{nw:List Nat}{next:Nat}(h:AJ p g nw next=true):p≤next∧∀k,k<p→(lk g k=some k∨lk g k=none)∧k∉nw:=by
 simp only[AJ,Bool.and_eq_true,decide_eq_true_eq,List.all_eq_true,List.mem_range,Bool.or_eq_true,beq_iff_eq,Bool.not_eq_true',List.contains_eq_mem,decide_eq_false_iff_not] at h
 exact h

def Ctx.re(C:Ctx)(g:List (Nat×Nat))(H':aX):Ctx:={C with H:=H',pl:=fun n=>match lk g n with|some old=>C.pl old|none=>⟨0,0,0,0,true⟩}

theorem JU{st:St}{fr':List (Nat×AV)}{H':aX}{a:Act}(g:List (Nat×Nat))(nw:List Nat)(hinj:g.all (fun p=>g.all (fun q=>p.2 !=q.2||p.1==q.1))=true)(hlt:g.all (fun p=>decide (p.1<H'.next))=true)
  (hnw:nw.all (fun n=>(lk g n).isNone&&decide (n<H'.next))=true)(hH:rZ st.H g nw H'.next H'.ef)(hfr:Seen st.H g nw st.fr fr')(hpo:AJ W0.p g nw H'.next=true)(hlp:H'.e8=st.H.e8)(hr:Rel W0 N (lk st.fr) st.H C a):Mem C (C.re g H')∧Rel W0 N (lk fr') H' (C.re g H') a:=by
 have hI:=hr.inv
 have hCH:=hr.heap
 have getS:∀{n:Nat} {es':List AV},(C.re g H').H.get n=some es'→∃s,lk H'.ef n=some (s,es'):=fun{n es'} h=>by
  simp only[Ctx.re,aX.get,Option.map_eq_some_iff] at h
  obtain⟨⟨s,e⟩,h1,rfl⟩:=h
  exact⟨s,h1⟩
 have nwS:∀{n:Nat},n∈nw→lk g n=none∧n<H'.next:=fun{n} h=>by
  have:=List.all_eq_true.1 hnw n h
  simpa using this
 have gS:∀{n old:Nat},lk g n=some old→n<H'.next:=fun{n old} h=>by
  have:=List.all_eq_true.1 hlt _ (o9 h)
  simpa using this
 have inj:∀{n m old:Nat},lk g n=some old→lk g m=some old→n=m:=fun{n m old} h1 h2=>by
  have:=List.all_eq_true.1 (List.all_eq_true.1 hinj _ (o9 h1)) _ (o9 h2)
  simpa using this
 have plS:∀{n old:Nat},lk g n=some old→(C.re g H').pl n=C.pl old:=fun{n old} h=>by simp[Ctx.re,h]
 have plN:∀{n:Nat},n∈nw→(C.re g H').pl n=⟨0,0,0,0,true⟩:=fun{n} h=>by simp[Ctx.re,(nwS h).1]
 -- an object of the new context
 have objS:∀{n:Nat} {es':List AV},(C.re g H').H.get n=some es'→((∃old es,lk g n=some old∧C.H.get old=some es∧(C.re g H').pl n=C.pl old∧Hf st.H g nw es es')∨(n∈nw∧es'=[]))∧n<H'.next:=fun{n es'} h=>by
  obtain⟨s,h1⟩:=getS h
  obtain⟨h2,h3⟩:=hH.spec h1
  refine⟨?_,h3⟩
  rcases h2 with⟨old,es,q1,q2,q3⟩|h2
  ·exact .inl ⟨old,es,q1,by rw[hCH];simp[aX.get,q2],plS q1,q3⟩
  ·exact .inr h2
 have ownS:∀{b:Nat},(C.re g H').cells b→∃n old es,lk g n=some old∧C.H.get old=some es∧(C.pl old).nil=false∧(C.pl old).gN=b:=fun{b} h=>by
  obtain⟨n,es',h1,h2,h3⟩:=h
  rcases(objS h1).1 with⟨old,es,q1,q2,q3,_⟩|⟨q,_⟩
  ·rw[q3] at h2 h3;exact⟨n,old,es,q1,q2,h2,h3⟩
  ·rw[plN q] at h2;cases h2
 have sp':∀b,(C.re g H').sp b→C.sp b:=fun b h=>h.imp (fun⟨r,h⟩=>⟨r,by rw[hCH,←hlp];exact h⟩) id
 have own':∀b,(C.re g H').own b→C.own b:=fun b h=>h.imp (fun h=>by
  obtain⟨n,old,es,_,q2,q3,q4⟩:=ownS h
  exact⟨old,es,q2,q3,q4⟩) (sp' b)
 have bad':∀b,(C.re g H').bad b→C.bad b:=fun b h=>h.imp (own' b) id
 have repS:∀{x x':AV},vn st.H g nw x x'→∀{v:Value},dO C x v→dO (C.re g H') x' v:=by
  intro x x' hs
  induction hs with
  |same x hn=>intro v h;exact h.move hn (Nat.le_refl _) (fun b _ hb=>⟨rfl,fun h=>hb (bad' b h)⟩)
  |any x=>intro v _;exact .any v
  |view hg=>
   intro v h
   match h with
   |.view _ _ _ _ h1 h2 h3=>
   refine .view _ _ _ _ (gS hg) (fun es' he=> ?_) h3
   rcases(objS he).1 with⟨o2,es,q1,q2,q3,_⟩|⟨q,_⟩
   ·rw[hg] at q1;cases q1
    rw[q3];exact h2 es q2
   ·rw[(nwS q).1] at hg;cases hg
  |viewL hg he=>
   intro v h
   subst he
   match h with
   |.view _ _ _ _ h1 h2 h3=>
   refine .view _ _ _ _ (gS hg) (fun es' he=> ?_) h3
   rcases(objS he).1 with⟨o2,es,q1,q2,q3,_⟩|⟨q,_⟩
   ·rw[hg] at q1;cases q1
    rw[q3];exact h2 es q2
   ·rw[(nwS q).1] at hg;cases hg
  |ref hg=>
   intro v h
   match h with
   |.ref _ _ _ _ h1 h2 h3=>
   refine .ref _ _ _ _ (gS hg) (fun es' he=> ?_) h3
   rcases(objS he).1 with⟨o2,es,q1,q2,q3,_⟩|⟨q,_⟩
   ·rw[hg] at q1;cases q1
    rw[q3];exact h2 es q2
   ·rw[(nwS q).1] at hg;cases hg
  |nil hn=>
   intro v h
   have:=gM (v:=.slice none 0 0) rfl h
   subst this
   refine .view _ _ _ _ (nwS hn).2 (fun es' _=> ?_) rfl
   rw[plN hn]
   exact⟨rfl,rfl,none,rfl⟩
  |lend hid hno hys hn=>
   intro v h
   rename_i id off len es ys
   subst hys
   refine IB hI h (by rw[hCH];exact hid) hn rfl bad' (fun hnil hb=> ?_)
   obtain⟨_,_,hbk,_⟩:=(hI.obj id es (by rw[hCH];exact hid) hnil).gN
   rcases hb with(hb|hb)|hb
   rotate_left
   ·exact hI.Dc (sp' _ hb) hbk
   rotate_left
   ·obtain⟨n,old,Us,q1,q2,q3,q4⟩:=ownS hb
    have:=hI.sep old id Us es q2 (by rw[hCH];exact hid) q3 hnil q4
    exact hno _ (o9 q1) this
   ·exact hI.dm id es (by rw[hCH];exact hid) hnil hb
  |agg cs cs' hl _ ih=>
   intro v h
   match h with
   |.agg _ vs h1 h2 h3=>
   refine .agg cs' vs (h1.trans hl) h2 (fun k x' hx'=> ?_)
   have hk:k<cs.length:=by rw[hl];exact(List.getElem?_eq_some_iff.1 hx').1
   exact ih k cs[k] x' (List.getElem?_eq_getElem hk) hx' (h3 k _ (List.getElem?_eq_getElem hk))
  |tuple cs cs' hl _ ih=>
   intro v h
   match h with
   |.tuple _ vs h1 h3=>
   refine .tuple cs' vs (h1.trans hl) (fun k x' hx'=> ?_)
   have hk:k<cs.length:=by rw[hl];exact(List.getElem?_eq_some_iff.1 hx').1
   exact ih k cs[k] x' (List.getElem?_eq_getElem hk) hx' (h3 k _ (List.getElem?_eq_getElem hk))
  |bX fn cs cs' hl _ ih=>
   intro v h
   match h with
   |.bX _ _ vs h1 h3=>
   refine .bX fn cs' vs (h1.trans hl) (fun k x' hx'=> ?_)
   have hk:k<cs.length:=by rw[hl];exact(List.getElem?_eq_some_iff.1 hx').1
   exact ih k cs[k] x' (List.getElem?_eq_getElem hk) hx' (h3 k _ (List.getElem?_eq_getElem hk))
  |ifc t x x' _ ih=>
   intro v h
   match h with
   |.ifc _ _ v h1=>exact .ifc t x' v (ih h1)
  |wide es hn=>
   intro v h
   have h2:dO (C.re g H') (.clip es) v:=h.move (by simpa using hn) (Nat.le_refl _) (fun b _ hb=>⟨rfl,fun h=>hb (bad' b h)⟩)
   match h2 with
   |.clipNil a=>exact .slNil a 0
   |.clip _ b off sz c h1 h2 h3 h4 h5=>exact .sl es b off sz es.length c h1 h2 (Nat.le_refl _) h3 h4 h5
  |nilsl=>
   intro v h
   have:=gM (v:=.slice none 0 0) rfl h
   subst this
   exact .slNil _ _
  |frz hid hno hes hfl hn=>
   intro v h
   rename_i id i j es fl e
   subst hfl
   match h with
   |.ref _ _ _ _ h1 h2 h3=>
   have hid':C.H.get id=some es:=by rw[hCH];exact hid
   obtain⟨hnil,rfl⟩:=h2 es hid'
   have hch:∀k,∃u:Value,∀x,e.flat[k]? =some x→Holds C.w (C.pl id).gN (i*(C.pl id).sz+k) u∧dO C x u:=fun k=>by
    cases hx:e.flat[k]? with
    |none=>exact⟨undef,fun x h=>by cases h⟩
    |some x=>
     obtain⟨u,h7,h8⟩:=A8 hI hid' hnil hes hx
     exact⟨u,fun x' h=>by cases h;exact⟨h7,h8⟩⟩
   have hfree:¬(C.re g H').bad (C.pl id).gN:=by
    obtain⟨_,_,hbk,_⟩:=(hI.obj id es hid' hnil).gN
    rintro((hb|hb)|hb)
    rotate_left
    ·exact hI.Dc (sp' _ hb) hbk
    rotate_left
    ·obtain⟨n,old,Us,q1,q2,q3,q4⟩:=ownS hb
     have:=hI.sep old id Us es q2 hid' q3 hnil q4
     exact hno _ (o9 q1) this
    ·exact hI.dm id es hid' hnil hb
   refine .pp e.flat j (C.pl id).gN (i*(C.pl id).sz) (fun k=>Classical.choose (hch k)) (hI.lt hid' hnil) hfree (fun k x hx=>(Classical.choose_spec (hch k) x hx).1) (fun k x hx=> ?_)
   exact(Classical.choose_spec (hch k) x hx).2.move (hn x (List.mem_of_getElem? hx)) (Nat.le_refl _) (fun b _ hb=>⟨rfl,fun h=>hb (bad' b h)⟩)
 obtain⟨hp1,hp2⟩:=AJ.spec hpo
 have hM:Mem C (C.re g H'):=⟨.refl _ _,fun _ _ _=>rfl,fun b _ h=>own' b h,rfl,rfl,fun _=>⟨by show C.tn≤H'.next;rw[hI.pP];exact hp1,fun k es' hk hg=>by
  rw[hI.pP] at hk
  obtain⟨h1,h2⟩:=hp2 k hk
  rcases(objS hg).1 with⟨old,es,q1,q2,q3,_⟩|⟨q,_⟩
  ·rcases h1 with h1|h1
   ·rw[h1] at q1;cases q1;exact⟨⟨es,q2⟩,q3⟩
   ·rw[h1] at q1;cases q1
  ·exact absurd q h2⟩⟩
 refine⟨hM,rfl, ?_,hr.size,hr.defers,fun t x' hx'=> ?_⟩
 ·exact{
   fresh:=fun n es' h=>(objS h).2
   nil:=fun n es' h hn=>by
    rcases(objS h).1 with⟨old,es,q1,q2,q3,q4⟩|⟨q,h⟩
    ·rw[q3] at hn
     have:=hI.nil old es q2 hn
     subst this
     exact List.eq_nil_of_length_eq_zero q4.len.symm
    ·exact h
   obj:=fun n es' h hn=>by
    rcases(objS h).1 with⟨old,es,q1,q2,q3,q4⟩|⟨q,h⟩
    ·rw[q3] at hn ⊢
     have hO:=hI.obj old es q2 hn
     have back:∀{i:Nat} {e':AV},es'[i]? =some e'→∃e,es[i]? =some e∧vn st.H g nw e e'∧e.flat.length=e'.flat.length:=fun{i e'} hi=>by
      have hk:i<es.length:=by rw[q4.len];exact(List.getElem?_eq_some_iff.1 hi).1
      exact⟨es[i],List.getElem?_eq_getElem hk,q4.see i _ e' (List.getElem?_eq_getElem hk) hi⟩
     refine⟨hO.n.trans q4.len,hO.cap,hO.gN,hO.one,fun i e' he'=> ?_,fun i j e' x' v he' hx' hv=> ?_⟩
     ·obtain⟨e,h1,_,h3⟩:=back he'
      rw[←h3];exact hO.flat i e h1
     ·obtain⟨e,h1,h2,h3⟩:=back he'
      have hj:j<e.flat.length:=by rw[h3];exact(List.getElem?_eq_some_iff.1 hx').1
      exact repS (h2.flat h3 (List.getElem?_eq_getElem hj) hx') (hO.cell i j e _ v h1 (List.getElem?_eq_getElem hj) hv)
    ·rw[plN q] at hn;cases hn
   sep:=fun n m en em h1 h2 hn hm hb=>by
    rcases(objS h1).1 with⟨o1,e1,p1,p2,p3,_⟩|⟨q,_⟩
    ·rcases(objS h2).1 with⟨o2,e2,r1,r2,r3,_⟩|⟨q,_⟩
     ·rw[p3] at hn hb;rw[r3] at hm hb
      have:=hI.sep o1 o2 e1 e2 p2 r2 hn hm hb
      subst this
      exact inj p1 r1
     ·rw[plN q] at hm;cases hm
    ·rw[plN q] at hn;cases hn
   dm:=fun n es' h hn=>by
    rcases(objS h).1 with⟨old,es,q1,q2,q3,_⟩|⟨q,_⟩
    ·rw[q3] at hn ⊢;exact hI.dm old es q2 hn
    ·rw[plN q] at hn;cases hn
   oM:=fun n s h hn=>by
    simp only[Ctx.re,aX.sz,Option.map_eq_some_iff] at h
    obtain⟨⟨s',es'⟩,h1,rfl⟩:=h
    rcases(hH.spec h1).1 with⟨old,es,q1,q2,_⟩|⟨q,_⟩
    ·rw[plS q1] at hn ⊢
     exact hI.oM old s' (by rw[hCH];simp[aX.sz,q2]) hn
    ·rw[plN q] at hn;cases hn
   eE:=hI.eE
   eZ:=hI.eZ
   size:=hI.size
   iK:=fun b h=>⟨(hI.iK b h).1,fun ho=>(hI.iK b h).2 (own' b ho)⟩
   e8:=fun l r h=>hI.e8 l r (by rw[hCH,←hlp];exact h)
   mI:=hI.mI
   y7:=hI.y7
   zM:=hI.zM
   fD:=fun b h=>hI.fD b (sp' b h)
   pP:=hI.pP
   fZ:=by show C.tn≤H'.next;rw[hI.pP];exact hp1
   gh:=W0.st C _ hM hI.fZ hI.gh}
 ·obtain⟨x,h1,h2⟩:=hfr.spec hx'
  exact repS h2 (hr.rep t x h1)

theorem an.re{st:St}{fr':List (Nat×AV)}{H':aX}(g:List (Nat×Nat))(nw:List Nat)(hinj:g.all (fun p=>g.all (fun q=>p.2 !=q.2||p.1==q.1))=true)(hlt:g.all (fun p=>decide (p.1<H'.next))=true)
  (hnw:nw.all (fun n=>(lk g n).isNone&&decide (n<H'.next))=true)(hH:rZ st.H g nw H'.next H'.ef)(hfr:Seen st.H g nw st.fr fr')(hpo:AJ W0.p g nw H'.next=true:=by rfl)(hlp:H'.e8=st.H.e8:=by rfl):an W0 N st ⟨fr',H'⟩:=fun C a hr=>
 let h:=JU g nw hinj hlt hnw hH hfr hpo hlp hr
 ⟨C.re g H',rfl,h.1,h.2⟩
end
end Go.Av
end

section
/- More rules for numbers. -/
namespace Go.Av
section
variable {P:Program} {W0:dU} {fr:Fr} {H:aX} {o:Oper}

theorem El(a b:BitVec 64):((a.toNat:Int)=(b.toNat:Int))↔a=b:=
 ⟨fun h=>BitVec.eq_of_toNat_eq (by omega),fun h=>by rw[h]⟩

theorem Ds{t t':TypeId}{x y:Operand}{a b:BitVec 64}(ho:o.op=.binOp .eql t x y t')(hx:bA fr x=some (u64 a))(hy:bA fr y=some (u64 b)):gD P W0 o fr H (bl (decide (a=b))) H:=
 (bY ho hx hy).conv (by congr 2;exact propext (El a b))
theorem HW{t t':TypeId}{x y:Operand}{a b:BitVec 64}(ho:o.op=.binOp .neq t x y t')(hx:bA fr x=some (u64 a))(hy:bA fr y=some (u64 b)):gD P W0 o fr H (bl (decide (a≠b))) H:=
 (fA ho hx hy).conv (by congr 2;exact propext (not_congr (El a b)))

theorem OB{t:TypeId}{x:Operand}{a:BitVec 64}(ho:o.op=.unOp .neg t x)(hx:bA fr x=some (u64 a)):gD P W0 o fr H (u64 (-a)) H:=
 Qp ho hx rfl (by
  show Va P (Pure.pure _)=_
  have e:IntKind.u64.wrap (0 - (a.toNat:Int))=((-a).toNat:Int):=by
   rw[IN]
   congr 2
   apply BitVec.eq_of_toNat_eq
   have:=a.isLt
   rw[BitVec.toNat_ofInt,BitVec.toNat_neg];omega
  rw[e];rfl)

theorem OC{t t':TypeId}{x y:Operand}{a b:BitVec 64}(ho:o.op=.binOp .quo t x y t')(hx:bA fr x=some (u64 a))(hy:bA fr y=some (u64 b))(h0:b≠0#64):gD P W0 o fr H (u64 (a / b)) H:=
 Ug ho hx hy (fun h=>h0 (BitVec.eq_of_toNat_eq (by simpa using h))) (by
  have e:(a.toNat:Int).tdiv b.toNat=((a / b).toNat:Int):=by
   rw[BitVec.toNat_udiv];rfl
  rw[e,Df])
theorem OD{t t':TypeId}{x y:Operand}{a b:BitVec 64}(ho:o.op=.binOp .rem t x y t')(hx:bA fr x=some (u64 a))(hy:bA fr y=some (u64 b))(h0:b≠0#64):gD P W0 o fr H (u64 (a % b)) H:=
 IW ho hx hy (fun h=>h0 (BitVec.eq_of_toNat_eq (by simpa using h))) (by rw[BitVec.toNat_umod];rfl)

theorem rZ.one{H:aX}{g:List (Nat×Nat)}{nw:List Nat}{next n old s:Nat}{es:List AV}(h1:lk g n=some old)(h2:lk H.ef old=some (s,es))(h3:∀e∈es,dn e)(h4:n<next):rZ H g nw next [(n,(s,es))]:=
 ⟨.inl ⟨old,es,h1,h2,.same h3⟩,h4,trivial⟩
theorem rZ.new{H:aX}{g:List (Nat×Nat)}{nw:List Nat}{next n s:Nat}(h1:n∈nw)(h4:n<next):rZ H g nw next [(n,(s,[]))]:=
 ⟨.inr ⟨h1,rfl⟩,h4,trivial⟩

end
section
variable {P:Program} {W0:dU} {N:Nat} {Q:Exit→St→Prop} {fr:List (Nat×AV)} {H:aX}
theorem aR{id:Nat}{l:List Oper}(hN:l.all (s4 N)=true)(h:AR P W0 l.toArray l fr H (fun f g=>Q .normal ⟨f,g⟩)):aZ P W0 N (.region id l.toArray false) ⟨fr,H⟩ Q:=Mz hN h
theorem an.kp{fr':List (Nat×AV)}(h:vl fr fr'):an W0 N ⟨fr,H⟩ ⟨fr',H⟩:=.keep h
theorem an.kt(ts:List Nat){fr':List (Nat×AV)}(h:pick fr ts=some fr'):an W0 N ⟨fr,H⟩ ⟨fr',H⟩:=.keep (vN h)
end
end Go.Av
namespace Go.Av
abbrev akT(l:List Nat):List AV:=l.map fun(k:Nat)=>i64 (k:Int)
abbrev ints(l:List Nat):AV:=.sl (akT l)
def AV.wide:AV→AV
 |.clip es=>.sl es
 |x=>x

@[simp] theorem ain(k:IntKind)(n:Int):AV.Is (.int k n)=.imm (.int k n):=rfl
@[simp] theorem ahr(b:Bool):AV.Is (.bool b)=.imm (.bool b):=rfl
@[simp] theorem aaW(es:List AV):(AV.clip es).wide=.sl es:=rfl
@[simp] theorem aiE(es:List AV):(AV.sl es).wide=.sl es:=rfl
@[simp] theorem ah1(v:Value):(AV.imm v).wide=.imm v:=rfl
end Go.Av
end

section
/- Literals of structs. -/
namespace Go.Av

def Kb(P:Program)(t:TypeId):Option (List (Nat×Nat)×List Value):=
 match P.underlying t,wP P t with
 |some (.struct fs),some z=>(fs.toList.mapM fun f=>(P.info? f.type).map fun i=>(f.offset,i.size)).map fun pl=>(pl,z.cells.toList)
 |_,_=>none

def KE(pl:List (Nat×Nat)):List AV→List (Nat×AV)→Option (List AV)
 |cells,[]=>some cells
 |cells,(i,x)::rest=>match pl[i]? with
  |some (off,size)=>if x.flat.length=size∧off+size≤cells.length∧x.dw=true then KE pl (cells.take off++x.flat++cells.drop (off+x.flat.length)) rest else none
  |none=>none

section
variable {P:Program} {W0:dU} {C:Ctx} {fr:Fr} {a:Act} {H:aX} {o:Oper}

structure Cx (C:Ctx) (cs:List AV) (vs:Array Value):Prop where
 size:vs.size=cs.length
 one:∀(k:Nat) (v:Value),vs[k]? =some v→v.oneCell'=true
 rep:∀(k:Nat) (x:AV),cs[k]? =some x→∃v,vs[k]? =some v∧dO C x v

theorem KF(pl:List (Nat×Nat)):∀(ps:List (Nat×AV)) (vs:List (Nat×Value)) (cs:List AV) (cells:Array Value) (r:List AV),Cx C cs cells→ps.length=vs.length→
  (∀(k i j:Nat) (x:AV) (v:Value),ps[k]? =some (i,x)→vs[k]? =some (j,v)→i=j∧dO C x v)→KE pl cs ps=some r→∃cells',Instr.fill (pl[·]?) cells vs=some cells'∧Cx C r cells'
 |[],[],cs,cells,r,hc,_,_,h=>by
  simp only[KE,Option.some.injEq] at h
  subst h
  exact⟨cells,rfl,hc⟩
 |[],_::_,_,_,_,_,hl,_,_=>by cases hl
 |_::_,[],_,_,_,_,hl,_,_=>by cases hl
 |(i,x)::ps,(j,v)::vs,cs,cells,r,hc,hl,hp,h=>by
  obtain⟨rfl,hx⟩:=hp 0 i j x v rfl rfl
  simp only[KE] at h
  cases hpl:pl[i]? with
  |none=>simp[hpl] at h
  |some q=>
   obtain⟨off,size⟩:=q
   simp only[hpl] at h
   split at h
   ·rename_i hq
    obtain⟨h1,h2,h3⟩:=hq
    obtain⟨c1,c2,c3⟩:=qf hx h3
    have hl':v.cells.toList.length=x.flat.length:=by simpa using c1
    obtain⟨g1,g2⟩:=Ih v.cells.toList off 0 cells
    have hg:v.cells.zipIdx.foldl (fun cs (p:Value×Nat)=>cs.setIfInBounds (off+p.2) p.1) cells=(v.cells.toList.zipIdx 0).foldl (fun cs (p:Value×Nat)=>cs.setIfInBounds (off+p.2) p.1) cells:=by
     rw[←Array.foldl_toList];simp
    have hsz:cells.size=cs.length:=hc.size
    have g3:=fun q=>g2 q (by rw[hl',hsz];omega)
    have hc':Cx C (cs.take off++x.flat++cs.drop (off+x.flat.length)) ((v.cells.toList.zipIdx 0).foldl (fun cs (p:Value×Nat)=>cs.setIfInBounds (off+p.2) p.1) cells):=by
     refine⟨by rw[g1,hsz];simp;omega,fun k u hk=> ?_,fun k y hk=> ?_⟩
     ·rw[g3 k] at hk
      split at hk
      ·rw[Array.getElem?_toList] at hk;exact c2 _ u hk
      ·exact hc.one k u hk
     ·rw[tS cs x.flat off (by omega) k] at hk
      by_cases k1:k<off
      ·rw[if_pos k1] at hk
       rw[g3 k,if_neg (by omega)]
       exact hc.rep k y hk
      ·rw[if_neg k1] at hk
       by_cases k2:k<off+x.flat.length
       ·rw[if_pos k2] at hk
        rw[g3 k,if_pos (by rw[hl'];omega),Array.getElem?_toList]
        exact c3 _ y hk
       ·rw[if_neg k2] at hk
        rw[g3 k,if_neg (by rw[hl'];omega)]
        exact hc.rep k y hk
    obtain⟨cells',e1,e2⟩:=KF pl ps vs _ _ r hc' (by simpa using hl) (fun k i' j' x' v' a1 a2=>hp (k+1) i' j' x' v' a1 a2) h
    refine⟨cells', ?_,e2⟩
    simp only[Instr.fill,hpl]
    rw[if_neg (by simp only[c1,h1,ne_eq,not_true_eq_false,false_or,Bool.or_eq_true,decide_eq_true_eq];rw[hsz];simp;omega)]
    first
     |(rw[hg];exact e1)
     |(simp only[] at*;rw[←hg] at e1;exact e1)
   ·cases h

theorem Iq{α:Type}(f:α→Nat)(ty:α→TypeId)(w:World):∀(l:List α) (pl:List (Nat×Nat)),(l.mapM fun x=>(P.info? (ty x)).map fun i=>(f x,i.size))=some pl→
  (l.mapM fun x=>(do pure (f x,←sizeOf (ty x)):Sem (Nat×Nat))).run P w=.ok pl w
 |[],pl,h=>by
  simp at h;subst h;rfl
 |x::l,pl,h=>by
  rw[List.mapM_cons] at h
  simp only[Option.bind_eq_bind,Option.bind_eq_some_iff,Option.pure_def,Option.some.injEq] at h
  obtain⟨q,h1,rest,h2,rfl⟩:=h
  simp only[Option.map_eq_some_iff] at h1
  obtain⟨i,h3,rfl⟩:=h1
  have ih:=Iq f ty w l rest h2
  rw[List.mapM_cons,Sem.run_bind]
  have e:(do pure (f x,←sizeOf (ty x)):Sem (Nat×Nat)).run P w=.ok (f x,i.size) w:=by
   simp[sizeOf,typeInfo,h3]
  rw[e]
  simp only[Result.andThen_ok]
  rw[Sem.run_bind,ih]
  rfl

theorem bS{t:TypeId}{parts:Array (Nat×Operand)}{pl:List (Nat×Nat)}{zs:List Value}{xs:List (Nat×AV)}{r:List AV}(ho:o.op=.build t parts)(ht:Kb P t=some (pl,zs))(hz:zs.all (·.oneCell')=true)
  (hxs:(parts.toList.mapM fun p=>(bA fr p.2).map fun x=>(p.1,x))=some xs)(hr:KE pl (zs.map .imm) xs=some r):gD P W0 o fr H (.agg r) H:=
 .iA fun C a _ _ hop=>by
  unfold Kb at ht
  split at ht
  ·rename_i fs z hu hzr
   simp only[Option.map_eq_some_iff,Prod.mk.injEq] at ht
   obtain⟨pl',h1,rfl,rfl⟩:=ht
   have hz0:(zeroValue t).run P C.w=.ok z C.w:=by
    unfold wP at hzr
    cases hi:P.info? t with
    |none=>simp[hi] at hzr
    |some i=>
     simp only[hi,Option.bind_some] at hzr
     simp[zeroValue,typeInfo,hi,hzr]
   have key:∀(l:List (Nat×Operand)) (xs:List (Nat×AV)),(∀p∈l,vm C fr a p.2)→(l.mapM fun p=>(bA fr p.2).map fun x=>(p.1,x))=some xs→
     xs.length=l.length∧∀(k i j:Nat) (x:AV) (v:Value),xs[k]? =some (i,x)→(l.map fun p=>(p.1,a.eval p.2))[k]? =some (j,v)→i=j∧dO C x v:=by
    intro l
    induction l with
    |nil=>intro xs _ h;simp at h;subst h;exact⟨rfl,fun k i j x v h=>by simp at h⟩
    |cons p l ih=>
     intro xs hp h
     rw[List.mapM_cons] at h
     simp only[Option.bind_eq_bind,Option.bind_eq_some_iff,Option.pure_def,Option.some.injEq] at h
     obtain⟨q,e1,rest,e2,rfl⟩:=h
     simp only[Option.map_eq_some_iff] at e1
     obtain⟨y,e3,rfl⟩:=e1
     obtain⟨i1,i2⟩:=ih rest (fun q hq=>hp q (List.mem_cons_of_mem _ hq)) e2
     refine⟨by simp[i1],fun k i j x v a1 a2=> ?_⟩
     cases k with
     |zero=>
      simp at a1 a2
      obtain⟨rfl,rfl⟩:=a1
      obtain⟨rfl,rfl⟩:=a2
      exact⟨rfl,b6 (hp p (List.mem_cons_self ..)) e3⟩
     |succ k=>simp at a1;exact i2 k i j x v a1 (by simpa using a2)
   obtain⟨l1,l2⟩:=key parts.toList xs (fun p hp=>hop p.2 (by rw[ho];show p.2∈(List.map (fun x=>x.2) parts.toList).toArray;simp only[List.mem_toArray,List.mem_map];exact⟨p,hp,rfl⟩)) hxs
   have hzc:Cx C (z.cells.toList.map .imm) z.cells:=by
    have hone:∀(k:Nat) (v:Value),z.cells[k]? =some v→v.oneCell'=true:=fun k v hk=>by
     rw[List.all_eq_true] at hz
     exact hz v (by simpa using Array.mem_of_getElem? hk)
    refine⟨by simp,hone,fun k x hk=> ?_⟩
    simp only[List.getElem?_map,Option.map_eq_some_iff,Array.getElem?_toList] at hk
    obtain⟨v,h3,rfl⟩:=hk
    exact⟨v,h3,.imm v (hone k v h3)⟩
   obtain⟨cells',f1,f2⟩:=KF pl' xs (parts.toList.map fun p=>(p.1,a.eval p.2)) _ _ r hzc (by simp[l1]) l2 hr
   refine⟨.agg cells', ?_,.agg r cells' f2.size f2.one (fun k x hk=> ?_)⟩
   ·have hp:(fs.mapM fun f=>(do pure (f.offset,←sizeOf f.type):Sem (Nat×Nat))).run P C.w=.ok pl'.toArray C.w:=by
     have:=Iq (P:=P) (fun f:Field=>f.offset) (fun f=>f.type) C.w fs.toList pl' h1
     have e:fs=fs.toList.toArray:=by simp
     rw[e,List.mapM_toArray,Sem.run_map,this]
     rfl
    have hm:(parts.map fun(i,x)=>(i,a.eval x)).toList=parts.toList.map fun p=>(p.1,a.eval p.2):=by simp
    have hrun:(Instr.build t (parts.map fun(i,x)=>(i,a.eval x))).run P C.w=.ok (.agg cells') C.w:=by
     unfold Instr.build
     rw[Sem.run_bind,hz0]
     simp only[Result.andThen_ok]
     rw[Sem.run_bind,run_underlying hu]
     simp only[Result.andThen_ok]
     rw[Sem.run_bind,hp]
     simp only[Result.andThen_ok,hm,List.getElem?_toArray,f1]
     rfl
    simp only[execOp,ho]
    rw[Sem.run_bind,hrun]
    rfl
   ·obtain⟨v,e1,e2⟩:=f2.rep k x hk
    have hlt:=(Array.getElem?_eq_some_iff.1 e1).1
    have:=pM hlt
    rw[e1] at this
    rw[←Option.some.inj this];exact e2
  ·cases ht
end
end Go.Av
end

section
/- What a walk computes: partial functions over plain data, with loops that run by a budget. -/
namespace Go.Sh

def iter{σ α:Type}(b:σ→Option (σ⊕α)):Nat→σ→Option α
 |0,_=>none
 |n+1,s=>match b s with
  |none=>none
  |some (.inl s')=>iter b n s'
  |some (.inr r)=>some r

def x6:Nat:=9223372036854775808

def loop{σ α:Type}(b:σ→Option (σ⊕α))(s:σ):Option α:=iter b x6 s

def idx{α:Type}(l:List α)(i:Int):Option α:=if 0≤i then l[i.toNat]? else none
def app{α:Type}(by':Nat)(l m:List α):Option (List α):=if(l.length+m.length)*by'≤140737488355328 then some (l++m) else none
def mk{α:Type}(by':Nat)(n c:Int)(z:α):Option (List α):=if 0≤n∧n≤c∧by'*c≤140737488355328∧c≤4611686018427387904 then some (List.replicate n.toNat z) else none
def sub{α:Type}(l:List α)(lo hi:Int):Option (List α):=if 0≤lo∧lo≤hi∧hi≤l.length then some ((l.drop lo.toNat).take (hi.toNat - lo.toNat)) else none
abbrev len{α:Type}(l:List α):Int:=(l.length:Int)
def XH{α:Type}(l m:List α):Option (List α):=if m.length=l.length then some m else none
def set{α:Type}(l:List α)(i:Int)(x:α):List α:=l.set i.toNat x
@[simp] theorem aiC{α:Type}(l:List α)(i:Int)(x:α):(set l i x).length=l.length:=by simp[set]
def quo(w:Int→Int)(m n:Int):Option Int:=if n≠0 then some (w (m.tdiv n)) else none
def rem(m n:Int):Option Int:=if n≠0 then some (m.tmod n) else none
def udiv(m n:BitVec 64):Option (BitVec 64):=if n≠0#64 then some (m / n) else none
def umod(m n:BitVec 64):Option (BitVec 64):=if n≠0#64 then some (m % n) else none
def shl(a:BitVec 64)(n:Int):Option (BitVec 64):=if 0≤n then some (a<<<n.toNat) else none
def shr(a:BitVec 64)(n:Int):Option (BitVec 64):=if 0≤n then some (a>>>n.toNat) else none
def min(a b:Int):Int:=if b<a then b else a
def max(a b:Int):Int:=if b>a then b else a
theorem aU{α:Type}{b:Bool}{x y o:α}(h:(if b then x else y)=o)(hb:b=true):x=o:=by subst hb;exact h
theorem aT{α:Type}{b:Bool}{x y o:α}(h:(if b then x else y)=o)(hb:b=false):y=o:=by subst hb;exact h
theorem aj{α β:Type}{x:Option α}{f:α→Option β}{o:β}(h:x.bind f=some o):∃a,x=some a∧f a=some o:=Option.bind_eq_some_iff.1 h
def Y7{α β:Type}(x:α)(f:α→β):β:=f x
theorem O1{α β:Type}{x:α}{f:α→β}{o:β}(h:Y7 x f=o):∃v,x=v∧f v=o:=⟨x,rfl,h⟩
def exit{σ α:Type}(x:Option α):Option (σ⊕α):=x.map .inr
def next{σ α:Type}(s:σ):Option (σ⊕α):=some (.inl s)

theorem aV{σ α:Type}{x:Option α}{o:σ⊕α}{r:α}(h:exit (σ:=σ) x=some o)(hr:∀y,o=.inr y→y=r):x=some r:=by
 cases x with
 |none=>cases h
 |some y=>
  simp only[exit,Option.map_some,Option.some.injEq] at h
  rw[hr y h.symm]
theorem bF{σ α:Type}{s:σ}{o:σ⊕α}(h:next (α:=α) s=some o):o=.inl s:=by
 simp only[next,Option.some.injEq] at h;exact h.symm

theorem aO{α:Type}{l:List α}{i:Int}{x:α}(h:idx l i=some x):∃k:Nat,i=k∧l[k]? =some x:=by
 unfold idx at h
 split at h
 ·rename_i h0;exact⟨i.toNat,by omega,h⟩
 ·cases h
theorem Kl{α:Type}{by':Nat}{l m r:List α}(h:app by' l m=some r):(l.length+m.length)*by'≤140737488355328∧r=l++m:=by
 unfold app at h
 split at h
 ·rename_i h0;cases h;exact⟨h0,rfl⟩
 ·cases h
theorem N8{α:Type}{by':Nat}{n c:Int}{z:α}{r:List α}(h:mk by' n c z=some r):∃m k:Nat,n=m∧c=k∧m≤k∧by'*k≤140737488355328∧k≤4611686018427387904∧r=List.replicate m z:=by
 unfold mk at h
 split at h
 ·rename_i h0
  cases h
  obtain⟨h1,h2,h3,h4⟩:=h0
  refine⟨n.toNat,c.toNat,by omega,by omega,by omega, ?_,by omega,rfl⟩
  have:((by'*c.toNat:Nat):Int)=by'*c:=by rw[Int.natCast_mul];congr 1;omega
  omega
 ·cases h
theorem TH{α:Type}{l r:List α}{lo hi:Int}(h:sub l lo hi=some r):∃m k:Nat,lo=m∧hi=k∧m≤k∧k≤l.length∧r=(l.drop m).take (k - m):=by
 unfold sub at h
 split at h
 ·rename_i h0;cases h;exact⟨lo.toNat,hi.toNat,by omega,by omega,by omega,by omega,rfl⟩
 ·cases h

theorem Kv{α:Type}{l m r:List α}(h:XH l m=some r):m.length=l.length∧r=m:=by
 unfold XH at h
 split at h
 ·rename_i h0;cases h;exact⟨h0,rfl⟩
 ·cases h
theorem Uq{α:Type}{l m r:List α}(h:XH l m=some r):r.length=l.length:=by obtain⟨h1,rfl⟩:=Kv h;exact h1
theorem XP{α:Type}{l:List α}{k:Nat}{x:α}(h:l[k]? =some x):k<l.length:=(List.getElem?_eq_some_iff.1 h).1
theorem C6{m n r:Int}(h:rem m n=some r):n≠0∧m.tmod n=r:=by
 unfold rem at h
 split at h
 ·rename_i h0;cases h;exact⟨h0,rfl⟩
 ·cases h
theorem PF{m n r:BitVec 64}(h:udiv m n=some r):n≠0#64∧r=m / n:=by
 unfold udiv at h
 split at h
 ·rename_i h0;cases h;exact⟨h0,rfl⟩
 ·cases h
theorem PG{m n r:BitVec 64}(h:umod m n=some r):n≠0#64∧r=m % n:=by
 unfold umod at h
 split at h
 ·rename_i h0;cases h;exact⟨h0,rfl⟩
 ·cases h
theorem TE{a r:BitVec 64}{n:Int}(h:shl a n=some r):0≤n∧r=a<<<n.toNat:=by
 unfold shl at h
 split at h
 ·rename_i h0;cases h;exact⟨h0,rfl⟩
 ·cases h
theorem TF{a r:BitVec 64}{n:Int}(h:shr a n=some r):0≤n∧r=a>>>n.toNat:=by
 unfold shr at h
 split at h
 ·rename_i h0;cases h;exact⟨h0,rfl⟩
 ·cases h

variable {σ α:Type} {b:σ→Option (σ⊕α)}

theorem N3(S:Nat→σ)(m:Nat)(h:∀k,k<m→b (S k)=some (.inl (S (k+1))))(n:Nat):iter b (m+n) (S 0)=iter b n (S m):=by
 induction m generalizing n with
 |zero=>simp
 |succ m ih=>
  rw[show m+1+n=m+(n+1) by omega,ih (fun k hk=>h k (by omega)) (n+1)]
  simp only[iter,h m (by omega)]

theorem Gz(S:Nat→σ)(m:Nat)(r:α)(hm:m<x6)(h:∀k,k<m→b (S k)=some (.inl (S (k+1))))(hr:b (S m)=some (.inr r)):loop b (S 0)=some r:=by
 unfold loop
 rw[show x6=m+((x6 - m - 1)+1) by omega,N3 S m h]
 simp only[iter,hr]

end Go.Sh
end
