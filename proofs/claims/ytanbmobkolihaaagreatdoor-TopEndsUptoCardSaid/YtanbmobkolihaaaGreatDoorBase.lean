/- What a proof sees of a run, and the rules by which it goes through a text. -/
import Derived.Calls
import Derived.Laws.Sem
import Derived.Below
import Derived.Laws.Tables
import Derived.TacticsIn
import Derived.Laws.Cells
import Derived.Laws.CopyRow
import Derived.Laws.Append
import Derived.Laws.MakeOwn
import Derived.Laws.Slices
import Derived.Laws.OwnMore
import Derived.StillTail
import Derived.IntWalk
import Derived.Laws.StructEq
open List renaming append_nil→abR,eq_nil_of_length_eq_zero→abS,flatMap_cons→abT,getElem?_append_left→abU,getElem?_append_right→abV,getElem?_eq_getElem→ab9,getElem?_map→ab_,getElem?_of_mem→ack,getElem?_set_ne→acq,getElem?_take→acz,getElem?_toArray→acB,getElem_mem→acI,length_cons→acN,length_nil→acR,mapM_cons→acT,mapM_toArray→acW,map_cons→ac7,map_map→adQ,mem_cons_of_mem→adU,mem_cons_self→ad2,mem_of_getElem?→ad7,mem_singleton→aeq,range→aeD,replicate→aeR,take_append_drop→aeW,zipIdx_cons→aeX
open Option renaming bind_eq_bind→aeY,bind_eq_some_iff→ae1,map_eq_some_iff→ae5,pure_def→afd
open Nat renaming add_assoc→afe,add_mul→aff,add_zero→afg,le_refl→afk,le_trans→afp,lt_irrefl→afr,lt_of_lt_of_le→afs,lt_or_ge→aft,lt_succ_self→afv,mod_lt→afw,mul_le_mul_right→afN,one_mul→afO,sub_mul→afP,zero_add→afQ,zero_le→afR
open Bool renaming false_and→afS,false_eq_true→afT
open Array renaming foldl_toList→af2,getElem?_of_mem→af5,range→af9,toArray_toList→agI
set_option linter.unusedSimpArgs false
set_option linter.unusedVariables false
section
namespace Go.Av
inductive AV where
 |imm (v:Value)
 |sl (es:List AV)
 |clip (es:List AV)
 |view (id off len:Nat)
 |ref (id i j:Nat)
 |pp (fl:List AV) (j:Nat)
 |agg (cs:List AV)
 |tuple (vs:List AV)
 |ifc (t:TypeId) (x:AV)
 |fH (fn:Fn) (caps:List AV)
 |mref (id:Nat)
 |fL (l:List (Value×Value))
 |any
 deriving Inhabited

def AV.flat:AV→List AV
 |.agg cs=>cs
 |.fL _=>[]
 |x=>[x]

def AV.mp:AV→Option (List (Value×Value))
 |.fL l=>some l
 |_=>none
variable {x:AV}
theorem AV.adm{l:List (Value×Value)}(h:x.mp=some l):x=.fL l:=by
 cases x <;> simp only[AV.mp] at h <;> try cases h
 rfl

structure Place where
 de:Nat
 sz:Nat
 n:Nat
 cap:Nat
 nil:Bool

def Place.ref(p:Place):Value:=if p.cap=1 then .map (some p.de) else .chan (some p.de)

structure Heap where
 next:Nat
 bV:List (Nat×(Nat×List AV))
 ec:List (Nat×Loop)

variable {α:Type}
def lk:List (Nat×α)→Nat→Option α
 |[],_=>none
 |(t,v)::l,s=>if t=s then some v else lk l s

def up:List (Nat×α)→Nat→α→List (Nat×α)
 |[],s,v=>[(s,v)]
 |(t,u)::l,s,v=>if t=s then(t,v)::l else(t,u)::up l s v

def del:List (Nat×α)→Nat→List (Nat×α)
 |[],_=>[]
 |(t,u)::l,s=>if t=s then del l s else(t,u)::del l s

theorem Ah(l:List (Nat×α))(s:Nat)(v:α)(t:Nat):lk (up l s v) t=if t=s then some v else lk l t:=by
 induction l with
 |nil=>grind [up,lk]
 |cons p l ih=>
  simp only[up];split
  ·simp only[lk];grind
  ·simp only[lk,ih]
   grind

theorem GW(l:List (Nat×α))(s:Nat)(t:Nat):lk (del l s) t=if t=s then none else lk l t:=by
 induction l with
 |nil=>simp[del,lk]
 |cons p l ih=>
  simp only[del];split
  ·simp only[lk];grind
  ·simp only[lk,ih]
   grind

theorem akZ(l:List (Nat×α))(s:Nat)(v:α):del (up l s v) s=del l s:=by
 induction l with
 |nil=>simp[up,del]
 |cons p l ih=>
  grind [up,del]

def Heap.get(H:Heap)(id:Nat):Option (List AV):=(lk H.bV id).map (·.2)
def Heap.sz(H:Heap)(id:Nat):Option Nat:=(lk H.bV id).map (·.1)
def Heap.set(H:Heap)(id:Nat)(es:List AV):Heap:={H with bV:=up H.bV id ((H.sz id).getD 0,es)}
def Heap.del(H:Heap)(id:Nat):Heap:={H with bV:=Av.del H.bV id}
def Heap.push(H:Heap)(s:Nat)(es:List AV):Heap:={next:=H.next+1,bV:=up H.bV H.next (s,es),ec:=H.ec}
def Heap.empty:Heap:={next:=0,bV:=[],ec:=[]}

theorem Heap.U1(H:Heap)(id:Nat)(es:List AV):(H.set id es).del id=H.del id:=by
 simp only[Heap.set,Heap.del,akZ]

theorem Heap.tQ(H:Heap)(id:Nat)(es:List AV)(k:Nat):(H.set id es).get k=if k=id then some es else H.get k:=by
 grind [Heap.get,Heap.set,Ah]
theorem Heap.u7(H:Heap)(id:Nat)(k:Nat):(H.del id).get k=if k=id then none else H.get k:=by
 grind [Heap.get,Heap.del,GW]
theorem Heap.zX(H:Heap)(s:Nat)(es:List AV)(k:Nat):(H.push s es).get k=if k=H.next then some es else H.get k:=by
 grind [Heap.get,Heap.push,Ah]
theorem Heap.Mq(H:Heap)(id:Nat)(es Hj:List AV)(h:H.get id=some Hj)(k:Nat):(H.set id es).sz k=H.sz k:=by
 grind [Heap.sz,Heap.set,Ah,Heap.get,ae5]
theorem Heap.aiF(H:Heap)(id:Nat)(k:Nat):(H.del id).sz k=if k=id then none else H.sz k:=by
 grind [Heap.sz,Heap.del,GW]
theorem Heap.PD(H:Heap)(s:Nat)(es:List AV)(k:Nat):(H.push s es).sz k=if k=H.next then some s else H.sz k:=by
 grind [Heap.sz,Heap.push,Ah]

structure Ctx where
 w:World
 H:Heap
 pl:Nat→Place
 cI:Nat→Prop
 iu:List Nat
 nI:Nat

def Ctx.cells(C:Ctx)(b:Nat):Prop:=∃id es,C.H.get id=some es∧(C.pl id).nil=false∧(C.pl id).de=b
def Ctx.sp(C:Ctx)(b:Nat):Prop:=(∃r,lk C.H.ec b=some r)∨b∈C.iu
def Ctx.own(C:Ctx)(b:Nat):Prop:=C.cells b∨C.sp b
def Ctx.bad(C:Ctx)(b:Nat):Prop:=C.own b∨C.cI b

def jl(p:Place)(off len:Nat)(v:Value):Prop:=
 if p.nil then off=0∧len=0∧∃a,v=.slice a 0 0
 else ∃a cap,v=.slice (some a) len cap∧off+len≤p.n∧off+cap≤p.cap∧len≤cap∧(cap=0∨a=⟨p.de,off*p.sz,none⟩)

def Holds(w:World)(b o:Nat)(v:Value):Prop:=w.cell? ⟨b,o,none⟩=some v∧v.oneCell'=true

inductive c4 (C:Ctx):AV→Value→Prop
 |any (v:Value):c4 C .any v
 |imm (v:Value):v.oneCell'=true→c4 C (.imm v) v
 |slNil (a:Option Addr) (cap:Nat):c4 C (.sl []) (.slice a 0 cap)
 |sl (es:List AV) (b off sz cap:Nat) (c:Nat→Nat→Value):b<C.w.heap.size→¬C.bad b→es.length≤cap→
   (∀(i:Nat) (e:AV),es[i]? =some e→e.flat.length=sz)→
   (∀(i j:Nat) (e x:AV),es[i]? =some e→e.flat[j]? =some x→Holds C.w b (off+i*sz+j) (c i j))→
   (∀(i j:Nat) (e x:AV),es[i]? =some e→e.flat[j]? =some x→c4 C x (c i j))→
   c4 C (.sl es) (.slice (some ⟨b,off,none⟩) es.length cap)
 |clipNil (a:Option Addr):c4 C (.clip []) (.slice a 0 0)
 |clip (es:List AV) (b off sz:Nat) (c:Nat→Nat→Value):b<C.w.heap.size→¬C.bad b→
   (∀(i:Nat) (e:AV),es[i]? =some e→e.flat.length=sz)→
   (∀(i j:Nat) (e x:AV),es[i]? =some e→e.flat[j]? =some x→Holds C.w b (off+i*sz+j) (c i j))→
   (∀(i j:Nat) (e x:AV),es[i]? =some e→e.flat[j]? =some x→c4 C x (c i j))→
   c4 C (.clip es) (.slice (some ⟨b,off,none⟩) es.length es.length)
 |view (id off len:Nat) (v:Value):id<C.H.next→(∀es,C.H.get id=some es→jl (C.pl id) off len v)→v.oneCell'=true→c4 C (.view id off len) v
 |ref (id i j:Nat) (v:Value):id<C.H.next→
   (∀es,C.H.get id=some es→(C.pl id).nil=false∧v=.pointer (some ⟨(C.pl id).de,i*(C.pl id).sz+j,none⟩))→v.oneCell'=true→c4 C (.ref id i j) v
 |mref (id:Nat) (v:Value):id<C.H.next→(∀es,C.H.get id=some es→(C.pl id).nil=false∧v=(C.pl id).ref)→v.oneCell'=true→c4 C (.mref id) v
 |pp (fl:List AV) (j b off:Nat) (c:Nat→Value):b<C.w.heap.size→¬C.bad b→
   (∀(k:Nat) (x:AV),fl[k]? =some x→Holds C.w b (off+k) (c k))→(∀(k:Nat) (x:AV),fl[k]? =some x→c4 C x (c k))→
   c4 C (.pp fl j) (.pointer (some ⟨b,off+j,none⟩))
 |agg (cs:List AV) (vs:Array Value):vs.size=cs.length→(∀(k:Nat) (v:Value),vs[k]? =some v→v.oneCell'=true)→
   (∀(k:Nat) (x:AV),cs[k]? =some x→c4 C x (vs.getD k undef))→c4 C (.agg cs) (.agg vs)
 |tuple (cs:List AV) (vs:Array Value):vs.size=cs.length→
   (∀(k:Nat) (x:AV),cs[k]? =some x→c4 C x (vs.getD k undef))→c4 C (.tuple cs) (.tuple vs)
 |ifc (t:TypeId) (x:AV) (v:Value):c4 C x v→c4 C (.ifc t x) (.iface t v)
 |fH (fn:Fn) (caps:List AV) (vs:Array Value):vs.size=caps.length→
   (∀(k:Nat) (x:AV),caps[k]? =some x→c4 C x (vs.getD k undef))→c4 C (.fH fn caps) (.func fn #[] vs)

def F3(l:List (Value×Value))(es:Array MapEntry):Prop:=es.toList.map (fun e=>(e.key,e.val))=l

def yH(c:Nat)(es:List AV)(ob:Obj):Prop:=match ob with
 |.map ms _=>c=1∧∀l,es=[.fL l]→F3 l ms∧∀q,q∈l→q.1≠.nilFunc
 |.chan n buf cl _ _ tm=>c=2∧cl=false∧tm=false∧∀l,es=[.fL l]→l=(.nilFunc,.int .i64 n)::buf.toList.map fun v=>(v,v)
 |_=>False
structure zy (C:Ctx) (p:Place) (es:List AV):Prop where
 n:p.n=es.length
 cap:p.n≤p.cap
 de:(p.sz≠0∧∃arr el,C.w.heap[p.de]? =some (.cells arr el (0,0))∧p.cap*p.sz≤arr.size)∨(p.sz=0∧∃ob:Obj,C.w.heap[p.de]? =some ob∧yH p.cap es ob)
 one:∀(o:Nat) (v:Value),C.w.cell? ⟨p.de,o,none⟩=some v→v.oneCell'=true
 flat:∀(i:Nat) (e:AV),es[i]? =some e→e.flat.length=p.sz
 cell:∀(i j:Nat) (e x:AV) (v:Value),es[i]? =some e→e.flat[j]? =some x→C.w.cell? ⟨p.de,i*p.sz+j,none⟩=some v→c4 C x v

variable {C:Ctx}{p:Place}{es:List AV}
theorem zy.rows(h:zy C p es)(hz:p.sz≠0):∃arr el,C.w.heap[p.de]? =some (.cells arr el (0,0))∧p.cap*p.sz≤arr.size:=by
 rcases h.de with h|h
 ·exact h.2
 omega
theorem zy.has(h:zy C p es):∃o:Obj,C.w.heap[p.de]? =some o:=by
 rcases h.de with⟨_,arr,el,h,_⟩|⟨_,ob,h,_⟩
 ·grind
 grind

def isD(o:Obj):Prop:=(∃arr el,o=.cells arr el (0,0))∨(∃ms k,o=.map ms k)∨∃n b c s r t,o=.chan n b c s r t
theorem yH.dat{c:Nat}{ob:Obj}(h:yH c es ob):isD ob:=by
 unfold yH at h;split at h
 ·exact .inr (.inl ⟨_,_,rfl⟩)
 ·exact .inr (.inr ⟨_,_,_,_,_,_,rfl⟩)
 grind
theorem yH.to{c:Nat}{es':List AV}{ob:Obj}(h:yH c es ob)(hm:∀l,es'=[.fL l]→es=[.fL l]):yH c es' ob:=by
 unfold yH at h ⊢;grind
theorem zy.dat(h:zy C p es):∃o:Obj,C.w.heap[p.de]? =some o∧isD o:=by
 rcases h.de with⟨_,arr,el,h,_⟩|⟨_,ob,h,h2⟩
 ·exact⟨_,h,.inl ⟨_,_,rfl⟩⟩
 ·exact⟨_,h,h2.dat⟩

theorem zy.SR{es':List AV}(h:zy C p es)(hm:∀l,es'=[.fL l]→es=[.fL l]):(p.sz≠0∧∃arr el,C.w.heap[p.de]? =some (.cells arr el (0,0))∧p.cap*p.sz≤arr.size)∨(p.sz=0∧∃ob:Obj,C.w.heap[p.de]? =some ob∧yH p.cap es' ob):=by
 rcases h.de with h|⟨h0,ob,h,h1⟩
 ·grind
 ·exact .inr ⟨h0,ob,h,h1.to hm⟩

structure Ext (C C':Ctx):Prop where
 below:RowKit.Below 0 C.w C'.w
 keep:∀b,b<C.w.heap.size→¬C.own b→C'.w.heap[b]? =C.w.heap[b]?
 own:∀b,b<C.w.heap.size→C'.own b→C.own b
 next:C.H.next≤C'.H.next
 id:∀id es',id<C.H.next→C'.H.get id=some es'→(∃es,C.H.get id=some es)∧C'.pl id=C.pl id
 cI:C'.cI=C.cI
 iu:C'.iu=C.iu
 nI:C'.nI=C.nI

theorem Ext.refl(C:Ctx):Ext C C:=⟨.refl _ _,fun _ _ _=>rfl,fun _ _ h=>h,afk _,fun _ es _ h=>⟨⟨es,h⟩,rfl⟩,rfl,rfl,rfl⟩

theorem Ext.trans{A B:Ctx}(h:Ext A B)(k:Ext B C):Ext A C where
 below:=h.below.trans k.below
 keep b hb hn:=by
  have h1:=h.keep b hb hn;rw[k.keep b (afs hb h.below.size) (fun ho=>hn (h.own b hb ho)),h1]
 own b hb ho:=h.own b hb (k.own b (afs hb h.below.size) ho)
 next:=afp h.next k.next
 id i es' hi hg:=by
  obtain⟨⟨es,he⟩,hp⟩:=k.id i es' (afs hi h.next) hg;obtain⟨h1,h2⟩:=h.id i es hi he;grind
 cI:=k.cI.trans h.cI
 iu:=k.iu.trans h.iu
 nI:=k.nI.trans h.nI

variable {C':Ctx}{b:Nat}
theorem Ext.bad(h:Ext C C')(hb:b<C.w.heap.size)(hn:¬C.bad b):¬C'.bad b:=by
 rintro(ho|hp)
 ·exact hn (.inl (h.own b hb ho))
 ·rw[h.cI] at hp;exact hn (.inr hp)

variable {v:Value}
theorem Ext.holds(h:Ext C C'){o:Nat}(hb:b<C.w.heap.size)(hn:¬C.bad b)(hh:Holds C.w b o v):Holds C'.w b o v:=by
 have hk:=h.keep b hb (fun ho=>hn (.inl ho));refine⟨?_,hh.2⟩;rw[World.cell?_of_block (w:=C.w) (a:=⟨b,o,none⟩) hk];exact hh.1

theorem c4.ext(h:Ext C C')(hr:c4 C x v):c4 C' x v:=by
 induction hr with
 |any v=>exact .any v
 |imm v hv=>exact .imm v hv
 |slNil a cap=>exact .slNil a cap
 |sl es b off sz cap c hb hn hc hf hcell _ ih=>
  exact .sl es b off sz cap c (afs hb h.below.size) (h.bad hb hn) hc hf (fun i j e x he hx=>h.holds hb hn (hcell i j e x he hx)) ih
 |clipNil a=>exact .clipNil a
 |clip es b off sz c hb hn hf hcell _ ih=>
  exact .clip es b off sz c (afs hb h.below.size) (h.bad hb hn) hf (fun i j e x he hx=>h.holds hb hn (hcell i j e x he hx)) ih
 |view id off len v hid hs h1=>
  refine .view id off len v (afs hid h.next) (fun es he=> ?_) h1;obtain⟨⟨Hj,h0⟩,hp⟩:=h.id id es hid he;grind
 |ref id i j v hid hs h1=>
  refine .ref id i j v (afs hid h.next) (fun es he=> ?_) h1;obtain⟨⟨Hj,h0⟩,hp⟩:=h.id id es hid he;grind
 |mref id v hid hs h1=>
  refine .mref id v (afs hid h.next) (fun es he=> ?_) h1;obtain⟨⟨Hj,h0⟩,hp⟩:=h.id id es hid he;grind
 |pp fl j b off c hb hn hcell _ ih=>
  exact .pp fl j b off c (afs hb h.below.size) (h.bad hb hn) (fun k x hx=>h.holds hb hn (hcell k x hx)) ih
 |agg cs vs hs h1 _ ih=>exact .agg cs vs hs h1 ih
 |tuple cs vs hs _ ih=>exact .tuple cs vs hs ih
 |ifc t x v _ ih=>exact .ifc t x v ih
 |fH fn caps vs hs _ ih=>exact .fH fn caps vs hs ih

structure Mem (C C':Ctx):Prop where
 below:RowKit.Below 0 C.w C'.w
 keep:∀b,b<C.w.heap.size→¬C.own b→C'.w.heap[b]? =C.w.heap[b]?
 own:∀b,b<C.w.heap.size→C'.own b→C.own b
 cI:C'.cI=C.cI
 nI:C'.nI=C.nI
 pins:C.nI≤C.H.next→C'.nI≤C'.H.next∧∀k es',k<C.nI→C'.H.get k=some es'→(∃es,C.H.get k=some es)∧C'.pl k=C.pl k

theorem Ext.mem(h:Ext C C'):Mem C C':=⟨h.below,h.keep,h.own,h.cI,h.nI,fun hp=>⟨by rw[h.nI];exact afp hp h.next,fun k es' hk hg=>h.id k es' (afs hk hp) hg⟩⟩
theorem Mem.refl(C:Ctx):Mem C C:=(Ext.refl C).mem

structure bS where
 w:World
 p:Nat
 ro:Option Nat
 G:Ctx→Prop
 st:∀C C',Mem C C'→C.nI≤C.H.next→G C→G C'
 dx:List Deferred

@[reducible] def bS.of(W:World):bS:=⟨W,0,none,fun _=>True,fun _ _ _ _ _=>trivial,[]⟩
@[reducible] def bS.pinned(W:World)(p:Nat):bS:=⟨W,p,none,fun _=>True,fun _ _ _ _ _=>trivial,[]⟩

structure Inv (W0:bS) (C:Ctx):Prop where
 fresh:∀id es,C.H.get id=some es→id<C.H.next
 nil:∀id es,C.H.get id=some es→(C.pl id).nil=true→es=[]
 obj:∀id es,C.H.get id=some es→(C.pl id).nil=false→zy C (C.pl id) es
 sep:∀i1 i2 e1 e2,C.H.get i1=some e1→C.H.get i2=some e2→(C.pl i1).nil=false→(C.pl i2).nil=false→(C.pl i1).de=(C.pl i2).de→i1=i2
 cI:∀id es,C.H.get id=some es→(C.pl id).nil=false→¬C.cI (C.pl id).de
 jX:∀id s,C.H.sz id=some s→(C.pl id).nil=false→(C.pl id).sz=s
 dU:∀b,C.cI b→b<C.w.heap.size
 eG:∀b,C.cI b→W0.w.heap.size≤b
 size:W0.w.heap.size≤C.w.heap.size
 gD:∀b,b<W0.w.heap.size→C.w.heap[b]? =W0.w.heap[b]? ∧¬C.own b
 ec:∀l r,lk C.H.ec l=some r→C.w.heap[l]? =some (.loop r)
 iu:∀d,d∈C.iu→C.w.heap[d]? =some (.deferred (some []))
 BX:C.iu.Nodup
 Cn:∀l,W0.ro=some l→C.iu=[]
 eS:∀b,C.sp b→¬C.cI b
 lU:C.nI=W0.p
 fe:C.nI≤C.H.next
 gh:W0.G C

theorem Mem.trans{A B:Ctx}(h:Mem A B)(k:Mem B C):Mem A C where
 below:=h.below.trans k.below
 keep b hb hn:=by
  have h1:=h.keep b hb hn;rw[k.keep b (afs hb h.below.size) (fun ho=>hn (h.own b hb ho)),h1]
 own b hb ho:=h.own b hb (k.own b (afs hb h.below.size) ho)
 cI:=k.cI.trans h.cI
 nI:=k.nI.trans h.nI
 pins hA:=by
  obtain⟨hB,p1⟩:=h.pins hA;obtain⟨hC,p2⟩:=k.pins hB;refine⟨hC,fun i es' hi hg=> ?_⟩;obtain⟨⟨es,he⟩,hp⟩:=p2 i es' (by rw[h.nI];exact hi) hg;grind

inductive jG (p:Nat):AV→Prop
 |any:jG p .any
 |imm (v:Value):jG p (.imm v)
 |sl (es:List AV):(∀e∈es,∀x∈e.flat,jG p x)→jG p (.sl es)
 |clip (es:List AV):(∀e∈es,∀x∈e.flat,jG p x)→jG p (.clip es)
 |view (id off len:Nat):id<p→jG p (.view id off len)
 |ref (id i j:Nat):id<p→jG p (.ref id i j)
 |mref (id:Nat):id<p→jG p (.mref id)
 |fL (l:List (Value×Value)):jG p (.fL l)
 |pp (fl:List AV) (j:Nat):(∀e∈fl,jG p e)→jG p (.pp fl j)
 |agg (cs:List AV):(∀e∈cs,jG p e)→jG p (.agg cs)
 |tuple (cs:List AV):(∀e∈cs,jG p e)→jG p (.tuple cs)
 |ifc (t:TypeId) (x:AV):jG p x→jG p (.ifc t x)
 |fH (fn:Fn) (cs:List AV):(∀e∈cs,jG p e)→jG p (.fH fn cs)

theorem Mem.bad(h:Mem C C')(hb:b<C.w.heap.size)(hn:¬C.bad b):¬C'.bad b:=by
 rintro(ho|hp)
 ·exact hn (.inl (h.own b hb ho))
 ·rw[h.cI] at hp;exact hn (.inr hp)

theorem Mem.holds(h:Mem C C'){o:Nat}(hb:b<C.w.heap.size)(hn:¬C.bad b)(hh:Holds C.w b o v):Holds C'.w b o v:=by
 have hk:=h.keep b hb (fun ho=>hn (.inl ho));refine⟨?_,hh.2⟩;rw[World.cell?_of_block (w:=C.w) (a:=⟨b,o,none⟩) hk];exact hh.1

theorem c4.mem(h:Mem C C')(hA:C.nI≤C.H.next)(hr:c4 C x v)(hb:jG C.nI x):c4 C' x v:=by
 obtain⟨hC,hpins⟩:=h.pins hA
 induction hr with
 |any v=>exact .any v
 |imm v hv=>exact .imm v hv
 |slNil a cap=>exact .slNil a cap
 |sl es b off sz cap c hlt hn hc hf hcell _ ih=>
  cases hb with
  |sl _ hb=>exact .sl es b off sz cap c (afs hlt h.below.size) (h.bad hlt hn) hc hf (fun i j e x he hx=>h.holds hlt hn (hcell i j e x he hx)) (fun i j e x he hx=>ih i j e x he hx (hb e (ad7 he) x (ad7 hx)))
 |clipNil a=>exact .clipNil a
 |clip es b off sz c hlt hn hf hcell _ ih=>
  cases hb with
  |clip _ hb=>exact .clip es b off sz c (afs hlt h.below.size) (h.bad hlt hn) hf (fun i j e x he hx=>h.holds hlt hn (hcell i j e x he hx)) (fun i j e x he hx=>ih i j e x he hx (hb e (ad7 he) x (ad7 hx)))
 |view id off len v hid hs h1=>
  cases hb with
  |view _ _ _ hp=>
  refine .view id off len v (by have:=h.nI;omega) (fun es he=> ?_) h1
  grind
 |ref id i j v hid hs h1=>
  cases hb with
  |ref _ _ _ hp=>
  refine .ref id i j v (by have:=h.nI;omega) (fun es he=> ?_) h1
  grind
 |mref id v hid hs h1=>
  cases hb with
  |mref _ hp=>
  refine .mref id v (by have:=h.nI;omega) (fun es he=> ?_) h1
  grind
 |pp fl j b off c hlt hn hcell _ ih=>
  cases hb with
  |pp _ _ hb=>exact .pp fl j b off c (afs hlt h.below.size) (h.bad hlt hn) (fun k x hx=>h.holds hlt hn (hcell k x hx)) (fun k x hx=>ih k x hx (hb x (ad7 hx)))
 |agg cs vs hs h1 _ ih=>cases hb with|agg _ hb=>exact .agg cs vs hs h1 (fun k x hx=>ih k x hx (hb x (ad7 hx)))
 |tuple cs vs hs _ ih=>cases hb with|tuple _ hb=>exact .tuple cs vs hs (fun k x hx=>ih k x hx (hb x (ad7 hx)))
 |ifc t x v _ ih=>cases hb with|ifc _ _ hb=>exact .ifc t x v (ih hb)
 |fH fn caps vs hs _ ih=>cases hb with|fH _ _ hb=>exact .fH fn caps vs hs (fun k x hx=>ih k x hx (hb x (ad7 hx)))
end Go.Av
end

section
namespace Go.Av
open Go.RowKit (Below)
section
variable {W0:bS} {C:Ctx}

def Ctx.uG(C:Ctx)(w':World):Ctx:={C with w:=w'}

theorem dh{w':World}(hb:Below C.w.heap.size C.w w'):Ext C (C.uG w') where
 below:=hb.mono (afR _)
 keep b h _:=hb.block b h
 own _ _ h:=h
 next:=afk _
 id _ es _ h:=⟨⟨es,h⟩,rfl⟩
 cI:=rfl
 iu:=rfl
 nI:=rfl

variable {p:Place}{es:List AV}
theorem zy.ext{C':Ctx}(h:zy C p es)(he:Ext C C')(hb:C'.w.heap[p.de]? =C.w.heap[p.de]?):zy C' p es where
 n:=h.n
 cap:=h.cap
 de:=by rw[hb];exact h.de
 one o v hv:=h.one o v (by grind [World.cell?_of_block])
 flat:=h.flat
 cell i j e x v h1 h2 h3:=(h.cell i j e x v h1 h2 (by grind [World.cell?_of_block])).ext he

variable {id:Nat}
theorem Inv.lt(hI:Inv W0 C)(h:C.H.get id=some es)(hn:(C.pl id).nil=false):(C.pl id).de<C.w.heap.size:=by
 obtain⟨o,h1⟩:=(hI.obj id es h hn).has;grind

variable {b:Nat}
theorem Inv.Pz(hI:Inv W0 C)(h:C.sp b):∃o:Obj,C.w.heap[b]? =some o∧∀arr el fz,o≠.cells arr el fz:=by
 rcases h with⟨r,h⟩|h
 ·exact⟨_,hI.ec b r h,fun _ _ _=>by simp⟩
 ·exact⟨_,hI.iu b h,fun _ _ _=>by simp⟩

theorem Inv.ao6(hI:Inv W0 C)(h:C.sp b):b<C.w.heap.size:=by
 obtain⟨o,h1,_⟩:=hI.Pz h;grind

theorem Inv.G0(hI:Inv W0 C)(h:C.own b):b<C.w.heap.size:=by
 rcases h with⟨id,es,h1,h2,rfl⟩|h
 ·exact hI.lt h1 h2
 ·exact hI.ao6 h

variable {arr:Array Value}{el:TypeId}
theorem Inv.afW(hI:Inv W0 C){fz:Nat×Nat}(h:C.sp b)(hb:C.w.heap[b]? =some (.cells arr el fz)):False:=by
 obtain⟨o,h1,h2⟩:=hI.Pz h
 grind

theorem Inv.AD(hI:Inv W0 C){o:Obj}(h:C.sp b)(hb:C.w.heap[b]? =some o)(hd:isD o):False:=by
 rcases h with⟨r,h⟩|h
 ·rw[hI.ec b r h] at hb
  cases hb
  rcases hd with⟨_,_,h⟩|⟨_,_,h⟩|⟨_,_,_,_,_,_,h⟩ <;> cases h
 ·rw[hI.iu b h] at hb
  cases hb
  rcases hd with⟨_,_,h⟩|⟨_,_,h⟩|⟨_,_,_,_,_,_,h⟩ <;> cases h

theorem Inv.uG(hI:Inv W0 C){w':World}(hb:Below C.w.heap.size C.w w'):Inv W0 (C.uG w') where
 fresh:=hI.fresh
 nil:=hI.nil
 obj id es h hn:=(hI.obj id es h hn).ext (dh hb) (hb.block _ (hI.lt h hn))
 sep:=hI.sep
 cI:=hI.cI
 jX:=hI.jX
 dU b h:=afs (hI.dU b h) hb.size
 eG:=hI.eG
 size:=afp hI.size hb.size
 gD b h:=⟨by
  have:=(hI.gD b h).1
  rw[←this]
  exact hb.block b (afs h hI.size),(hI.gD b h).2⟩
 ec l r h:=by
  have h1:=hI.ec l r h
  rw[←h1];exact hb.block l (Array.getElem?_eq_some_iff.1 h1).1
 iu d h:=by
  have h1:=hI.iu d h
  rw[←h1];exact hb.block d (Array.getElem?_eq_some_iff.1 h1).1
 BX:=hI.BX
 Cn:=hI.Cn
 eS:=hI.eS
 lU:=hI.lU
 fe:=hI.fe
 gh:=W0.st C _ (dh hb).mem hI.fe hI.gh

theorem SQ(w:World):Below w.heap.size w w.drew:=⟨rfl,rfl,rfl,afk _,fun _ _=>rfl⟩
theorem xE(w:World)(o:Obj):Below w.heap.size w (w.alloc o):=(Below.refl _ _).alloc (afk _) o

theorem wC(w:World)(o:Obj):(w.alloc o).heap[w.heap.size]? =some o:=by show(w.heap.push o)[_]? =_;simp
theorem SF(w:World)(o:Obj):(w.alloc o).heap.size=w.heap.size+1:=by simp_all

def Ctx.del(C:Ctx)(id:Nat):Ctx:={C with H:=C.H.del id}

theorem Ctx.Pc(h:(C.del id).own b):C.own b:=by
 rcases h with⟨k,es,h1,h2,h3⟩|h
 ·simp only[Ctx.del,Heap.u7] at h1
  split at h1
  ·cases h1
  ·exact .inl ⟨k,es,h1,h2,h3⟩
 ·exact .inr h

theorem AZ(id:Nat):Ext C (C.del id) where
 below:=.refl _ _
 keep _ _ _:=rfl
 own _ _ h:=Ctx.Pc h
 next:=afk _
 id i es _ h:=by
  simp_all [Ctx.del,Heap.u7]
 cI:=rfl
 iu:=rfl
 nI:=rfl

theorem Inv.del(hI:Inv W0 C)(id:Nat):Inv W0 (C.del id):=by
 have sub:∀k es,(C.del id).H.get k=some es→C.H.get k=some es:=by
  grind [Ctx.del,Heap.u7]
 exact{
  fresh:=fun k es h=>hI.fresh k es (sub k es h)
  nil:=fun k es h=>hI.nil k es (sub k es h)
  obj:=fun k es h hn=>(hI.obj k es (sub k es h) hn).ext (AZ id) rfl
  sep:=fun a b ea eb ha hb=>hI.sep a b ea eb (sub _ _ ha) (sub _ _ hb)
  cI:=fun k es h=>hI.cI k es (sub k es h)
  jX:=fun k s h=>hI.jX k s (by
   grind [Ctx.del,Heap.aiF])
  dU:=hI.dU
  eG:=hI.eG
  size:=hI.size
  gD:=fun b h=>⟨(hI.gD b h).1,fun ho=>(hI.gD b h).2 (Ctx.Pc ho)⟩
  ec:=hI.ec
  iu:=hI.iu
  BX:=hI.BX
  Cn:=hI.Cn
  eS:=hI.eS
  lU:=hI.lU
  fe:=hI.fe
  gh:=W0.st C _ (AZ id).mem hI.fe hI.gh}

def Ctx.push(C:Ctx)(p:Place)(es:List AV):Ctx:={C with H:=C.H.push p.sz es,pl:=fun k=>if k=C.H.next then p else C.pl k}

theorem Ctx.uL(p:Place)(es:List AV):(C.push p es).pl C.H.next=p:=by simp[Ctx.push]
theorem Ctx.EU(p:Place)(es:List AV){k:Nat}(h:k≠C.H.next):(C.push p es).pl k=C.pl k:=by simp[Ctx.push,h]

theorem Ctx.Rn(h:(C.push p es).own b):C.own b∨(p.nil=false∧b=p.de):=by
 rcases h with⟨k,e,h1,h2,h3⟩|h
 ·by_cases hk:k=C.H.next
  ·grind [Ctx.uL]
  ·simp only[Ctx.push,Heap.zX,if_neg hk] at h1
   rw[Ctx.EU _ _ hk] at h2 h3;exact .inl (.inl ⟨k,e,h1,h2,h3⟩)
 ·exact .inl (.inr h)

theorem zT{C0:Ctx}(he:Ext C0 C)(p:Place)(es:List AV)(hp:p.nil=false→C0.w.heap.size≤p.de∨C0.own p.de):Ext C0 (C.push p es) where
 below:=he.below
 keep:=he.keep
 own b hb h:=by
  rcases Ctx.Rn h with h|⟨h1,h2⟩
  ·exact he.own b hb h
  grind
 next:=afp he.next (Nat.le_succ _)
 id i es' hi h:=by
  have hne:i≠C.H.next:=by have:=he.next;omega
  simp only[Ctx.push,Heap.zX,if_neg hne] at h
  rw[Ctx.EU _ _ hne]
  exact he.id i es' hi h
 cI:=he.cI
 iu:=he.iu
 nI:=he.nI

theorem c4.push(hp:p.nil=false→¬C.own p.de∧(C.w.heap.size≤p.de)){x:AV}{v:Value}(h:c4 C x v):c4 (C.push p es) x v:=
 h.ext (zT (.refl C) p es (fun hn=>.inl (hp hn).2))

theorem Inv.push(hI:Inv W0 C)(p:Place)(es:List AV)(hnil:p.nil=true→es=[])(hfree:p.nil=false→¬C.own p.de∧¬C.cI p.de∧W0.w.heap.size≤p.de)
  (hold:∀k e,C.H.get k=some e→(C.pl k).nil=false→zy (C.push p es) (C.pl k) e)
  (hnew:p.nil=false→zy (C.push p es) p es)(hG:W0.G (C.push p es)):Inv W0 (C.push p es):=by
 have cases':∀k e,(C.push p es).H.get k=some e→(k=C.H.next∧e=es∧(C.push p es).pl k=p)∨(k≠C.H.next∧C.H.get k=some e∧(C.push p es).pl k=C.pl k):=by
  intro k e h
  by_cases hk:k=C.H.next
  ·simp_all [Ctx.push,Heap.zX]
  simp_all [Ctx.push,Heap.zX]
 exact{
  fresh:=fun k e h=>by
   show k<C.H.next+1
   rcases cases' k e h with⟨rfl,_,_⟩|⟨_,h',_⟩
   ·omega
   ·exact Nat.lt_succ_of_lt (hI.fresh k e h')
  nil:=fun k e h hn=>by
   rcases cases' k e h with⟨rfl,rfl,hp⟩|⟨_,h',hp⟩
   ·grind
   ·rw[hp] at hn;exact hI.nil k e h' hn
  obj:=fun k e h hn=>by
   grind
  sep:=fun a b ea eb ha hb na nb hab=>by
   rcases cases' a ea ha with⟨rfl,rfl,hpa⟩|⟨_,ha',hpa⟩ <;> rcases cases' b eb hb with⟨rfl,rfl,hpb⟩|⟨_,hb',hpb⟩
   ·rfl
   ·rw[hpa] at na hab;rw[hpb] at nb hab
    exact absurd (.inl ⟨b,eb,hb',nb,hab.symm⟩) (hfree na).1
   ·rw[hpa] at na hab;rw[hpb] at nb hab
    exact absurd (.inl ⟨a,ea,ha',na,hab⟩) (hfree nb).1
   ·rw[hpa] at na hab;rw[hpb] at nb hab
    exact hI.sep a b ea eb ha' hb' na nb hab
  cI:=fun k e h hn=>by
   rcases cases' k e h with⟨rfl,rfl,hp⟩|⟨_,h',hp⟩
   ·rw[hp] at hn ⊢;exact(hfree hn).2.1
   ·rw[hp] at hn ⊢;exact hI.cI k e h' hn
  jX:=fun k s h hn=>by
   simp only[Ctx.push,Heap.PD] at h
   split at h
   ·grind [Ctx.uL]
   ·rename_i hk
    rw[Ctx.EU _ _ hk] at hn ⊢
    exact hI.jX k s h hn
  dU:=hI.dU
  eG:=hI.eG
  size:=hI.size
  gD:=fun b h=>⟨(hI.gD b h).1,fun ho=>by
   rcases Ctx.Rn ho with h1|⟨h1,h2⟩
   ·exact(hI.gD b h).2 h1
   grind⟩
  ec:=hI.ec
  iu:=hI.iu
  BX:=hI.BX
  Cn:=hI.Cn
  eS:=hI.eS
  lU:=hI.lU
  fe:=Nat.le_succ_of_le hI.fe
  gh:=hG}

theorem iS{w:World}{fz:Nat×Nat}(h:w.heap[b]? =some (.cells arr el fz))(o:Nat):w.cell? ⟨b,o,none⟩=arr[o]? :=by
 simp[World.cell?,h]

theorem Al(hI:Inv W0 C)(arr:Array Value)(el:TypeId)(es:List AV)(sz cap:Nat)(hsz:cap*sz≤arr.size)(hcap:es.length≤cap)
  (hone:∀v∈arr,v.oneCell'=true)(hfl:∀(i:Nat) (e:AV),es[i]? =some e→e.flat.length=sz)
  (hcell:∀(i j:Nat) (e x:AV) (v:Value),es[i]? =some e→e.flat[j]? =some x→arr[i*sz+j]? =some v→c4 C x v)(Kx:sz≠0):
  Ext C ((C.uG (C.w.alloc (.cells arr el (0,0)))).push ⟨C.w.heap.size,sz,es.length,cap,false⟩ es)∧
  Inv W0 ((C.uG (C.w.alloc (.cells arr el (0,0)))).push ⟨C.w.heap.size,sz,es.length,cap,false⟩ es):=by
 have hb:=xE C.w (.cells arr el (0,0))
 have h1:Ext C (C.uG (C.w.alloc (.cells arr el (0,0)))):=dh hb
 have I1:=hI.uG hb
 have hE:=zT (C:=C.uG (C.w.alloc (.cells arr el (0,0)))) h1 ⟨C.w.heap.size,sz,es.length,cap,false⟩ es (fun _=>.inl (afk _))
 refine⟨hE,I1.push _ _ (fun h=>by cases h) (fun _=>⟨fun ho=> ?_,fun hp=> ?_,hI.size⟩) (fun k e h hn=> ?_) (fun _=> ?_) (W0.st C _ hE.mem hI.fe hI.gh)⟩
 ·exact afr _ (hI.G0 ho)
 ·exact afr _ (hI.dU _ hp)
 ·have:=hI.obj k e h hn
  exact this.ext hE (hb.block _ (hI.lt h hn))
 ·refine⟨rfl,hcap,.inl ⟨Kx,arr,el,wC _ _,hsz⟩,fun o v h=> ?_,hfl,fun i j e x v h1 h2 h3=> ?_⟩
  ·rw[show((C.uG (C.w.alloc (.cells arr el (0,0)))).push ⟨C.w.heap.size,sz,es.length,cap,false⟩ es).w=C.w.alloc (.cells arr el (0,0)) from rfl,iS (wC C.w _)] at h
   grind
  ·rw[show((C.uG (C.w.alloc (.cells arr el (0,0)))).push ⟨C.w.heap.size,sz,es.length,cap,false⟩ es).w=C.w.alloc (.cells arr el (0,0)) from rfl,iS (wC C.w _)] at h3
   exact(hcell i j e x v h1 h2 h3).ext hE

theorem Ty(hI:Inv W0 C)(sz:Nat):Ext C (C.push ⟨0,sz,0,0,true⟩ [])∧Inv W0 (C.push ⟨0,sz,0,0,true⟩ []):=by
 have hE:=zT (C:=C) (.refl _) ⟨0,sz,0,0,true⟩ [] (fun h=>by cases h)
 exact⟨hE,hI.push _ _ (fun _=>rfl) (fun h=>by cases h) (fun k e h hn=>(hI.obj k e h hn).ext hE rfl) (fun h=>by cases h) (W0.st C _ hE.mem hI.fe hI.gh)⟩

def Ctx.write(C:Ctx)(id:Nat)(w':World)(es:List AV):Ctx:={C with w:=w',H:=C.H.set id es}

theorem vQ(hI:Inv W0 C){Hj:List AV}(hid:C.H.get id=some Hj)(hn:(C.pl id).nil=false)
  (harr:C.w.heap[(C.pl id).de]? =some (.cells arr el (0,0)))(arr':Array Value)(hsize:arr'.size=arr.size)(es:List AV)(hlen:es.length=Hj.length)
  (hone:∀v∈arr',v.oneCell'=true)(hfl:∀(i:Nat) (e:AV),es[i]? =some e→e.flat.length=(C.pl id).sz)
  (hcell:∀(i j:Nat) (e x:AV) (v:Value),es[i]? =some e→e.flat[j]? =some x→arr'[i*(C.pl id).sz+j]? =some v→c4 C x v):
  Ext C (C.write id (C.w.setRow (C.pl id).de arr') es)∧Inv W0 (C.write id (C.w.setRow (C.pl id).de arr') es):=by
 have hO:=hI.obj id Hj hid hn;have Kx:(C.pl id).sz≠0:=by
  rcases hO.de with⟨h,_⟩|⟨_,ob,h2,h3⟩
  ·exact h
  ·rw[harr] at h2;cases h2;exact h3.elim
 have hsame:∀b,(C.write id (C.w.setRow (C.pl id).de arr') es).own b→C.own b:=by
  rintro b (⟨k,e,h1,h2,h3⟩|h)
  ·simp only[Ctx.write,Heap.tQ] at h1
   split at h1
   ·rename_i hk;subst hk;exact .inl ⟨k,Hj,hid,h2,h3⟩
   ·exact .inl ⟨k,e,h1,h2,h3⟩
  ·exact .inr h
 have hE:Ext C (C.write id (C.w.setRow (C.pl id).de arr') es):={
  below:=⟨rfl,rfl,rfl,by simp_all [Ctx.write],fun k hk=>absurd hk (Nat.not_lt_zero k)⟩
  keep:=fun b hb ho=>setRow_other _ _ _ _ (fun hbb=>ho (.inl ⟨id,Hj,hid,hn,hbb.symm⟩))
  own:=fun b _ h=>hsame b h
  next:=afk _
  id:=fun i es' _ h=>by
   simp only[Ctx.write,Heap.tQ] at h;split at h
   ·rename_i hk;subst hk;exact⟨⟨Hj,hid⟩,rfl⟩
   ·exact⟨⟨es',h⟩,rfl⟩
  cI:=rfl
  iu:=rfl
  nI:=rfl}
 have hspne:∀b,C.sp b→b≠(C.pl id).de:=fun b hb he=>by subst he;exact hI.afW hb harr
 have hrow:=setRow_heap C.w (C.pl id).de arr arr' el (0,0) harr;have cases':∀k e,(C.write id (C.w.setRow (C.pl id).de arr') es).H.get k=some e→(k=id∧e=es)∨(k≠id∧C.H.get k=some e):=by
  grind [Ctx.write,Heap.tQ]
 refine⟨hE,{
  fresh:=fun k e h=>by
   rcases cases' k e h with⟨rfl,_⟩|⟨_,h'⟩
   ·exact hI.fresh k Hj hid
   ·exact hI.fresh k e h'
  nil:=fun k e h hk=>by
   rcases cases' k e h with⟨rfl,_⟩|⟨_,h'⟩
   ·have hk':(C.pl k).nil=true:=hk
    grind
   ·exact hI.nil k e h' hk
  obj:=fun k e h hk=>by
   rcases cases' k e h with⟨rfl,rfl⟩|⟨hne,h'⟩
   ·refine⟨hO.n.trans hlen.symm,hO.cap,.inl ⟨Kx,arr',el,hrow, ?_⟩,fun o v hv=> ?_,hfl,fun i j e' x v h1 h2 h3=> ?_⟩
    ·rcases hO.de with⟨_,a2,e2,h2,h3⟩|⟨_,ob,h2,h3⟩
     ·rw[harr] at h2
      obtain⟨rfl,_⟩:=h2;rw[hsize];exact h3
     omega
    ·have hv':(C.w.setRow (C.pl k).de arr').cell? ⟨(C.pl k).de,o,none⟩=some v:=hv
     rw[iS hrow] at hv';grind
    ·have hv':(C.w.setRow (C.pl k).de arr').cell? ⟨(C.pl k).de,i*(C.pl k).sz+j,none⟩=some v:=h3
     rw[iS hrow] at hv';exact(hcell i j e' x v h1 h2 hv').ext hE
   ·exact(hI.obj k e h' hk).ext hE (setRow_other _ _ _ _ (fun hbb=>hne (hI.sep k id e Hj h' hid hk hn hbb)))
  sep:=fun a b ea eb ha hb na nb hab=>by
   have g:∀k e,(C.write id (C.w.setRow (C.pl id).de arr') es).H.get k=some e→∃e',C.H.get k=some e':=by
    grind
   obtain⟨e1,h1⟩:=g a ea ha;obtain⟨e2,h2⟩:=g b eb hb;exact hI.sep a b e1 e2 h1 h2 na nb hab
  cI:=fun k e h hk=>by
   rcases cases' k e h with⟨rfl,_⟩|⟨_,h'⟩
   ·exact hI.cI k Hj hid hk
   ·exact hI.cI k e h' hk
  jX:=fun k s h=>hI.jX k s (by rw[←Heap.Mq C.H id es Hj hid k];exact h)
  dU:=fun b h=>by simpa [Ctx.write,World.setRow] using hI.dU b h
  eG:=hI.eG
  size:=by simpa [Ctx.write,World.setRow] using hI.size
  gD:=fun b h=>⟨by
   have hne:b≠(C.pl id).de:=fun hbb=>(hI.gD b h).2 (.inl ⟨id,Hj,hid,hn,hbb.symm⟩);rw[←(hI.gD b h).1];exact setRow_other _ _ _ _ hne,fun ho=>(hI.gD b h).2 (hsame b ho)⟩
  ec:=fun l r h=>by
   rw[←hI.ec l r h];exact setRow_other _ _ _ _ (hspne l (.inl ⟨r,h⟩))
  iu:=fun d h=>by
   rw[←hI.iu d h];exact setRow_other _ _ _ _ (hspne d (.inr h))
  BX:=hI.BX
  Cn:=hI.Cn
  eS:=hI.eS
  lU:=hI.lU
  fe:=hI.fe
  gh:=W0.st C _ hE.mem hI.fe hI.gh}⟩

end
abbrev Fr:=Nat→Option AV

def _root_.Go.Value.MD:Value→Bool
 |.agg cs=>cs.all (·.oneCell')
 |.tuple _=>false
 |_=>true

def AV.Ch:Value→AV
 |.agg cs=>.agg (cs.toList.map .imm)
 |v=>.imm v

def Uj:List AV→Option (List Value)
 |[]=>some []
 |.imm v::r=>(Uj r).map (v:: ·)
 |_::_=>none

def AV.Xv:AV→Option Value
 |.imm v=>some v
 |.agg cs=>(Uj cs).map fun l=>.agg l.toArray
 |_=>none

def AV.b6:AV→Bool
 |.any|.tuple _=>false
 |_=>true

def aD(fr:Fr):Operand→Option AV
 |.tmp t=>fr t
 |.const v=>if v.MD then some (.Ch v) else none
 |.func f=>some (.fH (.func f) [])
 |.global _=>none

def yV(C:Ctx)(fr:Fr)(a:Act)(x:Operand):Prop:=∀t,x=.tmp t→∀av,fr t=some av→c4 C av (a.tmps.getD t undef)

def b_(P:Program)(W0:bS)(o:Oper)(fr:Fr)(H:Heap)(r:AV)(H':Heap):Prop:=
 ∀(C:Ctx) (a:Act),Inv W0 C→C.H=H→(∀x∈o.op.operands,yV C fr a x)→
  ∀(K:Act→World→Prop) (Q:Exit→Act→World→Prop),
   (∀v C',Ext C C'→Inv W0 C'→C'.H=H'→c4 C' r v→K (a.put o.dst v) C'.w)→o.wp P a C.w K Q

def Fw(ro:Option Nat):Fence:={fn:=fun _=>True,depth:=none,alive:=false,round:=ro}
theorem xh:Fw none=Fence.wide:=rfl

def af8(P:Program)(W0:bS)(o:Oper)(fr:Fr)(H:Heap)(r:AV)(H':Heap):Prop:=
 ∀(C:Ctx) (a:Act),Inv W0 C→C.H=H→(∀x∈o.op.operands,yV C fr a x)→
  ∀(K:Act→World→Prop) (Q:Exit→Act→World→Prop),
   (∀v C',Ext C C'→Inv W0 C'→C'.H=H'→c4 C' r v→K (a.put o.dst v) C'.w)→o.wpIn (Fw W0.ro) 0 P a C.w K Q

variable {ro:Option Nat}{P:Program}{w:World}
theorem Xq{n:Nat}{row:String}{args:Array Value}{R:Value→World→Prop}(h:Rows P row args w R):RowsIn (Fw ro) n P row args w R:=
 fun c cs _=>let⟨v,w',r,s⟩:=h c cs;⟨v,w',r,stepsIn_wide.2 s⟩
theorem SS{n:Nat}{f:FuncId}{args:Array Value}{R:Ending→World→Prop}:CallsIn (Fw ro) n P f args w R↔Calls P f args w R:=
 ⟨fun h=>(callsIn_wide (n:=n)).1 ⟨trivial,fun cs hr=>h.2 cs hr⟩,fun h=>⟨trivial,fun cs hr=>((callsIn_wide (n:=n)).2 h).2 cs hr⟩⟩

theorem pQ{o:Oper}{a:Act}{K:Act→World→Prop}{Q:Exit→Act→World→Prop}(hd:∀c,o.op≠.defer c)(h:o.wp P a w K Q):o.wpIn (Fw ro) 0 P a w K Q:=by
 refine⟨fun _ _=>trivial, ?_⟩
 have hs:o.semAt (Fw ro).round a.eval=execOp a.eval o:=by
  cases ro with
  |none=>rfl
  |some l=>exact Oper.semAt_some l a.eval o hd
 rw[hs]
 unfold Oper.wp at h
 revert h
 generalize (execOp a.eval o).run P w=r
 intro h
 cases r with
 |ok n w'=>
  cases n <;> first|exact h|exact h.elim|skip
  case enter f args=>exact⟨fun hd=>by simp[Fw] at hd,SS.2 h⟩
  case row row args=>exact⟨fun hd=>by simp[Fw] at hd,Xq h⟩
 |halt x w'=>cases x <;> first|exact h|exact h.elim

section
variable {P:Program} {W0:bS} {C:Ctx} {fr:Fr} {a:Act} {H:Heap} {o:Oper}

theorem CV{vs:Array Value}{k:Nat}(h:k<vs.size):vs[k]? =some (vs.getD k undef):=by
 simp_all

theorem FH{v:Value}(h:v.MD=true):c4 C (.Ch v) v:=by
 cases v <;> try exact c4.imm _ rfl
 case agg cs=>
  have hall:∀(k:Nat) (v:Value),cs[k]? =some v→v.oneCell'=true:=fun k v hv=>by
   have:=Array.all_eq_true'.1 h v (Array.mem_of_getElem? hv);exact this
  refine c4.agg _ cs (by simp) hall (fun k x hx=> ?_);simp only[ab_,ae5] at hx;obtain⟨v,hv,rfl⟩:=hx;have hv':cs[k]? =some v:=by grind
  have:cs.getD k undef=v:=by simp_all
  rw[this];exact .imm v (hall k v hv')
 grind [Value.MD]

theorem Og:∀(cs:List AV) (l:List Value),Uj cs=some l→cs=l.map .imm
 |[],l,h=>by grind [Uj]
 |x::r,l,h=>by
  cases x <;> simp only[Uj] at h <;> try cases h
  case imm v=>
   obtain⟨l',h',rfl⟩:=Option.map_eq_some_iff.1 h;rw[ac7,←Og r l' h']

theorem bR{x:AV}{v u:Value}(h:x.Xv=some v)(hr:c4 C x u):u=v:=by
 cases hr <;> simp only[AV.Xv] at h <;> try cases h
 case imm=>rfl
 case agg cs vs hs h1 hx=>
  obtain⟨l,hl,rfl⟩:=Option.map_eq_some_iff.1 h;have:=Og cs l hl;subst this;congr 1;apply Array.ext
  ·grind
  ·intro k hk hk'
   have h2:((l.map AV.imm)[k]? :Option AV)=some (.imm (l[k]'(by omega))):=by grind
   have h3:=hx k _ h2;have:=CV hk;generalize vs.getD k undef=q at h3 this;cases h3;grind

variable {x:Operand}
theorem aQ{av:AV}(h:yV C fr a x)(he:aD fr x=some av):c4 C av (a.eval x):=by
 cases x with
 |tmp t=>exact h t rfl av he
 |const v=>
  simp only[aD] at he;split at he
  ·rename_i hv;simp only[Option.some.injEq] at he;subst he;exact FH hv
  grind
 |global g=>cases he
 |func f=>
  simp only[aD,Option.some.injEq] at he;subst he;exact .fH _ [] #[] rfl (fun k x hx=>by simp at hx)


def pv{α:Type}(P:Program):Sem α→Option α
 |.pure a=>some a
 |.program k=>pv P (k P)
 |.mark _ k=>pv P k
 |_=>none

theorem ahZ{α:Type}(s:Sem α)(x:α)(w:World)(h:pv P s=some x):s.run P w=.ok x w:=by
 induction s with
 |pure a=>simp_all [pv]
 |program k ih=>exact ih P h
 |mark m k ih=>exact ih h
 |_=>cases h

variable {r:AV}
theorem b_.of_run{H':Heap}
  (h:∀(C:Ctx) (a:Act),Inv W0 C→C.H=H→(∀x∈o.op.operands,yV C fr a x)→
   ∃v C',(execOp a.eval o).run P C.w=.ok (.value v) C'.w∧Ext C C'∧Inv W0 C'∧C'.H=H'∧c4 C' r v):b_ P W0 o fr H r H':=by
 intro C a hI hH hx K Q hK
 obtain⟨v,C',hr,h1,h2,h3,h4⟩:=h C a hI hH hx
 unfold Oper.wp
 rw[hr]
 exact hK v C' h1 h2 h3 h4

theorem b_.cz
  (h:∀(C:Ctx) (a:Act),Inv W0 C→C.H=H→(∀x∈o.op.operands,yV C fr a x)→
   ∃v,(execOp a.eval o).run P C.w=.ok (.value v) C.w∧c4 C r v):b_ P W0 o fr H r H:=
 .of_run fun C a hI hH hx=>let⟨v,h1,h2⟩:=h C a hI hH hx;⟨v,C,h1,.refl C,hI,hH,h2⟩

theorem od(ho:o.op=.move x∨o.op=.assign x)(h:aD fr x=some r):b_ P W0 o fr H r H:=
 .cz fun C a _ _ hx=>⟨a.eval x,by rcases ho with ho|ho <;> simp[execOp,ho],aQ (hx x (by grind [Op.operands])) h⟩

theorem Qi{c y:Operand}{t:Bool}(ho:o.op=.pick c x y)(hc:aD fr c=some (.imm (.bool t)))(h:aD fr (if t then x else y)=some r):b_ P W0 o fr H r H:=
 .cz fun C a _ _ hx=>by
  have h1:=aQ (hx c (by simp[ho,Op.operands])) hc;have h2:c4 C r (a.eval (if t then x else y)):=aQ (by grind [Op.operands]) h;have h3:=bR (v:=.bool t) rfl h1;refine⟨_, ?_,h2⟩;cases t <;> simp[execOp,ho,h3,asBool]

def adK(P:Program)(s:Sem Value):Option AV:=
 match pv P s with
 |some v=>if v.MD then some (.Ch v) else none
 |none=>none

theorem Xg{s:Sem Value}(h:adK P s=some r)(w:World):∃v,s.run P w=.ok v w∧∀C,c4 C r v:=by
 unfold adK at h;split at h
 ·split at h
  ·simp only[Option.some.injEq] at h;subst h
   simp_all [ahZ,FH]
  ·cases h
 ·cases h

theorem Yp{op:UnOp}{t:TypeId}{ax:AV}{vx:Value}(ho:o.op=.unOp op t x)(hx:aD fr x=some ax)(hvx:ax.Xv=some vx)
  (h:adK P (Op.unary op vx)=some r):b_ P W0 o fr H r H:=
 .cz fun C a _ _ hr=>by
  obtain⟨v,h1,h2⟩:=Xg h C.w;have e1:=bR hvx (aQ (hr x (by simp[ho,Op.operands])) hx);simp_all [execOp]

theorem qQ{i:Nat}{vs:List AV}(ho:o.op=.extract x i)(hx:aD fr x=some (.tuple vs))(h:vs[i]? =some r):b_ P W0 o fr H r H:=
 .cz fun C a _ _ hr=>by
  have h1:=aQ (hr x (by simp[ho,Op.operands])) hx;generalize hu:a.eval x=u at h1;cases h1
  case tuple us hs hk=>
   have hlt:i<us.size:=by grind
   refine⟨us.getD i undef, ?_,hk i r h⟩;simp_all [execOp,Instr.extract]

theorem fk{t:TypeId}{d:TypeDesc}{ax:AV}(ho:o.op=.makeInterface t x)(hx:aD fr x=some ax)(hd:P.underlying t=some d)(hn:∀ms,d≠.interface ms):b_ P W0 o fr H (.ifc t ax) H:=
 .cz fun C a _ _ hr=>by
  have h1:=aQ (hr x (by simp[ho,Op.operands])) hx;refine⟨.iface t (a.eval x), ?_,.ifc t ax _ h1⟩;simp_all [execOp,Instr.makeInterface,run_underlying]

theorem Ov{fn:Fn}{caps:Array Operand}{cs:List AV}(ho:o.op=.makeFunc fn #[] caps)(hc:caps.toList.mapM (aD fr)=some cs):b_ P W0 o fr H (.fH fn cs) H:=
 .cz fun C a _ _ hr=>by
  refine⟨.func fn #[] (caps.map a.eval),by simp[execOp,ho,Instr.makeFunc], ?_⟩;have key:∀(l:List Operand) (cs:List AV),l.mapM (aD fr)=some cs→cs.length=l.length∧∀(k:Nat) (x:AV),cs[k]? =some x→∃y,l[k]? =some y∧aD fr y=some x:=by
   intro l
   induction l with
   |nil=>grind
   |cons y l ih=>
    intro cs h;rw[acT] at h;simp only[aeY,ae1,afd,Option.some.injEq] at h;grind
  obtain⟨h1,h2⟩:=key _ _ hc;refine .fH fn cs _ (by grind) (fun k x hx=> ?_);obtain⟨y,hy,he⟩:=h2 k x hx;have hy':caps[k]? =some y:=by grind
  have:(caps.map a.eval).getD k undef=a.eval y:=by
   simp_all
  rw[this];exact aQ (hr y (by grind [Op.operands])) he

end
def Reads(C:Ctx)(es:List AV)(a:Option Addr):Prop:=
 es=[]∨∃b off sz,a=some ⟨b,off,none⟩∧b<C.w.heap.size∧(∀(i:Nat) (e:AV),es[i]? =some e→e.flat.length=sz)∧
  ∀(i j:Nat) (e x:AV),es[i]? =some e→e.flat[j]? =some x→∃v,Holds C.w b (off+i*sz+j) v∧c4 C x v

def AV.elems(H:Heap):AV→Option (List AV)
 |.imm (.slice none 0 0)=>some []
 |.sl es=>some es
 |.clip es=>some es
 |.view id off len=>(H.get id).map fun es=>(es.drop off).take len
 |_=>none

section
variable {P:Program} {W0:bS} {C:Ctx} {fr:Fr} {a:Act} {H:Heap} {o:Oper}

variable {id:Nat}{es:List AV}{i j:Nat}{e:AV}
theorem wK(hI:Inv W0 C)(hid:C.H.get id=some es)(hn:(C.pl id).nil=false){x:AV}(he:es[i]? =some e)(hx:e.flat[j]? =some x):
  ∃v,Holds C.w (C.pl id).de (i*(C.pl id).sz+j) v∧c4 C x v:=by
 have hO:=hI.obj id es hid hn;have hi:i<es.length:=(List.getElem?_eq_some_iff.1 he).1;have hj:j<(C.pl id).sz:=by rw[←hO.flat i e he];grind
 obtain⟨arr,el,harr,hsz⟩:=hO.rows (by omega);have hlt:i*(C.pl id).sz+j<arr.size:=by
  have h1:i+1≤(C.pl id).cap:=by have:=hO.n;have:=hO.cap;omega
  have h2:(i+1)*(C.pl id).sz≤(C.pl id).cap*(C.pl id).sz:=afN _ h1;grind
 have hc:C.w.cell? ⟨(C.pl id).de,i*(C.pl id).sz+j,none⟩=some arr[i*(C.pl id).sz+j]:=by
  rw[iS harr];grind
 exact⟨_,⟨hc,hO.one _ _ hc⟩,hO.cell i j e x _ he hx hc⟩

theorem zw(hI:Inv W0 C){x:AV}{v:Value}(hr:c4 C x v)(he:x.elems C.H=some es):
  ∃a cap,v=.slice a es.length cap∧es.length≤cap∧Reads C es a:=by
 cases hr <;> simp only[AV.elems] at he <;> try cases he
 case imm h1=>
  split at he
  ·rename_i h;injection h with h;subst h
   simp only[Option.some.injEq] at he;subst he;exact⟨none,0,rfl,afk _,.inl rfl⟩
  ·grind
  ·grind
  ·grind
  grind
 case slNil a cap=>exact⟨a,cap,rfl,afR _,.inl rfl⟩
 case sl b off sz cap c hb hn hc hf hcell hrec=>
  exact⟨_,cap,rfl,hc,.inr ⟨b,off,sz,rfl,hb,hf,fun i j e x h1 h2=>⟨c i j,hcell i j e x h1 h2,hrec i j e x h1 h2⟩⟩⟩
 case clipNil a=>exact⟨a,0,rfl,afR _,.inl rfl⟩
 case clip b off sz c hb hn hf hcell hrec=>
  exact⟨_,_,rfl,afk _,.inr ⟨b,off,sz,rfl,hb,hf,fun i j e x h1 h2=>⟨c i j,hcell i j e x h1 h2,hrec i j e x h1 h2⟩⟩⟩
 case view=>
  rename_i id off len hid hs h1;obtain⟨Hj,h0,rfl⟩:=Option.map_eq_some_iff.1 he;have:=hs Hj h0;unfold jl at this;split at this
  ·obtain⟨rfl,rfl,a,rfl⟩:=this
   exact⟨a,0,by simp,by simp,.inl (by simp)⟩
  ·have hnil':(C.pl id).nil=false:=by grind
   obtain⟨a,cap,rfl,h2,h3,h4,h5⟩:=this;have hO:=hI.obj id Hj h0 hnil';have hlen:((Hj.drop off).take len).length=len:=by have:=hO.n;grind
   refine⟨some a,cap,by rw[hlen],by omega, ?_⟩;rcases h5 with h5|rfl
   ·exact .inl (abS (by omega))
   ·refine .inr ⟨_,_,(C.pl id).sz,rfl,hI.lt h0 hnil',fun i e h6=> ?_,fun i j e x h6 h7=> ?_⟩
    ·rw[acz] at h6
     split at h6
     ·rw[List.getElem?_drop] at h6;exact hO.flat _ e h6
     grind
    grind [wK]

theorem s6(b o n:Nat):(⟨b,o,none⟩:Addr).add n=⟨b,o+n,none⟩:=by
 grind [Addr.add]


def Dw(P:Program)(t:TypeId):Option (Nat×Bool):=
 match P.info? t,P.underlying t with
 |some i,some d=>some (i.size,match d with|.struct _|.array _ _=>true|_=>false)
 |_,_=>none

def oK(P:Program)(t:TypeId):Option (TypeId×Nat×Nat):=
 match P.underlying t with
 |some (.slice e)=>(P.info? e).map fun i=>(e,i.size,i.bytes)
 |_=>none

def Hi(P:Program)(t:TypeId):Option (Nat×Nat):=
 match P.underlying t with
 |some (.array n e)=>(P.info? e).map fun i=>(n,i.size)
 |_=>none

def MB(P:Program)(t:TypeId)(f:Nat):Option (Nat×Nat×Bool):=
 match P.underlying t with
 |some (.struct fs)=>match(fs[f]? :Option Field) with
  |some fd=>(Dw P fd.type).map fun(n,g)=>(fd.offset,n,g)
  |none=>none
 |_=>none

def oL(P:Program)(t:TypeId):Option Value:=(P.info? t).bind (·.zero)

def qF(cs:List AV)(off n:Nat)(ag:Bool):Option AV:=
 if ag then(if off+n≤cs.length then some (.agg ((cs.drop off).take n)) else none) else cs[off]?

variable {t:TypeId}{n:Nat}{g:Bool}
theorem AE(h:Dw P t=some (n,g))(w:World):(sizeOf t).run P w=.ok n w∧(isAgg t).run P w=.ok g w:=by
 unfold Dw at h;split at h
 ·rename_i i d hi hd
  simp only[Option.some.injEq,Prod.mk.injEq] at h;obtain⟨h1,h2⟩:=h;refine⟨by simp[sizeOf,typeInfo,hi,h1], ?_⟩;simp only[isAgg,Sem.run_bind,run_underlying hd,Result.andThen_ok];subst h2;cases d <;> rfl
 ·cases h

theorem lF{e:TypeId}{m:Nat}(h:oK P t=some (e,n,m)):P.underlying t=some (.slice e)∧∃i,P.info? e=some i∧i.size=n∧i.bytes=m:=by
 unfold oK at h;split at h
 ·obtain⟨i,hi,h2⟩:=Option.map_eq_some_iff.1 h
  grind
 ·cases h

theorem Yq{m:Nat}(h:Hi P t=some (n,m)):∃e i,P.underlying t=some (.array n e)∧P.info? e=some i∧i.size=m:=by
 unfold Hi at h;split at h
 ·obtain⟨i,hi,h2⟩:=Option.map_eq_some_iff.1 h
  grind
 ·cases h

variable {off:Nat}
theorem QH{f:Nat}(h:MB P t f=some (off,n,g)):∃fs fd,P.underlying t=some (.struct fs)∧fs[f]? =some fd∧fd.offset=off∧Dw P fd.type=some (n,g):=by
 unfold MB at h;split at h
 ·split at h
  ·obtain⟨⟨n',g'⟩,h1,h2⟩:=Option.map_eq_some_iff.1 h
   grind
  ·cases h
 ·cases h

def AU(C:Ctx)(b off:Nat)(cs:List AV):Prop:=∀(k:Nat) (x:AV),cs[k]? =some x→∃v,Holds C.w b (off+k) v∧c4 C x v

variable {b:Nat}{cs:List AV}
theorem AU.choose(h:AU C b off cs):∃vs:List Value,vs.length=cs.length∧(∀(k:Nat) (v:Value),vs[k]? =some v→Holds C.w b (off+k) v)∧∀(k:Nat) (x:AV),cs[k]? =some x→∃v,vs[k]? =some v∧c4 C x v:=by
 induction cs generalizing off with
 |nil=>simp_all
 |cons c cs ih=>
  obtain⟨v,h1,h2⟩:=h 0 c rfl;obtain⟨vs,l1,l2,l3⟩:=ih (off:=off+1) (fun k x hk=>by
   have:=h (k+1) x (by grind);grind)
  refine⟨v::vs,by simp[l1],fun k u hk=> ?_,fun k x hk=> ?_⟩
  ·grind
  grind

theorem TW{vs:List Value}(hl:vs.length=cs.length)(h1:∀(k:Nat) (v:Value),vs[k]? =some v→v.oneCell'=true)(h2:∀(k:Nat) (x:AV),cs[k]? =some x→∃v,vs[k]? =some v∧c4 C x v):c4 C (.agg cs) (.agg vs.toArray):=by
 refine .agg cs _ (by omega) (fun k v h=>h1 k v (by grind)) (fun k x h=> ?_);obtain⟨v,h3,h4⟩:=h2 k x h;simp_all

theorem Mh{o:Nat}{v:Value}(w:World)(h:Holds w b o v):(load ⟨b,o,none⟩).run P w=.ok v w:=by
 rw[run_load,h.1]

variable {r:AV}
theorem qI(ht:Dw P t=some (n,g))(hc:AU C b off cs)(hr:qF cs 0 n g=some r):
  ∃v,(loadVar t ⟨b,off,none⟩).run P C.w=.ok v C.w∧c4 C r v:=by
 obtain⟨h1,h2⟩:=AE ht C.w
 unfold qF at hr
 cases g
 ·obtain⟨v,h3,h4⟩:=hc 0 r hr
  refine⟨v, ?_,h4⟩
  simp only[loadVar,Sem.run_bind,h2,Result.andThen_ok,afT,if_false]
  exact Mh C.w h3
 ·simp only[if_true,afQ,List.drop_zero] at hr
  split at hr
  ·simp only[Option.some.injEq] at hr;subst hr
   have hc':AU C b off (cs.take n):=fun k x hk=>by
    rw[acz] at hk
    split at hk
    ·exact hc k x hk
    grind
   obtain⟨vs,l1,l2,l3⟩:=hc'.choose
   have hn:vs.length=n:=by grind
   have hrun:=run_loadCells_list (P:=P) C.w ⟨b,off,none⟩ vs (fun j v hj=>by rw[s6];exact(l2 j v hj).1)
   refine⟨.agg vs.toArray, ?_,TW l1 (fun k v hk=>(l2 k v hk).2) l3⟩
   simp_all [loadVar]
  grind


theorem mO{x:Operand}{fl:List AV}(ho:o.op=.load t x)(hx:aD fr x=some (.pp fl j))(ht:Dw P t=some (n,g))(hr:qF fl j n g=some r):b_ P W0 o fr H r H:=
 .cz fun C a _ _ hop=>by
  have h1:=aQ (hop x (by simp[ho,Op.operands])) hx;generalize hu:a.eval x=u at h1;cases h1
  case pp b off c hb hn hcell hrec=>
   have hc:AU C b (off+j) (fl.drop j):=fun k y hk=>by
    grind
   have hr':qF (fl.drop j) 0 n g=some r:=by
    unfold qF at hr ⊢;grind
   obtain⟨v,h2,h3⟩:=qI ht hc hr';simp_all [execOp,Instr.loadAt,Instr.sureAddr]

theorem JQ(hI:Inv W0 C)(hid:C.H.get id=some es)(hn:(C.pl id).nil=false)(he:es[i]? =some e)(j:Nat):
  AU C (C.pl id).de (i*(C.pl id).sz+j) (e.flat.drop j):=fun k y hk=>by
 grind [wK]

theorem L3(h:qF cs j n g=some r):qF (cs.drop j) 0 n g=some r:=by
 unfold qF at h ⊢;grind

theorem cu{x:Operand}(ho:o.op=.load t x)(hx:aD fr x=some (.ref id i j))(hid:H.get id=some es)(he:es[i]? =some e)
  (ht:Dw P t=some (n,g))(hr:qF e.flat j n g=some r):b_ P W0 o fr H r H:=
 .cz fun C a hI hH hop=>by
  subst hH;have h1:=aQ (hop x (by simp[ho,Op.operands])) hx;generalize hu:a.eval x=u at h1;cases h1
  case ref=>
   rename_i h1 h3 h2;obtain⟨hn,rfl⟩:=h2 es hid;obtain⟨v,h4,h5⟩:=qI ht (JQ hI hid hn he j) (L3 hr);simp_all [execOp,Instr.loadAt,Instr.sureAddr]

end
section
variable {P:Program} {W0:bS} {C:Ctx} {fr:Fr} {a:Act} {H:Heap} {o:Oper}

variable {f off:Nat}{g:Bool}
theorem DO{s:TypeId}{n:Nat}(h:MB P s f=some (off,n,g))(hn:0<n)(b p:Nat)(w:World):
  (Instr.fieldAt s (.pointer (some ⟨b,p,none⟩)) f).run P w=.ok (.pointer (some ⟨b,p+off,none⟩)) w:=by
 obtain⟨fs,fd,h1,h2,h3,h4⟩:=QH h;obtain⟨h5,_⟩:=AE h4 w;have hn':n≠0:=by omega
 simp_all [Instr.fieldAt,run_underlying,Instr.sureAddr,fieldPlace,s6]

variable {x:Operand}{fl:List AV}{j:Nat}
theorem rW{s:TypeId}{n:Nat}(ho:o.op=.fieldAddr s x f)(hx:aD fr x=some (.pp fl j))(h:MB P s f=some (off,n,g))(hn:0<n):
  b_ P W0 o fr H (.pp fl (j+off)) H:=
 .cz fun C a _ _ hop=>by
  have h1:=aQ (hop x (by simp[ho,Op.operands])) hx;generalize hu:a.eval x=u at h1;cases h1
  case pp b q c hb hbad hcell hrec=>
   refine⟨_, ?_,.pp fl (j+off) b q c hb hbad hcell hrec⟩;simp only[execOp,ho,hu];rw[Sem.run_bind,DO h hn,←afe];rfl

variable {id:Nat}
theorem Dn{i:Nat}{b q:Nat}{u:Value}(hu:u=.pointer (some ⟨b,q,none⟩))(h:id<C.H.next)(h2:∀es,C.H.get id=some es→(C.pl id).nil=false∧b=(C.pl id).de∧q=i*(C.pl id).sz+j):c4 C (.ref id i j) u:=by
 subst hu;refine .ref id i j _ h (fun es he=> ?_) rfl;grind

variable {es:List AV}
theorem gK{s:TypeId}{n:Nat}{i:Nat}(ho:o.op=.fieldAddr s x f)(hx:aD fr x=some (.ref id i j))(hid:H.get id=some es)(h:MB P s f=some (off,n,g))(hn:0<n):
  b_ P W0 o fr H (.ref id i (j+off)) H:=
 .cz fun C a _ hH hop=>by
  subst hH;have h1:=aQ (hop x (by simp[ho,Op.operands])) hx;generalize hu:a.eval x=u at h1;cases h1
  case ref=>
   rename_i h1 h3 h2;obtain⟨hnil,rfl⟩:=h2 es hid;refine⟨.pointer (some ⟨(C.pl id).de,i*(C.pl id).sz+(j+off),none⟩), ?_,Dn rfl h1 (fun es he=>⟨hnil,rfl,rfl⟩)⟩;simp only[execOp,ho,hu];rw[Sem.run_bind,DO h hn,afe];rfl


variable {s:Nat}{t e:TypeId}{eN:Nat}
theorem E6(h:oK P t=some (e,s,eN))(b p len cap:Nat)(k:IntKind)(n:Nat)(hn:n<len)(w:World):
  (Instr.indexAt t (.slice (some ⟨b,p,none⟩) len cap) (.int k n)).run P w=.ok (.pointer (some ⟨b,p+n*s,none⟩)) w:=by
 obtain⟨hu,i,hi,hs,_⟩:=lF h;simp[Instr.indexAt,asIntOf,run_underlying hu,sizeOf,typeInfo,hi,hs,s6,hn]

variable {len:Nat}
theorem Aq(h:Hi P t=some (len,s))(b p:Nat)(k:IntKind)(n:Nat)(hn:n<len)(w:World):
  (Instr.indexAt t (.pointer (some ⟨b,p,none⟩)) (.int k n)).run P w=.ok (.pointer (some ⟨b,p+n*s,none⟩)) w:=by
 obtain⟨e,i,hu,hi,hs⟩:=Yq h;simp[Instr.indexAt,asIntOf,run_underlying hu,sizeOf,typeInfo,hi,hs,s6,hn,Instr.sureAddr]

variable {n:Int}{i:Operand}{ax:AV}{k:IntKind}{m:Nat}
theorem yX{el:AV}(ho:o.op=.indexAddr t x i)(hx:aD fr x=some ax)(hax:ax=.sl es∨ax=.clip es)(hi:aD fr i=some (.imm (.int k n)))
  (ht:oK P t=some (e,s,eN))(hn:n=m)(hel:es[m]? =some el)(hs:el.flat.length=s):b_ P W0 o fr H (.pp el.flat 0) H:=
 .cz fun C a hI hH hop=>by
  have h1:=aQ (hop x (by simp[ho,Op.operands])) hx;have h2:=bR (v:=.int k n) rfl (aQ (hop i (by simp[ho,Op.operands])) hi);have hlt:=(List.getElem?_eq_some_iff.1 hel).1;generalize hu:a.eval x=u at h1;subst hn;have key:∀b off cap sz (c:Nat→Nat→Value),b<C.w.heap.size→¬C.bad b→(∀(i:Nat) (e:AV),es[i]? =some e→e.flat.length=sz)→
    (∀(i j:Nat) (e x:AV),es[i]? =some e→e.flat[j]? =some x→Holds C.w b (off+i*sz+j) (c i j))→(∀(i j:Nat) (e x:AV),es[i]? =some e→e.flat[j]? =some x→c4 C x (c i j))→
    u=.slice (some ⟨b,off,none⟩) es.length cap→∃v,(execOp a.eval o).run P C.w=.ok (.value v) C.w∧c4 C (.pp el.flat 0) v:=by
   intro b off cap sz c hb hbad hf hcell hrec huv;have hsz:sz=s:=by grind
   subst hsz;refine⟨.pointer (some ⟨b,off+m*sz+0,none⟩), ?_,.pp el.flat 0 b (off+m*sz) (c m) hb hbad (fun j y hy=>hcell m j el y hel hy) (fun j y hy=>hrec m j el y hel hy)⟩;simp only[execOp,ho,hu,h2,huv];rw[Sem.run_bind,E6 ht b off es.length cap k m hlt];rfl
  rcases hax with rfl|rfl
  ·cases h1
   case slNil=>grind
   case sl b off sz cap c hb hbad hc hf hcell hrec=>exact key b off cap sz c hb hbad hf hcell hrec rfl
  ·cases h1
   case clipNil=>grind
   case clip b off sz c hb hbad hf hcell hrec=>exact key b off _ sz c hb hbad hf hcell hrec rfl

theorem D9{el:AV}(ho:o.op=.indexAddr t x i)(hx:aD fr x=some (.view id off len))(hid:H.get id=some es)(hi:aD fr i=some (.imm (.int k n)))
  (ht:oK P t=some (e,s,eN))(hn:n=m)(hm:m<len)(hel:es[off+m]? =some el)(hs:el.flat.length=s):b_ P W0 o fr H (.ref id (off+m) 0) H:=
 .cz fun C a hI hH hop=>by
  subst hH;have h1:=aQ (hop x (by simp[ho,Op.operands])) hx;have h2:=bR (v:=.int k n) rfl (aQ (hop i (by simp[ho,Op.operands])) hi);generalize hu:a.eval x=u at h1;subst hn;cases h1
  case view=>
   rename_i hid' h3 h4;have h5:=h4 es hid;unfold jl at h5;split at h5
   ·omega
   ·have hnil':(C.pl id).nil=false:=by grind
    obtain⟨ad,cap,rfl,h6,h7,h8,h9⟩:=h5;rcases h9 with h9|rfl
    ·omega
    ·have hsz:(C.pl id).sz=s:=by rw[←(hI.obj id es hid hnil').flat _ el hel];exact hs
     refine⟨.pointer (some ⟨(C.pl id).de,off*(C.pl id).sz+m*s,none⟩), ?_,Dn rfl hid' (fun es he=>⟨hnil',rfl,by grind⟩)⟩;simp only[execOp,ho,hu,h2];rw[Sem.run_bind,E6 ht _ _ len cap k m hm];rfl

theorem Hz{N:Nat}{p:Nat}(ho:o.op=.indexAddr t x i)(hx:aD fr x=some (.ref id p j))(hid:H.get id=some es)(hi:aD fr i=some (.imm (.int k n)))
  (ht:Hi P t=some (N,s))(hn:n=m)(hm:m<N):b_ P W0 o fr H (.ref id p (j+m*s)) H:=
 .cz fun C a hI hH hop=>by
  subst hH
  have h1:=aQ (hop x (by simp[ho,Op.operands])) hx
  have h2:=bR (v:=.int k n) rfl (aQ (hop i (by simp[ho,Op.operands])) hi)
  generalize hu:a.eval x=u at h1
  subst hn
  cases h1
  case ref=>
   rename_i hid' h3 h4
   obtain⟨hnil,rfl⟩:=h4 es hid
   refine⟨.pointer (some ⟨(C.pl id).de,p*(C.pl id).sz+j+m*s,none⟩), ?_,Dn rfl hid' (fun es he=>⟨hnil,rfl,by omega⟩)⟩
   simp only[execOp,ho,hu,h2]
   rw[Sem.run_bind,Aq ht _ _ k m hm]
   rfl

theorem Ot{N:Nat}(ho:o.op=.indexAddr t x i)(hx:aD fr x=some (.pp fl j))(hi:aD fr i=some (.imm (.int k n)))
  (ht:Hi P t=some (N,s))(hn:n=m)(hm:m<N):b_ P W0 o fr H (.pp fl (j+m*s)) H:=
 .cz fun C a _ _ hop=>by
  have h1:=aQ (hop x (by simp[ho,Op.operands])) hx;have h2:=bR (v:=.int k n) rfl (aQ (hop i (by simp[ho,Op.operands])) hi);generalize hu:a.eval x=u at h1;subst hn;cases h1
  case pp b q c hb hbad hcell hrec=>
   refine⟨_, ?_,.pp fl (j+m*s) b q c hb hbad hcell hrec⟩;simp only[execOp,ho,hu,h2];rw[Sem.run_bind,Aq ht _ _ k m hm,←afe];rfl


theorem je{b:Builtin}{args:Array Operand}{tys:Array TypeId}(ho:o.op=.call {callee:=.builtin b,args:=args,argTypes:=tys})(a:Act):
  ∃cs,∀w,(execOp a.eval o).run P w=(builtin b tys o.type cs (args.map a.eval)).run P w:=
 ⟨_,fun w=>by simp only[execOp,ho,resolve,invoke];rfl⟩

theorem Ks(ho:o.op=.call {callee:=.builtin .len,args:= #[x],argTypes:= #[t]})(hx:aD fr x=some ax)(he:ax.elems H=some es)(ht:oK P t=some (e,s,eN)):
  b_ P W0 o fr H (.imm (.int .i64 es.length)) H:=
 .cz fun C a hI hH hop=>by
  subst hH;obtain⟨ad,cap,h1,_,_⟩:=zw hI (aQ (hop x (by simp[ho,Op.operands,Call.operands])) hx) he;obtain⟨hu,_⟩:=lF ht;refine⟨.int .i64 es.length, ?_,.imm _ rfl⟩;obtain⟨cs,hb⟩:=je (P:=P) ho a;simp_all [builtin,Builtin.len_,run_underlying,goInt]

theorem og{i:Nat}(ho:o.op=.nilCheck x)(hx:aD fr x=some (.ref id i j))(hid:H.get id=some es):b_ P W0 o fr H (.ref id i j) H:=
 .cz fun C a _ hH hop=>by
  have h1:=aQ (hop x (by simp[ho,Op.operands])) hx;have h0:=h1;cases h1;simp_all [execOp]

theorem Ke(ho:o.op=.nilCheck x)(hx:aD fr x=some (.pp fl j)):b_ P W0 o fr H (.pp fl j) H:=
 .cz fun C a _ hH hop=>by
  have h1:=aQ (hop x (by simp[ho,Op.operands])) hx;have h0:=h1;generalize hu:a.eval x=u at h1 h0;cases h1;simp_all [execOp]


def fW(fr:Fr)(x:Option Operand)(d:Nat):Option Nat:=
 match x with
 |none=>some d
 |some x=>match aD fr x with
  |some (.imm (.int _ n))=>if 0≤n then some n.toNat else none
  |_=>none

theorem uu{y:Nat}{code:BoundsCode}(h:fW fr (some x) 0=some m)(hr:yV C fr a x)(hm:m≤y)(w:World):(Instr.sliceBound (a.eval x) y code).run P w=.ok m w:=by
 simp only[fW] at h;split at h
 ·rename_i k n he
  split at h
  ·simp only[Option.some.injEq] at h;subst h
   have h1:=bR (v:=.int k n) rfl (aQ hr he);simp_all [Instr.sliceBound,asIntOf]
  ·cases h
 ·cases h

variable {lo hi mx:Option Operand}{l h:Nat}
theorem F0{cap:Nat}(hl:fW fr lo 0=some l)(hh:fW fr hi len=some h)(hm:fW fr mx cap=some m)(hmx:mx.isSome=true→hi.isSome=true)
  (h1:l≤h)(h2:h≤m)(h3:m≤cap)(rl:∀x,lo=some x→yV C fr a x)(rh:∀x,hi=some x→yV C fr a x)(rm:∀x,mx=some x→yV C fr a x)(w:World):
  (Instr.sliceBounds true len cap (lo.map a.eval) (hi.map a.eval) (mx.map a.eval)).run P w=.ok (l,h,m) w:=by
 have e1:∀(code:BoundsCode) x,lo=some x→(Instr.sliceBound (a.eval x) h code).run P w=.ok l w:=fun code x hx=>by
  subst hx;exact uu hl (rl x rfl) h1 w
 have e2:∀(y:Nat) (code:BoundsCode) x,h≤y→hi=some x→(Instr.sliceBound (a.eval x) y code).run P w=.ok h w:=fun y code x hy hx=>by
  subst hx;exact uu (by assumption) (rh x rfl) hy w
 have e3:∀(code:BoundsCode) x,mx=some x→(Instr.sliceBound (a.eval x) cap code).run P w=.ok m w:=fun code x hx=>by
  subst hx;exact uu (by assumption) (rm x rfl) h3 w
 cases mx with
 |none=>
  simp only[fW,Option.some.injEq] at hm;cases hi with
  |none=>
   simp only[fW,Option.some.injEq] at hh;cases lo with
   |none=>simp_all [fW,Instr.sliceBounds]
   |some x=>simp_all [Instr.sliceBounds]
  |some y=>
   cases lo with
   |none=>simp_all [fW,Instr.sliceBounds]
   |some x=>simp_all [Instr.sliceBounds]
 |some z=>
  cases hi with
  |none=>grind
  |some y=>
   cases lo with
   |none=>simp_all [fW,Instr.sliceBounds]
   |some x=>simp_all [Instr.sliceBounds]

theorem ir(ht:oK P t=some (e,s,eN)){ad:Option Addr}{cap:Nat}(ho:o.op=.slice t x lo hi mx)(hu:a.eval x=.slice ad len cap)
  (hl:fW fr lo 0=some l)(hh:fW fr hi len=some h)(hm:fW fr mx cap=some m)(hmx:mx.isSome=true→hi.isSome=true)
  (h1:l≤h)(h2:h≤m)(h3:m≤cap)(hop:∀x∈o.op.operands,yV C fr a x)(w:World):
  (execOp a.eval o).run P w=.ok (.value (.slice (if m=l then ad else ad.map (·.add (l*s))) (h - l) (m - l))) w:=by
 obtain⟨hty,i,hi',hs,_⟩:=lF ht;have hb:=F0 (P:=P) (a:=a) hl hh hm hmx h1 h2 h3 (fun y hy=>hop y (by grind [Op.operands])) (fun y hy=>hop y (by grind [Op.operands])) (fun y hy=>hop y (by grind [Op.operands])) w;simp_all [execOp,Instr.sliceAt,run_underlying,Instr.slice,sizeOf,typeInfo]

theorem Px{b sz:Nat}{c:Nat→Nat→Value}(hb:b<C.w.heap.size)(hbad:¬C.bad b)(hf:∀(i:Nat) (e:AV),es[i]? =some e→e.flat.length=sz)
  (hcell:∀(i j:Nat) (e x:AV),es[i]? =some e→e.flat[j]? =some x→Holds C.w b (off+i*sz+j) (c i j))(hrec:∀(i j:Nat) (e x:AV),es[i]? =some e→e.flat[j]? =some x→c4 C x (c i j))
  (h1:l≤h)(h2:h≤es.length)(cap:Nat)(hc:h≤cap)(hs:∀e∈es,e.flat.length=s):
  c4 C (.sl ((es.drop l).take (h - l))) (.slice (if cap=l then some ⟨b,off,none⟩ else(some (⟨b,off,none⟩:Addr)).map (·.add (l*s))) (h - l) (cap - l)):=by
 have hlen:((es.drop l).take (h - l)).length=h - l:=by grind
 by_cases h0:h - l=0
 ·have:(es.drop l).take (h - l)=[]:=abS (by omega)
  rw[this,h0];exact .slNil _ _
 ·have hsz:sz=s:=by
   have hlt:l<es.length:=by omega
   rw[←hf l _ (ab9 hlt)];grind
  have get:∀(i:Nat) (e:AV),((es.drop l).take (h - l))[i]? =some e→es[l+i]? =some e:=fun i e he=>by
   grind
  have:=c4.sl (C:=C) ((es.drop l).take (h - l)) b (off+l*sz) sz (cap - l) (fun i j=>c (l+i) j) hb hbad (by omega) (fun i e he=>hf _ e (get i e he))
   (fun i j e x he hx=>by grind) (fun i j e x he hx=>hrec (l+i) j e x (get i e he) hx)
  grind [s6]

theorem HA(ho:o.op=.slice t x lo hi none)(hx:aD fr x=some ax)(hax:ax=.sl es∨ax=.clip es)(ht:oK P t=some (e,s,eN))
  (hl:fW fr lo 0=some l)(hh:fW fr hi es.length=some h)(h1:l≤h)(h2:h≤es.length)(hs:∀e∈es,e.flat.length=s):b_ P W0 o fr H (.sl ((es.drop l).take (h - l))) H:=
 .cz fun C a hI hH hop=>by
  have hr:=aQ (hop x (by simp[ho,Op.operands])) hx
  generalize hu:a.eval x=u at hr
  have nilcase:es=[]→∀ad cap,u=.slice ad 0 cap→∃v,(execOp a.eval o).run P C.w=.ok (.value v) C.w∧c4 C (.sl ((es.drop l).take (h - l))) v:=by
   rintro rfl ad cap rfl
   have hz:l=0∧h=0:=by grind
   obtain⟨rfl,rfl⟩:=hz
   refine⟨_,ir (C:=C) (m:=cap) ht ho hu hl hh rfl (by simp) (afk _) (afR _) (afk _) hop C.w, ?_⟩
   exact .slNil _ _
  rcases hax with rfl|rfl
  ·cases hr
   case slNil ad cap=>grind
   case sl b off sz cap c hb hbad hc hf hcell hrec=>
    exact⟨_,ir (C:=C) (m:=cap) ht ho hu hl hh rfl (by simp) h1 (by omega) (afk _) hop C.w,Px hb hbad hf hcell hrec h1 h2 cap (by omega) hs⟩
  ·cases hr
   case clipNil ad=>grind
   case clip b off sz c hb hbad hf hcell hrec=>
    exact⟨_,ir (C:=C) (m:=es.length) ht ho hu hl hh rfl (by simp) h1 (by omega) (afk _) hop C.w,Px hb hbad hf hcell hrec h1 h2 es.length (by omega) hs⟩

theorem KS(ho:o.op=.slice t x lo hi mx)(hx:aD fr x=some ax)(hax:ax=.sl es∨ax=.clip es)(ht:oK P t=some (e,s,eN))
  (hl:fW fr lo 0=some l)(hhi:hi.isSome=true)(hmx:mx.isSome=true)(hh:fW fr hi es.length=some h)(hm:fW fr mx es.length=some h)(h1:l≤h)(h2:h≤es.length)(hs:∀e∈es,e.flat.length=s):
  b_ P W0 o fr H (.clip ((es.drop l).take (h - l))) H:=
 .cz fun C a hI hH hop=>by
  have hr:=aQ (hop x (by simp[ho,Op.operands])) hx
  generalize hu:a.eval x=u at hr
  have hm':∀d,fW fr mx d=some h:=fun d=>by cases mx with
   |none=>grind
   |some y=>assumption
  have hlen:((es.drop l).take (h - l)).length=h - l:=by grind
  have nilcase:es=[]→∀ad cap,u=.slice ad 0 cap→∃v,(execOp a.eval o).run P C.w=.ok (.value v) C.w∧c4 C (.clip ((es.drop l).take (h - l))) v:=by
   rintro rfl ad cap rfl
   have hz:l=0∧h=0:=by grind
   obtain⟨rfl,rfl⟩:=hz
   refine⟨_,ir (C:=C) (m:=0) ht ho hu hl hh (hm' _) (fun _=>hhi) (afk _) (afR _) (afR _) hop C.w, ?_⟩
   exact .clipNil _
  have main:∀b off cap sz (c:Nat→Nat→Value),b<C.w.heap.size→¬C.bad b→es.length≤cap→(∀(i:Nat) (e:AV),es[i]? =some e→e.flat.length=sz)→
    (∀(i j:Nat) (e x:AV),es[i]? =some e→e.flat[j]? =some x→Holds C.w b (off+i*sz+j) (c i j))→(∀(i j:Nat) (e x:AV),es[i]? =some e→e.flat[j]? =some x→c4 C x (c i j))→
    u=.slice (some ⟨b,off,none⟩) es.length cap→∃v,(execOp a.eval o).run P C.w=.ok (.value v) C.w∧c4 C (.clip ((es.drop l).take (h - l))) v:=by
   intro b off cap sz c hb hbad hc hf hcell hrec huv
   subst huv
   refine⟨_,ir (C:=C) (m:=h) ht ho hu hl hh (hm' _) (fun _=>hhi) h1 (afk _) (by omega) hop C.w, ?_⟩
   have:=Px (C:=C) hb hbad hf hcell hrec h1 h2 h (afk _) hs
   by_cases h0:h - l=0
   ·have e0:(es.drop l).take (h - l)=[]:=abS (by omega)
    rw[e0,h0];exact .clipNil _
   ·generalize hq:(es.drop l).take (h - l)=q at this hlen ⊢
    rw[←hlen] at this ⊢
    generalize (if h=l then _ else _:Option Addr)=ad at this ⊢
    cases this
    case slNil=>grind
    case sl=>rename_i b' off' sz' c' a5 a4 a3 a2 a1 a0;exact c4.clip q b' off' sz' c' a5 a4 a3 a2 a1
  rcases hax with rfl|rfl
  ·cases hr
   case slNil ad cap=>grind
   case sl b off sz cap c hb hbad hc hf hcell hrec=>exact main b off cap sz c hb hbad hc hf hcell hrec rfl
  ·cases hr
   case clipNil ad=>grind
   case clip b off sz c hb hbad hf hcell hrec=>exact main b off _ sz c hb hbad (afk _) hf hcell hrec rfl

theorem iR(ho:o.op=.slice t x lo hi none)(hx:aD fr x=some (.view id off len))(hid:H.get id=some es)(ht:oK P t=some (e,s,eN))
  (hl:fW fr lo 0=some l)(hh:fW fr hi len=some h)(h1:l≤h)(h2:h≤len)(hs:∀e∈es,e.flat.length=s):b_ P W0 o fr H (.view id (off+l) (h - l)) H:=
 .cz fun C a hI hH hop=>by
  subst hH
  have hr:=aQ (hop x (by simp[ho,Op.operands])) hx
  generalize hu:a.eval x=u at hr
  cases hr
  case view=>
   rename_i hid' h3 h4
   have h5:=h4 es hid
   unfold jl at h5
   split at h5
   ·obtain⟨rfl,rfl,ad,rfl⟩:=h5
    have hz:l=0∧h=0:=by omega
    obtain⟨rfl,rfl⟩:=hz
    refine⟨_,ir (C:=C) (m:=0) ht ho hu hl hh rfl (by simp) (afk _) (afR _) (afk _) hop C.w, ?_⟩
    refine .view id _ _ _ hid' (fun es he=> ?_) rfl
    grind
   ·rename_i hnil
    have hnil':(C.pl id).nil=false:=by grind
    obtain⟨ad,cap,rfl,h6,h7,h8,h9⟩:=h5
    refine⟨_,ir (C:=C) (m:=cap) ht ho hu hl hh rfl (by simp) h1 (by omega) (afk _) hop C.w, ?_⟩
    refine .view id _ _ _ hid' (fun es' he=> ?_) (by rfl)
    unfold jl
    rw[if_neg hnil]
    by_cases hcl:cap=l
    ·rw[if_pos hcl]
     grind
    ·rw[if_neg hcl]
     refine⟨_,cap - l,rfl,by omega,by omega,by omega,.inr ?_⟩
     rcases h9 with h9|rfl
     ·omega
     ·show Addr.add _ (l*s)=_
      rw[s6]
      by_cases X3:l=0
      ·grind
      ·have hlt:0<es.length:=by have:=(hI.obj id es hid hnil').n;omega
       have hsz:(C.pl id).sz=s:=by
        rw[←(hI.obj id es hid hnil').flat 0 _ (ab9 hlt)];grind
       grind

end
section
variable {P:Program} {W0:bS} {C:Ctx} {fr:Fr} {a:Act} {H:Heap} {o:Oper}

theorem b_.VG{H':Heap}
  (h:∀(C:Ctx) (a:Act),Inv W0 C→C.H=H→(∀x∈o.op.operands,yV C fr a x)→
   ∃C',(execOp a.eval o).run P C.w=.ok .skip C'.w∧Ext C C'∧Inv W0 C'∧C'.H=H'):b_ P W0 o fr H .any H':=by
 intro C a hI hH hx K Q hK;obtain⟨C',hr,h1,h2,h3⟩:=h C a hI hH hx;unfold Oper.wp;rw[hr];exact hK undef C' h1 h2 h3 (.any _)

variable {x:AV}{v:Value}
theorem Dl(h:c4 C x v)(h1:v.oneCell'=true):x.flat=[x]:=by
 cases h <;> first|rfl|grind [Value.oneCell']

theorem cells_one(h1:v.oneCell'=true):v.cells= #[v]:=by
 cases v <;> first|rfl|grind [Value.oneCell']

theorem qa(hr:c4 C x v)(hs:x.b6=true):
  v.cells.size=x.flat.length∧(∀(k:Nat) (u:Value),v.cells[k]? =some u→u.oneCell'=true)∧∀(k:Nat) (y:AV),x.flat[k]? =some y→∃u,v.cells[k]? =some u∧c4 C y u:=by
 have one:v.oneCell'=true→v.cells.size=x.flat.length∧(∀(k:Nat) (u:Value),v.cells[k]? =some u→u.oneCell'=true)∧∀(k:Nat) (y:AV),x.flat[k]? =some y→∃u,v.cells[k]? =some u∧c4 C y u:=by
  intro h1
  rw[cells_one h1,Dl hr h1]
  grind
 cases hr
 case any=>cases hs
 case tuple=>cases hs
 case agg cs vs hsz h1 hx=>
  refine⟨hsz,h1,fun k y hk=> ?_⟩
  have hlt:k<vs.size:=by rw[hsz];exact(List.getElem?_eq_some_iff.1 hk).1
  exact⟨_,CV hlt,hx k y hk⟩
 case imm h1=>grind
 case view=>grind
 case ref=>grind
 case mref=>grind
 all_goals exact one rfl

theorem w8{α:Type}(cur vs:List α)(p:Nat)(h:p+vs.length≤cur.length)(k:Nat):
  (cur.take p++vs++cur.drop (p+vs.length))[k]? =if k<p then cur[k]? else if k<p+vs.length then vs[k - p]? else cur[k]? :=by
 grind

variable {t:TypeId}
theorem F1{n:Nat}{g:Bool}(ht:Dw P t=some (n,g)){w:World}{b p:Nat}{arr:Array Value}{el:TypeId}(harr:w.heap[b]? =some (.cells arr el (0,0)))(hn:v.cells.size=n)
  (hp:p+n≤arr.size)(h1:∀(k:Nat) (u:Value),v.cells[k]? =some u→u.oneCell'=true):
  (storeVar t ⟨b,p,none⟩ v).run P w=.ok () (w.setRow b (arr.toList.take p++v.cells.toList++arr.toList.drop (p+n)).toArray):=by
 obtain⟨hs,_⟩:=AE ht w;have:=run_storeCells_at P b p el v.cells.toList 0 arr w harr (by grind) (fun u hu=>by
  grind [ack])
 simp_all [storeVar]

theorem bX{x y:Operand}{id i j n:Nat}{g:Bool}{es:List AV}{e e' ay:AV}(ho:o.op=.store t x y)(hx:aD fr x=some (.ref id i j))(hy:aD fr y=some ay)(hsol:ay.b6=true)
  (hid:H.get id=some es)(he:es[i]? =some e)(ht:Dw P t=some (n,g))(hn:ay.flat.length=n)(hj:j+n≤e.flat.length)(he':e'.flat=e.flat.take j++ay.flat++e.flat.drop (j+n))(Jk:0<n:=by decide):
  b_ P W0 o fr H .any (H.set id (es.set i e')):=
 .VG fun C a hI hH hop=>by
  subst hH
  have hrx:=aQ (hop x (by simp[ho,Op.operands])) hx
  have hry:=aQ (hop y (by simp[ho,Op.operands])) hy
  generalize hux:a.eval x=ux at hrx
  generalize huy:a.eval y=v at hry
  obtain⟨c1,c2,c3⟩:=qa hry hsol
  rw[hn] at c1
  cases hrx
  case ref=>
   rename_i hid' h3 h4
   obtain⟨hnil,rfl⟩:=h4 es hid
   have hO:=hI.obj id es hid hnil
   have hi:i<es.length:=(List.getElem?_eq_some_iff.1 he).1
   have hel:e.flat.length=(C.pl id).sz:=hO.flat i e he
   obtain⟨arr,el,harr,hcap⟩:=hO.rows (by omega)
   have hi1:(i+1)*(C.pl id).sz≤(C.pl id).cap*(C.pl id).sz:=afN _ (by have:=hO.n;have:=hO.cap;omega)
   have hi2:(i+1)*(C.pl id).sz=i*(C.pl id).sz+(C.pl id).sz:=by grind
   have hp:i*(C.pl id).sz+j+n≤arr.size:=by omega
   have hrun:=F1 (P:=P) ht harr c1 hp c2
   have hlen:∀q,(arr.toList.take (i*(C.pl id).sz+j)++v.cells.toList++arr.toList.drop (i*(C.pl id).sz+j+n))[q]? =
     if q<i*(C.pl id).sz+j then arr.toList[q]? else if q<i*(C.pl id).sz+j+n then v.cells.toList[q - (i*(C.pl id).sz+j)]? else arr.toList[q]? :=fun q=>by
    have:=w8 arr.toList v.cells.toList (i*(C.pl id).sz+j) (by grind) q
    grind
   have hfl':e'.flat.length=(C.pl id).sz:=by grind
   have hw:=vQ hI hid hnil harr (arr.toList.take (i*(C.pl id).sz+j)++v.cells.toList++arr.toList.drop (i*(C.pl id).sz+j+n)).toArray (by grind) (es.set i e') (by simp)
    (fun u hu=>by
     obtain⟨q,hq⟩:=af5 hu
     have old:arr.toList[q]? =some u→u.oneCell'=true:=fun h=>hO.one q u (by grind [iS])
     grind)
    (fun i' e2 h2=>by
     by_cases hii:i'=i
     ·grind
     ·rw[acq (Ne.symm hii)] at h2
      exact hO.flat i' e2 h2)
    (fun i' j' e2 x2 u h2 h5 h6=>by
     have old:∀(e0:AV),es[i']? =some e0→e0.flat[j']? =some x2→arr.toList[i'*(C.pl id).sz+j']? =some u→c4 C x2 u:=fun e0 g1 g2 g3=>
      hO.cell i' j' e0 x2 u g1 g2 (by grind [iS])
     by_cases hii:i'=i
     ·subst hii
      rw[List.getElem?_set_self hi] at h2
      cases h2
      rw[he'] at h5
      have h5':=w8 e.flat ay.flat j (by omega) j'
      rw[hn] at h5'
      rw[h5'] at h5
      split at h5
      ·grind
      ·split at h5
       ·grind
       grind
     ·rw[acq (Ne.symm hii)] at h2
      have hj':j'<(C.pl id).sz:=by rw[←hO.flat i' e2 h2];grind
      have hout:i'*(C.pl id).sz+j'<i*(C.pl id).sz+j∨i*(C.pl id).sz+j+n≤i'*(C.pl id).sz+j':=by
       rcases aft i' i with hlt|hge
       ·have:(i'+1)*(C.pl id).sz≤i*(C.pl id).sz:=afN _ hlt
        grind
       ·have:(i+1)*(C.pl id).sz≤i'*(C.pl id).sz:=afN _ (by omega)
        omega
      grind)
   refine⟨_, ?_,hw.1,hw.2,rfl⟩
   simp[execOp,ho,hux,huy,Instr.storeAt,Instr.sureAddr,hrun]
   rfl


theorem O7(hI:Inv W0 C)(hr:c4 C x v)(hs:x.b6=true)(t:TypeId)(sz:Nat)(es:List AV)(hes:(es=[x]∧sz=x.flat.length)∨(x=.agg es∧sz=1))(Kx:sz≠0):
  ∃C',C'.w=C.w.alloc (.cells v.cells t)∧Ext C C'∧Inv W0 C'∧C'.H=C.H.push sz es∧c4 C' (.ref C.H.next 0 0) (.pointer (some ⟨C.w.heap.size,0,none⟩)):=by
 obtain⟨c1,c2,c3⟩:=qa hr hs;have hone:∀u∈v.cells,u.oneCell'=true:=fun u hu=>by
  grind [af5]
 have fin:∀(cap:Nat),(Ext C ((C.uG (C.w.alloc (.cells v.cells t (0,0)))).push ⟨C.w.heap.size,sz,es.length,cap,false⟩ es)∧Inv W0 ((C.uG (C.w.alloc (.cells v.cells t (0,0)))).push ⟨C.w.heap.size,sz,es.length,cap,false⟩ es))→
   ∃C',C'.w=C.w.alloc (.cells v.cells t)∧Ext C C'∧Inv W0 C'∧C'.H=C.H.push sz es∧c4 C' (.ref C.H.next 0 0) (.pointer (some ⟨C.w.heap.size,0,none⟩)):=by
  intro cap h;refine⟨_,rfl,h.1,h.2,rfl,Dn rfl (afv _) (fun es' he=> ?_)⟩;have hp:((C.uG (C.w.alloc (.cells v.cells t (0,0)))).push ⟨C.w.heap.size,sz,es.length,cap,false⟩ es).pl C.H.next=⟨C.w.heap.size,sz,es.length,cap,false⟩:=Ctx.uL (C:=C.uG _) _ _;grind
 rcases hes with⟨rfl,rfl⟩|⟨rfl,rfl⟩
 ·refine fin 1 (Al hI v.cells t [x] x.flat.length 1 (by omega) (by simp) hone (fun i e he=> ?_) (fun i j e y u he hy hu=> ?_) Kx)
  ·grind
  grind
 ·have hfl:∀(i:Nat) (e:AV),es[i]? =some e→e.flat=[e]:=fun i e he=>by
   obtain⟨u,g1,g2⟩:=c3 i e he;grind [Dl]
  refine fin es.length (Al hI v.cells t es 1 es.length (by rw[c1];simp[AV.flat]) (afk _) hone (fun i e he=>by grind) (fun i j e y u he hy hu=> ?_) Kx);rw[hfl i e he] at hy;cases j with
  |zero=>
   obtain⟨u',g1,g2⟩:=c3 i e he;grind
  |succ j=>simp at hy

theorem Oq{x:Operand}{ax:AV}(sz:Nat)(es:List AV)(ho:o.op=.box t x)(hx:aD fr x=some ax)(hs:ax.b6=true)(hes:(es=[ax]∧sz=ax.flat.length)∨(ax=.agg es∧sz=1))(Kx:sz≠0:=by decide):b_ P W0 o fr H (.ref H.next 0 0) (H.push sz es):=
 .of_run fun C a hI hH hop=>by
  subst hH;have hr:=aQ (hop x (by simp[ho,Op.operands])) hx;obtain⟨C',h1,h2,h3,h4,h5⟩:=O7 hI hr hs t sz es hes Kx;refine⟨_,C', ?_,h2,h3,h4,h5⟩;simp[execOp,ho,Instr.box,newVar,newRow,h1]

theorem f_{z:Value}(sz:Nat)(es:List AV)(ho:o.op=.alloc t)(hz:oL P t=some z)(hk:z.MD=true)(hes:(es=[AV.Ch z]∧sz=(AV.Ch z).flat.length)∨(AV.Ch z=.agg es∧sz=1))(Kx:sz≠0:=by decide):b_ P W0 o fr H (.ref H.next 0 0) (H.push sz es):=
 .of_run fun C a hI hH hop=>by
  subst hH;have hr:c4 C (.Ch z) z:=FH hk;have hs:(AV.Ch z).b6=true:=by cases z <;> rfl
  obtain⟨C',h1,h2,h3,h4,h5⟩:=O7 hI hr hs t sz es hes Kx;refine⟨_,C', ?_,h2,h3,h4,h5⟩;unfold oL at hz;cases hi:P.info? t with
  |none=>grind
  |some i=>
   simp_all [execOp,Instr.alloc,zeroValue,typeInfo,newVar,newRow]

end
section
variable {P:Program} {W0:bS} {C:Ctx} {fr:Fr} {a:Act} {H:Heap} {o:Oper}

theorem Nz(vs:List Value)(off:Nat):∀(k:Nat) (cells:Array Value),
  ((vs.zipIdx k).foldl (fun(cs:Array Value) (p:Value×Nat)=>cs.setIfInBounds (off+p.2) p.1) cells).size=cells.size∧
  ∀q,(off+k+vs.length≤cells.size)→((vs.zipIdx k).foldl (fun(cs:Array Value) (p:Value×Nat)=>cs.setIfInBounds (off+p.2) p.1) cells)[q]? =
   if off+k≤q∧q<off+k+vs.length then vs[q - (off+k)]? else cells[q]? :=by
 induction vs with
 |nil=>simp_all [if_neg]
 |cons v vs ih=>
  simp only[aeX,List.foldl_cons];grind

theorem QJ(size:Nat):∀(vs:List Value) (k:Nat) (cells:Array Value),(∀v∈vs,v.cells.size=size)→(k+vs.length)*size≤cells.size→
  ∃cells',Instr.fill (fun i=>some (i*size,size)) cells ((vs.zipIdx k).map fun p=>(p.2,p.1))=some cells'∧cells'.size=cells.size∧(∀q,q<k*size→cells'[q]? =cells[q]?)∧
   ∀(i:Nat) (v:Value),vs[i]? =some v→∀j,j<size→cells'[(k+i)*size+j]? =v.cells[j]? :=by
 intro vs
 induction vs with
 |nil=>intro k cells _ _;exact⟨cells,rfl,rfl,fun _ _=>rfl,fun i v h=>by simp at h⟩
 |cons v vs ih=>
  intro k cells hv hsz;have hvs:v.cells.size=size:=hv v (by simp);have e1:(k+(vs.length+1))*size=k*size+(vs.length*size+size):=by grind
  have e2:(k+1+vs.length)*size=k*size+(vs.length*size+size):=by grind
  simp only[acN] at hsz;obtain⟨g1,g2⟩:=Nz v.cells.toList (k*size) 0 cells;have hg:v.cells.zipIdx.foldl (fun cs (p:Value×Nat)=>cs.setIfInBounds (k*size+p.2) p.1) cells=(v.cells.toList.zipIdx 0).foldl (fun cs (p:Value×Nat)=>cs.setIfInBounds (k*size+p.2) p.1) cells:=by
   rw[←af2];simp
  have hl:v.cells.toList.length=size:=by omega
  have g3:=fun q=>g2 q (by omega);obtain⟨cells',f1,f2,f3,f4⟩:=ih (k+1) ((v.cells.toList.zipIdx 0).foldl (fun cs (p:Value×Nat)=>cs.setIfInBounds (k*size+p.2) p.1) cells) (fun u hu=>hv u (by simp[hu])) (by omega);have e3:(k+1)*size=k*size+size:=by grind
  refine⟨cells', ?_,by omega,fun q hq=> ?_,fun i u hu j hj=> ?_⟩
  ·simp only[aeX,ac7,Instr.fill]
   grind
  ·grind
  ·cases i with
   |zero=>
    simp_all
   |succ i=>
    grind

theorem Ce(xo:List Operand):∀(xs:List AV),xo.mapM (aD fr)=some xs→xs.length=xo.length∧∀(k:Nat) (x:AV),xs[k]? =some x→∃y,xo[k]? =some y∧aD fr y=some x:=by
 induction xo with
 |nil=>grind
 |cons y l ih=>
  intro xs h;rw[acT] at h;simp only[aeY,ae1,afd,Option.some.injEq] at h;grind

theorem ZS(hI:Inv W0 C)(es:List AV)(arr:Array Value)(el:TypeId)(sz:Nat)(hone:∀v∈arr,v.oneCell'=true)(hfl:∀(i:Nat) (e:AV),es[i]? =some e→e.flat.length=sz)
  (hcell:∀(i j:Nat) (e x:AV),es[i]? =some e→e.flat[j]? =some x→∃v,arr[i*sz+j]? =some v∧c4 C x v):
  Ext C (C.uG (C.w.alloc (.cells arr el)))∧Inv W0 (C.uG (C.w.alloc (.cells arr el)))∧c4 (C.uG (C.w.alloc (.cells arr el))) (.clip es) (.slice (some ⟨C.w.heap.size,0,none⟩) es.length es.length):=by
 have hb:=xE C.w (.cells arr el)
 have hE:Ext C (C.uG (C.w.alloc (.cells arr el))):=dh hb
 refine⟨hE,hI.uG hb, ?_⟩
 refine .clip es C.w.heap.size 0 sz (fun i j=>arr.getD (i*sz+j) undef) (by show _<(C.w.alloc _).heap.size;simp_all) ?_ hfl (fun i j e x h1 h2=> ?_) (fun i j e x h1 h2=> ?_)
 ·rintro(ho|hp)
  ·exact afr _ (hI.G0 ho)
  ·exact afr _ (hI.dU _ hp)
 ·obtain⟨v,g1,g2⟩:=hcell i j e x h1 h2
  have hv:arr.getD (i*sz+j) undef=v:=by simp_all
  refine⟨?_,by grind⟩
  show(C.w.alloc _).cell? _=_
  simp_all
 ·obtain⟨v,g1,g2⟩:=hcell i j e x h1 h2
  have hv:arr.getD (i*sz+j) undef=v:=by simp_all
  rw[hv];exact g2.ext hE

theorem gA{t e:TypeId}{s eN len:Nat}{parts:Array (Nat×Operand)}{xo:List Operand}{xs:List AV}(ho:o.op=.buildSlice t len parts)(hp:parts.toList=xo.zipIdx.map fun p=>(p.2,p.1))(hlen:len=xo.length)
  (hxs:xo.mapM (aD fr)=some xs)(hsol:∀x∈xs,x.b6=true)(hfl:∀x∈xs,x.flat.length=s)(ht:oK P t=some (e,s,eN))(hz:(oL P e).isSome=true)(hsmall:len*s≤16777216):
  b_ P W0 o fr H (.clip xs) H:=
 .of_run fun C a hI hH hop=>by
  obtain⟨hu,i,hi,hs,_⟩:=lF ht;unfold oL at hz;rw[hi] at hz;obtain⟨z,hz⟩:=Option.isSome_iff_exists.1 hz;simp only[Option.bind_some] at hz;obtain⟨m1,m2⟩:=Ce xo xs hxs;have hops:o.op.operands=(parts.toList.map (·.2)).toArray:=by simp[ho,Op.operands]
  have hrep:∀(k:Nat) (x:AV),xs[k]? =some x→∃y,xo[k]? =some y∧c4 C x (a.eval y):=fun k x hk=>by
   obtain⟨y,g1,g2⟩:=m2 k x hk;refine⟨y,g1,aQ (hop y ?_) g2⟩;rw[hops,hp];simp only[List.mem_toArray,adQ,List.mem_map];exact⟨(y,k),by grind,rfl⟩
  let vs:=xo.map a.eval
  have hv1:∀v∈vs,v.cells.size=s:=fun v hv=>by
   obtain⟨k,hk⟩:=ack hv;have hlt:k<xs.length:=by grind
   obtain⟨y',g2,g3⟩:=hrep k _ (ab9 hlt);grind [qa,acI]
  obtain⟨cells',f1,f2,f3,f4⟩:=QJ s vs 0 ((af9 (len*s)).map (fun q=>((if len*s=0 then #[] else z.cells:Array Value))[q % (if len*s=0 then #[] else z.cells:Array Value).size]!)) hv1
   (by grind)
  have hcells:cells'.size=len*s:=by grind
  have hget:∀(k j:Nat) (x y:AV),xs[k]? =some x→x.flat[j]? =some y→∃v,cells'[k*s+j]? =some v∧c4 C y v:=fun k j x y hk hj=>by
   obtain⟨yo,g1,g2⟩:=hrep k x hk;have hm:=ad7 hk;obtain⟨c1,c2,c3⟩:=qa g2 (hsol x hm);have hjs:j<s:=by grind
   have:=f4 k (a.eval yo) (by grind) j hjs;grind
  have hone:∀u∈cells',u.oneCell'=true:=fun u hu=>by
   obtain⟨q,hq⟩:=af5 hu;have hqlt:q<len*s:=by grind
   have Jl:0<s:=by
    grind
   have hk:q / s<len:=Nat.div_lt_of_lt_mul (by grind);have hkx:q / s<xs.length:=by omega
   obtain⟨yo,g1,g2⟩:=hrep (q / s) _ (ab9 hkx);obtain⟨c1,c2,c3⟩:=qa g2 (hsol _ (acI hkx));have:=f4 (q / s) (a.eval yo) (by grind) (q % s) (afw _ Jl);rw[afQ,show q / s*s+q % s=q by grind [Nat.div_add_mod],hq] at this;grind
  obtain⟨h1,h2,h3⟩:=ZS hI xs cells' e s hone (fun k x hk=>hfl x (ad7 hk)) hget;refine⟨_,_, ?_,h1,h2,hH,h3⟩;have hmap:(parts.toList.map fun(p:Nat×Operand)=>(p.1,a.eval p.2))=(vs.zipIdx 0).map fun p=>(p.2,p.1):=by
   rw[hp];simp only[vs,List.zipIdx_map,adQ];rfl
  have hlit:¬(16777216<len*s):=by omega
  have hrun:(Instr.buildSlice t len (parts.map fun(p:Nat×Operand)=>(p.1,a.eval p.2))).run P C.w=.ok (.slice (some ⟨C.w.heap.size,0,none⟩) len len) (C.w.alloc (.cells cells' e)):=by
   by_cases h0:len*s=0
   ·have f1':Instr.fill (fun i=>some (i*s,s)) #[] ((vs.zipIdx 0).map fun p=>(p.2,p.1))=some cells':=by
     grind
    have e1:∀g:Nat→Value,Array.map g (af9 0)= #[]:=fun g=>Array.eq_empty_of_size_eq_zero (by simp);simp[Instr.buildSlice,run_underlying hu,sizeOf,typeInfo,hi,hs,h0,hmap,e1,f1',newRow]
   ·simp only[h0,if_false] at f1
    simp[Instr.buildSlice,run_underlying hu,sizeOf,typeInfo,hi,hs,hz,h0,hlit,hmap,f1,newRow,zeroValue]
  have Zj:xs.length=len:=by omega
  rw[Zj];simp only[execOp,ho];rw[Sem.run_bind,hrun];rfl

end
section
variable {P:Program} {W0:bS} {C:Ctx} {fr:Fr} {a:Act} {H:Heap} {o:Oper}

theorem Gl(z:Array Value)(n k:Nat)(h:k<n)(hz:0<z.size):(madeCells z n)[k]? =z[k % z.size]? :=by
 grind [afw,madeCells]

variable {t e:TypeId}{s eN:Nat}{x y:Operand}{z:Value}
theorem F4{kl kc:IntKind}{nl nc:Int}{m c:Nat}(ho:o.op=.makeSlice t x y)(hx:aD fr x=some (.imm (.int kl nl)))(hy:aD fr y=some (.imm (.int kc nc)))
  (hl:nl=m)(hc:nc=c)(hmc:m≤c)(ht:oK P t=some (e,s,eN))(hb:eN*c≤140737488355328)(h62:c≤4611686018427387904)(hz:oL P e=some z)(hk:z.MD=true)(hs:(AV.Ch z).flat.length=s)(Kx:s≠0:=by decide):
  b_ P W0 o fr H (.view H.next 0 m) (H.push s (aeR m (.Ch z))):=
 .of_run fun C a hI hH hop=>by
  subst hH hl hc;obtain⟨hu,i,hi,his,hib⟩:=lF ht;unfold oL at hz;rw[hi] at hz;have e1:=bR (v:=.int kl m) rfl (aQ (hop x (by simp[ho,Op.operands])) hx);have e2:=bR (v:=.int kc c) rfl (aQ (hop y (by simp[ho,Op.operands])) hy);have hbc:(i.bytes:Int)*(c:Int)≤281474976710656:=by
   grind
  have hrun:=run_make (P:=P) C.w t e i z hu hi hz kl kc m c (by omega) (by omega) hbc (by omega);obtain⟨c1,c2,c3⟩:=qa (FH (C:=C) hk) (by cases z <;> rfl);have hsize:(madeCells z.cells (c*i.size)).size=c*s:=by grind [size_madeCells]
  have key:∀k j,j<s→(k*s+j) % s=j:=fun k j hj=>by grind [Nat.mul_comm,Nat.mul_add_mod,Nat.mod_eq_of_lt]
  have hn:=Al hI (madeCells z.cells (c*i.size)) e (aeR m (.Ch z)) s c (by omega) (by grind)
   (fun u hu=>by
    grind [af5,Gl])
   (fun k e' he=>by
    grind)
   (fun k j e' x' v he hx' hv=>by
    have hj:j<s:=by grind
    have hkm:k<m:=by grind
    have hlt:k*s+j<c*s:=by
     grind
    grind [Gl]) Kx
  refine⟨.slice (some ⟨C.w.heap.size,0,none⟩) m c,_, ?_,hn.1,hn.2,rfl, ?_⟩
  ·simp only[execOp,ho,e1,e2]
   rw[Sem.run_bind,hrun];rfl
  ·refine .view _ 0 m _ (afv _) (fun es he=> ?_) rfl
   have hp:((C.uG (C.w.alloc (.cells (madeCells z.cells (c*i.size)) e (0,0)))).push ⟨C.w.heap.size,s,(aeR m (AV.Ch z)).length,c,false⟩ (aeR m (AV.Ch z))).pl C.H.next=⟨C.w.heap.size,s,(aeR m (AV.Ch z)).length,c,false⟩:=Ctx.uL (C:=C.uG _) _ _;unfold jl;grind

variable {es:List AV}{off:Nat}
theorem tG{p:Place}{len:Nat}{v:Value}(hp:jl p off len v)(h1:v.oneCell'=true):c4 (C.push p es) (.view C.H.next off len) v:=by
 refine .view _ off len v (afv _) (fun es' _=> ?_) h1;grind [Ctx.uL]

variable {cap:Nat}
theorem zl{p:Place}{len:Nat}{A:Addr}(hn:p.nil=false)(h1:off+len≤p.n)(h2:off+cap≤p.cap)(h3:len≤cap)(h4:cap=0∨A=⟨p.de,off*p.sz,none⟩):jl p off len (.slice (some A) len cap):=by
 unfold jl;grind


theorem JV:∀(es:List AV),(∀e∈es,e.flat.length=s)→∀(i j:Nat) (e:AV),es[i]? =some e→j<s→(es.flatMap AV.flat)[i*s+j]? =e.flat[j]?
 |[],_,i,j,e,h,_=>by simp at h
 |x::es,hf,i,j,e,h,hj=>by
  have hx:=hf x (by simp);simp only[abT];cases i with
  |zero=>
   grind
  |succ i=>
   have hi:es[i]? =some e:=by grind
   rw[aff,afO,abV (by omega),show i*s+s+j - x.flat.length=i*s+j by omega];exact JV es (fun y hy=>hf y (by simp[hy])) i j e hi hj

theorem JW:∀(es:List AV),(∀e∈es,e.flat.length=s)→(es.flatMap AV.flat).length=es.length*s
 |[],_=>by simp
 |x::es,hf=>by
  rw[abT,List.length_append,hf x (by simp),JW es (fun y hy=>hf y (by simp[hy])),acN,aff,afO,Nat.add_comm]

theorem Ln:∀(es:List AV),(∀e∈es,e.flat.length=s)→∀(k:Nat) (x:AV),(es.flatMap AV.flat)[k]? =some x→∃i j e,k=i*s+j∧es[i]? =some e∧e.flat[j]? =some x
 |[],_,k,x,h=>by simp at h
 |y::es,hf,k,x,h=>by
  have hy:=hf y (by simp);rw[abT] at h;by_cases hk:k<s
  ·rw[abU (by omega)] at h
   exact⟨0,k,y,by omega,rfl,h⟩
  ·rw[abV (by omega),hy] at h
   obtain⟨i,j,e,h1,h2,h3⟩:=Ln es (fun z hz=>hf z (by simp[hz])) _ x h;exact⟨i+1,j,e,by grind,by grind,h3⟩

variable {ad:Option Addr}
theorem Reads.cells(h:Reads C es ad)(hne:es≠[])(hf:∀e∈es,e.flat.length=s):
  ∃b off,ad=some ⟨b,off,none⟩∧∃vs:List Value,vs.length=es.length*s∧(∀(k:Nat) (v:Value),vs[k]? =some v→C.w.cell? ((⟨b,off,none⟩:Addr).add k)=some v∧v.oneCell'=true)∧
   ∀(i j:Nat) (e x:AV),es[i]? =some e→e.flat[j]? =some x→∃v,vs[i*s+j]? =some v∧c4 C x v:=by
 rcases h with h|⟨b,off,sz,h1,h2,h3,h4⟩
 ·grind
 ·have hsz:sz=s:=by
   cases es with
   |nil=>grind
   |cons e es=>rw[←h3 0 e rfl];grind
  have hc:AU C b off (es.flatMap AV.flat):=fun k x hk=>by
   obtain⟨i,j,e,rfl,g1,g2⟩:=Ln es hf k x hk
   grind
  obtain⟨vs,l1,l2,l3⟩:=hc.choose
  refine⟨b,off,h1,vs,by grind [JW],fun k v hk=>by rw[s6];exact⟨(l2 k v hk).1,(l2 k v hk).2⟩,fun i j e x he hx=> ?_⟩
  have hj:j<sz:=by grind
  exact l3 _ x (by grind [JV])

theorem Reads.ext{C':Ctx}(h:Reads C es ad)(he:Ext C C')(hw:C'.w=C.w):Reads C' es ad:=by
 rcases h with h|⟨b,off,sz,h1,h2,h3,h4⟩
 ·exact .inl h
 ·exact .inr ⟨b,off,sz,h1,by grind,h3,fun i j e x g1 g2=>by
   obtain⟨v,g3,g4⟩:=h4 i j e x g1 g2;exact⟨v,by grind,g4.ext he⟩⟩

theorem SM{vs us:List Value}{n i j:Nat}(hl:vs.length=n*s)(hj:j<s):(i<n→(vs++us)[i*s+j]? =vs[i*s+j]?)∧(n≤i→(vs++us)[i*s+j]? =us[(i - n)*s+j]?):=by
 refine⟨fun h=> ?_,fun h=> ?_⟩
 ·have:(i+1)*s≤n*s:=afN _ h
  grind
 ·have h1:n*s≤i*s:=afN _ h
  grind [afP]

structure AM (P:Program) (t e:TypeId) (s eN:Nat) (z:Value):Prop where
 el:oK P t=some (e,s,eN)
 zr:oL P e=some z
 zs:z.cells.size=s
 z1:z.cells.all (·.oneCell')=true
 pos:0<s
 akL:0<eN


variable {ys:List AV}
theorem Lv(hI:Inv W0 C)(hT:AM P t e s eN z){vy:List Value}(hfe:∀x∈es,x.flat.length=s)(hfy:∀x∈ys,x.flat.length=s)(ly:vy.length=ys.length*s)(oy:∀u∈vy,u.oneCell'=true)
  (ry:∀(i j:Nat) (e x:AV),ys[i]? =some e→e.flat[j]? =some x→∃v,vy[i*s+j]? =some v∧c4 C x v)
  (ve:List Value)(cap':Nat)(le:ve.length=es.length*s)(oe:∀u∈ve,u.oneCell'=true)(re:∀(i j:Nat) (e x:AV),es[i]? =some e→e.flat[j]? =some x→∃v,ve[i*s+j]? =some v∧c4 C x v)(hcap':es.length+ys.length≤cap'):
  ∃C',C'.w=C.w.drew.alloc (.cells (ve.toArray++vy.toArray++Builtin.zeroCells z.cells (cap' - (es.length+ys.length))) e)∧Ext C C'∧Inv W0 C'∧C'.H=C.H.push s (es++ys)∧
   c4 C' (.view C.H.next 0 (es.length+ys.length)) (.slice (some ⟨C.w.heap.size,0,none⟩) (es.length+ys.length) cap'):=by
 have hD:Below C.w.heap.size C.w C.w.drew:=SQ _
 have I1:=hI.uG hD
 have E1:Ext C (C.uG C.w.drew):=dh hD
 have hsize:(ve.toArray++vy.toArray++Builtin.zeroCells z.cells (cap' - (es.length+ys.length))).size=cap'*s:=by
  simp only[Array.size_append,List.size_toArray,le,ly,size_zeroCells,hT.zs,afP,aff]
  have:(es.length+ys.length)*s≤cap'*s:=afN _ hcap'
  grind
 have hfl:∀(k:Nat) (x:AV),(es++ys)[k]? =some x→x.flat.length=s:=fun k x hk=>by
  grind
 have hn:=Al I1 (ve.toArray++vy.toArray++Builtin.zeroCells z.cells (cap' - (es.length+ys.length))) e (es++ys) s cap' (by omega) (by grind)
  (fun u hu=>by
   rcases Array.mem_append.1 hu with h|h
   ·grind
   ·simp only[Builtin.zeroCells,Array.mem_map] at h
    obtain⟨k,hk,rfl⟩:=h
    have h0:0<z.cells.size:=by grind
    have hlt:k % z.cells.size<z.cells.size:=afw _ h0
    rw[getElem!_pos z.cells _ hlt]
    exact Array.all_eq_true'.1 hT.z1 _ (Array.getElem_mem hlt))
  hfl
  (fun k j x y v h1 h2 h3=>by
   have hj:j<s:=by grind
   have hk:k<es.length+ys.length:=by grind
   have hpos:k*s+j<(ve.toArray++vy.toArray).size:=by
    have:(k+1)*s≤(es.length+ys.length)*s:=afN _ hk
    grind
   rw[Array.getElem?_append_left hpos,List.append_toArray,acB] at h3
   obtain⟨g1,g2⟩:=SM (us:=vy) (i:=k) le hj
   by_cases hlt:k<es.length
   ·rw[g1 hlt] at h3
    rw[abU hlt] at h1
    obtain⟨u,q1,q2⟩:=re k j x y h1 h2
    rw[q1] at h3;cases h3;exact q2.ext E1
   ·rw[g2 (by omega)] at h3
    rw[abV (by omega)] at h1
    obtain⟨u,q1,q2⟩:=ry _ j x y h1 h2
    rw[q1] at h3;cases h3;exact q2.ext E1) (by have:=hT.pos;omega)
 refine⟨_,rfl,E1.trans hn.1,hn.2,rfl,tG (C:=(C.uG C.w.drew).uG _) (zl rfl (by simp) (by simp) hcap' (.inr ?_)) rfl⟩
 rw[Nat.zero_mul];rfl

variable {ty:TypeId}
theorem AW(hI:Inv W0 C)(hT:AM P t e s eN z){bd:Option Addr}{capy:Nat}(hes:Reads C es ad)(hys:Reads C ys bd)
  (hfe:∀x∈es,x.flat.length=s)(hfy:∀x∈ys,x.flat.length=s)(hcap:es.length≤cap)(hno:cap<es.length+ys.length)(hnil:ad=none→cap=0)(hsz:(es.length+ys.length)*eN≤140737488355328):
  ∃v C',(Builtin.append_ #[t,t] ty #[.slice ad es.length cap,.slice bd ys.length capy]).run P C.w=.ok v C'.w∧Ext C C'∧Inv W0 C'∧C'.H=C.H.push s (es++ys)∧c4 C' (.view C.H.next 0 (es.length+ys.length)) v:=by
 obtain⟨hu,i,hi,his,hib⟩:=lF hT.el;have hzr:=hT.zr;unfold oL at hzr;rw[hi] at hzr;have hny:ys≠[]:=by grind
 obtain⟨b,off,rfl,vy,ly,cy,ry⟩:=hys.cells hny hfy;have fin:=fun ve cap' le oe re hcap'=>Lv hI hT (es:=es) hfe hfy ly (fun u hu=>by grind [ack]) ry ve cap' le oe re hcap';have h63:((es.length+ys.length:Nat):Int)≤9223372036854775807:=by
  have:(es.length+ys.length)*1≤(es.length+ys.length)*eN:=Nat.mul_le_mul_left _ hT.akL;omega
 have hfit:=growslice_fits (old:=cap) hno hsz;rw[←hib] at hfit;cases ad with
 |none=>
  have hc0:=hnil rfl;have he0:es=[]:=abS (by omega);subst he0;simp only[acR,afQ] at*;have hr:=run_append_nil (P:=P) C.w t ty e i z hu hi hzr ⟨b,off,none⟩ ys.length capy vy (by grind) (fun j v hj=>(cy j v hj).1) (by omega) (by omega) (by grind);obtain⟨C',w1,w2,w3,w4,w5⟩:=fin [] (grownCap C.w ys.length 0 e) (by simp) (by simp) (fun i j e x h=>by grind) (grownCap_ge _ _ _ _);grind
 |some A=>
  by_cases he0:es=[]
  ·subst he0
   have hr:=run_append_grow (P:=P) C.w t ty e i z hu hi hzr A 0 cap [] (by simp) (fun j v h=>by simp at h) ⟨b,off,none⟩ ys.length capy vy (by grind) (fun j v hj=>(cy j v hj).1) (by omega) (by omega) (by grind);grind [grownCap_ge]
  ·obtain⟨b',off',hA,ve,le,ce,re⟩:=hes.cells he0 hfe
   have hr:=run_append_grow (P:=P) C.w t ty e i z hu hi hzr ⟨b',off',none⟩ es.length cap ve (by grind) (fun j v hj=>(ce j v hj).1) ⟨b,off,none⟩ ys.length capy vy (by grind) (fun j v hj=>(cy j v hj).1) (by omega) h63 hfit;grind [ack,grownCap_ge]

theorem yu(ht:oK P t=some (e,s,eN))(ad bd:Option Addr)(n cap capy:Nat)(h:n≤cap)(w:World):
  (Builtin.append_ #[t,t] ty #[.slice ad n cap,.slice bd 0 capy]).run P w=.ok (.slice ad n cap) w:=by
 obtain⟨hu,i,hi,his,_⟩:=lF ht
 cases bd <;> cases ad <;> simp[Builtin.append_,run_underlying hu,sizeOf,typeInfo,hi,Builtin.lenOf,h,Builtin.firstCells,loadCells,loadCellsFrom,storeCells]

variable {ay:AV}
theorem Bu{r:AV}{H':Heap}(ho:o.op=.call {callee:=.builtin .append,args:= #[x,y],argTypes:= #[t,t]})(hty:o.type=ty){ax:AV}(hx:aD fr x=some ax)(hy:aD fr y=some ay)(hys:ay.elems H=some ys)
  (key:∀(C:Ctx) (u:Value) (bd:Option Addr) (capy:Nat),Inv W0 C→C.H=H→c4 C ax u→Reads C ys bd→ys.length≤capy→
   ∃v C',(Builtin.append_ #[t,t] ty #[u,.slice bd ys.length capy]).run P C.w=.ok v C'.w∧Ext C C'∧Inv W0 C'∧C'.H=H'∧c4 C' r v):b_ P W0 o fr H r H':=
 .of_run fun C a hI hH hop=>by
  subst hH;have hrx:=aQ (hop x (by simp[ho,Op.operands,Call.operands])) hx;obtain⟨bd,capy,e1,e2,e3⟩:=zw hI (aQ (hop y (by simp[ho,Op.operands,Call.operands])) hy) hys;obtain⟨v,C',h1,h2,h3,h4,h5⟩:=key C (a.eval x) bd capy hI rfl hrx e3 e2;refine⟨v,C', ?_,h2,h3,h4,h5⟩;obtain⟨cs,hb⟩:=je (P:=P) ho a;simp_all [builtin]

theorem Dm(hI:Inv W0 C)(sz:Nat)(ad:Option Addr):∃C',C'.w=C.w∧Ext C C'∧Inv W0 C'∧C'.H=C.H.push sz []∧c4 C' (.view C.H.next 0 0) (.slice ad 0 0):=by
 obtain⟨h1,h2⟩:=Ty hI sz;refine⟨C.push ⟨0,sz,0,0,true⟩ [],rfl,h1,h2,rfl,tG (by simp_all [jl]) rfl⟩

theorem D8(hT:AM P t e s eN z)(ho:o.op=.call {callee:=.builtin .append,args:= #[x,y],argTypes:= #[t,t]})(hty:o.type=ty){ax:AV}(hx:aD fr x=some ax)(hax:ax=.imm (.slice none 0 0)∨ax=.clip [])(hy:aD fr y=some ay)(hys:ay.elems H=some ys)
  (hfy:∀x∈ys,x.flat.length=s)(hsz:ys.length*eN≤140737488355328):b_ P W0 o fr H (.view H.next 0 ys.length) (H.push s ys):=
 Bu ho hty hx hy hys fun C u bd capy hI hH hr hrd hcy=>by
  have hu:∃ad,u=.slice ad 0 0:=by
   rcases hax with rfl|rfl
   ·exact⟨none,bR rfl hr⟩
   ·cases hr
    case clipNil ad=>grind
    simp_all
  obtain⟨ad,rfl⟩:=hu
  by_cases h0:ys=[]
  ·subst h0
   obtain⟨C',h1,h2,h3,h4,h5⟩:=Dm hI s ad
   exact⟨.slice ad 0 0,C',by rw[h1];exact yu hT.el ad bd 0 0 capy (afk _) C.w,h2,h3,by grind,by grind⟩
  ·have hpos:0<ys.length:=List.length_pos_iff.2 h0
   obtain⟨v,C',h1,h2,h3,h4,h5⟩:=AW (P:=P) (ty:=ty) hI hT (es:=[]) (ad:=ad) (cap:=0) (capy:=capy) (.inl rfl) hrd (by simp) hfy (by simp) (by omega) (fun _=>rfl) (by grind)
   grind

theorem Kc(hT:AM P t e s eN z)(ho:o.op=.call {callee:=.builtin .append,args:= #[x,y],argTypes:= #[t,t]})(hty:o.type=ty)(hx:aD fr x=some (.clip es))(hy:aD fr y=some ay)(hys:ay.elems H=some ys)
  (hne:ys≠[])(hfe:∀x∈es,x.flat.length=s)(hfy:∀x∈ys,x.flat.length=s)(hsz:(es.length+ys.length)*eN≤140737488355328):b_ P W0 o fr H (.view H.next 0 (es.length+ys.length)) (H.push s (es++ys)):=
 Bu ho hty hx hy hys fun C u bd capy hI hH hr hrd hcy=>by
  subst hH
  have hpos:0<ys.length:=List.length_pos_iff.2 hne
  have hu:∃ad,u=.slice ad es.length es.length:=by
   cases hr
   case clipNil ad=>simp_all
   grind
  obtain⟨ad',cap',h1,h2,h3⟩:=zw hI hr (es:=es) rfl
  obtain⟨ad,rfl⟩:=hu
  cases h1
  exact AW (P:=P) (ty:=ty) hI hT h3 hrd hfe hfy (afk _) (by omega) (fun hn=>by
   subst hn
   cases hr
   rfl) hsz

variable {id:Nat}
theorem Qj(hI:Inv W0 C)(hT:AM P t e s eN z)(hid:C.H.get id=some es)(hs:C.H.sz id=some s)(hnil':(C.pl id).nil=false){A:Addr}{bd:Option Addr}{capy:Nat}(hrd:Reads C ys bd)
  (hfe:∀x∈es,x.flat.length=s)(hfy:∀x∈ys,x.flat.length=s)(g2:0+cap≤(C.pl id).cap)(g4:cap=0∨A=⟨(C.pl id).de,0*(C.pl id).sz,none⟩)(hroom:es.length+ys.length≤cap):
  ∃v C',(Builtin.append_ #[t,t] ty #[.slice (some A) es.length cap,.slice bd ys.length capy]).run P C.w=.ok v C'.w∧Ext C C'∧Inv W0 C'∧C'.H=(C.H.del id).push s (es++ys)∧c4 C' (.view C.H.next 0 (es.length+ys.length)) v:=by
 have hO:=hI.obj id es hid hnil'
 have hszp:(C.pl id).sz=s:=hI.jX id s hs hnil'
 obtain⟨arr,el,harr,hcap⟩:=hO.rows (by have:=hT.pos;omega)
 rw[hszp] at hcap
 have awW:cap≠0∨ys=[]:=by
  rcases Nat.eq_zero_or_pos cap with h|h
  ·simp_all
  omega
 obtain⟨hu,ti,hi,his,_⟩:=lF hT.el
 -- the new cells
 have hnews:∃vy:List Value,vy.length=ys.length*s∧(∀v∈vy,v.oneCell'=true)∧(∀(i j:Nat) (e x:AV),ys[i]? =some e→e.flat[j]? =some x→∃v,vy[i*s+j]? =some v∧c4 C x v)∧
   (Builtin.append_ #[t,t] ty #[.slice (some A) es.length cap,.slice bd ys.length capy]).run P C.w=
    .ok (.slice (some A) (es.length+ys.length) cap) (C.w.setRow (C.pl id).de (arr.toList.take (es.length*s)++vy++arr.toList.drop (es.length*s+vy.length)).toArray):=by
  by_cases h0:ys=[]
  ·subst h0
   refine⟨[],by simp,by simp,fun i j e x h=>by simp at h, ?_⟩
   have:=yu (P:=P) (ty:=ty) hT.el (some A) bd es.length cap capy (by omega) C.w
   simp only[acR,afg,abR,aeW,agI]
   grind [setRow_self]
  ·obtain⟨b,off,rfl,vy,ly,cy,ry⟩:=hrd.cells h0 hfy
   have hA:A=⟨(C.pl id).de,0,none⟩:=by
    grind
   subst hA
   refine⟨vy,ly,fun v hv=>by grind [ack],ry, ?_⟩
   have hf:=run_firstCells_some (P:=P) C.w ti.size ys.length ⟨b,off,none⟩ ys.length capy vy (by grind) (fun j v hj=>(cy j v hj).1)
   have hfit:es.length*s+vy.length≤arr.size:=by
    rw[ly,←aff]
    exact afp (afN _ (by omega)) hcap
   have hst:=run_storeCells_at P (C.pl id).de (es.length*s) el vy 0 arr C.w harr (by omega) (fun v hv=>by grind [ack])
   simp only[afg] at hst
   simp only[his] at hf
   simp[Builtin.append_,run_underlying hu,sizeOf,typeInfo,hi,his,Builtin.lenOf,hroom,hf,s6,hst]
 obtain⟨vy,ly,oy,ry,hrun⟩:=hnews
 have hfit:es.length*s+vy.length≤arr.size:=by
  rw[ly,←aff]
  exact afp (afN _ (by omega)) hcap
 have hget:=fun q=>w8 arr.toList vy (es.length*s) (by omega) q
 have hlen':(arr.toList.take (es.length*s)++vy++arr.toList.drop (es.length*s+vy.length)).length=arr.size:=by grind
 generalize (arr.toList.take (es.length*s)++vy++arr.toList.drop (es.length*s+vy.length))=arr' at hget hrun hlen'
 -- first the cells are written: the object stays as it is
 have hw:=vQ hI hid hnil' harr arr'.toArray (by omega) es rfl
  (fun u hu=>by
   obtain⟨q,hq⟩:=af5 hu
   rw[acB,hget q] at hq
   have old:arr.toList[q]? =some u→u.oneCell'=true:=fun h=>hO.one q u (by grind [iS])
   grind)
  hO.flat
  (fun i j e' x' u h1 h2 h3=>by
   rw[acB,hget] at h3
   have hj:j<s:=by grind
   have hi':i<es.length:=(List.getElem?_eq_some_iff.1 h1).1
   have:(i+1)*s≤es.length*s:=afN _ hi'
   rw[aff,afO] at this
   rw[hszp,if_pos (by omega)] at h3
   exact hO.cell i j e' x' u h1 h2 (by grind [iS]))
 -- then it is given up, and laid anew
 refine⟨_,(((C.write id (C.w.setRow (C.pl id).de arr'.toArray) es).del id).push ⟨(C.pl id).de,s,es.length+ys.length,(C.pl id).cap,false⟩ (es++ys)),hrun, ?_⟩
 generalize hC2:C.write id (C.w.setRow (C.pl id).de arr'.toArray) es=C2 at hw
 obtain⟨E2,I2⟩:=hw
 have q1:C2.H.get id=some es:=by grind [Ctx.write,Heap.tQ]
 have q2:C2.pl=C.pl:=by rw[←hC2];rfl
 have q3:C2.w.heap[(C.pl id).de]? =some (.cells arr'.toArray el (0,0)):=by
  rw[←hC2];exact setRow_heap C.w (C.pl id).de arr _ el (0,0) harr
 have q4:C2.H.next=C.H.next:=by rw[←hC2];rfl
 have E3:Ext C2 ((C2.del id).push ⟨(C.pl id).de,s,es.length+ys.length,(C.pl id).cap,false⟩ (es++ys)):=zT (C:=C2.del id) (AZ id) _ _ (fun _=>.inr (.inl ⟨id,es,q1,by grind,by rw[q2]⟩))
 have I3:Inv W0 ((C2.del id).push ⟨(C.pl id).de,s,es.length+ys.length,(C.pl id).cap,false⟩ (es++ys)):=by
  refine(I2.del id).push _ _ (fun h=>by cases h) (fun _=>⟨?_, ?_, ?_⟩) (fun k e' hk hn=> ?_) (fun _=> ?_) (W0.st C2 _ E3.mem I2.fe I2.gh)
  ·rintro(⟨k,e',h1,h2,h3⟩|h)
   rotate_left
   ·exact I2.afW h q3
   have h1':=h1
   simp only[Ctx.del,Heap.u7] at h1'
   split at h1'
   ·cases h1'
   ·rename_i hne
    have h2':(C2.pl k).nil=false:=h2
    exact hne (I2.sep k id e' es h1' q1 h2' (by grind) (by have h3':(C2.pl k).de=_:=h3;grind))
  ·have:=I2.cI id es q1 (by grind)
   rw[q2] at this;exact this
  ·rcases aft (C.pl id).de W0.w.heap.size with h|h
   ·exact absurd (.inl ⟨id,es,hid,hnil',rfl⟩) (hI.gD _ h).2
   ·exact h
  ·simp only[Ctx.del,Heap.u7] at hk
   split at hk
   ·cases hk
   ·exact(I2.obj k e' hk hn).ext E3 rfl
  ·refine⟨by simp,by grind,.inl ⟨by have:=hT.pos;grind,_,el,q3,by grind⟩,fun q u hu=> ?_,fun i e' he=> ?_,fun i j e' x' u h1 h2 h3=> ?_⟩
   ·have:=(I2.obj id es q1 (by grind)).one q u
    rw[q2] at this
    exact this hu
   ·grind
   ·have hfl:e'.flat.length=s:=by
     grind
    have hj:j<s:=by grind
    have h3':C2.w.cell? ⟨(C.pl id).de,i*s+j,none⟩=some u:=h3
    rw[iS q3,acB,hget] at h3'
    by_cases hlt:i<es.length
    ·rw[abU hlt] at h1
     have hc:=(I2.obj id es q1 (by grind)).cell i j e' x' u h1 h2
     rw[q2,hszp] at hc
     exact(hc h3).ext E3
    ·rw[abV (by omega)] at h1
     obtain⟨u',g5,g6⟩:=ry _ j e' x' h1 h2
     have hi2:i - es.length<ys.length:=(List.getElem?_eq_some_iff.1 h1).1
     have e1:es.length*s≤i*s:=afN _ (by omega)
     have e2:(i - es.length+1)*s≤ys.length*s:=afN _ hi2
     rw[aff,afO,afP] at e2
     rw[if_neg (by omega),if_pos (by omega)] at h3'
     rw[afP,show i*s - es.length*s+j=i*s+j - es.length*s by omega,h3'] at g5
     cases g5
     exact(g6.ext E2).ext E3
 have q6:(C2.H.del id)=C.H.del id:=by rw[←hC2];exact Heap.U1 _ _ _
 refine⟨E2.trans E3,I3, ?_, ?_⟩
 ·show(C2.H.del id).push s (es++ys)=_
  rw[q6]
 ·have hn:C.H.next=(C2.del id).H.next:=q4.symm
  rw[hn]
  refine tG (zl rfl (by simp) (by omega) hroom ?_) rfl
  grind

theorem DG(hT:AM P t e s eN z)(ho:o.op=.call {callee:=.builtin .append,args:= #[x,y],argTypes:= #[t,t]})(hty:o.type=ty)(hx:aD fr x=some (.view id 0 es.length))(hid:H.get id=some es)(hs:H.sz id=some s)(hy:aD fr y=some ay)(hys:ay.elems H=some ys)
  (hfe:∀x∈es,x.flat.length=s)(hfy:∀x∈ys,x.flat.length=s)(hsz:(es.length+ys.length)*eN≤140737488355328):b_ P W0 o fr H (.view H.next 0 (es.length+ys.length)) ((H.del id).push s (es++ys)):=
 Bu ho hty hx hy hys fun C u bd capy hI hH hr hrd hcy=>by
  subst hH
  obtain⟨ad',cap',h1,h2,h3⟩:=zw hI hr (es:=es) (by simp[AV.elems,hid])
  have hE:=AZ (C:=C) id
  have hI':=hI.del id
  cases hr
  case view=>
   rename_i hid' h4 h5
   have h6:=h5 es hid
   unfold jl at h6
   split at h6
   · -- no memory yet
    obtain⟨_,hl,ad,rfl⟩:=h6
    have he0:es=[]:=abS hl
    subst he0
    by_cases h0:ys=[]
    ·subst h0
     obtain⟨C',g1,g2,g3,g4,g5⟩:=Dm hI' s ad
     exact⟨.slice ad 0 0,C',by rw[g1];exact yu hT.el ad bd 0 0 capy (afk _) C.w,hE.trans g2,g3,g4,g5⟩
    ·have hpos:0<ys.length:=List.length_pos_iff.2 h0
     obtain⟨v,C',g1,g2,g3,g4,g5⟩:=AW (P:=P) (ty:=ty) hI' hT (es:=[]) (ad:=ad) (cap:=0) (capy:=capy) (.inl rfl) (hrd.ext hE rfl) (by simp) hfy (by simp) (by omega) (fun _=>rfl) (by omega)
     exact⟨v,C',g1,hE.trans g2,g3,g4,g5⟩
   ·have hnil':(C.pl id).nil=false:=by grind
    obtain⟨A,cap,hu6,g1,g2,g3,g4⟩:=h6
    subst hu6
    simp only[Value.slice.injEq,true_and] at h1
    obtain⟨rfl,rfl⟩:=h1
    by_cases hroom:es.length+ys.length≤cap
    ·exact Qj (P:=P) (ty:=ty) hI hT hid hs hnil' hrd hfe hfy g2 g4 hroom
    · -- no room
     obtain⟨v,C',q1,q2,q3,q4,q5⟩:=AW (P:=P) (ty:=ty) hI' hT (ad:=some A) (cap:=cap) (capy:=capy) (h3.ext hE rfl) (hrd.ext hE rfl) hfe hfy h2 (by omega) (fun h=>by cases h) hsz
     exact⟨v,C',q1,hE.trans q2,q3,q4,q5⟩

theorem L_(h:Reads C es ad)(n:Nat):Reads C (es.take n) ad:=by
 have sub:∀(i:Nat) (e:AV),(es.take n)[i]? =some e→es[i]? =some e:=fun i e he=>by
  grind
 rcases h with rfl|⟨b,off,sz,h1,h2,h3,h4⟩
 ·exact .inl (by simp)
 ·exact .inr ⟨b,off,sz,h1,h2,fun i e he=>h3 i e (sub i e he),fun i j e x he hx=>h4 i j e x (sub i e he) hx⟩
theorem B4{ty':TypeId}{dlen:Nat}{ys0:List AV}(ho:o.op=.call {callee:=.builtin .copy,args:= #[x,y],argTypes:= #[t,ty']})(hx:aD fr x=some (.view id off dlen))(hid:H.get id=some es)(hs:H.sz id=some s)(hy:aD fr y=some ay)
  (hys:ay.elems H=some ys0)(hyt:ys=ys0.take dlen)(ht:oK P t=some (e,s,eN))(hfy:∀x∈ys,x.flat.length=s)(Jl:s≠0:=by decide):
  b_ P W0 o fr H (.imm (.int .i64 ys.length)) (H.set id (es.take off++ys++es.drop (off+ys.length))):=
 .of_run fun C a hI hH hop=>by
  subst hH
  have hrx:=aQ (hop x (by simp[ho,Op.operands,Call.operands])) hx
  obtain⟨bd,capy,e1,e2,ass⟩:=zw hI (aQ (hop y (by simp[ho,Op.operands,Call.operands])) hy) hys
  have hrd:Reads C ys bd:=hyt▸L_ ass dlen
  have hmin:Nat.min ys0.length dlen=ys.length:=by grind
  have hle:ys.length≤dlen:=by grind
  obtain⟨hu,ti,hi,his,_⟩:=lF ht
  obtain⟨cs,hb⟩:=je (P:=P) ho a
  generalize hux:a.eval x=ux at hrx
  cases hrx
  case view=>
   rename_i hid' h4 h5
   have h6:=h5 es hid
   unfold jl at h6
   split at h6
   ·rename_i hnil
    obtain⟨rfl,hl,ad,rfl⟩:=h6
    have hy0:ys=[]:=abS (by omega)
    have he0:=hI.nil id es hid hnil
    subst hy0 he0
    have hset:Ext C {C with H:=C.H.set id []}∧Inv W0 {C with H:=C.H.set id []}:=by
     have hg:∀k e,(C.H.set id []).get k=some e→C.H.get k=some e:=fun k e h=>by
      grind [Heap.tQ]
     have ho':∀b,Ctx.own {C with H:=C.H.set id []} b→C.own b:=by
      rintro b (⟨k,e,h1,h2,h3⟩|h)
      ·exact .inl ⟨k,e,hg k e h1,h2,h3⟩
      ·exact .inr h
     have hE:Ext C {C with H:=C.H.set id []}:=⟨.refl _ _,fun _ _ _=>rfl,fun b _ h=>ho' b h,afk _,fun k e _ h=>⟨⟨e,hg k e h⟩,rfl⟩,rfl,rfl,rfl⟩
     exact⟨hE,{
      fresh:=fun k e h=>hI.fresh k e (hg k e h)
      nil:=fun k e h=>hI.nil k e (hg k e h)
      obj:=fun k e h hn=>(hI.obj k e (hg k e h) hn).ext hE rfl
      sep:=fun p q ep eq hp hq=>hI.sep p q ep eq (hg _ _ hp) (hg _ _ hq)
      cI:=fun k e h=>hI.cI k e (hg k e h)
      jX:=fun k s' h=>hI.jX k s' (by grind [Heap.Mq])
      dU:=hI.dU
      eG:=hI.eG
      size:=hI.size
      gD:=fun b h=>⟨(hI.gD b h).1,fun hh=>(hI.gD b h).2 (ho' b hh)⟩
      ec:=hI.ec
      iu:=hI.iu
      BX:=hI.BX
      Cn:=hI.Cn
      eS:=hI.eS
      lU:=hI.lU
      fe:=hI.fe
      gh:=W0.st C _ hE.mem hI.fe hI.gh}⟩
    refine⟨.int .i64 0,{C with H:=C.H.set id []}, ?_,hset.1,hset.2,by simp,.imm _ rfl⟩
    rw[hb]
    cases bd <;> cases ad <;> simp[builtin,hux,e1,Builtin.copy_,run_underlying hu,Builtin.lenOf,sizeOf,typeInfo,hi,Builtin.firstCells,loadCells,loadCellsFrom,storeCells,goInt]
   ·rename_i hnil
    have hnil':(C.pl id).nil=false:=by grind
    obtain⟨A,cap,rfl,g1,g2,g3,g4⟩:=h6
    have hO:=hI.obj id es hid hnil'
    have hszp:(C.pl id).sz=s:=hI.jX id s hs hnil'
    obtain⟨arr,el,harr,hcap⟩:=hO.rows (by omega)
    rw[hszp] at hcap
    have hn:=hO.n
    have hnews:∃vy:List Value,vy.length=ys.length*s∧(∀v∈vy,v.oneCell'=true)∧(∀(i j:Nat) (e x:AV),ys[i]? =some e→e.flat[j]? =some x→∃v,vy[i*s+j]? =some v∧c4 C x v)∧
      (Builtin.copy_ #[t,ty'] o.type #[.slice (some A) dlen cap,.slice bd ys0.length capy]).run P C.w=
       .ok (.int .i64 ys.length) (C.w.setRow (C.pl id).de (arr.toList.take (off*s)++vy++arr.toList.drop (off*s+vy.length)).toArray):=by
     by_cases h0:ys=[]
     ·subst h0
      refine⟨[],by simp,by simp,fun i j e x h=>(by grind), ?_⟩
      simp only[acR,afg,abR,aeW,agI]
      rw[setRow_self C.w _ arr el (0,0) harr]
      cases bd <;> simp[hmin,Builtin.copy_,run_underlying hu,Builtin.lenOf,sizeOf,typeInfo,hi,Builtin.firstCells,loadCells,loadCellsFrom,storeCells,goInt]
     ·obtain⟨b,off',rfl,vy,ly,cy,ry⟩:=hrd.cells h0 hfy
      have hpos:0<ys.length:=List.length_pos_iff.2 h0
      have hA:A=⟨(C.pl id).de,off*s,none⟩:=by
       grind
      refine⟨vy,ly,fun v hv=>by grind [ack],ry, ?_⟩
      have hf:=run_firstCells_some (P:=P) C.w ti.size ys.length ⟨b,off',none⟩ ys0.length capy vy (by grind) (fun j v hj=>(cy j v hj).1)
      have hfit:off*s+vy.length≤arr.size:=by
       rw[ly,←aff]
       exact afp (afN _ (by omega)) hcap
      have hst:=run_storeCells_at P (C.pl id).de (off*s) el vy 0 arr C.w harr (by omega) (fun v hv=>by grind [ack])
      simp_all [Builtin.copy_,run_underlying,sizeOf,typeInfo,Builtin.lenOf,goInt]
    obtain⟨vy,ly,oy,ry,hrun⟩:=hnews
    have hfit:off*s+vy.length≤arr.size:=by
     rw[ly,←aff]
     exact afp (afN _ (by omega)) hcap
    have hget:=fun q=>w8 arr.toList vy (off*s) (by omega) q
    have hgetE:=fun q=>w8 es ys off (by omega) q
    have hlen':(arr.toList.take (off*s)++vy++arr.toList.drop (off*s+vy.length)).length=arr.size:=by grind
    generalize (arr.toList.take (off*s)++vy++arr.toList.drop (off*s+vy.length))=arr' at hget hrun hlen'
    have hw:=vQ hI hid hnil' harr arr'.toArray (by omega) (es.take off++ys++es.drop (off+ys.length)) (by grind)
     (fun u hu=>by
      obtain⟨q,hq⟩:=af5 hu
      have old:arr.toList[q]? =some u→u.oneCell'=true:=fun h=>hO.one q u (by grind [iS])
      grind)
     (fun i e' he=>by
      rw[hgetE] at he
      rw[hszp]
      split at he
      ·rw[←hszp];exact hO.flat _ _ he
      ·split at he
       ·grind
       ·rw[←hszp];exact hO.flat _ _ he)
     (fun i j e' x' u h1 h2 h3=>by
      rw[hszp,acB,hget] at h3
      rw[hgetE] at h1
      have old:es[i]? =some e'→j<s→arr.toList[i*s+j]? =some u→c4 C x' u:=fun g _ g'=>hO.cell i j e' x' u g h2 (by grind [iS])
      have hj:j<s:=by
       have:e'.flat.length=s:=by
        split at h1
        ·rw[←hszp];exact hO.flat _ _ h1
        ·split at h1
         ·grind
         ·rw[←hszp];exact hO.flat _ _ h1
       grind
      split at h1
      ·rename_i hlt
       have:(i+1)*s≤off*s:=afN _ hlt
       grind
      ·have q1:off*s≤i*s:=afN _ (by omega)
       split at h1
       ·rename_i hlt
        have q2:(i+1)*s≤(off+ys.length)*s:=afN _ hlt
        rw[aff,aff,afO] at q2
        rw[if_neg (by omega),if_pos (by omega)] at h3
        obtain⟨u',g5,g6⟩:=ry _ j e' x' h1 h2
        grind [afP]
       ·have q2:(off+ys.length)*s≤i*s:=afN _ (by omega)
        grind)
    refine⟨.int .i64 ys.length,_, ?_,hw.1,hw.2,rfl,.imm _ rfl⟩
    rw[hb]
    simp[builtin,hux,e1,hrun]
    rfl
theorem Yk{ty':TypeId}{dlen:Nat}(ho:o.op=.call {callee:=.builtin .copy,args:= #[x,y],argTypes:= #[t,ty']})(hx:aD fr x=some (.view id off dlen))(hid:H.get id=some es)(hs:H.sz id=some s)(hy:aD fr y=some ay)
  (hys:ay.elems H=some ys)(ht:oK P t=some (e,s,eN))(hfy:∀x∈ys,x.flat.length=s)(hle:ys.length=dlen)(Jl:s≠0:=by decide):
  b_ P W0 o fr H (.imm (.int .i64 ys.length)) (H.set id (es.take off++ys++es.drop (off+ys.length))):=
 B4 ho hx hid hs hy hys (by grind) ht hfy Jl

end
def Fr.put(fr:Fr)(dst:Option Nat)(r:AV):Fr:=
 match dst with
 |some d=>fun t=>if t=d then some r else fr t
 |none=>fr

def dO(ops:Array Oper)(fr:Fr)(o:Oper):Option Bool:=
 match o.guard with
 |none=>some true
 |some (j,b)=>match(ops[j]?).bind (·.dst) with
  |some d=>match fr d with
   |some (.imm (.bool c))=>some (c==b)
   |some (.tuple [])=>some false
   |_=>none
  |none=>none

structure Rel (W0:bS) (N:Nat) (fr:Fr) (H:Heap) (C:Ctx) (a:Act):Prop where
 heap:C.H=H
 inv:Inv W0 C
 size:a.tmps.size=N
 defers:a.defers=(C.iu.map fun d=>{target:=.collected d,args:= #[]})++W0.dx
 rep:∀t x,fr t=some x→c4 C x (a.tmps.getD t undef)

inductive Hq (P:Program) (W0:bS) (ops:Array Oper):List Oper→Fr→Heap→Fr→Heap→Prop
 |nil (fr:Fr) (H:Heap):Hq P W0 ops [] fr H fr H
 |skip {o:Oper} {rest:List Oper} {fr fr':Fr} {H H':Heap}:dO ops fr o=some false→Hq P W0 ops rest (fr.put o.dst (.tuple [])) H fr' H'→Hq P W0 ops (o::rest) fr H fr' H'
 |op {o:Oper} {rest:List Oper} {fr fr':Fr} {H H1 H':Heap} {r:AV}:dO ops fr o=some true→b_ P W0 o fr H r H1→Hq P W0 ops rest (fr.put o.dst r) H1 fr' H'→Hq P W0 ops (o::rest) fr H fr' H'
 |opI {o:Oper} {rest:List Oper} {fr fr':Fr} {H H1 H':Heap} {r:AV}:dO ops fr o=some true→af8 P W0 o fr H r H1→Hq P W0 ops rest (fr.put o.dst r) H1 fr' H'→Hq P W0 ops (o::rest) fr H fr' H'
 |drop {l:List Oper} {fr BD fr':Fr} {H H':Heap}:(∀t x,BD t=some x→fr t=some x)→Hq P W0 ops l BD H fr' H'→Hq P W0 ops l fr H fr' H'

def jb(N:Nat)(o:Oper):Bool:=(match o.dst with|some d=>decide (d<N)|none=>true)&&(match o.op with|.defer _=>false|_=>true)

theorem jb.lt{N:Nat}{o:Oper}(h:jb N o=true):∀d,o.dst=some d→d<N:=fun d hd=>by grind [jb]
theorem jb.ZW{N:Nat}{o:Oper}(h:jb N o=true):∀c,o.op≠.defer c:=fun c hc=>by simp[jb,hc] at h

section
variable {P:Program} {W0:bS} {N:Nat} {C:Ctx} {fr:Fr} {a:Act} {H:Heap} {ops:Array Oper} {md:Region.Mode}

theorem Rel.put(h:Rel W0 N fr H C a){C':Ctx}{H':Heap}{r:AV}{v:Value}{dst:Option Nat}(he:Ext C C')(hi:Inv W0 C')(hH:C'.H=H')(hr:c4 C' r v)(hd:∀d,dst=some d→d<N):Rel W0 N (fr.put dst r) H' C' (a.put dst v) where
 heap:=hH
 inv:=hi
 size:=by cases dst <;> simp[Act.put,h.size]
 defers:=by cases dst <;> simp[Act.put,h.defers,he.iu]
 rep t x hx:=by
  cases dst with
  |none=>exact(h.rep t x hx).ext he
  |some d=>
   have hdN:d<a.tmps.size:=by rw[h.size];grind
   simp only[Fr.put] at hx;by_cases htd:t=d
   ·simp_all [Act.put]
   ·rw[if_neg htd] at hx
    have:(a.put (some d) v).tmps.getD t undef=a.tmps.getD t undef:=by
     simp_all [Act.put,Ne.symm]
    rw[this];exact(h.rep t x hx).ext he

theorem IB:c4 C (.tuple []) undef:=.tuple [] #[] rfl (fun k x h=>by simp at h)

theorem kG{o:Oper}{b:Bool}(hr:∀t x,fr t=some x→c4 C x (a.tmps.getD t undef))(h:dO ops fr o=some b):Region.wanted o (yielded ops a.tmps)=b:=by
 unfold dO at h;unfold Region.wanted;split at h
 ·grind
 ·split at h
  ·rename_i d hd
   split at h
   ·rename_i q hq
    have h1:=bR (v:=.bool q) rfl (hr d _ hq);have h2:a.tmps[d]? =some (.bool q):=by
     by_cases hlt:d<a.tmps.size
     ·simp_all
     simp_all [undef]
    simp_all [yielded]
   ·rename_i hq
    have h1:=hr d _ hq;have h2:a.tmps.getD d undef=.tuple #[]:=by
     generalize a.tmps.getD d undef=u at h1
     match h1 with
     |.tuple _ vs h3 _=>grind
    grind [yielded,CV]
   ·cases h
  ·cases h

theorem Kr{l:List Oper}{fr':Fr}{H':Heap}(h:Hq P W0 ops l fr H fr' H')(hN:∀o∈l,jb N o=true):∀(C:Ctx) (a:Act) (Q:Exit→Act→World→Prop),Rel W0 N fr H C a→
  (∀C' a',Mem C C'→Rel W0 N fr' H' C' a'→Q .normal a' C'.w)→wpListIn (Fw W0.ro) 0 P ops Q l a C.w:=by
 induction h with
 |nil fr H=>intro C a Q hr hQ;exact hQ C a (.refl C) hr
 |skip hw _ ih=>
  intro C a Q hr hQ
  unfold wpListIn
  rw[kG hr.rep hw]
  exact⟨fun _ _=>trivial,ih (fun o ho=>hN o (adU _ ho)) C _ Q (hr.put (.refl C) hr.inv hr.heap IB (jb.lt (hN _ (ad2 ..)))) hQ⟩
 |op hw hop _ ih=>
  intro C a Q hr hQ
  unfold wpListIn
  rw[kG hr.rep hw]
  refine pQ (jb.ZW (hN _ (ad2 ..))) (hop C a hr.inv hr.heap (fun x _ t _ av hav=>hr.rep t av hav) _ _ (fun v C' he hi hH hv=> ?_))
  exact ih (fun o ho=>hN o (adU _ ho)) C' _ Q (hr.put he hi hH hv (jb.lt (hN _ (ad2 ..)))) (fun C2 a2 h2=>hQ C2 a2 (he.mem.trans h2))
 |opI hw hop _ ih=>
  intro C a Q hr hQ
  unfold wpListIn
  rw[kG hr.rep hw]
  refine hop C a hr.inv hr.heap (fun x _ t _ av hav=>hr.rep t av hav) _ _ (fun v C' he hi hH hv=> ?_)
  exact ih (fun o ho=>hN o (adU _ ho)) C' _ Q (hr.put he hi hH hv (jb.lt (hN _ (ad2 ..)))) (fun C2 a2 h2=>hQ C2 a2 (he.mem.trans h2))
 |drop hk _ ih=>
  intro C a Q hr hQ
  exact ih hN C a Q ⟨hr.heap,hr.inv,hr.size,hr.defers,fun t x hx=>hr.rep t x (hk t x hx)⟩ hQ

theorem aeK{id:Nat}{Q:Exit→Act→World→Prop}{fr':Fr}{H':Heap}{l:List Oper}(hN:∀o∈l,jb N o=true)(h:Hq P W0 l.toArray l fr H fr' H')(hr:Rel W0 N fr H C a)(hQ:∀C' a',Mem C C'→Rel W0 N fr' H' C' a'→Q .normal a' C'.w):
  (Code.region id l.toArray false).wpIn (Fw W0.ro) 0 P Q a C.w:=
 wpIn_region_lit (Kr h hN C a Q hr hQ)


theorem Fr.Jz{fr:Fr}{dst:Option Nat}{r:AV}{t:Nat}(h:dst≠some t):fr.put dst r t=fr t:=by
 cases dst with
 |none=>rfl
 |some d=>
  simp only[Fr.put];grind

theorem Fr.put_comm(fr:Fr){x y:Option Nat}(r s:AV)(h:∀d,x=some d→y≠some d):(fr.put x r).put y s=(fr.put y s).put x r:=by
 cases x with
 |none=>rfl
 |some d=>
  cases y with
  |none=>rfl
  |some e=>
   simp only[Fr.put];grind

theorem DK{o:Oper}{t:Nat}(h:Operand.tmp t∈o.op.operands):t∈o.looksAt ops:=by
 refine List.mem_append_left _ ?_;rw[List.mem_filterMap];exact⟨.tmp t,by grind,rfl⟩

theorem Ma(h:Rel W0 N fr H C a):Ext C (C.uG {C.w with drawn:=C.w.drawn+1})∧Rel W0 N fr H (C.uG {C.w with drawn:=C.w.drawn+1}) a:=by
 have hD:Below C.w.heap.size C.w {C.w with drawn:=C.w.drawn+1}:=⟨rfl,rfl,rfl,afk _,fun _ _=>rfl⟩;have hE:Ext C (C.uG {C.w with drawn:=C.w.drawn+1}):=dh hD;exact⟨hE,h.heap,h.inv.uG hD,h.size,h.defers,fun t x hx=>(h.rep t x hx).ext hE⟩

end
structure St where
 fr:List (Nat×AV)
 H:Heap

def Ya(W0:bS)(N:Nat)(C:Ctx)(Q:Exit→St→Prop)(e:Exit)(a':Act)(w':World):Prop:=
 ∃st' C',C'.w=w'∧Mem C C'∧Rel W0 N (lk st'.fr) st'.H C' a'∧Q e st'

def iD(P:Program)(W0:bS)(N:Nat)(c:Code)(st:St)(Q:Exit→St→Prop):Prop:=
 ∀(C:Ctx) (a:Act),Rel W0 N (lk st.fr) st.H C a→c.wpIn (Fw W0.ro) 0 P (Ya W0 N C Q) a C.w

def b8(W0:bS)(N:Nat)(st st':St):Prop:=
 ∀(C:Ctx) (a:Act),Rel W0 N (lk st.fr) st.H C a→∃C',C'.w=C.w∧Mem C C'∧Rel W0 N (lk st'.fr) st'.H C' a

section
variable {P:Program} {W0:bS} {N:Nat} {st:St} {Q:Exit→St→Prop}

variable {c:Code}
theorem iD.mono{Q':Exit→St→Prop}(h:iD P W0 N c st Q)(hq:∀e s,Q e s→Q' e s):iD P W0 N c st Q':=
 fun C a hr=>wpIn_mono (h C a hr) fun _ _ _ ⟨st',C',h1,h2,h3,h4⟩=>⟨st',C',h1,h2,h3,hq _ _ h4⟩

theorem iD.IT{st':St}(hw:b8 W0 N st st')(h:iD P W0 N c st' Q):iD P W0 N c st Q:=fun C a hr=>by
 obtain⟨C1,h1,h2,h3⟩:=hw C a hr;rw[←h1];exact wpIn_mono (h C1 a h3) fun _ _ _ ⟨s,C',g1,g2,g3,g4⟩=>⟨s,C',g1,h2.trans g2,g3,g4⟩

theorem iD.at{C C1:Ctx}{a:Act}(h:iD P W0 N c st Q)(he:Mem C C1)(hr:Rel W0 N (lk st.fr) st.H C1 a):
  c.wpIn (Fw W0.ro) 0 P (Ya W0 N C Q) a C1.w:=
 wpIn_mono (h C1 a hr) fun _ _ _ ⟨s,C',g1,g2,g3,g4⟩=>⟨s,C',g1,he.trans g2,g3,g4⟩

theorem fU(h:Q .normal st):iD P W0 N .skip st Q:=fun C _ hr=>wpIn_skip ⟨st,C,rfl,.refl C,hr,h⟩
theorem Wr{l:Nat}(h:Q .normal st):iD P W0 N (.label l) st Q:=fun C _ hr=>wpIn_label ⟨st,C,rfl,.refl C,hr,h⟩
theorem zA{id:Nat}(h:Q (.exit id) st):iD P W0 N (.exit id) st Q:=fun C _ hr=>wpIn_exit ⟨st,C,rfl,.refl C,hr,h⟩
theorem fJ(h:Q .ret st):iD P W0 N .ret st Q:=fun C _ hr=>wpIn_ret ⟨st,C,rfl,.refl C,hr,h⟩

def mI(K:St→Prop)(Q:Exit→St→Prop):Exit→St→Prop
 |.normal,s=>K s
 |e,s=>Q e s

variable {x y:Code}
theorem Oy(h:iD P W0 N x st (mI (fun s=>iD P W0 N y s Q) Q)):iD P W0 N (.seq x y) st Q:=fun C a hr=>
 wpIn_seq (wpIn_mono (h C a hr) fun e a' w' ⟨s,C',g1,g2,g3,g4⟩=>by
  subst g1;cases e with
  |normal=>exact iD.at (Q:=Q) g4 g2 g3
  |_=>exact⟨s,C',rfl,g2,g3,g4⟩)

theorem cm(h:∀K:St→Prop,(∀s,iD P W0 N y s Q→K s)→iD P W0 N x st (mI K Q)):iD P W0 N (.seq x y) st Q:=
 Oy (h _ fun _ h=>h)

def yU(id:Nat)(Q:Exit→St→Prop):Exit→St→Prop
 |.exit id',s=>if id'=id then Q .normal s else Q (.exit id') s
 |e,s=>Q e s

theorem p5{id:Nat}(h:iD P W0 N c st (yU id Q)):iD P W0 N (.block id c) st Q:=fun C a hr=>
 wpIn_block (wpIn_mono (h C a hr) fun e a' w' ⟨s,C',g1,g2,g3,g4⟩=>by
  cases e with
  |exit id'=>
   simp only[yU] at g4;simp only[Exit.inBlock];split
   ·rename_i h;rw[if_pos h] at g4;exact⟨s,C',g1,g2,g3,g4⟩
   ·rename_i h;rw[if_neg h] at g4;exact⟨s,C',g1,g2,g3,g4⟩
  |_=>exact⟨s,C',g1,g2,g3,g4⟩)

theorem mP{c:Operand}{t:Bool}(hc:aD (lk st.fr) c=some (.imm (.bool t)))(ht:t=true→iD P W0 N x st Q)(hf:t=false→iD P W0 N y st Q):iD P W0 N (.cond c x y) st Q:=fun C a hr=>by
 have h1:=bR (v:=.bool t) rfl (aQ (C:=C) (a:=a) (fun q _ av hav=>hr.rep q av hav) hc);exact wpIn_cond_split h1 (fun h=>ht h C a hr) (fun h=>hf h C a hr)

theorem exists_least(p:Nat→Prop)(h:∃k,p k):∃k,p k∧∀j,p j→k≤j:=by
 obtain⟨k,hk⟩:=h
 induction k using Nat.strongRecOn with
 |_ k ih=>
  grind

theorem Ql(I:St→Prop)(μ:St→Nat)(h0:I st)
  (round:∀s,I s→iD P W0 N c s (mI (fun s1=>∃s2,b8 W0 N s1 s2∧I s2∧μ s2<μ s) Q)):iD P W0 N (.loop c) st Q:=fun C a hr=>by
 classical
 -- the least measure of a state that fits
 let Fit:Act→World→Nat→Prop:=fun a' w' k=>∃s C',C'.w=w'∧Mem C C'∧Rel W0 N (lk s.fr) s.H C' a'∧I s∧μ s=k
 let m:Act→World→Nat:=fun a' w'=>if h:∃k,Fit a' w' k then Classical.choose (exists_least _ h) else 0
 refine wpIn_loop (fun a' w'=>∃k,Fit a' w' k) m ⟨μ st,st,C,rfl,.refl C,hr,h0,rfl⟩ (fun a' w' hI=> ?_)
 obtain⟨s,C',g1,g2,g3,g4,g5⟩:=(Classical.choose_spec (exists_least _ hI)).1
 subst g1
 have hm:m a' C'.w=μ s:=by grind
 refine wpIn_mono (iD.at (round s g4) g2 g3) fun e a2 w2 ⟨s1,C2,q1,q2,q3,q4⟩=> ?_
 subst q1
 cases e with
 |normal=>
  obtain⟨s2,hw,Hl,hlt⟩:=q4
  obtain⟨C3,p1,p2,p3⟩:=hw C2 a2 q3
  have hf:Fit a2 C2.w (μ s2):=⟨s2,C3,p1,q2.trans p2,p3,Hl,rfl⟩
  refine⟨⟨_,hf⟩, ?_⟩
  have:m a2 C2.w≤μ s2:=by
   show(if h:∃k,Fit a2 C2.w k then Classical.choose (exists_least _ h) else 0)≤μ s2
   rw[dif_pos ⟨_,hf⟩]
   exact(Classical.choose_spec (exists_least _ ⟨_,hf⟩)).2 _ hf
  omega
 |_=>exact⟨s1,C2,rfl,q2,q3,q4⟩


def gP(fr:List (Nat×AV))(dst:Option Nat)(r:AV):List (Nat×AV):=
 match dst with
 |some d=>up fr d r
 |none=>fr

theorem vm(fr:List (Nat×AV))(dst:Option Nat)(r:AV):lk (gP fr dst r)=Fr.put (lk fr) dst r:=by
 cases dst with
 |none=>rfl
 |some d=>grind [gP,Fr.put,Ah]

def AR(P:Program)(W0:bS)(ops:Array Oper)(l:List Oper)(fr:List (Nat×AV))(H:Heap)(K:List (Nat×AV)→Heap→Prop):Prop:=
 ∃fr' H',Hq P W0 ops l (lk fr) H (lk fr') H'∧K fr' H'

variable {ops:Array Oper} {fr:List (Nat×AV)} {H:Heap} {K:List (Nat×AV)→Heap→Prop} {o:Oper} {rest:List Oper}

theorem bH(h:K fr H):AR P W0 ops [] fr H K:=⟨fr,H,.nil _ _,h⟩
theorem E{r:AV}{H1:Heap}(hw:dO ops (lk fr) o=some true)(h:b_ P W0 o (lk fr) H r H1)(k:AR P W0 ops rest (gP fr o.dst r) H1 K):AR P W0 ops (o::rest) fr H K:=by
 obtain⟨fr',H',h1,h2⟩:=k;rw[vm] at h1;exact⟨fr',H',.op hw h h1,h2⟩
theorem xD(hw:dO ops (lk fr) o=some false)(k:AR P W0 ops rest (gP fr o.dst (.tuple [])) H K):AR P W0 ops (o::rest) fr H K:=by
 obtain⟨fr',H',h1,h2⟩:=k;rw[vm] at h1;exact⟨fr',H',.skip hw h1,h2⟩
theorem AR.mono{K':List (Nat×AV)→Heap→Prop}{l:List Oper}(h:AR P W0 ops l fr H K)(hk:∀f g,K f g→K' f g):AR P W0 ops l fr H K':=by
 obtain⟨fr',H',h1,h2⟩:=h;exact⟨fr',H',h1,hk _ _ h2⟩

theorem UA{r:AV}{H1:Heap}(hw:dO ops (lk fr) o=some true)(h:af8 P W0 o (lk fr) H r H1)(k:AR P W0 ops rest (gP fr o.dst r) H1 K):AR P W0 ops (o::rest) fr H K:=by
 obtain⟨fr',H',h1,h2⟩:=k;rw[vm] at h1;exact⟨fr',H',.opI hw h h1,h2⟩

theorem SP{id:Nat}{l:List Oper}(hN:l.all (jb N)=true)(h:AR P W0 l.toArray l st.fr st.H (fun f g=>Q .normal ⟨f,g⟩)):iD P W0 N (.region id l.toArray false) st Q:=fun C a hr=>by
 obtain⟨fr',H',h1,h2⟩:=h;exact aeK (fun o ho=>List.all_eq_true.1 hN o ho) h1 hr fun C' a' he hrel=>⟨⟨fr',H'⟩,C',rfl,he,hrel,h2⟩


theorem b8.anC{fr':List (Nat×AV)}(h:∀p∈fr',lk st.fr p.1=some p.2):b8 W0 N st ⟨fr',st.H⟩:=fun C a hr=>
 ⟨C,rfl,.refl C,hr.heap,hr.inv,hr.size,hr.defers,fun t x hx=>by
  have key:∀(l:List (Nat×AV)),lk l t=some x→(t,x)∈l:=by
   intro l
   induction l with
   |nil=>intro h;cases h
   |cons p l ih=>
    grind [lk]
  exact hr.rep t x (h _ (key fr' hx))⟩

def uR(fr:List (Nat×AV)):List (Nat×AV)→Prop
 |[]=>True
 |(t,x)::r=>lk fr t=some x∧uR fr r

theorem uR.spec{fr:List (Nat×AV)}:∀{l:List (Nat×AV)},uR fr l→∀p∈l,lk fr p.1=some p.2
 |[],_,_,hp=>by cases hp
 |(t,x)::r,h,p,hp=>by
  rcases List.mem_cons.1 hp with rfl|hp
  ·exact h.1
  ·exact uR.spec h.2 p hp

theorem b8.keep{fr':List (Nat×AV)}(h:uR st.fr fr'):b8 W0 N st ⟨fr',st.H⟩:=.anC h.spec

theorem uR.lk{fr:List (Nat×AV)}:∀{l:List (Nat×AV)},uR fr l→∀t x,lk l t=some x→lk fr t=some x
 |[],_,_,_,hp=>by cases hp
 |(s,u)::r,h,t,x,hp=>by
  simp only[Av.lk] at hp;split at hp
  ·rename_i hs;subst hs;cases hp;exact h.1
  ·exact uR.lk h.2 t x hp

theorem AR.drop{l:List Oper}{frx:List (Nat×AV)}(h:uR fr frx)(k:AR P W0 ops l frx H K):AR P W0 ops l fr H K:=by
 obtain⟨fr',H',h1,h2⟩:=k
 exact⟨fr',H',.drop (uR.lk h) h1,h2⟩

def pick(fr:List (Nat×AV)):List Nat→Option (List (Nat×AV))
 |[]=>some []
 |t::ts=>match Av.lk fr t with
  |some x=>match pick fr ts with
   |some l=>some ((t,x)::l)
   |none=>none
  |none=>none
theorem rE{fr:List (Nat×AV)}:∀{ts:List Nat} {frx:List (Nat×AV)},pick fr ts=some frx→uR fr frx
 |[],frx,h=>by simp[pick] at h;subst h;trivial
 |t::ts,frx,h=>by
  simp only[pick] at h;split at h
  ·rename_i x hx
   split at h
   ·rename_i l hl
    cases h
    exact⟨hx,rE hl⟩
   ·cases h
  ·cases h
theorem KK(ts:List Nat){l:List Oper}{frx:List (Nat×AV)}(h:pick fr ts=some frx)(k:AR P W0 ops l frx H K):AR P W0 ops l fr H K:=.drop (rE h) k

theorem Ws{σ:Type}(S:σ→St)(ok:σ→Prop)(μ:σ→Nat)(p0:σ)(h0:ok p0)(hw:b8 W0 N st (S p0))
  (round:∀p,ok p→iD P W0 N c (S p) (mI (fun s1=>∃p',ok p'∧μ p'<μ p∧b8 W0 N s1 (S p')) Q)):iD P W0 N (.loop c) st Q:=by
 classical
 refine iD.IT hw ?_
 -- of two parameters with one state the lower counts
 refine Ql (fun s=>∃p,ok p∧s=S p) (fun s=>if h:∃k,∃p,ok p∧s=S p∧μ p=k then Classical.choose (exists_least _ h) else 0) ⟨p0,h0,rfl⟩ ?_
 rintro s ⟨p,hp,rfl⟩
 have hex:∃k,∃q,ok q∧S p=S q∧μ q=k:=⟨_,p,hp,rfl,rfl⟩
 obtain⟨⟨q,hq,hs,hk⟩,_⟩:=Classical.choose_spec (exists_least _ hex)
 have hm:(if h:∃k,∃q,ok q∧S p=S q∧μ q=k then Classical.choose (exists_least _ h) else 0)=μ q:=by grind
 rw[hm,hs]
 refine(round q hq).mono fun e s1 h1=> ?_
 cases e with
 |normal=>
  obtain⟨p',g1,g2,g3⟩:=h1
  refine⟨S p',g3,⟨p',g1,rfl⟩, ?_⟩
  have hex':∃k,∃q,ok q∧S p'=S q∧μ q=k:=⟨_,p',g1,rfl,rfl⟩
  have:=(Classical.choose_spec (exists_least _ hex')).2 (μ p') ⟨p',g1,rfl,rfl⟩
  grind
 |_=>exact h1

theorem b8.trans{s1 s2 s3:St}(h:b8 W0 N s1 s2)(k:b8 W0 N s2 s3):b8 W0 N s1 s3:=fun C a hr=>by
 obtain⟨C1,h1,h2,h3⟩:=h C a hr;obtain⟨C2,k1,k2,k3⟩:=k C1 a h3;exact⟨C2,k1.trans h1,h2.trans k2,k3⟩

theorem b8.refl(s:St):b8 W0 N s s:=fun C _ hr=>⟨C,rfl,.refl C,hr⟩

end
inductive bQ:AV→Prop
 |any:bQ .any
 |imm (v:Value):bQ (.imm v)
 |sl (es:List AV):(∀e∈es,bQ e)→bQ (.sl es)
 |clip (es:List AV):(∀e∈es,bQ e)→bQ (.clip es)
 |pp (fl:List AV) (j:Nat):(∀e∈fl,bQ e)→bQ (.pp fl j)
 |agg (cs:List AV):(∀e∈cs,bQ e)→bQ (.agg cs)
 |tuple (cs:List AV):(∀e∈cs,bQ e)→bQ (.tuple cs)
 |ifc (t:TypeId) (x:AV):bQ x→bQ (.ifc t x)
 |fH (fn:Fn) (cs:List AV):(∀e∈cs,bQ e)→bQ (.fH fn cs)
 |fL (l:List (Value×Value)):bQ (.fL l)

@[simp] theorem anO:bQ .any:=.any
@[simp] theorem anQ(v:Value):bQ (.imm v):=.imm v
@[simp] theorem VF(es:List AV):bQ (.sl es)↔∀e∈es,bQ e:=⟨fun h=>by cases h;assumption,.sl es⟩
@[simp] theorem W5(es:List AV):bQ (.clip es)↔∀e∈es,bQ e:=⟨fun h=>by cases h;assumption,.clip es⟩
@[simp] theorem adt(es:List AV)(j:Nat):bQ (.pp es j)↔∀e∈es,bQ e:=⟨fun h=>by cases h;assumption,.pp es j⟩
@[simp] theorem EM(es:List AV):bQ (.agg es)↔∀e∈es,bQ e:=⟨fun h=>by cases h;assumption,.agg es⟩
@[simp] theorem Tz(es:List AV):bQ (.tuple es)↔∀e∈es,bQ e:=⟨fun h=>by cases h;assumption,.tuple es⟩
@[simp] theorem ZV(t:TypeId)(x:AV):bQ (.ifc t x)↔bQ x:=⟨fun h=>by cases h;assumption,.ifc t x⟩
@[simp] theorem ZU(fn:Fn)(es:List AV):bQ (.fH fn es)↔∀e∈es,bQ e:=⟨fun h=>by cases h;assumption,.fH fn es⟩
@[simp] theorem ajQ(l:List (Value×Value)):bQ (.fL l):=.fL l
@[simp] theorem ajR(a:Nat):bQ (.mref a)↔False:=⟨(by intro h;cases h),False.elim⟩
@[simp] theorem ajS(a b c:Nat):bQ (.view a b c)↔False:=⟨(by intro h;cases h),False.elim⟩
@[simp] theorem anT(a b c:Nat):bQ (.ref a b c)↔False:=⟨(by intro h;cases h),False.elim⟩

theorem c4.move{C C':Ctx}{x:AV}{v:Value}(h:c4 C x v)(hn:bQ x)(hs:C.w.heap.size≤C'.w.heap.size)(hk:∀b,b<C.w.heap.size→¬C.bad b→C'.w.heap[b]? =C.w.heap[b]? ∧¬C'.bad b):c4 C' x v:=by
 have hh:∀{b o:Nat} {v:Value},b<C.w.heap.size→¬C.bad b→Holds C.w b o v→Holds C'.w b o v:=fun{b o v} hb hn h=>by
  refine⟨?_,h.2⟩
  rw[World.cell?_of_block (w:=C.w) (a:=⟨b,o,none⟩) (hk b hb hn).1]
  exact h.1
 induction h with
 |any v=>exact .any v
 |imm v hv=>exact .imm v hv
 |slNil a cap=>exact .slNil a cap
 |sl es b off sz cap c hb hbad hc hf hcell _ ih=>
  simp only[VF] at hn
  refine .sl es b off sz cap c (afs hb hs) (hk b hb hbad).2 hc hf (fun i j e x he hx=>hh hb hbad (hcell i j e x he hx)) (fun i j e x he hx=>ih i j e x he hx ?_)
  have h1:=hn e (ad7 he)
  cases e <;> simp only[AV.flat] at hx
  case agg cs=>grind [EM]
  case fL=>simp at hx
  all_goals
   have:=ad7 hx
   simp only[aeq] at this
   rw[this];exact h1
 |clipNil a=>exact .clipNil a
 |clip es b off sz c hb hbad hf hcell _ ih=>
  simp only[W5] at hn
  refine .clip es b off sz c (afs hb hs) (hk b hb hbad).2 hf (fun i j e x he hx=>hh hb hbad (hcell i j e x he hx)) (fun i j e x he hx=>ih i j e x he hx ?_)
  have h1:=hn e (ad7 he)
  cases e <;> simp only[AV.flat] at hx
  case agg cs=>grind [EM]
  case fL=>simp at hx
  all_goals
   have:=ad7 hx
   simp only[aeq] at this
   rw[this];exact h1
 |view id off len v _ _ _=>simp at hn
 |ref id i j v _ _ _=>simp at hn
 |mref id v _ _ _=>simp at hn
 |pp fl j b off c hb hbad hcell _ ih=>
  simp only[adt] at hn
  exact .pp fl j b off c (afs hb hs) (hk b hb hbad).2 (fun k x hx=>hh hb hbad (hcell k x hx)) (fun k x hx=>ih k x hx (hn x (ad7 hx)))
 |agg cs vs hsz h1 _ ih=>simp only[EM] at hn;exact .agg cs vs hsz h1 (fun k x hx=>ih k x hx (hn x (ad7 hx)))
 |tuple cs vs hsz _ ih=>simp only[Tz] at hn;exact .tuple cs vs hsz (fun k x hx=>ih k x hx (hn x (ad7 hx)))
 |ifc t x v _ ih=>simp only[ZV] at hn;exact .ifc t x v (ih hn)
 |fH fn caps vs hsz _ ih=>simp only[ZU] at hn;exact .fH fn caps vs hsz (fun k x hx=>ih k x hx (hn x (ad7 hx)))

inductive ya:AV→Prop
 |any:ya .any
 |imm (v:Value):ya (.imm v)
 |agg (cs:List AV):(∀e∈cs,ya e)→ya (.agg cs)
 |tuple (cs:List AV):(∀e∈cs,ya e)→ya (.tuple cs)
 |ifc (t:TypeId) (x:AV):ya x→ya (.ifc t x)

@[simp] theorem aqd:ya .any:=.any
@[simp] theorem aqf(v:Value):ya (.imm v):=.imm v
@[simp] theorem aqc(es:List AV):ya (.agg es)↔∀e∈es,ya e:=⟨fun h=>by cases h;assumption,.agg es⟩
@[simp] theorem ajC(es:List AV):ya (.tuple es)↔∀e∈es,ya e:=⟨fun h=>by cases h;assumption,.tuple es⟩
@[simp] theorem aqe(t:TypeId)(x:AV):ya (.ifc t x)↔ya x:=⟨fun h=>by cases h;assumption,.ifc t x⟩

theorem ya.rep{C C':Ctx}{x:AV}{v:Value}(hd:ya x)(h:c4 C x v):c4 C' x v:=by
 induction hd generalizing v with
 |any=>exact .any v
 |imm u=>cases h;exact .imm _ (by assumption)
 |agg cs _ ih=>
  match h with
  |.agg _ vs h1 h2 h3=>exact .agg cs vs h1 h2 (fun k x hx=>ih x (ad7 hx) (h3 k x hx))
 |tuple cs _ ih=>
  match h with
  |.tuple _ vs h1 h3=>exact .tuple cs vs h1 (fun k x hx=>ih x (ad7 hx) (h3 k x hx))
 |ifc t x _ ih=>
  match h with
  |.ifc _ _ v h1=>exact .ifc t x v (ih h1)

def gO(P:Program)(f:FuncId):Prop:=∀args w,(callFunc f args).run P w=.ok (.enter f args) w

theorem iF{P:Program}{f:FuncId}{fn:Func}{c:Code}(hf:P.funcs[f]? =some fn)(hn:(fn.name== "runtime.NumGoroutine")=false)(hb:fn.body=some c):gO P f:=fun args w=>by
 simp_all [callFunc]

structure oQ (P:Program) (W0:World) (f:FuncId) (xs:List AV) (r:AV):Prop where
 call:gO P f
 lT:bQ r
 runs:∀(C:Ctx) (vals:Array Value),Inv (.of W0) C→C.H=.empty→C.iu=[]→vals.size=xs.length→(∀(k:Nat) (x:AV),xs[k]? =some x→c4 C x (vals.getD k undef))→
  Calls P f vals C.w (fun e w'=>∃v C',e=.returned v∧C'.w=w'∧Ext C C'∧Inv (.of W0) C'∧c4 C' r v)

section
variable {P:Program} {W0:bS} {C:Ctx} {fr:Fr} {a:Act} {H:Heap} {o:Oper} {N:Nat}

def Ctx.bare(C:Ctx)(pr:Nat→Prop):Ctx:={w:=C.w,H:=.empty,pl:=C.pl,cI:=pr,iu:=[],nI:=0}

theorem zB(pr:Nat→Prop)(b:Nat):¬(C.bare pr).own b:=by
 rintro(⟨id,es,h,_⟩|⟨r,h⟩|h)
 ·simp[Ctx.bare,Heap.empty,Heap.get,lk] at h
 ·simp[Ctx.bare,Heap.empty,lk] at h
 ·simp[Ctx.bare] at h

theorem Ci{C:Ctx}(hH:C.H=.empty)(hd:C.iu=[])(b:Nat):¬C.own b:=by
 rintro(⟨id,es,h,_⟩|⟨r,h⟩|h)
 ·grind [Heap.empty,Heap.get,lk]
 ·grind [Heap.empty,lk]
 grind

theorem Inv.bare(hI:Inv W0 C){pr:Nat→Prop}(hp:∀b,pr b→b<C.w.heap.size)(hp2:∀b,pr b→W0.w.heap.size≤b):Inv (.of W0.w) (C.bare pr) where
 fresh id es h:=by simp[Ctx.bare,Heap.empty,Heap.get,lk] at h
 nil id es h:=by simp[Ctx.bare,Heap.empty,Heap.get,lk] at h
 obj id es h:=by simp[Ctx.bare,Heap.empty,Heap.get,lk] at h
 sep i1 i2 e1 e2 h:=by simp[Ctx.bare,Heap.empty,Heap.get,lk] at h
 cI id es h:=by simp[Ctx.bare,Heap.empty,Heap.get,lk] at h
 jX id s h:=by simp[Ctx.bare,Heap.empty,Heap.sz,lk] at h
 dU:=hp
 eG:=hp2
 size:=hI.size
 gD b h:=⟨(hI.gD b h).1,zB pr b⟩
 ec l r h:=by simp[Ctx.bare,Heap.empty,lk] at h
 iu d h:=by simp[Ctx.bare] at h
 BX:=.nil
 Cn:=fun _ _=>rfl
 eS b h:=absurd (.inr h) (zB pr b)
 lU:=rfl
 fe:=afR _
 gh:=trivial

theorem Inv.LX(hI:Inv W0 C){b:Nat}(h:C.own b):W0.w.heap.size≤b:=by
 rcases aft b W0.w.heap.size with hb|hb
 ·exact absurd h (hI.gD b hb).2
 omega

theorem c4.bare{x:AV}{v:Value}(h:c4 C x v)(hn:bQ x){pr:Nat→Prop}(hp:∀b,¬C.bad b→¬pr b):c4 (C.bare pr) x v:=
 h.move hn (afk _) (fun b _ hb=>⟨rfl,fun h=>by
  rcases h with h|h
  ·exact zB pr b h
  ·exact hp b hb h⟩)

theorem pJ{f:FuncId}{args:Array Operand}{tys:Array TypeId}(ho:o.op=.call {callee:=.value (.func f),args:=args,argTypes:=tys})(hc:gO P f)(w:World):
  (execOp a.eval o).run P w=.ok (.enter f (args.map a.eval)) w:=by
 have h1:a.eval (.func f)=.func (.func f) #[] #[]:=rfl;have h2:=hc (args.map a.eval) w;grind [execOp,resolve,Deferred.ofValue,invoke]

theorem yZ{C1 C2:Ctx}(h:Ext C1 C2)(hn:∀b,¬C1.own b):Below C1.w.heap.size C1.w C2.w:=
 ⟨h.below.os,h.below.tape,h.below.output,h.below.size,fun k hk=>h.keep k hk (hn k)⟩

variable {r:AV}
theorem wD{f:FuncId}{args:Array Operand}{tys:Array TypeId}{xs:List AV}(ho:o.op=.call {callee:=.value (.func f),args:=args,argTypes:=tys})(hxs:args.toList.mapM (aD fr)=some xs)(hno:∀x∈xs,bQ x)(hf:oQ P W0.w f xs r):b_ P W0 o fr H r H:=by
 intro C a hI hH hop K Q hK
 unfold Oper.wp
 rw[pJ ho hf.call,Oper.upon_enter]
 obtain⟨m1,m2⟩:=Ce args.toList xs hxs
 have MM:Inv (.of W0.w) (C.bare (fun b=>C.cI b∨C.own b)):=hI.bare (fun b hb=>by
  rcases hb with h|h
  ·exact hI.dU b h
  ·exact hI.G0 h) (fun b hb=>by
  rcases hb with h|h
  ·exact hI.eG b h
  ·exact hI.LX h)
 have hrep:∀(k:Nat) (x:AV),xs[k]? =some x→c4 (C.bare (fun b=>C.cI b∨C.own b)) x ((args.map a.eval).getD k undef):=fun k x hx=>by
  obtain⟨y,g1,g2⟩:=m2 k x hx
  have hy:args[k]? =some y:=by grind
  have hlt:k<(args.map a.eval).size:=by grind
  have e:(args.map a.eval).getD k undef=a.eval y:=by
   simp_all
  rw[e]
  have hmem:y∈o.op.operands:=by grind [Op.operands,Call.operands]
  exact(aQ (hop y hmem) g2).bare (hno x (ad7 hx)) (fun b hb h=>hb (h.elim .inr .inl))
 refine(hf.runs _ (args.map a.eval) MM rfl rfl (by grind) hrep).mono ?_
 rintro e w' ⟨v,C1,rfl,rfl,hE,hI',hr⟩
 have hB:=yZ hE (zB _)
 have hB':Below C.w.heap.size C.w C1.w:=hB
 refine hK v (C.uG C1.w) (dh hB') (hI.uG hB') hH (hr.move hf.lT (afk _) (fun b hb hn=>⟨rfl,fun h=>hn ?_⟩))
 rcases h with h|h
 ·exact .inr (by rw[hE.cI];exact .inr h)
 ·exact .inr (by rw[hE.cI];exact .inl h)


def bN:Nat→List AV→List (Nat×AV)
 |_,[]=>[]
 |k,x::xs=>(k,x)::bN (k+1) xs

theorem wT:∀(xs:List AV) (k t:Nat) (x:AV),lk (bN k xs) t=some x→k≤t∧xs[t - k]? =some x
 |[],k,t,x,h=>by cases h
 |y::xs,k,t,x,h=>by
  simp only[bN,lk] at h;split at h
  ·grind
  ·obtain⟨h1,h2⟩:=wT xs (k+1) t x h
   grind

def JC(P:Program)(st:St):ResultVar→Option AV
 |.tmp t=>lk st.fr t
 |.cell q T=>match lk st.fr q,Dw P T with
  |some (.ref id i j),some (n,g)=>match st.H.get id with
   |some es=>match es[i]? with
    |some e=>qF e.flat j n g
    |none=>none
   |none=>none
  |_,_=>none

def Cm(P:Program)(rs:List ResultVar)(st:St):Option AV:=
 match rs.mapM (JC P st) with
 |some [r]=>some r
 |some l=>some (.tuple l)
 |none=>none

def aaR(tm:Array Value):ResultVar→Sem Value
 |.tmp t=>Pure.pure (tm.getD t undef)
 |.cell q t=>do loadVar t (←asAddr (tm.getD q undef))

theorem T3{st:St}(hr:Rel W0 N (lk st.fr) st.H C a){x:ResultVar}(h:JC P st x=some r):
  ∃v,(aaR a.tmps x).run P C.w=.ok v C.w∧c4 C r v:=by
 cases x with
 |tmp t=>exact⟨_,rfl,hr.rep t r h⟩
 |cell q T=>
  simp only[JC] at h;split at h
  ·rename_i id i j n g h1 h2
   split at h
   ·rename_i es h3
    split at h
    ·rename_i e h4
     have h5:=hr.rep q _ h1;have hid:C.H.get id=some es:=by rw[hr.heap];exact h3
     match h5 with
     |.ref _ _ _ _ hid' h6 _=>
     obtain⟨hn,hu2⟩:=h6 es hid;obtain⟨v,h7,h8⟩:=qI h2 (JQ hr.inv hid hn h4 j) (L3 h);refine⟨v, ?_,h8⟩;show((do loadVar T (←asAddr (a.tmps.getD q undef))):Sem Value).run P C.w=_;grind [asAddr]
    ·cases h
   ·cases h
  ·cases h

theorem J8{st:St}(hr:Rel W0 N (lk st.fr) st.H C a){fn:Func}(h:Cm P fn.results.toList st=some r):∃v,(results fn a.tmps).run P C.w=.ok v C.w∧c4 C r v:=by
 have key:∀(l:List ResultVar) (rs:List AV),l.mapM (JC P st)=some rs→
   ∃vs:List Value,(l.mapM (aaR a.tmps)).run P C.w=.ok vs C.w∧vs.length=rs.length∧∀(k:Nat) (x:AV),rs[k]? =some x→∃v,vs[k]? =some v∧c4 C x v:=by
  intro l
  induction l with
  |nil=>
   simp_all
  |cons x l ih=>
   intro rs h;rw[acT] at h;simp only[aeY,ae1,afd,Option.some.injEq] at h;obtain⟨z,hz,zs,hzs,rfl⟩:=h;obtain⟨v,g1,g2⟩:=T3 (P:=P) hr hz;obtain⟨vs,g3,g4,g5⟩:=ih zs hzs;refine⟨v::vs, ?_,by simp[g4],fun k x hk=> ?_⟩
   ·simp_all
   grind
 have hra:fn.results=fn.results.toList.toArray:=by simp
 have gen:∀(g:ResultVar→Sem Value),(∀x,g x=aaR a.tmps x)→∀vs:List Value,(fn.results.toList.mapM (aaR a.tmps)).run P C.w=.ok vs C.w→
   (do let vs←fn.results.mapM g;pure (if h:vs.size=1 then vs[0] else .tuple vs):Sem Value).run P C.w=.ok (if h:vs.toArray.size=1 then vs.toArray[0] else .tuple vs.toArray) C.w:=fun g hg vs hvs=>by
  rw[funext hg,hra,acW,Sem.run_bind,Sem.run_map,hvs];rfl
 have hrun:∀vs:List Value,(fn.results.toList.mapM (aaR a.tmps)).run P C.w=.ok vs C.w→
   (results fn a.tmps).run P C.w=.ok (if h:vs.toArray.size=1 then vs.toArray[0] else .tuple vs.toArray) C.w:=fun vs hvs=>gen _ (fun x=>by rfl) vs hvs
 unfold Cm at h;split at h
 ·rename_i r' h1
  obtain⟨vs,g1,g2,g3⟩:=key _ _ h1;obtain⟨v,g4,g5⟩:=g3 0 r' rfl;grind
 ·rename_i rs hne h1
  simp only[Option.some.injEq] at h;subst h;obtain⟨vs,g1,g2,g3⟩:=key _ _ h1;have hl:vs.toArray.size≠1:=fun h=>by
   grind [List.length_eq_one_iff]
  refine⟨.tuple vs.toArray, ?_,.tuple rs _ (by omega) (fun k x hk=> ?_)⟩
  ·grind
  ·obtain⟨v,g4,g5⟩:=g3 k x hk
   simp_all
 ·cases h

end
end Go.Av
end

section
namespace Go.Av
abbrev u64(x:BitVec 64):AV:=.imm (.int .u64 (x.toNat:Int))
abbrev J(n:Int):AV:=.imm (.int .i64 n)
abbrev bl(b:Bool):AV:=.imm (.bool b)
abbrev dy:AV:=.imm (.slice none 0 0)

section
variable {P:Program} {W0:bS} {fr:Fr} {H:Heap} {o:Oper}

variable {t t':TypeId}{x y:Operand}{k:IntKind}{m n:Int}
theorem mN{op:BinOp}{v:Value}(ho:o.op=.binOp op t x y t')(hx:aD fr x=some (.imm (.int k m)))(hy:aD fr y=some (.imm (.int k n)))
  (h:∀w,(binOp op t (.int k m) (.int k n)).run P w=.ok v w)(hv:v.oneCell'=true):b_ P W0 o fr H (.imm v) H:=
 .cz fun C a _ _ hr=>by
  have e1:=bR (v:=.int k m) rfl (aQ (hr x (by simp[ho,Op.operands])) hx)
  have e2:=bR (v:=.int k n) rfl (aQ (hr y (by simp[ho,Op.operands])) hy)
  refine⟨v, ?_,.imm v hv⟩
  simp_all [eqGuard,execOp]

theorem Kt(ho:o.op=.binOp .lss t x y t')(hx:aD fr x=some (.imm (.int k m)))(hy:aD fr y=some (.imm (.int k n))):b_ P W0 o fr H (bl (decide (m<n))) H:=
 mN ho hx hy (fun w=>by simp[binOp,Op.intCmp]) rfl
theorem ab3(ho:o.op=.binOp .leq t x y t')(hx:aD fr x=some (.imm (.int k m)))(hy:aD fr y=some (.imm (.int k n))):b_ P W0 o fr H (bl (decide (m≤n))) H:=
 mN ho hx hy (fun w=>by simp[binOp,Op.intCmp]) rfl
theorem UG(ho:o.op=.binOp .gtr t x y t')(hx:aD fr x=some (.imm (.int k m)))(hy:aD fr y=some (.imm (.int k n))):b_ P W0 o fr H (bl (decide (n<m))) H:=
 mN ho hx hy (fun w=>by simp[binOp,Op.intCmp]) rfl
theorem ab2(ho:o.op=.binOp .geq t x y t')(hx:aD fr x=some (.imm (.int k m)))(hy:aD fr y=some (.imm (.int k n))):b_ P W0 o fr H (bl (decide (n≤m))) H:=
 mN ho hx hy (fun w=>by simp[binOp,Op.intCmp]) rfl
theorem Hy(ho:o.op=.binOp .eql t x y t')(hx:aD fr x=some (.imm (.int k m)))(hy:aD fr y=some (.imm (.int k n))):b_ P W0 o fr H (bl (decide (m=n))) H:=
 mN ho hx hy (fun w=>by simp[binOp,Op.intCmp];rfl) rfl
theorem UI(ho:o.op=.binOp .neq t x y t')(hx:aD fr x=some (.imm (.int k m)))(hy:aD fr y=some (.imm (.int k n))):b_ P W0 o fr H (bl (decide (m≠n))) H:=
 mN ho hx hy (fun w=>by simp[binOp,Op.intCmp];rfl) rfl
variable {s:Int}
theorem oR(ho:o.op=.binOp .add t x y t')(hx:aD fr x=some (.imm (.int k m)))(hy:aD fr y=some (.imm (.int k n)))(hs:k.wrap (m+n)=s):b_ P W0 o fr H (.imm (.int k s)) H:=
 mN ho hx hy (fun w=>by simp[binOp,Op.intArith,hs]) rfl
theorem HB(ho:o.op=.binOp .sub t x y t')(hx:aD fr x=some (.imm (.int k m)))(hy:aD fr y=some (.imm (.int k n)))(hs:k.wrap (m - n)=s):b_ P W0 o fr H (.imm (.int k s)) H:=
 mN ho hx hy (fun w=>by simp[binOp,Op.intArith,hs]) rfl
theorem UH(ho:o.op=.binOp .mul t x y t')(hx:aD fr x=some (.imm (.int k m)))(hy:aD fr y=some (.imm (.int k n)))(hs:k.wrap (m*n)=s):b_ P W0 o fr H (.imm (.int k s)) H:=
 mN ho hx hy (fun w=>by simp[binOp,Op.intArith,hs]) rfl
theorem UL(ho:o.op=.binOp .quo t x y t')(hx:aD fr x=some (.imm (.int k m)))(hy:aD fr y=some (.imm (.int k n)))(h0:n≠0)(hs:k.wrap (m.tdiv n)=s):b_ P W0 o fr H (.imm (.int k s)) H:=
 mN ho hx hy (fun w=>by simp[binOp,Op.intDiv,h0,hs]) rfl
theorem UM(ho:o.op=.binOp .rem t x y t')(hx:aD fr x=some (.imm (.int k m)))(hy:aD fr y=some (.imm (.int k n)))(h0:n≠0)(hs:m.tmod n=s):b_ P W0 o fr H (.imm (.int k s)) H:=
 mN ho hx hy (fun w=>by simp[binOp,Op.intDiv,h0,hs]) rfl

theorem HG(x:BitVec 64):BitVec.ofInt 64 (x.toNat:Int)=x:=by simp
theorem Fl(x:BitVec 64):IntKind.u64.wrap (x.toNat:Int)=x.toNat:=by
 simp only[IntKind.wrap,IntKind.signed,IntKind.bits,afS,afT,if_false];omega

variable {a b:BitVec 64}
theorem agc(ho:o.op=.binOp .or t x y t')(hx:aD fr x=some (u64 a))(hy:aD fr y=some (u64 b)):b_ P W0 o fr H (u64 (a|||b)) H:=
 mN ho hx hy (fun w=>by simp only[binOp,ne_eq,not_true_eq_false,if_false,Op.intBits,IntKind.bits,HG,Fl];rfl) rfl
theorem UF(ho:o.op=.binOp .and t x y t')(hx:aD fr x=some (u64 a))(hy:aD fr y=some (u64 b)):b_ P W0 o fr H (u64 (a&&&b)) H:=
 mN ho hx hy (fun w=>by simp only[binOp,ne_eq,not_true_eq_false,if_false,Op.intBits,IntKind.bits,HG,Fl];rfl) rfl
theorem ab5(ho:o.op=.binOp .xor t x y t')(hx:aD fr x=some (u64 a))(hy:aD fr y=some (u64 b)):b_ P W0 o fr H (u64 (a^^^b)) H:=
 mN ho hx hy (fun w=>by simp only[binOp,ne_eq,not_true_eq_false,if_false,Op.intBits,IntKind.bits,HG,Fl];rfl) rfl
theorem SH(ho:o.op=.binOp .andNot t x y t')(hx:aD fr x=some (u64 a))(hy:aD fr y=some (u64 b)):b_ P W0 o fr H (u64 (a&&& ~~~b)) H:=
 mN ho hx hy (fun w=>by simp only[binOp,ne_eq,not_true_eq_false,if_false,Op.intBits,IntKind.bits,HG,Fl];rfl) rfl

theorem UJ{b:Bool}(ho:o.op=.unOp .not t x)(hx:aD fr x=some (bl b)):b_ P W0 o fr H (bl (!b)) H:=
 Yp ho hx rfl (by rfl)

theorem ab1{p q:Bool}(ho:o.op=.binOp .eql t x y t')(hx:aD fr x=some (bl p))(hy:aD fr y=some (bl q))(ht:P.underlying t=some .bool):b_ P W0 o fr H (bl (p==q)) H:=
 .cz fun C a _ _ hr=>by
  have e1:=bR (v:=.bool p) rfl (aQ (hr x (by simp[ho,Op.operands])) hx);have e2:=bR (v:=.bool q) rfl (aQ (hr y (by simp[ho,Op.operands])) hy);refine⟨.bool (p==q), ?_,.imm _ rfl⟩;have hg:(eqGuard .eql t x y (.bool p) (.bool q)).run P C.w=.ok () C.w:=rfl;have hb:(binOp .eql t (.bool p) (.bool q)).run P C.w=.ok (.bool (p==q)) C.w:=run_eql_bool C.w t p q ht;simp_all [execOp]

end
variable {P:Program}{W0:bS}
theorem b_.conv{o:Oper}{fr:Fr}{H H':Heap}{r r':AV}(h:b_ P W0 o fr H r H')(e:r=r'):b_ P W0 o fr H r' H':=e▸h
theorem b_.ff{o:Oper}{fr:Fr}{H H':Heap}{p:Prop} [Decidable p] (h:b_ P W0 o fr H (bl (decide p)) H')(hp:¬p):b_ P W0 o fr H (bl false) H':=h.conv (by grind)

theorem KZ{N:Nat}{st:St}{Q:Exit→St→Prop}{c:Operand}{x y:Code}(hc:aD (lk st.fr) c=some (bl true))(h:iD P W0 N x st Q):iD P W0 N (.cond c x y) st Q:=
 mP hc (fun _=>h) (fun h=>by cases h)
theorem KY{N:Nat}{st:St}{Q:Exit→St→Prop}{c:Operand}{x y:Code}(hc:aD (lk st.fr) c=some (bl false))(h:iD P W0 N y st Q):iD P W0 N (.cond c x y) st Q:=
 mP hc (fun h=>by cases h) (fun _=>h)

section
variable {P:Program} {W0:bS} {fr:Fr} {H:Heap} {o:Oper}

variable {t:TypeId}
theorem run_neq_bool(w:World)(a b:Bool)(h:P.underlying t=some .bool):(binOp .neq t (.bool a) (.bool b)).run P w=.ok (.bool (!(a==b))) w:=by
 simp_all [run_equal_bool,binOp]

variable {t':TypeId}{x y:Operand}
theorem ab4{p q:Bool}(ho:o.op=.binOp .neq t x y t')(hx:aD fr x=some (bl p))(hy:aD fr y=some (bl q))(ht:P.underlying t=some .bool):b_ P W0 o fr H (bl (!(p==q))) H:=
 .cz fun C a _ _ hr=>by
  have e1:=bR (v:=.bool p) rfl (aQ (hr x (by simp[ho,Op.operands])) hx);have e2:=bR (v:=.bool q) rfl (aQ (hr y (by simp[ho,Op.operands])) hy);refine⟨.bool (!(p==q)), ?_,.imm _ rfl⟩;simp_all [eqGuard,execOp,run_neq_bool]

theorem Sf(n:Int):IntKind.u64.wrap n=((BitVec.ofInt 64 n).toNat:Int):=by
 rw[BitVec.toNat_ofInt];simp only[IntKind.wrap,IntKind.signed,IntKind.bits,afS,afT,if_false];omega

variable {a b:BitVec 64}
theorem Wf(ho:o.op=.binOp .add t x y t')(hx:aD fr x=some (u64 a))(hy:aD fr y=some (u64 b)):b_ P W0 o fr H (u64 (a+b)) H:=
 oR ho hx hy (by
  rfl)
theorem Wn(ho:o.op=.binOp .sub t x y t')(hx:aD fr x=some (u64 a))(hy:aD fr y=some (u64 b)):b_ P W0 o fr H (u64 (a - b)) H:=
 HB ho hx hy (by
  have e:BitVec.ofInt 64 ((a.toNat:Int) - b.toNat)=a - b:=by
   apply BitVec.eq_of_toNat_eq;have:=b.isLt;grind [BitVec.toNat_ofInt]
  rw[Sf,e])
theorem Nk(ho:o.op=.binOp .mul t x y t')(hx:aD fr x=some (u64 a))(hy:aD fr y=some (u64 b)):b_ P W0 o fr H (u64 (a*b)) H:=
 UH ho hx hy (by
  rfl)

variable {k':IntKind}{n:Int}
theorem zp{op:BinOp}{k:IntKind}{m:Int}{v:Value}(ho:o.op=.binOp op t x y t')(hx:aD fr x=some (.imm (.int k m)))(hy:aD fr y=some (.imm (.int k' n)))
  (h:∀w,(binOp op t (.int k m) (.int k' n)).run P w=.ok v w)(hv:v.oneCell'=true):b_ P W0 o fr H (.imm v) H:=
 .cz fun C a _ _ hr=>by
  have e1:=bR (v:=.int k m) rfl (aQ (hr x (by simp[ho,Op.operands])) hx)
  have e2:=bR (v:=.int k' n) rfl (aQ (hr y (by simp[ho,Op.operands])) hy)
  refine⟨v, ?_,.imm v hv⟩
  simp_all [eqGuard,execOp]

theorem Wl(ho:o.op=.binOp .shl t x y t')(hx:aD fr x=some (u64 a))(hy:aD fr y=some (.imm (.int k' n)))(h0:0≤n)(h64:n<64):b_ P W0 o fr H (u64 (a<<<n.toNat)) H:=
 zp ho hx hy (fun w=>by
  have hn:¬n<0:=by omega
  have hm:min n.toNat 64=n.toNat:=by omega
  simp only[binOp,Op.shift,hn,if_false,IntKind.bits,hm,Sf];show Result.ok _ w=Result.ok _ w;grind [BitVec.toNat_ofInt,Nat.shiftLeft_eq]) rfl
theorem Wm(ho:o.op=.binOp .shr t x y t')(hx:aD fr x=some (u64 a))(hy:aD fr y=some (.imm (.int k' n)))(h0:0≤n)(h64:n<64):b_ P W0 o fr H (u64 (a>>>n.toNat)) H:=
 zp ho hx hy (fun w=>by
  have hn:¬n<0:=by omega
  have hm:min n.toNat 64=n.toNat:=by omega
  simp only[binOp,Op.shift,hn,if_false,IntKind.bits,hm];show Result.ok _ w=Result.ok _ w;grind [Nat.shiftRight_eq_div_pow]) rfl

theorem KQ{s d:TypeId}{k:IntKind}{m:Int}(ho:o.op=.convert s d x)(hx:aD fr x=some (.imm (.int k n)))(hs:P.underlying s=some (.int k))(hd:P.underlying d=some (.int k'))(hm:k'.wrap n=m):b_ P W0 o fr H (.imm (.int k' m)) H:=
 .cz fun C a _ _ hr=>by
  have e1:=bR (v:=.int k n) rfl (aQ (hr x (by simp[ho,Op.operands])) hx);refine⟨.int k' m, ?_,.imm _ rfl⟩;simp_all [execOp,convert,run_underlying,Conv.intToInt]

theorem yY{e:TypeId}{s eN:Nat}{id off len:Nat}{es:List AV}(ho:o.op=.call {callee:=.builtin .len,args:= #[x],argTypes:= #[t]})(hx:aD fr x=some (.view id off len))(hid:H.get id=some es)(ht:oK P t=some (e,s,eN)):
  b_ P W0 o fr H (J len) H:=
 .cz fun C a hI hH hop=>by
  subst hH;have hr:=aQ (hop x (by simp[ho,Op.operands,Call.operands])) hx;obtain⟨hu,_⟩:=lF ht;generalize hux:a.eval x=u at hr;have hu2:∃ad cap,u=.slice ad len cap:=match hr with
   |.view _ _ _ _ _ hs _=>by
    have:=hs es hid;unfold jl at this;grind
  obtain⟨ad,cap,rfl⟩:=hu2;refine⟨.int .i64 len, ?_,.imm _ rfl⟩;obtain⟨cs,hb⟩:=je (P:=P) ho a;simp_all [builtin,Builtin.len_,run_underlying,goInt]

theorem Nj{f off n:Nat}{g:Bool}{cs:List AV}{r:AV}(ho:o.op=.field t x f)(hx:aD fr x=some (.agg cs))(hf:MB P t f=some (off,n,g))(hr:qF cs off n g=some r):b_ P W0 o fr H r H:=
 .cz fun C a _ _ hop=>by
  have h1:=aQ (hop x (by simp[ho,Op.operands])) hx;generalize hu:a.eval x=u at h1;obtain⟨fs,fd,h2,h3,h4,h5⟩:=QH hf;obtain⟨h6,h7⟩:=AE h5 C.w
  match h1 with
  |.agg _ vs hs hone hrep=>
  unfold qF at hr;cases g
  ·have hlt:off<vs.size:=by grind
   refine⟨vs.getD off undef, ?_,hrep off r hr⟩;simp_all [execOp,Instr.field,run_underlying,asAgg,part]
  ·simp only[if_true] at hr
   split at hr
   ·simp only[Option.some.injEq] at hr;subst hr
    refine⟨.agg (vs.extract off (off+n)), ?_, ?_⟩
    ·simp_all [execOp,Instr.field,run_underlying,asAgg,part]
    ·have hsz:(vs.extract off (off+n)).size=n:=by grind
     have hget:∀k,k<n→(vs.extract off (off+n))[k]? =vs[off+k]? :=fun k hk=>by
      grind
     refine .agg _ _ (by grind) (fun k v hk=> ?_) (fun k x hk=> ?_)
     ·grind
     grind [CV]
   grind

end

theorem KR{W0:bS}{P:Program}{fr:Fr}{H:Heap}{o:Oper}{t:TypeId}{N:Nat}{g:Nat}{i:Operand}{fl:List AV}{vs:List Value}{k:IntKind}{n:Int}{m:Nat}(ho:o.op=.indexAddr t (.global g) i)(hi:aD fr i=some (.imm (.int k n)))
  (ht:Hi P t=some (N,1))(hn:n=m)(hm:m<N)(hfl:fl=vs.map .imm)(hT:∀(j:Nat) (v:Value),vs[j]? =some v→W0.w.cell? ⟨g,j,none⟩=some v∧v.oneCell'=true)(h0:vs≠[]):b_ P W0 o fr H (.pp fl m) H:=
 .cz fun C a hI _ hop=>by
  have h2:=bR (v:=.int k n) rfl (aQ (hop i (by simp[ho,Op.operands])) hi)
  have hx:a.eval (.global g)=.pointer (some ⟨g,0,none⟩):=rfl
  subst hn
  have hg:g<W0.w.heap.size:=by
   obtain⟨v,vs',rfl⟩:=List.exists_cons_of_ne_nil h0
   have:=(hT 0 v rfl).1
   grind [World.cell?]
  have hblk:=hI.gD g hg
  have hc:∀(j:Nat) (v:Value),vs[j]? =some v→Holds C.w g (0+j) v:=fun j v hj=>by
   obtain⟨h3,h4⟩:=hT j v hj
   refine⟨?_,h4⟩
   rw[afQ,World.cell?_of_block (w:=W0.w) (a:=⟨g,j,none⟩) hblk.1]
   exact h3
  have hsz:=hI.size
  refine⟨_, ?_,.pp fl m g 0 (fun j=>vs.getD j undef) (by omega) (fun hb=> ?_) (fun j x hj=> ?_) (fun j x hj=> ?_)⟩
  ·simp only[execOp,ho,hx,h2]
   rw[Sem.run_bind,Aq ht g 0 k m hm,Nat.mul_one]
   rfl
  ·rcases hb with hb|hb
   ·grind
   ·have:=hI.eG g hb;omega
  ·grind
  ·rw[hfl] at hj
   simp only[ab_,ae5] at hj
   obtain⟨v,hv,rfl⟩:=hj
   have:vs.getD j undef=v:=by grind
   rw[this];exact .imm v (hT j v hv).2

theorem Q4{n:Int}(h1: -9223372036854775808≤n)(h2:n<9223372036854775808):IntKind.i64.wrap n=n:=by
 rw[IntKind.wrap_i64];omega
inductive gi (H:Heap) (g:List (Nat×Nat)) (nw:List Nat):AV→AV→Prop
 |same (x:AV):bQ x→gi H g nw x x
 |any (x:AV):gi H g nw x .any
 |view {old new off len:Nat}:lk g new=some old→gi H g nw (.view old off len) (.view new off len)
 |viewL {old new off len len':Nat}:lk g new=some old→len=len'→gi H g nw (.view old off len) (.view new off len')
 |ref {old new i j:Nat}:lk g new=some old→gi H g nw (.ref old i j) (.ref new i j)
 |mref {old new:Nat}:lk g new=some old→gi H g nw (.mref old) (.mref new)
 |nil {n:Nat}:n∈nw→gi H g nw (.imm (.slice none 0 0)) (.view n 0 0)
 |lend {id off len:Nat} {es ys:List AV}:H.get id=some es→(∀p∈g,p.2≠id)→(es.drop off).take len=ys→(∀e∈ys,bQ e)→gi H g nw (.view id off len) (.sl ys)
 |agg (cs cs':List AV):cs.length=cs'.length→(∀(k:Nat) (x x':AV),cs[k]? =some x→cs'[k]? =some x'→gi H g nw x x')→gi H g nw (.agg cs) (.agg cs')
 |tuple (cs cs':List AV):cs.length=cs'.length→(∀(k:Nat) (x x':AV),cs[k]? =some x→cs'[k]? =some x'→gi H g nw x x')→gi H g nw (.tuple cs) (.tuple cs')
 |fH (fn:Fn) (cs cs':List AV):cs.length=cs'.length→(∀(k:Nat) (x x':AV),cs[k]? =some x→cs'[k]? =some x'→gi H g nw x x')→gi H g nw (.fH fn cs) (.fH fn cs')
 |ifc (t:TypeId) (x x':AV):gi H g nw x x'→gi H g nw (.ifc t x) (.ifc t x')
 |wide (es:List AV):(∀e∈es,bQ e)→gi H g nw (.clip es) (.sl es)
 |nilsl:gi H g nw (.imm (.slice none 0 0)) (.sl [])
 |frz {id i j:Nat} {es fl:List AV} {e:AV}:H.get id=some es→(∀p∈g,p.2≠id)→es[i]? =some e→e.flat=fl→(∀x∈fl,bQ x)→gi H g nw (.ref id i j) (.pp fl j)

structure rU (H:Heap) (g:List (Nat×Nat)) (nw:List Nat) (es es':List AV):Prop where
 len:es.length=es'.length
 see:∀(k:Nat) (e e':AV),es[k]? =some e→es'[k]? =some e'→gi H g nw e e'∧e.flat.length=e'.flat.length

theorem rU.fL{H:Heap}{g:List (Nat×Nat)}{nw:List Nat}{es es':List AV}(h:rU H g nw es es')(l:List (Value×Value))(he:es'=[.fL l]):es=[.fL l]:=by
 subst he;have hl:=h.len
 match es,hl with
 |[e],_=>
  have:=(h.see 0 e (.fL l) rfl rfl).1;cases this;rfl

def jC(H:Heap)(g:List (Nat×Nat))(nw:List Nat)(next:Nat):List (Nat×(Nat×List AV))→Prop
 |[]=>True
 |(n,(s,es'))::r=>((∃old es,lk g n=some old∧lk H.bV old=some (s,es)∧rU H g nw es es')∨(n∈nw∧es'=[]))∧n<next∧jC H g nw next r

def Seen(H:Heap)(g:List (Nat×Nat))(nw:List Nat)(fr:List (Nat×AV)):List (Nat×AV)→Prop
 |[]=>True
 |(t,x')::r=>(∃x,lk fr t=some x∧gi H g nw x x')∧Seen H g nw fr r

theorem iL{α:Type}:∀{l:List (Nat×α)} {t:Nat} {x:α},lk l t=some x→(t,x)∈l
 |[],_,_,h=>by cases h
 |(s,u)::l,t,x,h=>by
  simp only[lk] at h;split at h
  ·grind
  ·exact adU _ (iL h)

section
variable {P:Program} {W0:bS} {C:Ctx} {N:Nat} {H:Heap} {g:List (Nat×Nat)} {nw:List Nat}

theorem rU.same{es:List AV}(h:∀e∈es,bQ e):rU H g nw es es:=
 ⟨rfl,fun k e e' h1 h2=>by rw[h1] at h2;cases h2;exact⟨.same e (h e (ad7 h1)),rfl⟩⟩

theorem jC.spec{next:Nat}:∀{l:List (Nat×(Nat×List AV))},jC H g nw next l→∀{n s:Nat} {es':List AV},lk l n=some (s,es')→
  ((∃old es,lk g n=some old∧lk H.bV old=some (s,es)∧rU H g nw es es')∨(n∈nw∧es'=[]))∧n<next
 |[],_,_,_,_,h=>by cases h
 |(m,(s,es))::l,hl,n,s',es',h=>by
  simp only[lk] at h;split at h
  ·rename_i hm;subst hm;cases h;exact⟨hl.1,hl.2.1⟩
  ·exact jC.spec hl.2.2 h

theorem Seen.spec{fr:List (Nat×AV)}:∀{l:List (Nat×AV)},Seen H g nw fr l→∀{t:Nat} {x':AV},lk l t=some x'→∃x,lk fr t=some x∧gi H g nw x x'
 |[],_,_,_,h=>by cases h
 |(m,u)::l,hl,t,x',h=>by
  simp only[lk] at h;split at h
  ·rename_i hm;subst hm;cases h;exact hl.1
  ·exact Seen.spec hl.2 h

theorem gi.flat{e e' x x':AV}(h:gi H g nw e e'){j:Nat}(hl:e.flat.length=e'.flat.length)(h1:e.flat[j]? =some x)(h2:e'.flat[j]? =some x'):gi H g nw x x':=by
 cases h with
 |same _ hn=>
  rw[h1] at h2;cases h2;refine .same _ ?_;cases e <;> simp only[AV.flat] at h1
  case agg cs=>grind [EM]
  case fL=>simp at h1
  all_goals
   have:=ad7 h1;simp only[aeq] at this;rw[this];exact hn
 |any=>
  have:=ad7 h2;simp only[AV.flat,aeq] at this;rw[this];exact .any _
 |agg cs cs' hl' hs=>exact hs j x x' h1 h2
 |tuple cs cs' hl' hs=>
  have a:=ad7 h1;have b:=ad7 h2;simp only[AV.flat,aeq] at a b;rw[a,b];exact .tuple cs cs' hl' hs
 |fH fn cs cs' hl' hs=>
  have a:=ad7 h1;have b:=ad7 h2;simp only[AV.flat,aeq] at a b;rw[a,b];exact .fH fn cs cs' hl' hs
 |ifc t y y' hs=>
  have a:=ad7 h1;have b:=ad7 h2;simp only[AV.flat,aeq] at a b;rw[a,b];exact .ifc t y y' hs
 |wide es hn=>
  have a:=ad7 h1;have b:=ad7 h2;simp only[AV.flat,aeq] at a b;rw[a,b];exact .wide es hn
 |nilsl=>
  have a:=ad7 h1;have b:=ad7 h2;simp only[AV.flat,aeq] at a b;rw[a,b];exact .nilsl
 |frz q1 q2 q3 q4 q5=>
  have a:=ad7 h1;have b:=ad7 h2;simp only[AV.flat,aeq] at a b;rw[a,b];exact .frz q1 q2 q3 q4 q5
 |view hg=>
  have a:=ad7 h1;have b:=ad7 h2;simp only[AV.flat,aeq] at a b;rw[a,b];exact .view hg
 |viewL hg he=>
  have a:=ad7 h1;have b:=ad7 h2;simp only[AV.flat,aeq] at a b;rw[a,b];exact .viewL hg he
 |ref hg=>
  have a:=ad7 h1;have b:=ad7 h2;simp only[AV.flat,aeq] at a b;rw[a,b];exact .ref hg
 |mref hg=>
  have a:=ad7 h1;have b:=ad7 h2;simp only[AV.flat,aeq] at a b;rw[a,b];exact .mref hg
 |nil hn=>
  have a:=ad7 h1;have b:=ad7 h2;simp only[AV.flat,aeq] at a b;rw[a,b];exact .nil hn
 |lend q1 q2 q3 q4=>
  have a:=ad7 h1;have b:=ad7 h2;simp only[AV.flat,aeq] at a b;rw[a,b];exact .lend q1 q2 q3 q4

theorem N2{C':Ctx}(hI:Inv W0 C){id off len:Nat}{v:Value}{es:List AV}(h:c4 C (.view id off len) v)(hg:C.H.get id=some es)(hn:∀e∈(es.drop off).take len,bQ e)(hw:C'.w=C.w)
  (hbad:∀b,C'.bad b→C.bad b)(hfree:(C.pl id).nil=false→¬C'.bad (C.pl id).de):c4 C' (.sl ((es.drop off).take len)) v:=by
 obtain⟨ad,cap,rfl,h2,h3⟩:=zw hI h (es:=(es.drop off).take len) (by simp[AV.elems,hg])
 rcases h3 with h3|⟨b,o,sz,rfl,h4,h5,h6⟩
 ·rw[h3];exact .slNil _ _
 ·by_cases hes:(es.drop off).take len=[]
  ·rw[hes];exact .slNil _ _
  ·have hne:(C.pl id).nil=false:=by
    cases hq:(C.pl id).nil with
    |false=>rfl
    |true=>exact absurd (by rw[hI.nil id es hg hq];simp) hes
   have hb:b=(C.pl id).de:=by
    have this:jl (C.pl id) off len _:=match h with
     |.view _ _ _ _ _ hs _=>hs es hg
    unfold jl at this
    rw[if_neg (by simp[hne])] at this
    obtain⟨A,cap',h7,h8,h9,h10,h11⟩:=this
    rcases h11 with h11|h11
    ·simp_all
    grind
   have hch:∀i j,∃u:Value,∀e x,((es.drop off).take len)[i]? =some e→e.flat[j]? =some x→Holds C.w b (o+i*sz+j) u∧c4 C x u:=fun i j=>by
    cases he:((es.drop off).take len)[i]? with
    |none=>simp_all
    |some e=>
     cases hx:e.flat[j]? with
     |none=>exact⟨undef,fun e' x h hx'=>by grind⟩
     |some x=>
      obtain⟨u,h7,h8⟩:=h6 i j e x he hx
      exact⟨u,fun e' x' h hx'=>by grind⟩
   refine .sl _ b o sz cap (fun i j=>Classical.choose (hch i j)) (by grind) (by grind) h2 h5 (fun i j e x he hx=>by grind) (fun i j e x he hx=> ?_)
   have hne':=hn e (ad7 he)
   refine(Classical.choose_spec (hch i j) e x he hx).2.move ?_ (by grind) (fun b _ hb=>⟨by rw[hw],fun h=>hb (hbad b h)⟩)
   cases e <;> simp only[AV.flat] at hx
   case agg cs=>grind [EM]
   case fL=>simp at hx
   all_goals
    have:=ad7 hx
    simp only[aeq] at this
    rw[this];exact hne'

def DM(p:Nat)(g:List (Nat×Nat))(nw:List Nat)(next:Nat):Bool:=decide (p≤next)&&(aeD p).all fun k=>(lk g k==some k||lk g k==none)&& !nw.contains k

theorem DM.spec{p:Nat}{g:List (Nat×Nat)}{nw:List Nat}{next:Nat}(h:DM p g nw next=true):p≤next∧∀k,k<p→(lk g k=some k∨lk g k=none)∧k∉nw:=by
 simp_all [DM]

def Ctx.re(C:Ctx)(g:List (Nat×Nat))(H':Heap):Ctx:={C with H:=H',pl:=fun n=>match lk g n with|some old=>C.pl old|none=>⟨0,0,0,0,true⟩}

theorem Pu{st:St}{fr':List (Nat×AV)}{H':Heap}{a:Act}(g:List (Nat×Nat))(nw:List Nat)(hinj:g.all (fun p=>g.all (fun q=>p.2 !=q.2||p.1==q.1))=true)(hlt:g.all (fun p=>decide (p.1<H'.next))=true)
  (hnw:nw.all (fun n=>(lk g n).isNone&&decide (n<H'.next))=true)(hH:jC st.H g nw H'.next H'.bV)(hfr:Seen st.H g nw st.fr fr')(hpo:DM W0.p g nw H'.next=true)(hlp:H'.ec=st.H.ec)(hr:Rel W0 N (lk st.fr) st.H C a):Mem C (C.re g H')∧Rel W0 N (lk fr') H' (C.re g H') a:=by
 have hI:=hr.inv
 have hCH:=hr.heap
 have getS:∀{n:Nat} {es':List AV},(C.re g H').H.get n=some es'→∃s,lk H'.bV n=some (s,es'):=fun{n es'} h=>by
  simp_all [Ctx.re,Heap.get]
 have nwS:∀{n:Nat},n∈nw→lk g n=none∧n<H'.next:=fun{n} h=>by
  simp_all
 have gS:∀{n old:Nat},lk g n=some old→n<H'.next:=fun{n old} h=>by
  have:=List.all_eq_true.1 hlt _ (iL h)
  grind
 have inj:∀{n m old:Nat},lk g n=some old→lk g m=some old→n=m:=fun{n m old} h1 h2=>by
  have:=List.all_eq_true.1 (List.all_eq_true.1 hinj _ (iL h1)) _ (iL h2)
  grind
 have plS:∀{n old:Nat},lk g n=some old→(C.re g H').pl n=C.pl old:=fun{n old} h=>by simp[Ctx.re,h]
 have plN:∀{n:Nat},n∈nw→(C.re g H').pl n=⟨0,0,0,0,true⟩:=fun{n} h=>by simp[Ctx.re,(nwS h).1]
 -- an object of the new context
 have objS:∀{n:Nat} {es':List AV},(C.re g H').H.get n=some es'→((∃old es,lk g n=some old∧C.H.get old=some es∧(C.re g H').pl n=C.pl old∧rU st.H g nw es es')∨(n∈nw∧es'=[]))∧n<H'.next:=fun{n es'} h=>by
  obtain⟨s,h1⟩:=getS h
  obtain⟨h2,h3⟩:=hH.spec h1
  grind [Heap.get]
 have ownS:∀{b:Nat},(C.re g H').cells b→∃n old es,lk g n=some old∧C.H.get old=some es∧(C.pl old).nil=false∧(C.pl old).de=b:=fun{b} h=>by
  obtain⟨n,es',h1,h2,h3⟩:=h
  grind
 have sp':∀b,(C.re g H').sp b→C.sp b:=fun b h=>h.imp (fun⟨r,h⟩=>⟨r,by rw[hCH,←hlp];exact h⟩) id
 have own':∀b,(C.re g H').own b→C.own b:=fun b h=>h.imp (fun h=>by
  obtain⟨n,old,es,_,q2,q3,q4⟩:=ownS h
  exact⟨old,es,q2,q3,q4⟩) (sp' b)
 have bad':∀b,(C.re g H').bad b→C.bad b:=fun b h=>h.imp (own' b) id
 have repS:∀{x x':AV},gi st.H g nw x x'→∀{v:Value},c4 C x v→c4 (C.re g H') x' v:=by
  intro x x' hs
  induction hs with
  |same x hn=>intro v h;exact h.move hn (afk _) (fun b _ hb=>⟨rfl,fun h=>hb (bad' b h)⟩)
  |any x=>intro v _;exact .any v
  |view hg=>
   intro v h
   match h with
   |.view _ _ _ _ h1 h2 h3=>
   refine .view _ _ _ _ (gS hg) (fun es' he=> ?_) h3
   grind
  |viewL hg he=>
   intro v h
   subst he
   match h with
   |.view _ _ _ _ h1 h2 h3=>
   refine .view _ _ _ _ (gS hg) (fun es' he=> ?_) h3
   grind
  |ref hg=>
   intro v h
   match h with
   |.ref _ _ _ _ h1 h2 h3=>
   refine .ref _ _ _ _ (gS hg) (fun es' he=> ?_) h3
   grind
  |mref hg=>
   intro v h
   match h with
   |.mref _ _ h1 h2 h3=>
   refine .mref _ _ (gS hg) (fun es' he=> ?_) h3
   grind
  |nil hn=>
   intro v h
   have:=bR (v:=.slice none 0 0) rfl h
   subst this
   refine .view _ _ _ _ (nwS hn).2 (fun es' _=> ?_) rfl
   rw[plN hn]
   exact⟨rfl,rfl,none,rfl⟩
  |lend hid hno hys hn=>
   intro v h
   rename_i id off len es ys
   subst hys
   refine N2 hI h (by grind) hn rfl bad' (fun hnil hb=> ?_)
   obtain⟨ob,hbk,hbd⟩:=(hI.obj id es (by grind) hnil).dat
   rcases hb with(hb|hb)|hb
   rotate_left
   ·exact hI.AD (sp' _ hb) hbk hbd
   rotate_left
   ·obtain⟨n,old,S_,q1,q2,q3,q4⟩:=ownS hb
    have:=hI.sep old id S_ es q2 (by grind) q3 hnil q4
    exact hno _ (iL q1) this
   ·exact hI.cI id es (by grind) hnil hb
  |agg cs cs' hl _ ih=>
   intro v h
   match h with
   |.agg _ vs h1 h2 h3=>
   refine .agg cs' vs (h1.trans hl) h2 (fun k x' hx'=> ?_)
   have hk:k<cs.length:=by grind
   exact ih k cs[k] x' (ab9 hk) hx' (h3 k _ (ab9 hk))
  |tuple cs cs' hl _ ih=>
   intro v h
   match h with
   |.tuple _ vs h1 h3=>
   refine .tuple cs' vs (h1.trans hl) (fun k x' hx'=> ?_)
   have hk:k<cs.length:=by grind
   exact ih k cs[k] x' (ab9 hk) hx' (h3 k _ (ab9 hk))
  |fH fn cs cs' hl _ ih=>
   intro v h
   match h with
   |.fH _ _ vs h1 h3=>
   refine .fH fn cs' vs (h1.trans hl) (fun k x' hx'=> ?_)
   have hk:k<cs.length:=by grind
   exact ih k cs[k] x' (ab9 hk) hx' (h3 k _ (ab9 hk))
  |ifc t x x' _ ih=>
   intro v h
   match h with
   |.ifc _ _ v h1=>exact .ifc t x' v (ih h1)
  |wide es hn=>
   intro v h
   have h2:c4 (C.re g H') (.clip es) v:=h.move (by simp_all) (afk _) (fun b _ hb=>⟨rfl,fun h=>hb (bad' b h)⟩)
   match h2 with
   |.clipNil a=>exact .slNil a 0
   |.clip _ b off sz c h1 h2 h3 h4 h5=>exact .sl es b off sz es.length c h1 h2 (afk _) h3 h4 h5
  |nilsl=>
   intro v h
   have:=bR (v:=.slice none 0 0) rfl h
   subst this
   exact .slNil _ _
  |frz hid hno hes hfl hn=>
   intro v h
   rename_i id i j es fl e
   subst hfl
   match h with
   |.ref _ _ _ _ h1 h2 h3=>
   have hid':C.H.get id=some es:=by grind
   obtain⟨hnil,rfl⟩:=h2 es hid'
   have hch:∀k,∃u:Value,∀x,e.flat[k]? =some x→Holds C.w (C.pl id).de (i*(C.pl id).sz+k) u∧c4 C x u:=fun k=>by
    cases hx:e.flat[k]? with
    |none=>simp_all
    |some x=>
     obtain⟨u,h7,h8⟩:=wK hI hid' hnil hes hx
     exact⟨u,fun x' h=>by grind⟩
   have hfree:¬(C.re g H').bad (C.pl id).de:=by
    obtain⟨ob,hbk,hbd⟩:=(hI.obj id es hid' hnil).dat
    rintro((hb|hb)|hb)
    rotate_left
    ·exact hI.AD (sp' _ hb) hbk hbd
    rotate_left
    ·obtain⟨n,old,S_,q1,q2,q3,q4⟩:=ownS hb
     have:=hI.sep old id S_ es q2 hid' q3 hnil q4
     exact hno _ (iL q1) this
    ·exact hI.cI id es hid' hnil hb
   refine .pp e.flat j (C.pl id).de (i*(C.pl id).sz) (fun k=>Classical.choose (hch k)) (hI.lt hid' hnil) hfree (fun k x hx=>(Classical.choose_spec (hch k) x hx).1) (fun k x hx=> ?_)
   exact(Classical.choose_spec (hch k) x hx).2.move (hn x (ad7 hx)) (afk _) (fun b _ hb=>⟨rfl,fun h=>hb (bad' b h)⟩)
 obtain⟨hp1,hp2⟩:=DM.spec hpo
 have hM:Mem C (C.re g H'):=⟨.refl _ _,fun _ _ _=>rfl,fun b _ h=>own' b h,rfl,rfl,fun _=>⟨by show C.nI≤H'.next;rw[hI.lU];exact hp1,fun k es' hk hg=>by
  rw[hI.lU] at hk
  grind⟩⟩
 refine⟨hM,rfl, ?_,hr.size,hr.defers,fun t x' hx'=> ?_⟩
 ·exact{
   fresh:=fun n es' h=>(objS h).2
   nil:=fun n es' h hn=>by
    rcases(objS h).1 with⟨old,es,q1,q2,q3,q4⟩|⟨q,h⟩
    ·rw[q3] at hn
     have:=hI.nil old es q2 hn
     subst this
     exact abS q4.len.symm
    ·exact h
   obj:=fun n es' h hn=>by
    rcases(objS h).1 with⟨old,es,q1,q2,q3,q4⟩|⟨q,h⟩
    ·rw[q3] at hn ⊢
     have hO:=hI.obj old es q2 hn
     have back:∀{i:Nat} {e':AV},es'[i]? =some e'→∃e,es[i]? =some e∧gi st.H g nw e e'∧e.flat.length=e'.flat.length:=fun{i e'} hi=>by
      have hk:i<es.length:=by rw[q4.len];grind
      exact⟨es[i],ab9 hk,q4.see i _ e' (ab9 hk) hi⟩
     refine⟨hO.n.trans q4.len,hO.cap,hO.SR q4.fL,hO.one,fun i e' he'=> ?_,fun i j e' x' v he' hx' hv=> ?_⟩
     ·obtain⟨e,h1,_,h3⟩:=back he'
      rw[←h3];exact hO.flat i e h1
     ·obtain⟨e,h1,h2,h3⟩:=back he'
      have hj:j<e.flat.length:=by grind
      exact repS (h2.flat h3 (ab9 hj) hx') (hO.cell i j e _ v h1 (ab9 hj) hv)
    grind
   sep:=fun n m en em h1 h2 hn hm hb=>by
    rcases(objS h1).1 with⟨o1,e1,p1,p2,p3,_⟩|⟨q,_⟩
    ·rcases(objS h2).1 with⟨o2,e2,r1,r2,r3,_⟩|⟨q,_⟩
     ·rw[p3] at hn hb;rw[r3] at hm hb
      have:=hI.sep o1 o2 e1 e2 p2 r2 hn hm hb
      grind
     grind
    grind
   cI:=fun n es' h hn=>by
    rcases(objS h).1 with⟨old,es,q1,q2,q3,_⟩|⟨q,_⟩
    ·rw[q3] at hn ⊢;exact hI.cI old es q2 hn
    grind
   jX:=fun n s h hn=>by
    simp only[Ctx.re,Heap.sz,ae5] at h
    obtain⟨⟨s',es'⟩,h1,rfl⟩:=h
    rcases(hH.spec h1).1 with⟨old,es,q1,q2,_⟩|⟨q,_⟩
    ·rw[plS q1] at hn ⊢
     exact hI.jX old s' (by grind [Heap.sz]) hn
    grind
   dU:=hI.dU
   eG:=hI.eG
   size:=hI.size
   gD:=fun b h=>⟨(hI.gD b h).1,fun ho=>(hI.gD b h).2 (own' b ho)⟩
   ec:=fun l r h=>hI.ec l r (by rw[hCH,←hlp];exact h)
   iu:=hI.iu
   BX:=hI.BX
   Cn:=hI.Cn
   eS:=fun b h=>hI.eS b (sp' b h)
   lU:=hI.lU
   fe:=by show C.nI≤H'.next;rw[hI.lU];exact hp1
   gh:=W0.st C _ hM hI.fe hI.gh}
 ·obtain⟨x,h1,h2⟩:=hfr.spec hx'
  exact repS h2 (hr.rep t x h1)

theorem bE{st:St}{fr':List (Nat×AV)}{H':Heap}(g:List (Nat×Nat))(nw:List Nat)(hinj:g.all (fun p=>g.all (fun q=>p.2 !=q.2||p.1==q.1))=true)(hlt:g.all (fun p=>decide (p.1<H'.next))=true)
  (hnw:nw.all (fun n=>(lk g n).isNone&&decide (n<H'.next))=true)(hH:jC st.H g nw H'.next H'.bV)(hfr:Seen st.H g nw st.fr fr')(hpo:DM W0.p g nw H'.next=true:=by rfl)(hlp:H'.ec=st.H.ec:=by rfl):b8 W0 N st ⟨fr',H'⟩:=fun C a hr=>
 let h:=Pu g nw hinj hlt hnw hH hfr hpo hlp hr
 ⟨C.re g H',rfl,h.1,h.2⟩
end
section
variable {P:Program} {W0:bS} {fr:Fr} {H:Heap} {o:Oper}

theorem J9(a b:BitVec 64):((a.toNat:Int)=(b.toNat:Int))↔a=b:=
 ⟨fun h=>BitVec.eq_of_toNat_eq (by omega),fun h=>by rw[h]⟩

variable {t t':TypeId}{x y:Operand}{a b:BitVec 64}
theorem Ni(ho:o.op=.binOp .eql t x y t')(hx:aD fr x=some (u64 a))(hy:aD fr y=some (u64 b)):b_ P W0 o fr H (bl (decide (a=b))) H:=
 (Hy ho hx hy).conv (by grind [J9])
theorem Wh(ho:o.op=.binOp .neq t x y t')(hx:aD fr x=some (u64 a))(hy:aD fr y=some (u64 b)):b_ P W0 o fr H (bl (decide (a≠b))) H:=
 (UI ho hx hy).conv (by simp_all [J9])

theorem Nl(ho:o.op=.unOp .neg t x)(hx:aD fr x=some (u64 a)):b_ P W0 o fr H (u64 (-a)) H:=
 Yp ho hx rfl (by
  show adK P (Pure.pure _)=_;have e:IntKind.u64.wrap (0 - (a.toNat:Int))=((-a).toNat:Int):=by
   rw[Sf];congr 2;apply BitVec.eq_of_toNat_eq;have:=a.isLt;grind [BitVec.toNat_ofInt]
  rw[e];rfl)

theorem Wi(ho:o.op=.binOp .quo t x y t')(hx:aD fr x=some (u64 a))(hy:aD fr y=some (u64 b))(h0:b≠0#64):b_ P W0 o fr H (u64 (a / b)) H:=
 UL ho hx hy (fun h=>h0 (BitVec.eq_of_toNat_eq (by grind))) (by
  grind [BitVec.toNat_udiv,Fl])
theorem Wj(ho:o.op=.binOp .rem t x y t')(hx:aD fr x=some (u64 a))(hy:aD fr y=some (u64 b))(h0:b≠0#64):b_ P W0 o fr H (u64 (a % b)) H:=
 UM ho hx hy (fun h=>h0 (BitVec.eq_of_toNat_eq (by grind))) (by rfl)

theorem jC.one{H:Heap}{g:List (Nat×Nat)}{nw:List Nat}{next n old s:Nat}{es:List AV}(h1:lk g n=some old)(h2:lk H.bV old=some (s,es))(h3:∀e∈es,bQ e)(h4:n<next):jC H g nw next [(n,(s,es))]:=
 ⟨.inl ⟨old,es,h1,h2,.same h3⟩,h4,trivial⟩
theorem jC.new{H:Heap}{g:List (Nat×Nat)}{nw:List Nat}{next n s:Nat}(h1:n∈nw)(h4:n<next):jC H g nw next [(n,(s,[]))]:=
 ⟨.inr ⟨h1,rfl⟩,h4,trivial⟩

end
section
variable {P:Program} {W0:bS} {N:Nat} {Q:Exit→St→Prop} {fr:List (Nat×AV)} {H:Heap}
theorem iK{id:Nat}{l:List Oper}(hN:l.all (jb N)=true)(h:AR P W0 l.toArray l fr H (fun f g=>Q .normal ⟨f,g⟩)):iD P W0 N (.region id l.toArray false) ⟨fr,H⟩ Q:=SP hN h
theorem b8.kp{fr':List (Nat×AV)}(h:uR fr fr'):b8 W0 N ⟨fr,H⟩ ⟨fr',H⟩:=.keep h
theorem U(ts:List Nat){fr':List (Nat×AV)}(h:pick fr ts=some fr'):b8 W0 N ⟨fr,H⟩ ⟨fr',H⟩:=.keep (rE h)
end
end Go.Av
namespace Go.Av
abbrev asy(l:List Nat):List AV:=l.map fun(k:Nat)=>J (k:Int)
abbrev ints(l:List Nat):AV:=.sl (asy l)
def AV.wide:AV→AV
 |.clip es=>.sl es
 |x=>x

@[simp] theorem aqw(k:IntKind)(n:Int):AV.Ch (.int k n)=.imm (.int k n):=rfl
@[simp] theorem anV(b:Bool):AV.Ch (.bool b)=.imm (.bool b):=rfl
@[simp] theorem aj3(es:List AV):(AV.clip es).wide=.sl es:=rfl
@[simp] theorem aqG(es:List AV):(AV.sl es).wide=.sl es:=rfl
@[simp] theorem apm(v:Value):(AV.imm v).wide=.imm v:=rfl
def zC(P:Program)(t:TypeId):Option (List (Nat×Nat)×List Value):=
 match P.underlying t,oL P t with
 |some (.struct fs),some z=>(fs.toList.mapM fun f=>(P.info? f.type).map fun i=>(f.offset,i.size)).map fun pl=>(pl,z.cells.toList)
 |some (.array n e),some z=>(P.info? e).map fun i=>((aeD n).map fun k=>(k*i.size,i.size),z.cells.toList)
 |_,_=>none

def Nx(pl:List (Nat×Nat)):List AV→List (Nat×AV)→Option (List AV)
 |cells,[]=>some cells
 |cells,(i,x)::rest=>match pl[i]? with
  |some (off,size)=>if x.flat.length=size∧off+size≤cells.length∧x.b6=true then Nx pl (cells.take off++x.flat++cells.drop (off+x.flat.length)) rest else none
  |none=>none

section
variable {P:Program} {W0:bS} {C:Ctx} {fr:Fr} {a:Act} {H:Heap} {o:Oper}

structure Hu (C:Ctx) (cs:List AV) (vs:Array Value):Prop where
 size:vs.size=cs.length
 one:∀(k:Nat) (v:Value),vs[k]? =some v→v.oneCell'=true
 rep:∀(k:Nat) (x:AV),cs[k]? =some x→∃v,vs[k]? =some v∧c4 C x v

theorem QI(pl:List (Nat×Nat))(pf:Nat→Option (Nat×Nat))(hpf:∀i q,pl[i]? =some q→pf i=some q):∀(ps:List (Nat×AV)) (vs:List (Nat×Value)) (cs:List AV) (cells:Array Value) (r:List AV),Hu C cs cells→ps.length=vs.length→
  (∀(k i j:Nat) (x:AV) (v:Value),ps[k]? =some (i,x)→vs[k]? =some (j,v)→i=j∧c4 C x v)→Nx pl cs ps=some r→∃cells',Instr.fill pf cells vs=some cells'∧Hu C r cells'
 |[],[],cs,cells,r,hc,_,_,h=>by
  simp only[Nx,Option.some.injEq] at h;subst h;exact⟨cells,rfl,hc⟩
 |[],_::_,_,_,_,_,hl,_,_=>by cases hl
 |_::_,[],_,_,_,_,hl,_,_=>by cases hl
 |(i,x)::ps,(j,v)::vs,cs,cells,r,hc,hl,hp,h=>by
  obtain⟨rfl,hx⟩:=hp 0 i j x v rfl rfl;simp only[Nx] at h;cases hpl:pl[i]? with
  |none=>grind
  |some q=>
   obtain⟨off,size⟩:=q;simp only[hpl] at h;split at h
   ·rename_i hq
    obtain⟨h1,h2,h3⟩:=hq;obtain⟨c1,c2,c3⟩:=qa hx h3;have hl':v.cells.toList.length=x.flat.length:=by omega
    obtain⟨g1,g2⟩:=Nz v.cells.toList off 0 cells;have hg:v.cells.zipIdx.foldl (fun cs (p:Value×Nat)=>cs.setIfInBounds (off+p.2) p.1) cells=(v.cells.toList.zipIdx 0).foldl (fun cs (p:Value×Nat)=>cs.setIfInBounds (off+p.2) p.1) cells:=by
     rw[←af2];simp
    have hsz:cells.size=cs.length:=hc.size;have g3:=fun q=>g2 q (by omega);have hc':Hu C (cs.take off++x.flat++cs.drop (off+x.flat.length)) ((v.cells.toList.zipIdx 0).foldl (fun cs (p:Value×Nat)=>cs.setIfInBounds (off+p.2) p.1) cells):=by
     refine⟨by grind,fun k u hk=> ?_,fun k y hk=> ?_⟩
     ·rw[g3 k] at hk
      split at hk
      ·grind
      ·exact hc.one k u hk
     ·rw[w8 cs x.flat off (by omega) k] at hk
      by_cases k1:k<off
      ·rw[if_pos k1] at hk
       rw[g3 k,if_neg (by omega)];exact hc.rep k y hk
      ·rw[if_neg k1] at hk
       by_cases k2:k<off+x.flat.length
       ·grind
       ·rw[if_neg k2] at hk
        rw[g3 k,if_neg (by omega)];exact hc.rep k y hk
    obtain⟨cells',e1,e2⟩:=QI pl pf hpf ps vs _ _ r hc' (by grind) (fun k i' j' x' v' a1 a2=>hp (k+1) i' j' x' v' a1 a2) h;simp only[Instr.fill,hpf _ _ hpl];grind
   ·cases h

theorem NN{α:Type}(f:α→Nat)(ty:α→TypeId)(w:World):∀(l:List α) (pl:List (Nat×Nat)),(l.mapM fun x=>(P.info? (ty x)).map fun i=>(f x,i.size))=some pl→
  (l.mapM fun x=>(do pure (f x,←sizeOf (ty x)):Sem (Nat×Nat))).run P w=.ok pl w
 |[],pl,h=>by
  simp_all
 |x::l,pl,h=>by
  rw[acT] at h;simp only[aeY,ae1,afd,Option.some.injEq] at h;obtain⟨q,h1,rest,h2,rfl⟩:=h;simp only[ae5] at h1;obtain⟨i,h3,rfl⟩:=h1;have ih:=NN f ty w l rest h2;simp_all [sizeOf,typeInfo]

theorem Hx{t:TypeId}{parts:Array (Nat×Operand)}{pl:List (Nat×Nat)}{z:Value}{xs:List (Nat×AV)}{r:List AV}(ho:o.op=.build t parts)(pf:Nat→Option (Nat×Nat))(hpf:∀i q,pl[i]? =some q→pf i=some q)(hz:z.cells.toList.all (·.oneCell')=true)
  (hb:∀(w:World) (ps:Array (Nat×Value)) (cells':Array Value),Instr.fill pf z.cells ps.toList=some cells'→(Instr.build t ps).run P w=.ok (.agg cells') w)
  (hxs:(parts.toList.mapM fun p=>(aD fr p.2).map fun x=>(p.1,x))=some xs)(hr:Nx pl (z.cells.toList.map .imm) xs=some r):b_ P W0 o fr H (.agg r) H:=
 .cz fun C a _ _ hop=>by
  have key:∀(l:List (Nat×Operand)) (xs:List (Nat×AV)),(∀p∈l,yV C fr a p.2)→(l.mapM fun p=>(aD fr p.2).map fun x=>(p.1,x))=some xs→
    xs.length=l.length∧∀(k i j:Nat) (x:AV) (v:Value),xs[k]? =some (i,x)→(l.map fun p=>(p.1,a.eval p.2))[k]? =some (j,v)→i=j∧c4 C x v:=by
   intro l
   induction l with
   |nil=>grind
   |cons p l ih=>
    intro xs hp h;rw[acT] at h;simp only[aeY,ae1,afd,Option.some.injEq] at h;obtain⟨q,e1,rest,e2,rfl⟩:=h;simp only[ae5] at e1;obtain⟨y,e3,rfl⟩:=e1;obtain⟨i1,i2⟩:=ih rest (fun q hq=>hp q (adU _ hq)) e2;refine⟨by simp[i1],fun k i j x v a1 a2=> ?_⟩;cases k with
    |zero=>
     obtain⟨rfl,rfl⟩:=a1;obtain⟨rfl,rfl⟩:=a2;exact⟨rfl,aQ (hp p (ad2 ..)) e3⟩
    |succ k=>grind
  obtain⟨l1,l2⟩:=key parts.toList xs (fun p hp=>hop p.2 (by rw[ho];show p.2∈(List.map (fun x=>x.2) parts.toList).toArray;grind)) hxs;have hzc:Hu C (z.cells.toList.map .imm) z.cells:=by
   have hone:∀(k:Nat) (v:Value),z.cells[k]? =some v→v.oneCell'=true:=fun k v hk=>by
    grind
   refine⟨by simp,hone,fun k x hk=> ?_⟩;simp only[ab_,ae5,Array.getElem?_toList] at hk;obtain⟨v,h3,rfl⟩:=hk;exact⟨v,h3,.imm v (hone k v h3)⟩
  obtain⟨cells',f1,f2⟩:=QI pl pf hpf xs (parts.toList.map fun p=>(p.1,a.eval p.2)) _ _ r hzc (by simp[l1]) l2 hr;refine⟨.agg cells', ?_,.agg r cells' f2.size f2.one (fun k x hk=> ?_)⟩
  ·have hrun:=hb C.w (parts.map fun(i,x)=>(i,a.eval x)) cells' (by simpa using f1)
   simp only[execOp,ho];rw[Sem.run_bind,hrun];rfl
  ·obtain⟨v,e1,e2⟩:=f2.rep k x hk
   grind [CV]

theorem iE{t:TypeId}{parts:Array (Nat×Operand)}{pl:List (Nat×Nat)}{zs:List Value}{xs:List (Nat×AV)}{r:List AV}(ho:o.op=.build t parts)(ht:zC P t=some (pl,zs))(hz:zs.all (·.oneCell')=true)
  (hxs:(parts.toList.mapM fun p=>(aD fr p.2).map fun x=>(p.1,x))=some xs)(hr:Nx pl (zs.map .imm) xs=some r):b_ P W0 o fr H (.agg r) H:=by
 have zero:∀(z:Value),oL P t=some z→∀w,(zeroValue t).run P w=.ok z w:=fun z hzr w=>by
  unfold oL at hzr;cases hi:P.info? t with
  |none=>grind
  |some i=>
   simp_all [zeroValue,typeInfo]
 unfold zC at ht;split at ht
 ·rename_i fs z hu hzr
  simp only[ae5,Prod.mk.injEq] at ht;obtain⟨pl',h1,rfl,rfl⟩:=ht;refine Hx ho (pl'[·]?) (fun i q h=>h) hz (fun w ps cells' f1=> ?_) hxs hr;have hp:(fs.mapM fun f=>(do pure (f.offset,←sizeOf f.type):Sem (Nat×Nat))).run P w=.ok pl'.toArray w:=by
   have:=NN (P:=P) (fun f:Field=>f.offset) (fun f=>f.type) w fs.toList pl' h1;have e:fs=fs.toList.toArray:=by simp
   rw[e,acW,Sem.run_map,this];rfl
  simp_all [Instr.build,run_underlying]
 ·simp only[ae5,Prod.mk.injEq] at ht
  obtain⟨i,h1,rfl,rfl⟩:=ht;refine Hx ho (fun k=>some (k*i.size,i.size)) (fun k q h=> ?_) hz (fun w ps cells' f1=> ?_) hxs hr
  ·grind
  simp_all [sizeOf,typeInfo,Instr.build,run_underlying]
 grind
end
end Go.Av
end

section
namespace Go.Sh
def iter{σ α:Type}(b:σ→Option (σ⊕α)):Nat→σ→Option α
 |0,_=>none
 |n+1,s=>match b s with
  |none=>none
  |some (.inl s')=>iter b n s'
  |some (.inr r)=>some r

def s5:Nat:=9223372036854775808

def loop{σ α:Type}(b:σ→Option (σ⊕α))(s:σ):Option α:=iter b s5 s

def idx{α:Type}(l:List α)(i:Int):Option α:=if 0≤i then l[i.toNat]? else none
def app{α:Type}(eN:Nat)(l m:List α):Option (List α):=if(l.length+m.length)*eN≤140737488355328 then some (l++m) else none
def mk{α:Type}(eN:Nat)(n c:Int)(z:α):Option (List α):=if 0≤n∧n≤c∧eN*c≤140737488355328∧c≤4611686018427387904 then some (aeR n.toNat z) else none
def sub{α:Type}(l:List α)(lo hi:Int):Option (List α):=if 0≤lo∧lo≤hi∧hi≤l.length then some ((l.drop lo.toNat).take (hi.toNat - lo.toNat)) else none
abbrev len{α:Type}(l:List α):Int:=(l.length:Int)
def YA{α:Type}(l m:List α):Option (List α):=if m.length=l.length then some m else none
def set{α:Type}(l:List α)(i:Int)(x:α):List α:=l.set i.toNat x
@[simp] theorem aqC{α:Type}(l:List α)(i:Int)(x:α):(set l i x).length=l.length:=by simp[set]
def quo(w:Int→Int)(m n:Int):Option Int:=if n≠0 then some (w (m.tdiv n)) else none
def rem(m n:Int):Option Int:=if n≠0 then some (m.tmod n) else none
def udiv(m n:BitVec 64):Option (BitVec 64):=if n≠0#64 then some (m / n) else none
def umod(m n:BitVec 64):Option (BitVec 64):=if n≠0#64 then some (m % n) else none
def shl(a:BitVec 64)(n:Int):Option (BitVec 64):=if 0≤n then some (a<<<n.toNat) else none
def shr(a:BitVec 64)(n:Int):Option (BitVec 64):=if 0≤n then some (a>>>n.toNat) else none
def min(a b:Int):Int:=if b<a then b else a
def max(a b:Int):Int:=if b>a then b else a
theorem Tm{α:Type}{b:Bool}{x y o:α}(h:(if b then x else y)=o)(hb:b=true):x=o:=by grind
theorem Tl{α:Type}{b:Bool}{x y o:α}(h:(if b then x else y)=o)(hb:b=false):y=o:=by grind
theorem b5{α β:Type}{x:Option α}{f:α→Option β}{o:β}(h:x.bind f=some o):∃a,x=some a∧f a=some o:=Option.bind_eq_some_iff.1 h
def EK{α β:Type}(x:α)(f:α→β):β:=f x
def exit{σ α:Type}(x:Option α):Option (σ⊕α):=x.map .inr
def next{σ α:Type}(s:σ):Option (σ⊕α):=some (.inl s)

theorem jm{σ α:Type}{x:Option α}{o:σ⊕α}{r:α}(h:exit (σ:=σ) x=some o)(hr:∀y,o=.inr y→y=r):x=some r:=by
 cases x with
 |none=>cases h
 |some y=>
  grind [exit]
theorem Iq{σ α:Type}{s:σ}{o:σ⊕α}(h:next (α:=α) s=some o):o=.inl s:=by
 grind [next]

theorem jo{α:Type}{l:List α}{i:Int}{x:α}(h:idx l i=some x):∃k:Nat,i=k∧l[k]? =some x:=by
 grind [idx]
theorem qR{α:Type}{eN:Nat}{l m r:List α}(h:app eN l m=some r):(l.length+m.length)*eN≤140737488355328∧r=l++m:=by
 simp_all [app]
variable {n:Int}
theorem KA{α:Type}{eN:Nat}{c:Int}{z:α}{r:List α}(h:mk eN n c z=some r):∃m k:Nat,n=m∧c=k∧m≤k∧eN*k≤140737488355328∧k≤4611686018427387904∧r=aeR m z:=by
 unfold mk at h;split at h
 ·cases h
  refine⟨n.toNat,c.toNat,by omega,by omega,by omega, ?_,by omega,rfl⟩;grind
 ·cases h
theorem Fg{α:Type}{l r:List α}{lo hi:Int}(h:sub l lo hi=some r):∃m k:Nat,lo=m∧hi=k∧m≤k∧k≤l.length∧r=(l.drop m).take (k - m):=by
 unfold sub at h;split at h
 ·cases h;exact⟨lo.toNat,hi.toNat,by omega,by omega,by omega,by omega,rfl⟩
 ·cases h

theorem Qv{α:Type}{l m r:List α}(h:YA l m=some r):m.length=l.length∧r=m:=by
 unfold YA at h;grind
theorem UY{α:Type}{l m r:List α}(h:YA l m=some r):r.length=l.length:=by obtain⟨h1,rfl⟩:=Qv h;exact h1
theorem agE{α:Type}{l:List α}{k:Nat}{x:α}(h:l[k]? =some x):k<l.length:=(List.getElem?_eq_some_iff.1 h).1
theorem Rw{w:Int→Int}{m r:Int}(h:quo w m n=some r):n≠0∧w (m.tdiv n)=r:=by
 simp_all [quo]
theorem RD{m r:Int}(h:rem m n=some r):n≠0∧m.tmod n=r:=by
 simp_all [rem]
theorem XI{m n r:BitVec 64}(h:udiv m n=some r):n≠0#64∧r=m / n:=by
 simp_all [udiv]
theorem XJ{m n r:BitVec 64}(h:umod m n=some r):n≠0#64∧r=m % n:=by
 simp_all [umod]
theorem aa3{a r:BitVec 64}(h:shl a n=some r):0≤n∧r=a<<<n.toNat:=by
 simp_all [shl]
theorem aa5{a r:BitVec 64}(h:shr a n=some r):0≤n∧r=a>>>n.toNat:=by
 simp_all [shr]

variable {σ α:Type} {b:σ→Option (σ⊕α)}

theorem Vm(S:Nat→σ)(m:Nat)(h:∀k,k<m→b (S k)=some (.inl (S (k+1))))(n:Nat):iter b (m+n) (S 0)=iter b n (S m):=by
 induction m generalizing n with
 |zero=>simp
 |succ m ih=>
  rw[show m+1+n=m+(n+1) by omega,ih (fun k hk=>h k (by omega)) (n+1)]
  grind [iter]

theorem LR(S:Nat→σ)(m:Nat)(r:α)(hm:m<s5)(h:∀k,k<m→b (S k)=some (.inl (S (k+1))))(hr:b (S m)=some (.inr r)):loop b (S 0)=some r:=by
 unfold loop;rw[show s5=m+((s5 - m - 1)+1) by omega,Vm S m h];simp only[iter,hr]
end Go.Sh
end
