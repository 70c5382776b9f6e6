/- What a proof sees of a run, and the rules by which it goes through a text. -/
import Derived.Test.YtleihjegenjacaaGreatBase1
import Derived.Test.YtleihjegenjacaaGreatBase
import Derived.Sort.Grow
import Derived.Lib.SlicesCompact
import Derived.Lib.Slices
import Derived.RecoverIn
import Derived.Shelf.SlSortCmp.NoneTotal
import Derived.Carry
import Derived.ProofKit
import Derived.OpenShut
import Derived.Lib.LaidTab
set_option linter.unusedSimpArgs false
set_option linter.unusedVariables false
section
/- A struct with a table of numbers behind its first cell. -/
namespace Go.Sh
def lim(n:Nat)(i:Int):Option Nat:=if 0≤i∧i<n then some i.toNat else none
def AT{α:Type}(l:List α)(k:Nat):Option α:=l[k]?
def Hx{α:Type}(l:List α)(k:Nat)(x:α):Option (List α):=if k<l.length then some (l.set k x) else none
theorem Ep{n:Nat}{i:Int}{k:Nat}(h:lim n i=some k):i=k∧k<n:=by
 unfold lim at h
 split at h
 ·simp only[Option.some.injEq] at h;omega
 ·cases h
theorem Hy{α:Type}{l L:List α}{k:Nat}{x:α}(h:Hx l k x=some L):k<l.length∧L=l.set k x:=by
 unfold Hx at h
 split at h
 ·cases h;exact⟨by assumption,rfl⟩
 ·cases h
end Go.Sh
namespace Go.Av
open Go
abbrev c6(hd:AV)(L:List Int):AV:=.agg (hd::L.map i64)
section
variable {P:Program} {W0:dy} {fr:Fr} {H:aP} {o:Oper}

theorem kI{t:TypeId}{N s:Nat}{x i:Operand}{id p j:Nat}{es:List AV}{kd:IntKind}{n:Int}{m:Nat}(h:Sh.lim N n=some m)(ho:o.op=.indexAddr t x i)(hx:aY fr x=some (.ref id p j))(hid:H.get id=some es)(hi:aY fr i=some (.imm (.int kd n)))
  (ht:nO P t=some (N,s)):eE P W0 o fr H (.ref id p (j+m*s)) H:=
 wT ho hx hid hi ht (Sh.Ep h).1 (Sh.Ep h).2
theorem wL{t:TypeId}{xo:Operand}{id j k:Nat}{hd:AV}{L:List Int}{x:Int}(h:Sh.AT L k=some x)(hj:j=1+k)(ho:o.op=.load t xo)(hx:aY fr xo=some (.ref id 0 j))(hid:H.get id=some [c6 hd L])(ht:su P t=some (1,false)):eE P W0 o fr H (i64 x) H:=
 aB ho hx hid (i:=0) (e:=c6 hd L) rfl ht (by
  subst hj
  unfold Sh.AT at h
  simp[pI,AV.flat,Nat.add_comm 1 k,h])
theorem ER{t:TypeId}{xo yo:Operand}{id j k:Nat}{hd:AV}{L L':List Int}{x:Int}(h:Sh.Hx L k x=some L')(hj:j=1+k)(ho:o.op=.store t xo yo)(hx:aY fr xo=some (.ref id 0 j))(hy:aY fr yo=some (i64 x))(hid:H.get id=some [c6 hd L])(ht:su P t=some (1,false)):
  eE P W0 o fr H .any (H.set id [c6 hd L']):=by
 obtain⟨hk,rfl⟩:=Sh.Hy h
 subst hj
 have:=aN (P:=P) (W0:=W0) (o:=o) (fr:=fr) (H:=H) (e:=c6 hd L) (e':=c6 hd (L.set k x)) (i:=0) ho hx hy rfl hid rfl ht rfl (by simp[AV.flat];omega) (by
  simp only[AV.flat,Nat.add_comm 1 k,List.take_succ_cons,List.cons_append,List.drop_succ_cons,List.cons.injEq,true_and]
  rw[←List.map_take,←List.map_drop]
  have:L.set k x=L.take k++[x]++L.drop (k+1):=by
   rw[List.set_eq_take_append_cons_drop,if_pos hk];simp
  rw[this];simp)
 exact this
theorem EO{t:TypeId}{N:Nat}{xo:Operand}{hd:AV}(ho:o.op=.build t #[(0,xo)])(hx:aY fr xo=some (.agg [hd]))(ht:Df P t=some ([(0,1),(1,N)],.slice none 0 0::List.replicate N (.int .i64 0))):eE P W0 o fr H (c6 hd (List.replicate N 0)) H:=by
 refine b9 (xs:=[(0,.agg [hd])]) ho ht (by simp[Value.oneCell']) (by simp[hx]) ?_
 simp[BD,AV.flat,AV.ek]
end
end Go.Av
end

section
/- Sorting numbers, and leaving out what comes twice: by what is known of the library's functions. -/
namespace Go.Av
open Go.RowKit (Below)

structure HX (P:Program) (f:FuncId):Prop where
 call:iu P f
 no:∀(p:Option Addr) (cap:Nat) (w:World),Calls P f #[.slice p 0 cap] w fun e w'=>e=.returned (.tuple #[])∧w'=w
 is:∀(eB off cap:Nat) (zs:List Int) (w:World),Sort.Holds (Value.int .i64) w eB off zs.toArray→eB<w.heap.size→zs.length<4611686018427387904→
  Calls P f #[.slice (some ⟨eB,off,none⟩) zs.length cap] w fun e w'=>
   e=.returned (.tuple #[])∧∃n os,w'=Sort.grow (Sort.putRow (Value.int .i64) (Sort.ahead w n) eB off (zs.mergeSort fun x y=>decide (x≤y)).toArray) os

def Sh.put(x:Int):List Int→List Int
 |[]=>[x]
 |y::l=>if x≤y then x::y::l else y::Sh.put x l
def Sh.kU:List Int→List Int
 |[]=>[]
 |x::l=>Sh.put x (Sh.kU l)
theorem Sh.Au(x:Int):∀l:List Int,(Sh.put x l).Perm (x::l)
 |[]=>.refl _
 |y::l=>by
  unfold Sh.put
  split
  ·exact .refl _
  ·exact((Sh.Au x l).cons y).trans (.swap x y l)
theorem Sh.ni:∀l:List Int,(Sh.kU l).Perm l
 |[]=>.refl _
 |x::l=>(Sh.Au x _).trans ((Sh.ni l).cons x)
theorem Sh.Aw(x:Int):∀l:List Int,l.Pairwise (· ≤ ·)→(Sh.put x l).Pairwise (· ≤ ·)
 |[],_=>by simp[Sh.put]
 |y::l,h=>by
  unfold Sh.put
  rw[List.pairwise_cons] at h
  split
  ·rename_i hxy
   rw[List.pairwise_cons,List.pairwise_cons]
   refine⟨fun z hz=> ?_,h⟩
   rcases List.mem_cons.1 hz with rfl|hz
   ·exact hxy
   ·exact Int.le_trans hxy (h.1 z hz)
  ·rename_i hxy
   rw[List.pairwise_cons]
   refine⟨fun z hz=> ?_,Sh.Aw x l h.2⟩
   rcases List.mem_cons.1 ((Sh.Au x l).mem_iff.1 hz) with rfl|hz
   ·omega
   ·exact h.1 z hz
theorem Sh.qg:∀l:List Int,(Sh.kU l).Pairwise (· ≤ ·)
 |[]=>.nil
 |x::l=>Sh.Aw x _ (Sh.qg l)
theorem Sh.tQ:∀{a b:List Int},a.Perm b→a.Pairwise (· ≤ ·)→b.Pairwise (· ≤ ·)→a=b
 |[],b,h,_,_=>(List.nil_perm.1 h).symm
 |x::a,[],h,_,_=>absurd h.symm (by simp)
 |x::a,y::b,h,ha,hb=>by
  have ha':=List.pairwise_cons.1 ha
  have hb':=List.pairwise_cons.1 hb
  have hxy:x=y:=by
   have h1:y≤x:=by
    rcases List.mem_cons.1 (h.mem_iff.1 (List.mem_cons_self ..)) with e|e
    ·omega
    ·exact hb'.1 x e
   have h2:x≤y:=by
    rcases List.mem_cons.1 (h.mem_iff.2 (List.mem_cons_self ..)) with e|e
    ·omega
    ·exact ha'.1 y e
   omega
  subst hxy
  rw[Sh.tQ (List.perm_cons x|>.1 h) ha'.2 hb'.2]
theorem Sh.JZ(l:List Int):Sh.kU l=l.mergeSort fun x y=>decide (x≤y):=by
 have h:=List.pairwise_mergeSort (le:=fun x y:Int=>decide (x≤y)) (fun a b c h1 h2=>by simp at h1 h2 ⊢;omega) (fun a b=>by simp;omega) l
 exact Sh.tQ ((Sh.ni l).trans (List.mergeSort_perm l _).symm) (Sh.qg l) (h.imp fun{a b} hab=>by simpa using hab)
def Sh.sort(l:List Int):Option (List Int):=if l.length<4611686018427387904 then some (Sh.kU l) else none
theorem Sh.BV{l L:List Int}(h:Sh.sort l=some L):l.length<4611686018427387904∧L=l.mergeSort fun x y=>decide (x≤y):=by
 unfold Sh.sort at h
 split at h
 ·cases h;exact⟨by assumption,Sh.JZ l⟩
 ·cases h
theorem Sh.KK{l L:List Int}(h:Sh.sort l=some L):L.length=l.length:=by rw[(Sh.BV h).2];simp
section
variable {P:Program} {W0:dy} {C:Ctx} {fr:Fr} {a:Act} {H:aP} {o:Oper} {N:Nat}

theorem AL(hI:Inv W0 C){id:Nat}(hid:C.H.get id=some []):Ext C {C with H:=C.H.set id []}∧Inv W0 {C with H:=C.H.set id []}:=by
 have hg:∀k e,(C.H.set id []).get k=some e→C.H.get k=some e:=fun k e h=>by
  rw[aP.vu] at h
  split at h
  ·rename_i hk;subst hk;cases h;exact hid
  ·exact h
 have ho':∀b,Ctx.own {C with H:=C.H.set id []} b→C.own b:=by
  rintro b (⟨k,e,h1,h2,h3⟩|h)
  ·exact .inl ⟨k,e,hg k e h1,h2,h3⟩
  ·exact .inr h
 have hE:Ext C {C with H:=C.H.set id []}:=⟨.refl _ _,fun _ _ _=>rfl,fun b _ h=>ho' b h,Nat.le_refl _,fun k e _ h=>⟨⟨e,hg k e h⟩,rfl⟩,rfl,rfl,rfl⟩
 exact⟨hE,{
  fresh:=fun k e h=>hI.fresh k e (hg k e h)
  nil:=fun k e h=>hI.nil k e (hg k e h)
  obj:=fun k e h hn=>(hI.obj k e (hg k e h) hn).ext hE rfl
  sep:=fun p q ep eq hp hq=>hI.sep p q ep eq (hg _ _ hp) (hg _ _ hq)
  dr:=fun k e h=>hI.dr k e (hg k e h)
  kY:=fun k s' h=>hI.kY k s' (by rw[←aP.KM C.H id [] [] hid k];exact h)
  ew:=hI.ew
  eP:=hI.eP
  size:=hI.size
  gQ:=fun b h=>⟨(hI.gQ b h).1,fun hh=>(hI.gQ b h).2 (ho' b hh)⟩
  dg:=hI.dg
  gB:=hI.gB
  vt:=hI.vt
  vL:=hI.vL
  e7:=hI.e7
  lT:=hI.lT
  fK:=hI.fK
  gh:=W0.st C _ hE.mem hI.fK hI.gh}⟩

theorem GM(hI:Inv W0 C){id:Nat}{l:List Int}(hid:C.H.get id=some (l.map i64))(hn:(C.pl id).nil=false)(hs:(C.pl id).sz=1):
  Sort.Holds (Value.int .i64) C.w (C.pl id).eB 0 l.toArray:=by
 intro j hj
 have hj':j<l.length:=by simpa using hj
 obtain⟨arr,el,harr,_⟩:=(hI.obj id _ hid hn).rows (by rw[hs];simp)
 obtain⟨v,h1,h2⟩:=sG hI hid hn (i:=j) (j:=0) (e:=i64 l[j]) (x:=i64 l[j]) (by simp[hj']) rfl
 refine⟨?_,by simp[World.frozen?,harr]⟩
 have hv:v=.int .i64 l[j]:=dR rfl h2
 rw[hs] at h1
 have h3:=h1.1
 rw[Nat.mul_one,Nat.add_zero] at h3
 rw[Nat.zero_add,h3,hv]
 simp[hj']

theorem Kp(hI:Inv W0 C){id:Nat}{l L:List Int}(hid:C.H.get id=some (l.map i64))(hn:(C.pl id).nil=false)(hs:(C.pl id).sz=1)(hl:L.length=l.length)(n:Nat)(os:Array Obj):
  ∃C',C'.w=Sort.grow (Sort.putRow (Value.int .i64) (Sort.ahead C.w n) (C.pl id).eB 0 L.toArray) os∧Ext C C'∧Inv W0 C'∧C'.H=C.H.set id (L.map i64)∧C'.pl=C.pl:=by
 have hO:=hI.obj id _ hid hn
 obtain⟨arr,el,harr,hcap⟩:=hO.rows (by rw[hs];simp)
 have hlen:l.length≤arr.size:=by
  have h1:=hO.n;have h2:=hO.cap
  rw[hs] at hcap;simp at h1;omega
 have hone:∀v∈arr,v.oneCell'=true:=fun v hv=>by
  obtain⟨k,hk⟩:=Array.getElem?_of_mem hv
  exact hO.one k v (by rw[gN harr];exact hk)
 obtain⟨hE,hI'⟩:=qp hI hid hn harr (Sort.putCells (Value.int .i64) 0 L.toArray arr) (by simp[Sort.putCells]) (L.map i64) (by simp[hl]) (fun v hv=>by
  obtain⟨k,hk⟩:=Array.getElem?_of_mem hv
  simp only[Sort.putCells,Array.getElem?_mapIdx,Option.map_eq_some_iff] at hk
  obtain⟨u,hu,rfl⟩:=hk
  split
  ·rfl
  ·exact hone u (Array.mem_of_getElem? hu)) (fun i e h=>by
   simp only[List.getElem?_map,Option.map_eq_some_iff] at h
   obtain⟨z,_,rfl⟩:=h
   rw[hs];rfl) (fun i j e x v h1 h2 h3=>by
   simp only[List.getElem?_map,Option.map_eq_some_iff] at h1
   obtain⟨z,hz,rfl⟩:=h1
   have hj:j=0∧x=i64 z:=by
    cases j with
    |zero=>simp[AV.flat] at h2;exact⟨rfl,h2.symm⟩
    |succ j=>simp[AV.flat] at h2
   obtain⟨rfl,rfl⟩:=hj
   rw[hs,Nat.mul_one,Nat.add_zero] at h3
   simp only[Sort.putCells,Array.getElem?_mapIdx,Option.map_eq_some_iff] at h3
   obtain⟨u,hu,rfl⟩:=h3
   have hi:i<L.length:=(List.getElem?_eq_some_iff.1 hz).1
   have e2:L.toArray[i - 0]! =z:=by
    have:L[i]=z:=by have:=List.getElem?_eq_getElem hi;rw[hz] at this;exact(Option.some.inj this).symm
    simp[hi,this]
   rw[if_pos ⟨Nat.zero_le _,by simpa using hi⟩,e2]
   exact .imm _ rfl)
 have hw:C.w.setRow (C.pl id).eB (Sort.putCells (Value.int .i64) 0 L.toArray arr)=Sort.putRow (Value.int .i64) C.w (C.pl id).eB 0 L.toArray:=by
  unfold Sort.putRow Sort.mapBlock World.setRow
  congr 1
  apply Array.ext_getElem?
  intro k
  simp only[Array.getElem?_modify]
  split
  ·rename_i hk;subst hk;rw[harr];rfl
  ·rfl
 rw[hw] at hE hI'
 have hB:Below (Sort.putRow (Value.int .i64) C.w (C.pl id).eB 0 L.toArray).heap.size (Sort.putRow (Value.int .i64) C.w (C.pl id).eB 0 L.toArray) (Sort.grow (Sort.putRow (Value.int .i64) (Sort.ahead C.w n) (C.pl id).eB 0 L.toArray) os):=
  ⟨rfl,rfl,rfl,by rw[Sort.size_grow];exact Nat.le_add_right _ _,fun k hk=>Sort.heap_grow_old (Sort.putRow (Value.int .i64) (Sort.ahead C.w n) (C.pl id).eB 0 L.toArray) os hk⟩
 refine⟨(C.write id (Sort.putRow (Value.int .i64) C.w (C.pl id).eB 0 L.toArray) (L.map i64)).r_ (Sort.grow (Sort.putRow (Value.int .i64) (Sort.ahead C.w n) (C.pl id).eB 0 L.toArray) os),rfl,hE.trans (fF hB),hI'.r_ hB,rfl,rfl⟩

theorem BB{id n:Nat}{x:Operand}{es:List AV}(hI:Inv W0 C)(hx:aY fr x=some (.view id 0 n))(hop:qa C fr a x)(hid:C.H.get id=some es)(hn:n=es.length)(hs:C.H.sz id=some 1):
  (es=[]∧∃p cap,a.eval x=.slice p 0 cap)∨((C.pl id).nil=false∧(C.pl id).sz=1∧∃cap,es.length≤cap∧cap≤(C.pl id).cap∧a.eval x=.slice (some ⟨(C.pl id).eB,0,none⟩) es.length cap):=by
 have hr:=bB hop hx
 subst hn
 generalize hux:a.eval x=ux at hr
 match hr with
 |.view _ _ _ _ h1 h2 h3=>
 have h6:=h2 es hid
 unfold l7 at h6
 split at h6
 ·rename_i hnil
  obtain⟨_,hl,ad,rfl⟩:=h6
  have:es=[]:=List.eq_nil_of_length_eq_zero hl
  subst this
  exact .inl ⟨rfl,_,_,rfl⟩
 ·rename_i hnil
  have hnil':(C.pl id).nil=false:=by simpa using hnil
  obtain⟨A,cap,rfl,g1,g2,g3,g4⟩:=h6
  have hsz:=hI.kY id 1 hs hnil'
  rcases g4 with g4|rfl
  ·subst g4
   have:es=[]:=List.eq_nil_of_length_eq_zero (by omega)
   subst this
   exact .inl ⟨rfl,_,_,rfl⟩
  ·refine .inr ⟨hnil',hsz,cap,g3,by omega, ?_⟩
   simp

theorem H7{f:FuncId}{tys:Array TypeId}{xo:Operand}{id n:Nat}(hf:HX P f)(l L:List Int)(hL:Sh.sort l=some L)(hn:n=(l.map i64).length)(ho:o.op=.call {callee:=.value (.func f),args:= #[xo],argTypes:=tys})(hx:aY fr xo=some (.view id 0 n))(hid:H.get id=some (l.map i64))(hs:H.sz id=some 1):
  eE P W0 o fr H (.tuple []) (H.set id (L.map i64)):=by
 intro C a hI hH hop K Q hK
 subst hH
 obtain⟨hlt,rfl⟩:=Sh.BV hL
 unfold Oper.wp
 rw[n_ ho hf.call,Oper.upon_enter]
 have hea:(#[xo].map a.eval)= #[a.eval xo]:=by simp
 rw[hea]
 rcases BB hI hx (hop xo (by simp[ho,Op.operands,Call.operands])) hid hn hs with⟨h0,p,cap,he⟩|⟨h1,h2,cap,_,_,he⟩
 ·have MI:l=[]:=List.map_eq_nil_iff.1 h0
  subst MI
  rw[he]
  refine(hf.no p cap C.w).mono ?_
  rintro e w' ⟨rfl,rfl⟩
  have hset:=AL hI hid
  exact hK _ {C with H:=C.H.set id []} hset.1 hset.2 (by simp) (.tuple [] #[] rfl (fun k x h=>by simp at h))
 ·rw[he]
  have hh:=GM hI hid h1 h2
  have hc:=hf.is (C.pl id).eB 0 cap l C.w hh (hI.lt hid h1) hlt
  rw[List.length_map]
  refine hc.mono ?_
  rintro e w' ⟨rfl,n,os,rfl⟩
  obtain⟨C',q1,q2,q3,q4,_⟩:=Kp hI hid h1 h2 (L:=l.mergeSort fun x y=>decide (x≤y)) (by simp) n os
  rw[←q1]
  exact hK _ C' q2 q3 q4 (.tuple [] #[] rfl (fun k x h=>by simp at h))

end
end Go.Av
end

section
/- Rows of numbers are sorted by their first ones, where they lie: by what is known of the library's function. -/
namespace Go.Av
open Go.RowKit (Below)

@[simp] theorem O5(p q:Prop)(R:AV→Prop):(∀e:AV,p∧bl false=e∨q∧bl true=e→R e)↔(p→R (bl false))∧(q→R (bl true)):=⟨fun h=>⟨fun hp=>h _ (.inl ⟨hp,rfl⟩),fun hq=>h _ (.inr ⟨hq,rfl⟩)⟩,fun⟨h1,h2⟩ e h=>by rcases h with⟨hp,rfl⟩|⟨hq,rfl⟩;exact h1 hp;exact h2 hq⟩
def Sh.first(l:List Int):Int:=l.headD 0
section
variable {P:Program} {W0:dy} {C:Ctx} {fr:Fr} {a:Act} {H:aP} {o:Oper} {N:Nat}

theorem Kr(hI:Inv W0 C){id m:Nat}{es es':List AV}(hid:C.H.get id=some es)(hn:(C.pl id).nil=false)(hs:(C.pl id).sz=1)(v:Fin (m+1)→Value)(d:List (Fin (m+1)))(hd:d.length=es.length)(hl:es'.length=es.length)
  (h1:∀i,(v i).oneCell'=true)(hf:∀e∈es',e.flat=[e])(hv:∀(i:Nat) (j:Fin (m+1)) (e:AV),d[i]? =some j→es'[i]? =some e→dw C e (v j))(n:Nat)(os:Array Obj):
  ∃C',C'.w=Sort.grow (Sort.putRow v (Sort.ahead C.w n) (C.pl id).eB 0 d.toArray) os∧Ext C C'∧Inv W0 C'∧C'.H=C.H.set id es'∧C'.pl=C.pl:=by
 have hO:=hI.obj id _ hid hn
 obtain⟨arr,el,harr,hcap⟩:=hO.rows (by rw[hs];simp)
 have hlen:es.length≤arr.size:=by
  have h1:=hO.n;have h2:=hO.cap
  rw[hs] at hcap;omega
 have hone:∀u∈arr,u.oneCell'=true:=fun u hu=>by
  obtain⟨k,hk⟩:=Array.getElem?_of_mem hu
  exact hO.one k u (by rw[gN harr];exact hk)
 obtain⟨hE,hI'⟩:=qp hI hid hn harr (Sort.putCells v 0 d.toArray arr) (by simp[Sort.putCells]) es' hl (fun u hu=>by
  obtain⟨k,hk⟩:=Array.getElem?_of_mem hu
  simp only[Sort.putCells,Array.getElem?_mapIdx,Option.map_eq_some_iff] at hk
  obtain⟨x,hx,rfl⟩:=hk
  split
  ·exact h1 _
  ·exact hone x (Array.mem_of_getElem? hx)) (fun i e h=>by
   rw[hs,hf e (List.mem_of_getElem? h)];rfl) (fun i j e x u g1 g2 g3=>by
   rw[hf e (List.mem_of_getElem? g1)] at g2
   have hj:j=0∧x=e:=by
    cases j with
    |zero=>simp at g2;exact⟨rfl,g2.symm⟩
    |succ j=>simp at g2
   obtain⟨rfl,rfl⟩:=hj
   rw[hs,Nat.mul_one] at g3
   replace g3:(Sort.putCells v 0 d.toArray arr)[i]? =some u:=g3
   simp only[Sort.putCells,Array.getElem?_mapIdx,Option.map_eq_some_iff] at g3
   obtain⟨y,hy,rfl⟩:=g3
   have hi:i<d.length:=by rw[hd,←hl];exact(List.getElem?_eq_some_iff.1 g1).1
   have e2:d.toArray[i - 0]! =d[i]:=by simp[hi]
   rw[if_pos ⟨Nat.zero_le _,by simpa using hi⟩,e2]
   exact hv i d[i] x (List.getElem?_eq_getElem hi) g1)
 have hw:C.w.setRow (C.pl id).eB (Sort.putCells v 0 d.toArray arr)=Sort.putRow v C.w (C.pl id).eB 0 d.toArray:=by
  unfold Sort.putRow Sort.mapBlock World.setRow
  congr 1
  apply Array.ext_getElem?
  intro k
  simp only[Array.getElem?_modify]
  split
  ·rename_i hk;subst hk;rw[harr];rfl
  ·rfl
 rw[hw] at hE hI'
 have hB:Below (Sort.putRow v C.w (C.pl id).eB 0 d.toArray).heap.size (Sort.putRow v C.w (C.pl id).eB 0 d.toArray) (Sort.grow (Sort.putRow v (Sort.ahead C.w n) (C.pl id).eB 0 d.toArray) os):=
  ⟨rfl,rfl,rfl,by rw[Sort.size_grow];exact Nat.le_add_right _ _,fun k hk=>Sort.heap_grow_old (Sort.putRow v (Sort.ahead C.w n) (C.pl id).eB 0 d.toArray) os hk⟩
 refine⟨(C.write id (Sort.putRow v C.w (C.pl id).eB 0 d.toArray) es').r_ (Sort.grow (Sort.putRow v (Sort.ahead C.w n) (C.pl id).eB 0 d.toArray) os),rfl,hE.trans (fF hB),hI'.r_ hB,rfl,rfl⟩

end
end Go.Av
end

section
/- Numbers are sorted by where they stand in a row, where they lie: by what is known of the library's function. -/
namespace Go.Av
open Go.RowKit (Below)

structure xX (P:Program) (f g:FuncId):Prop where
 call:iu P f
 no:∀(p:Option Addr) (cap:Nat) (cb:Array Value) (w:World),Calls P f #[.slice p 0 cap,.func (.func g) #[] cb] w fun e w'=>e=.returned (.tuple #[])∧w'=w
 is:∀(eB off cap m:Nat) (x:Fin (m+1)→Int) (os:List Int) (bx ox b2 o2 c2:Nat) (w:World),(∀i j,Lib.idxOf os (x i)=Lib.idxOf os (x j)→i=j)→os≠[]→os.length≤9223372036854775807→
  bx≠eB→bx<w.heap.size→w.cell? ⟨bx,ox,none⟩=some (.slice (some ⟨b2,o2,none⟩) os.length c2)→b2≠eB→b2<w.heap.size→(∀j,j<os.length→w.cell? ⟨b2,o2+j,none⟩=some (.int .i64 (os.getD j 0)))→
  Sort.Holds (fun i=>.int .i64 (x i)) w eB off (List.finRange (m+1)).toArray→eB<w.heap.size→m+1<4611686018427387904→
  Calls P f #[.slice (some ⟨eB,off,none⟩) (m+1) cap,.func (.func g) #[] #[.pointer (some ⟨bx,ox,none⟩)]] w fun e w'=>
   e=.returned (.tuple #[])∧∃n os',∃d:List (Fin (m+1)),d.Perm (List.finRange (m+1))∧d.Pairwise (fun a b=>Lib.idxOf os (x a)≤Lib.idxOf os (x b))∧w'=Sort.grow (Sort.putRow (fun i=>.int .i64 (x i)) (Sort.ahead w n) eB off d.toArray) os'

def Sh.ix(os:List Int)(x:Int):Int:=Lib.idxOf os x
def Sh.FL(os:List Int)(x:Int):List Int→List Int
 |[]=>[x]
 |y::l=>if Sh.ix os x≤Sh.ix os y then x::y::l else y::Sh.FL os x l
def Sh.pT(os:List Int):List Int→List Int
 |[]=>[]
 |x::l=>Sh.FL os x (Sh.pT os l)
def Sh.tP(os l:List Int):Option (List Int):=if l.length<4611686018427387904∧os≠[]∧os.length≤9223372036854775807∧(l.map (Sh.ix os)).Nodup then some (Sh.pT os l) else none
theorem Sh.yw(os:List Int)(x:Int):∀l:List Int,(Sh.FL os x l).Perm (x::l)
 |[]=>.refl _
 |y::l=>by
  unfold Sh.FL
  split
  ·exact .refl _
  ·exact((Sh.yw os x l).cons y).trans (.swap x y l)
theorem Sh.ny(os:List Int):∀l:List Int,(Sh.pT os l).Perm l
 |[]=>.refl _
 |x::l=>(Sh.yw os x _).trans ((Sh.ny os l).cons x)
theorem Sh.yR(os:List Int)(x:Int):∀l:List Int,l.Pairwise (fun a b=>Sh.ix os a≤Sh.ix os b)→(Sh.FL os x l).Pairwise (fun a b=>Sh.ix os a≤Sh.ix os b)
 |[],_=>by simp[Sh.FL]
 |y::l,h=>by
  unfold Sh.FL
  rw[List.pairwise_cons] at h
  split
  ·rename_i hxy
   rw[List.pairwise_cons,List.pairwise_cons]
   refine⟨fun z hz=> ?_,h⟩
   rcases List.mem_cons.1 hz with rfl|hz
   ·exact hxy
   ·exact Int.le_trans hxy (h.1 z hz)
  ·rename_i hxy
   rw[List.pairwise_cons]
   refine⟨fun z hz=> ?_,Sh.yR os x l h.2⟩
   rcases List.mem_cons.1 ((Sh.yw os x l).mem_iff.1 hz) with rfl|hz
   ·omega
   ·exact h.1 z hz
theorem Sh.tU(os:List Int):∀l:List Int,(Sh.pT os l).Pairwise (fun a b=>Sh.ix os a≤Sh.ix os b)
 |[]=>.nil
 |x::l=>Sh.yR os x _ (Sh.tU os l)
theorem Sh.B2(os:List Int):∀{a b:List Int},a.Perm b→(a.map (Sh.ix os)).Nodup→a.Pairwise (fun x y=>Sh.ix os x≤Sh.ix os y)→b.Pairwise (fun x y=>Sh.ix os x≤Sh.ix os y)→a=b
 |[],b,h,_,_,_=>(List.nil_perm.1 h).symm
 |x::a,[],h,_,_,_=>absurd h.symm (by simp)
 |x::a,y::b,h,hn,ha,hb=>by
  have ha':=List.pairwise_cons.1 ha
  have hb':=List.pairwise_cons.1 hb
  simp only[List.map_cons,List.nodup_cons] at hn
  have hxy:x=y:=by
   rcases List.mem_cons.1 (h.mem_iff.1 (List.mem_cons_self ..)) with e|e
   ·exact e
   ·have h1:=hb'.1 x e
    rcases List.mem_cons.1 (h.mem_iff.2 (List.mem_cons_self (a:=y) (l:=b))) with e2|e2
    ·exact e2.symm
    ·have h2:=ha'.1 y e2
     have:Sh.ix os x=Sh.ix os y:=by omega
     exact absurd (List.mem_map.2 ⟨y,e2,this.symm⟩) hn.1
  subst hxy
  rw[Sh.B2 os (List.perm_cons x|>.1 h) hn.2 ha'.2 hb'.2]
theorem Sh.xO{os l L:List Int}(h:Sh.tP os l=some L):(l.length<4611686018427387904∧os≠[]∧os.length≤9223372036854775807∧(l.map (Sh.ix os)).Nodup)∧L=Sh.pT os l:=by
 unfold Sh.tP at h
 split at h
 ·cases h;exact⟨by assumption,rfl⟩
 ·cases h
theorem Sh.EK{os l L:List Int}(h:Sh.tP os l=some L):L.length=l.length:=by rw[(Sh.xO h).2];exact(Sh.ny os l).length_eq

section
variable {P:Program} {W0:dy} {C:Ctx} {fr:Fr} {a:Act} {H:aP} {o:Oper} {N:Nat}

theorem B_{f g:FuncId}{tys:Array TypeId}{xo yo:Operand}{id n:Nat}(hf:xX P f g)(os l L:List Int)(hL:Sh.tP os l=some L)(hn:n=(l.map i64).length)
  (ho:o.op=.call {callee:=.value (.func f),args:= #[xo,yo],argTypes:=tys})(hx:aY fr xo=some (.view id 0 n))(hy:aY fr yo=some (.aX (.func g) [.pp [.sl (os.map i64)] 0]))(hid:H.get id=some (l.map i64))(hs:H.sz id=some 1):
  eE P W0 o fr H (.tuple []) (H.set id (L.map i64)):=by
 intro C a hI hH hop K Q hK
 subst hH
 obtain⟨⟨hlt,hne,hbig,hnd⟩,rfl⟩:=Sh.xO hL
 unfold Oper.wp
 rw[n_ ho hf.call,Oper.upon_enter]
 have hea:(#[xo,yo].map a.eval)= #[a.eval xo,a.eval yo]:=by simp
 have hfy:∃bx ox b2 o2 c2,a.eval yo=.func (.func g) #[] #[.pointer (some ⟨bx,ox,none⟩)]∧bx<C.w.heap.size∧¬C.bad bx∧C.w.cell? ⟨bx,ox,none⟩=some (.slice (some ⟨b2,o2,none⟩) os.length c2)∧b2<C.w.heap.size∧¬C.bad b2∧∀j,j<os.length→C.w.cell? ⟨b2,o2+j,none⟩=some (.int .i64 (os.getD j 0)):=by
  have h:=bB (hop yo (by simp[ho,Op.operands,Call.operands])) hy
  generalize a.eval yo=u at h
  match h with
  |.aX _ _ vs h1 h2=>
   have hp:=h2 0 _ rfl
   have hvs:vs= #[vs.getD 0 undef]:=by
    apply Array.ext
    ·simpa using h1
    ·intro k hk wz
     have:k=0:=by simp at wz;omega
     subst this
     simp[Array.getD,hk]
   generalize vs.getD 0 undef=pv at hp hvs
   match hp with
   |.pp _ _ b off c hb hbad Ga GH=>
    have c1:=Ga 0 _ rfl
    have c2:=GH 0 _ rfl
    generalize hcv:c 0=cv at c1 c2
    have fin:∀(b2 o2 sz cap:Nat) (cc:Nat→Nat→Value),cv=.slice (some ⟨b2,o2,none⟩) (os.map i64).length cap→b2<C.w.heap.size→¬C.bad b2→(∀(i:Nat) (e:AV),(os.map i64)[i]? =some e→e.flat.length=sz)→
      (∀(i j:Nat) (e x:AV),(os.map i64)[i]? =some e→e.flat[j]? =some x→Holds C.w b2 (o2+i*sz+j) (cc i j))→(∀(i j:Nat) (e x:AV),(os.map i64)[i]? =some e→e.flat[j]? =some x→dw C x (cc i j))→∃bx ox b2 o2 c2,Value.func (.func g) #[] vs=.func (.func g) #[] #[.pointer (some ⟨bx,ox,none⟩)]∧bx<C.w.heap.size∧¬C.bad bx∧C.w.cell? ⟨bx,ox,none⟩=some (.slice (some ⟨b2,o2,none⟩) os.length c2)∧b2<C.w.heap.size∧¬C.bad b2∧∀j,j<os.length→C.w.cell? ⟨b2,o2+j,none⟩=some (.int .i64 (os.getD j 0)):=by
     intro b2 o2 sz cap cc e1 e2 e3 e4 e5 e6
     refine⟨b,off+0,b2,o2,cap,by rw[hvs],hb,hbad,by rw[c1.1,e1,List.length_map],e2,e3,fun j hj=> ?_⟩
     have hsz:sz=1:=by
      have:(os.map i64)[0]? =some (i64 (os[0]'(by omega))):=by simp[List.getElem?_eq_getElem (show 0<os.length by omega)]
      have:=e4 0 _ this
      simpa [AV.flat] using this.symm
     subst hsz
     have Th:(os.map i64)[j]? =some (i64 os[j]):=by simp[hj]
     have h3:=e5 j 0 _ _ Th rfl
     have h4:=e6 j 0 _ _ Th rfl
     rw[Nat.mul_one,Nat.add_zero] at h3
     rw[h3.1,dR (v:=.int .i64 os[j]) rfl h4]
     simp[List.getD,hj]
    cases os with
    |nil=>exact absurd rfl hne
    |cons z zs=>
     match c2 with
     |.sl _ b2 o2 sz cap cc e2 e3 _ e4 e5 e6=>exact fin b2 o2 sz cap cc rfl e2 e3 e4 e5 e6
 obtain⟨bx,ox,b2,o2,c2,hfy,k1,k2,k3,k4,k5,k6⟩:=hfy
 rw[hea,hfy]
 rcases BB hI hx (hop xo (by simp[ho,Op.operands,Call.operands])) hid hn hs with⟨h0,p,cap,he⟩|⟨h1,h2,cap,_,_,he⟩
 ·have MI:l=[]:=List.map_eq_nil_iff.1 h0
  subst MI
  rw[he]
  refine(hf.no p cap _ C.w).mono ?_
  rintro e w' ⟨rfl,rfl⟩
  have hset:=AL hI hid
  exact hK _ {C with H:=C.H.set id []} hset.1 hset.2 (by simp[Sh.pT]) (.tuple [] #[] rfl (fun k x h=>by simp at h))
 ·by_cases MI:l=[]
  ·subst MI
   rw[he]
   refine(hf.no _ cap _ C.w).mono ?_
   rintro e w' ⟨rfl,rfl⟩
   have hset:=AL hI hid
   exact hK _ {C with H:=C.H.set id []} hset.1 hset.2 (by simp[Sh.pT]) (.tuple [] #[] rfl (fun k x h=>by simp at h))
  obtain⟨m,hm⟩:∃m,l.length=m+1:=⟨l.length - 1,by have:=List.length_pos_iff.2 MI;omega⟩
  let x:Fin (m+1)→Int:=fun i=>l[i.1]'(by omega)
  have hcell:∀i:Fin (m+1),Holds C.w (C.pl id).eB i.1 (.int .i64 (x i)):=fun i=>by
   have hi:i.1<l.length:=by omega
   obtain⟨u,g1,g2⟩:=sG hI hid h1 (i:=i.1) (j:=0) (e:=i64 l[i.1]) (x:=i64 l[i.1]) (by simp[hi]) rfl
   rw[h2,Nat.mul_one,Nat.add_zero] at g1
   rw[dR (v:=.int .i64 l[i.1]) rfl g2] at g1
   exact g1
  have hk:∀i j,Lib.idxOf os (x i)=Lib.idxOf os (x j)→i=j:=fun i j h=>by
   have hp:=List.pairwise_iff_getElem.1 hnd
   rcases Nat.lt_trichotomy i.1 j.1 with h3|h3|h3
   ·exact(hp i.1 j.1 (by simp;omega) (by simp;omega) h3 (by simp only[List.getElem_map];exact h)).elim
   ·exact Fin.ext h3
   ·exact(hp j.1 i.1 (by simp;omega) (by simp;omega) h3 (by simp only[List.getElem_map];exact h.symm)).elim
  obtain⟨arr,el,harr,_⟩:=(hI.obj id _ hid h1).rows (by rw[h2];simp)
  have hown:∀b,¬C.bad b→b≠(C.pl id).eB:=fun b hb e=>hb (.inl (.inl ⟨id,_,hid,h1,e.symm⟩))
  have hc:=hf.is (C.pl id).eB 0 cap m x os bx ox b2 o2 c2 C.w hk hne hbig (hown bx k2) k1 k3 (hown b2 k5) k4 k6 (fun j hj=>by
   have hj':j<m+1:=by simpa using hj
   refine⟨?_,by simp[World.frozen?,harr]⟩
   have:=(hcell ⟨j,hj'⟩).1
   rw[Nat.zero_add,this]
   simp[hj']) (hI.lt hid h1) (by omega)
  rw[he,List.length_map,hm]
  refine hc.mono ?_
  rintro e w' ⟨rfl,n',os',d,hp,hsd,rfl⟩
  have hdl:d.length=m+1:=by rw[hp.length_eq];simp
  have W1:d.map x=Sh.pT os l:=by
   refine Sh.B2 os ?_ ?_ ?_ (Sh.tU os l)
   ·refine(hp.map _).trans (List.Perm.trans (.of_eq ?_) (Sh.ny os l).symm)
    apply List.ext_getElem
    ·simp[hm]
    ·intro i h3 h4;simp[x]
   ·rw[List.map_map]
    refine List.Pairwise.map _ (fun a b h=> ?_) (hp.nodup_iff.2 (List.nodup_finRange _))
    exact fun e=>h (hk _ _ e)
   ·exact List.pairwise_map.2 hsd
  obtain⟨C',q1,q2,q3,q4,_⟩:=Kr hI hid h1 h2 (fun i=>Value.int .i64 (x i)) d (es':=(Sh.pT os l).map i64) (by rw[hdl,List.length_map,hm]) (by simp[(Sh.ny os l).length_eq]) (fun i=>rfl) (fun e he=>by
   obtain⟨r,_,rfl⟩:=List.mem_map.1 he;rfl) (fun i j e g1 g2=>by
   rw[←W1,List.map_map,List.getElem?_map,g1] at g2
   simp only[Option.map_some,Option.some.injEq] at g2
   rw[←g2];exact .imm _ rfl) n' os'
  rw[←q1]
  exact hK _ C' q2 q3 q4 (.tuple [] #[] rfl (fun k x h=>by simp at h))
end
end Go.Av
end

section
/- A call that hands back one new object, whatever the heap is. -/
namespace Go.Av
section
variable {P:Program} {W0:dy} {fr:Fr} {H:aP} {o:Oper}
end
end Go.Av
end

section
/- Calls that panic, and what takes the panic back. -/
namespace Go.Av
open Go.RowKit (Below)

def v_(ch:List PanicEntry):Prop:=∃t v,ch=[{v:=.iface t v,recovered:=false}]

def Ld(P:Program)(W0:dy)(o:Oper)(fr:Fr)(H:aP)(H':aP):Prop:=
 ∀(C:Ctx) (a:Act),Inv W0 C→C.H=H→(∀x∈o.op.operands,qa C fr a x)→
  ∀(K:Act→World→Prop) (Q:Exit→Act→World→Prop),
   (∀ch C',v_ ch→Ext C C'→Inv W0 C'→C'.H=H'→Q (.panic ch) a C'.w)→o.wp P a C.w K Q

structure Dp (P:Program) (B:dy) (f:FuncId) (xs:List AV) (Hin:aP) (Hout:aP):Prop where
 call:iu P f
 runs:∀(C:Ctx) (vals:Array Value),Inv B C→C.H=Hin→C.gB=[]→vals.size=xs.length→(∀(k:Nat) (x:AV),xs[k]? =some x→dw C x (vals.getD k undef))→
  Calls P f vals C.w (fun e w'=>∃ch C',e=.panicked ch∧v_ ch∧C'.w=w'∧Mem C C'∧Inv B C'∧C'.H=Hout∧C'.gB=[])

section
variable {P:Program} {W0:dy} {C:Ctx} {fr:Fr} {a:Act} {H:aP} {o:Oper} {N:Nat} {ops:Array Oper} {Q:Exit→St→Prop}

theorem zD{x:Operand}{t:TypeId}{ax:AV}(ho:o.op=.panic x)(hx:aY fr x=some (.ifc t ax)):Ld P W0 o fr H H:=by
 intro C a hI hH hop K Q hQ
 have hr:=bB (hop x (by simp[ho,Op.operands])) hx
 generalize hu:a.eval x=ux at hr
 cases hr
 rename_i v hv
 unfold Oper.wp
 have:(execOp a.eval o).run P C.w=.halt (.panic (.iface t v)) C.w:=by
  simp only[execOp,ho,hu]
  simp[go_sem,Instr.panic]
 rw[this,Oper.upon_panic]
 exact hQ _ C ⟨_,_,rfl⟩ (.refl C) hI hH

theorem qy{ok:AV→Prop}{f:FuncId}{args:Array Operand}{tys:Array TypeId}{ys xs:List AV}{r r':AV}{Hs Hin Hout H':aP}{g m:List (Nat×Nat)}{nw:List Nat}{p:Nat}(ho:o.op=.call {callee:=.value (.func f),args:=args,argTypes:=tys})(hys:args.toList.mapM (aY fr)=some ys)
  (hf:Dp P (.pinned W0.w p) f xs Hin Hout)(h:Pass ok (di 0 ys) (di 0 xs) H Hs Hin Hout H' g m nw p r r')(hl:xs.length=ys.length):Ld P W0 o fr H H':=by
 intro C a hI hH hop K Q hQ
 unfold Oper.wp
 rw[n_ ho hf.call,Oper.upon_enter]
 have Dg:=uJ (DB ho hop) hys
 have h1:=h.Ot hI hH Dg.1 Dg.2
 have h2:Inv (.pinned W0.w p) (C.sub Hs Hin g p):=h1.inv.KA (W0:=W0) rfl rfl (of_decide_eq_true h.j7) rfl trivial
 refine(hf.runs (C.sub Hs Hin g p) _ h2 rfl rfl (by rw[hl];exact Dg.1) (fun k x hx=>qm (vh h1 k x hx))).mono ?_
 rintro e w' ⟨ch,C2,rfl,hch,rfl,hM,wP,GF,EY⟩
 obtain⟨q1,q2,_⟩:=h.Kh (B1:=.pinned W0.w p) hI hH rfl hM wP GF EY
 exact hQ ch (C.back C2 H') hch q1 q2 rfl

theorem C6{l1:List Oper}{rest:List Oper}{fr':Fr}{H' Hp:aP}(h:wQ P W0 ops l1 fr H fr' H')(hN:∀o∈l1,jr N o=true)(hd:∀c,o.op≠.defer c)(hw:gA ops fr' o=some true)(hp:Ld P W0 o fr' H' Hp):
  ∀(C:Ctx) (a:Act) (Q:Exit→Act→World→Prop),Rel W0 N fr H C a→
  (∀ch C' a',v_ ch→Mem C C'→Rel W0 N fr' Hp C' a'→Q (.panic ch) a' C'.w)→wpListIn (Fw W0.ro) 0 P ops Q (l1++o::rest) a C.w:=by
 induction h with
 |nil fr H=>
  intro C a Q hr hQ
  show wpListIn (Fw W0.ro) 0 P ops Q (o::rest) a C.w
  unfold wpListIn
  rw[iS hr.rep hw]
  simp only[if_true]
  refine nv hd (hp C a hr.inv hr.heap (fun x _ t _ av hav=>hr.rep t av hav) _ _ (fun ch C' hch hE hi hH=> ?_))
  exact hQ ch C' a hch hE.mem ⟨hH,hi,hr.size,by rw[hE.gB];exact hr.defers,fun t x hx=>(hr.rep t x hx).ext hE⟩
 |skip JL _ ih=>
  intro C a Q hr hQ
  rw[List.cons_append]
  unfold wpListIn
  rw[iS hr.rep JL]
  simp only[Bool.false_eq_true,if_false]
  exact⟨fun _ _=>trivial,ih (fun o ho=>hN o (List.mem_cons_of_mem _ ho)) hw hp C _ Q (hr.put (.refl C) hr.inv hr.heap xI (jr.lt (hN _ (List.mem_cons_self ..)))) hQ⟩
 |op JL hop _ ih=>
  intro C a Q hr hQ
  rw[List.cons_append]
  unfold wpListIn
  rw[iS hr.rep JL]
  simp only[if_true]
  refine nv (jr.Kb (hN _ (List.mem_cons_self ..))) (hop C a hr.inv hr.heap (fun x _ t _ av hav=>hr.rep t av hav) _ _ (fun v C' he hi hH hv=> ?_))
  exact ih (fun o ho=>hN o (List.mem_cons_of_mem _ ho)) hw hp C' _ Q (hr.put he hi hH hv (jr.lt (hN _ (List.mem_cons_self ..)))) (fun ch C2 a2 hch h2=>hQ ch C2 a2 hch (he.mem.trans h2))
 |Di JL hop _ ih=>
  intro C a Q hr hQ
  rw[List.cons_append]
  unfold wpListIn
  rw[iS hr.rep JL]
  simp only[if_true]
  refine hop C a hr.inv hr.heap (fun x _ t _ av hav=>hr.rep t av hav) _ _ (fun v C' he hi hH hv=> ?_)
  exact ih (fun o ho=>hN o (List.mem_cons_of_mem _ ho)) hw hp C' _ Q (hr.put he hi hH hv (jr.lt (hN _ (List.mem_cons_self ..)))) (fun ch C2 a2 hch h2=>hQ ch C2 a2 hch (he.mem.trans h2))
 |drop hk _ ih=>
  intro C a Q hr hQ
  exact ih hN hw hp C a Q ⟨hr.heap,hr.inv,hr.size,hr.defers,fun t x hx=>hr.rep t x (hk t x hx)⟩ hQ

theorem qA{id:Nat}{frl:List (Nat×AV)}(k:Nat){l:List Oper}{Hp:aP}(hk:l[k]? =some o)(hN:(l.take k).all (jr N)=true)(hd:(match o.op with|.defer _=>false|_=>true)=true)
  (h:AR P W0 l.toArray (l.take k) frl H (fun f g=>gA l.toArray (lk f) o=some true∧Ld P W0 o (lk f) g Hp∧∀ch,v_ ch→Q (.panic ch) ⟨f,Hp⟩)):bp P W0 N (.region id l.toArray false) ⟨frl,H⟩ Q:=fun C a hr=>by
 obtain⟨fr',H',h1,h2,h3,hQ⟩:=h
 have e:l=l.take k++o::l.drop (k+1):=by
  obtain⟨hlt,he⟩:=List.getElem?_eq_some_iff.1 hk
  rw[←he,List.getElem_cons_drop,List.take_append_drop]
 refine wpIn_region_lit ?_
 have:=C6 (rest:=l.drop (k+1)) h1 (fun o ho=>List.all_eq_true.1 hN o ho) (fun c hc=>by rw[hc] at hd;cases hd) h2 h3 C a (Le W0 N C Q) hr (fun ch C' a' hch hm hrel=>⟨⟨fr',Hp⟩,C',rfl,hm,hrel,hQ ch hch⟩)
 rw[←e] at this
 exact this

theorem tu{B:dy}{f:FuncId}{fn:Func}{c:Code}{xs:List AV}{Hin Hr:aP}(hro:B.ro=none)(hf:P.funcs[f]? =some fn)(hb:fn.body=some c)(hname:(fn.name== "runtime.NumGoroutine")=false)(hN:fn.ntmps=N)(hxN:xs.length≤N)
  (h:bp P B N c ⟨di 0 xs,Hin⟩ (fun e s=>(∃ch,e=.panic ch∧v_ ch)∧aq B N s ⟨[],Hr⟩))(hdx:B.dx=[]:=by rfl):Dp P B f xs Hin Hr where
 call:=jg hf hname hb
 runs C vals hI hH hd hsz hrep:=by
  refine(callsIn_wide (n:=0)).1 (callsIn_of_wp_marks hf hb trivial ?_)
  have hrel:=yB (W0:=B) hI hH hd hN hxN hsz hrep hdx
  have key:=h C _ hrel
  rw[hro,xd] at key
  refine wpIn_mono key fun e a' w' ⟨s,C',g1,g2,g3,⟨ch,g4,g5⟩,g6⟩=> ?_
  subst g1 g4
  obtain⟨C3,q1,q2,q3⟩:=g6 C' a' g3
  show LeavesInM Fence.wide 0 P fn a'.tmps _ a'.defers (.panicking ch) C'.w
  rw[←q1,q3.defers,hdx]
  refine drain (W0:=B) (u:=.panicking ch) (by simp) (ds:=[]) (Q:=fun C2=>Inv B C2∧C2.H=Hr∧Mem C C2) (fun C2 hq EY=> ?_) C3.gB C3 rfl q3.inv q3.heap (fun C2 h1 h2 h3 h4 h5 h6=>⟨h4,h1.trans q3.heap,(g2.trans q2).trans h3⟩)
  exact⟨ch,C2,rfl,g5,rfl,hq.2.2,hq.1,hq.2.1,EY⟩


@[reducible] def dy.off(W:World)(p:Nat)(ds:List Deferred):dy:=⟨W,p,none,fun _=>True,fun _ _ _ _ _=>trivial,ds⟩

theorem Inv.off{W:World}{B:dy}(hI:Inv B C)(hB:B.w=W)(p:Nat)(ds:List Deferred)(hle:p≤C.H.next):Inv (.off W p ds) {C with lz:=p} where
 fresh:=hI.fresh
 nil:=hI.nil
 obj id es h hn:=by
  have hO:=hI.obj id es h hn
  exact⟨hO.n,hO.cap,hO.eB,hO.one,hO.flat,fun i j e x v h1 h2 h3=>(hO.cell i j e x v h1 h2 h3).sub rfl (Nat.le_refl _) (fun id es _ h=>⟨es,h⟩) (fun _ _=>rfl) (fun b h=>h)⟩
 sep:=hI.sep
 dr:=hI.dr
 kY:=hI.kY
 ew:=hI.ew
 eP b h:=by subst hB;exact hI.eP b h
 size:=by subst hB;exact hI.size
 gQ b h:=by subst hB;exact hI.gQ b h
 dg:=hI.dg
 gB:=hI.gB
 vt:=hI.vt
 vL _ h:=by cases h
 e7:=hI.e7
 lT:=rfl
 fK:=hle
 gh:=trivial

theorem Inv.dx{W:World}{p:Nat}{ds ds':List Deferred}(h:Inv (.off W p ds) C):Inv (.off W p ds') C:=
 ⟨h.fresh,h.nil,h.obj,h.sep,h.dr,h.kY,h.ew,h.eP,h.size,h.gQ,h.dg,h.gB,h.vt,h.vL,h.e7,h.lT,h.fK,h.gh⟩
theorem Inv.on{W:World}{p:Nat}{ds:List Deferred}(h:Inv (.off W p ds) C):Inv (.of W) {C with lz:=0}:=
 have k:=h.off (W:=W) rfl 0 [] (Nat.zero_le _)
 ⟨k.fresh,k.nil,k.obj,k.sep,k.dr,k.kY,k.ew,k.eP,k.size,k.gQ,k.dg,k.gB,k.vt,k.vL,k.e7,k.lT,k.fK,k.gh⟩

theorem Mem.SO{C C':Ctx}{q:Nat}(h:Mem {C with lz:=q} C')(h0:C.lz=0):Mem C {C' with lz:=0}:=
 ⟨h.below,h.keep,h.own,h.dr,h0.symm,fun _=>⟨Nat.zero_le _,fun k es' hk _=>by rw[h0] at hk;exact absurd hk (Nat.not_lt_zero _)⟩⟩

theorem sW{l:List Oper}{fr':Fr}{H':aP}(h:wQ P W0 ops l fr H fr' H')(hN:∀o∈l,jr N o=true):∀(C:Ctx) (a:Act) (Q:Exit→Act→World→Prop),Rel W0 N fr H C a→
  (∀C' a',Ext C C'→Rel W0 N fr' H' C' a'→Q .normal a' C'.w)→wpListIn (Fw W0.ro) 0 P ops Q l a C.w:=by
 induction h with
 |nil fr H=>intro C a Q hr hQ;exact hQ C a (.refl C) hr
 |skip hw _ ih=>
  intro C a Q hr hQ
  unfold wpListIn
  rw[iS hr.rep hw]
  simp only[Bool.false_eq_true,if_false]
  exact⟨fun _ _=>trivial,ih (fun o ho=>hN o (List.mem_cons_of_mem _ ho)) C _ Q (hr.put (.refl C) hr.inv hr.heap xI (jr.lt (hN _ (List.mem_cons_self ..)))) hQ⟩
 |op hw hop _ ih=>
  intro C a Q hr hQ
  unfold wpListIn
  rw[iS hr.rep hw]
  simp only[if_true]
  refine nv (jr.Kb (hN _ (List.mem_cons_self ..))) (hop C a hr.inv hr.heap (fun x _ t _ av hav=>hr.rep t av hav) _ _ (fun v C' he hi hH hv=> ?_))
  exact ih (fun o ho=>hN o (List.mem_cons_of_mem _ ho)) C' _ Q (hr.put he hi hH hv (jr.lt (hN _ (List.mem_cons_self ..)))) (fun C2 a2 h2=>hQ C2 a2 (he.trans h2))
 |Di hw hop _ ih=>
  intro C a Q hr hQ
  unfold wpListIn
  rw[iS hr.rep hw]
  simp only[if_true]
  refine hop C a hr.inv hr.heap (fun x _ t _ av hav=>hr.rep t av hav) _ _ (fun v C' he hi hH hv=> ?_)
  exact ih (fun o ho=>hN o (List.mem_cons_of_mem _ ho)) C' _ Q (hr.put he hi hH hv (jr.lt (hN _ (List.mem_cons_self ..)))) (fun C2 a2 h2=>hQ C2 a2 (he.trans h2))
 |drop hk _ ih=>
  intro C a Q hr hQ
  exact ih hN C a Q ⟨hr.heap,hr.inv,hr.size,hr.defers,fun t x hx=>hr.rep t x (hk t x hx)⟩ hQ

abbrev ng(b0 b1 b2:AV):aP:=⟨3,[(0,(1,[b0])),(1,(1,[b1])),(2,(1,[b2]))],[]⟩
abbrev xE:List (Nat×AV):=[(2,.ref 0 0 0),(3,.ref 1 0 0),(4,.ref 2 0 0)]

structure F2 (P:Program) (W:World) (g:FuncId) (c0 c1 c2:AV):Prop where
 call:iu P g
 idle:∀(v0 v1 v2:Value) (w:World),CallsDIn Fence.wide 0 P g #[v0,v1,v2] .returning w fun e u' w'=>(∃v,e=.returned v)∧u'=.returning∧w'=w
 WO:∀(ch:List PanicEntry) (C:Ctx) (v0 v1 v2:Value) (i j:Int) (t:Bool),v_ ch→Inv (.off W 3 []) C→C.H=ng (i64 i) (i64 j) (bl t)→C.gB=[]→dw C (.ref 0 0 0) v0→dw C (.ref 1 0 0) v1→dw C (.ref 2 0 0) v2→
  CallsDIn Fence.wide 0 P g #[v0,v1,v2] (.panicking ch) C.w fun e u' w'=>(∃v,e=.returned v)∧settle u'=.returning∧∃C',C'.w=w'∧Ext C C'∧Inv (.off W 3 []) C'∧C'.H=ng c0 c1 c2

theorem GB{o2:Oper}{g t6:Nat}{w:World}{a:Act}(UJ:o2.op=.defer {callee:=.value (.tmp t6),args:= #[],argTypes:= #[]}){caps:Array Value}(h6:a.tmps.getD t6 undef=.func (.func g) #[] caps):
  (execOp a.eval o2).run P w=.ok (.defer {target:=.fn (.func g) caps,args:= #[]}) w:=by
 have h6':a.eval (.tmp t6)=.func (.func g) #[] caps:=by simpa [Act.eval] using h6
 simp only[execOp,UJ,resolve,h6',Deferred.ofValue]
 simp[go_sem]

set_option maxHeartbeats 1000000 in
theorem DM{W:World}{f g t6:Nat}{fn:Func}{rest:Code}{i0 i1:Nat}{l0:List Oper}{o1 o2:Oper}{xs:List AV}{r z0 z1 z2 c0 c1 c2:AV}{frx:List (Nat×AV)}
  (hf:P.funcs[f]? =some fn)(hb:fn.body=some (.seq (.region i0 l0.toArray false) (.seq (.region i1 [o1,o2].toArray false) rest)))(hname:(fn.name== "runtime.NumGoroutine")=false)(hN:fn.ntmps=N)(hxN:xs.length≤N)
  (WE:o1.op=.makeFunc (.func g) #[] #[.tmp 2,.tmp 3,.tmp 4])(NX:o1.guard=none)(Tg:o1.dst=some t6)(Xh:t6<N)(ht6':lk frx t6=none)
  (UJ:o2.op=.defer {callee:=.value (.tmp t6),args:= #[],argTypes:= #[]})(Pc:o2.guard=none)(EY:o2.dst=none)
  (MI:l0.all (jr N)=true)(h0:AR P (.of W) l0.toArray l0 (di 0 xs) .empty (fun f K=>p6 f frx∧K=ng z0 z1 z2))
  (vT:lk frx 2=some (.ref 0 0 0))(LM:lk frx 3=some (.ref 1 0 0))(Xn:lk frx 4=some (.ref 2 0 0))
  (h1:∀ds,bp P (.off W 3 ds) N rest ⟨frx,ng z0 z1 z2⟩ (fun e s=>
   ((e=.normal∨e=.ret)∧∃b0 b1 b2,aq (.off W 3 ds) N s ⟨xE,ng b0 b1 b2⟩∧EE P fn.results.toList ⟨xE,ng b0 b1 b2⟩=some r)∨
   ((∃ch,e=.panic ch∧v_ ch)∧(∃i j t,aq (.off W 3 ds) N s ⟨xE,ng (i64 i) (i64 j) (bl t)⟩)∧EE P fn.results.toList ⟨xE,ng c0 c1 c2⟩=some r)))
  (hR:F2 P W g c0 c1 c2)(hn:bJ r):cB P W f xs r where
 call:=jg hf hname hb
 uv:=hn
 runs C vals hI hH hd hsz hrep:=by
  refine(callsIn_wide (n:=0)).1 (callsIn_of_wp_marks hf hb trivial ?_)
  have hrel:=yB (W0:=.of W) hI hH hd hN hxN hsz hrep rfl
  obtain⟨f0,K0,h0,W6,rfl⟩:=h0
  refine wpIn_seq (wpIn_region_lit (sW h0 (fun o ho=>List.all_eq_true.1 MI o ho) C _ _ hrel fun C1' a1 e1 k0=> ?_))
  have m1:Mem C C1':=e1.mem
  have hd1':C1'.gB=[]:=e1.gB.trans hd
  have k3:Rel (.of W) N (lk frx) (ng z0 z1 z2) C1' a1:=⟨k0.heap,k0.inv,k0.size,k0.defers,fun t x hx=>k0.rep t x (W6.lk t x hx)⟩
  -- what is put off
  have r2:=k3.rep 2 _ vT
  have r3:=k3.rep 3 _ LM
  have r4:=k3.rep 4 _ Xn
  have V1:C1'.lz=0:=k3.inv.lT
  have hHx:C1'.H=ng z0 z1 z2:=k3.heap
  generalize Xk:a1.tmps.getD 2 undef=v2 at r2
  generalize Xl:a1.tmps.getD 3 undef=v3 at r3
  generalize Xm:a1.tmps.getD 4 undef=v4 at r4
  have V9:(execOp a1.eval o1).run P C1'.w=.ok (.value (.func (.func g) #[] #[v2,v3,v4])) C1'.w:=by
   have e2:a1.tmps[2]?.getD undef=v2:=by simpa using Xk
   have e3:a1.tmps[3]?.getD undef=v3:=by simpa using Xl
   have e4:a1.tmps[4]?.getD undef=v4:=by simpa using Xm
   have hmf:∀(fn:Fn) (first cap:Array Value) (w:World),(Instr.makeFunc fn first cap).run P w=.ok (.func fn first cap) w:=fun _ _ _ _=>rfl
   simp only[execOp,WE]
   simp[go_sem,e2,e3,e4,hmf]
  generalize hdd:({target:=.fn (.func g) #[v2,v3,v4],args:= #[]}:Deferred)=d
  generalize P7:a1.put o1.dst (.func (.func g) #[] #[v2,v3,v4])=a2
  have d6:a2.tmps.getD t6 undef=.func (.func g) #[] #[v2,v3,v4]:=by
   rw[←P7,Tg]
   simp[Act.put,k3.size,Xh]
  have Nb:∀(tmps:Array Value) (C4:Ctx) (H4:aP),Rel (.off W 3 []) N (lk xE) H4 C4 {tmps:=tmps,defers:=[]}→C4.gB=[]→Mem {C1' with lz:=3} C4→EE P fn.results.toList ⟨xE,H4⟩=some r→H4.dg=[]→
    ∃v,(results fn tmps).run P C4.w=.ok v C4.w∧∃v' C',Ending.returned v=.returned v'∧C'.w=C4.w∧Ext C C'∧Inv (.of W) C'∧dw C' r v':=by
   intro tmps C4 H4 hq NU hm hres hl
   obtain⟨v,g7,g8⟩:=yT (st:=⟨xE,H4⟩) hq hres
   have g9:=CP hq.inv.on (by exact NU) (qm g8)
   obtain⟨C5,q1,q2,q3⟩:=(aq.re (W0:=.of W) (N:=1) (st:=⟨[(0,r)],C4.H⟩) (fr':=[(0,r)]) (H':=.empty) [] [] rfl rfl rfl trivial ⟨⟨r,rfl,.same r hn⟩,trivial⟩ rfl (by rw[hq.heap];exact hl.symm)) {C4 with lz:=0} _ g9
   have m2:Mem C C5:=(m1.trans (hm.SO V1)).trans q2
   refine⟨v,g7,v,C5,rfl,q1, ?_,q3.inv,q3.rep 0 r rfl⟩
   refine⟨m2.below,m2.keep,m2.own,by rw[hH];exact Nat.zero_le _,fun id es hi _=> ?_,m2.dr,(rK q3).trans hd.symm,m2.lz⟩
   rw[hH] at hi;exact absurd hi (Nat.not_lt_zero _)
  have RB:Rel (.off W 3 [d]) N (lk frx) (ng z0 z1 z2) {C1' with lz:=3} ({a2 with defers:=d::a2.defers}.put o2.dst undef):=by
   rw[EY]
   have wP:=k3.inv.off (W:=W) rfl 3 [d] (by rw[hHx];exact Nat.le_refl 3)
   refine⟨hHx,wP, ?_, ?_,fun t x hx=> ?_⟩
   ·rw[←P7,Tg];simp[Act.put,k3.size]
   ·have h5:a2.defers=[]:=by rw[←P7,Tg];simp[Act.put,k3.defers,hd1']
    show d::a2.defers=_
    rw[h5,hd1'];rfl
   ·have hne:t≠t6:=fun h=>by rw[h,ht6'] at hx;cases hx
    have e0:a2.tmps.getD t undef=a1.tmps.getD t undef:=by
     rw[←P7,Tg]
     simp only[Act.put,Array.getD_eq_getD_getElem?]
     rw[Array.getElem?_setIfInBounds_ne (Ne.symm hne)]
    show dw _ x (a2.tmps.getD t undef)
    rw[e0]
    exact qm (k3.rep t x hx)
  refine wpIn_seq (wpIn_region_lit (wpListIn_plain NX fun K hK=> ?_))
  refine nv (fun c hc=>by rw[WE] at hc;cases hc) ?_
  unfold Oper.wp
  rw[V9,Oper.upon_value,P7]
  refine hK _ _ (wpListIn_plain Pc fun K2 dz=>⟨fun _ _=>trivial, ?_⟩)
  have hs:o2.semAt Fence.wide.round a2.eval=execOp a2.eval o2:=rfl
  rw[hs,GB UJ d6,Oper.uponIn_defer,hdd]
  refine dz _ _ ?_
  have key:=h1 [d] _ _ RB
  refine wpIn_mono key fun e a3 w3 ⟨s,C2,q1,q2,q3,q4⟩=> ?_
  subst q1
  have X3:dw {C1' with lz:=3} (.ref 0 0 0) v2:=qm r2
  have X4:dw {C1' with lz:=3} (.ref 1 0 0) v3:=qm r3
  have X5:dw {C1' with lz:=3} (.ref 2 0 0) v4:=qm r4
  have hle:Ctx.lz {C1' with lz:=3}≤aP.next (Ctx.H {C1' with lz:=3}):=by rw[hHx];exact Nat.le_refl 3
  have inv:∀w,(invoke d.target d.args).run P w=.ok (.enter g #[v2,v3,v4]) w:=fun w=>by
   rw[←hdd]
   exact hR.call _ w
  rcases q4 with⟨hne,b0,b1,b2,hw,hres⟩|⟨⟨ch,rfl,hch⟩,⟨i,j,t,hw⟩,hres⟩
  ·obtain⟨C3,p1,p2,p3⟩:=hw C2 a3 q3
   have main:LeavesInM Fence.wide 0 P fn a3.tmps (fun e w'=>∃v C',e=.returned v∧C'.w=w'∧Ext C C'∧Inv (.of W) C'∧dw C' r v) a3.defers .returning C2.w:=by
    rw[←p1,p3.defers]
    refine drain (u:=.returning) (by simp) (W0:=.off W 3 [d]) (Q:=fun C4=>Rel (.off W 3 []) N (lk xE) (ng b0 b1 b2) C4 {tmps:=a3.tmps,defers:=[]}∧Mem {C1' with lz:=3} C4) (fun C4 hq NU=> ?_) C3.gB C3 rfl p3.inv p3.heap
     (fun C4 h1 h2 h3 h4 h5 h6=>⟨⟨h1.trans p3.heap,h4.dx,p3.size,by simp[h5],fun t x hx=>h6 x _ (p3.rep t x hx)⟩,(q2.trans p2).trans h3⟩)
    refine⟨by simp,.inr ⟨(fun h=>by cases h),.func g, #[v2,v3,v4],g, #[v2,v3,v4],by rw[←hdd],inv _,fun _ _=>trivial,(hR.idle v2 v3 v4 C4.w).mono ?_⟩⟩
    rintro e u' w' ⟨⟨v,rfl⟩,rfl,rfl⟩
    exact Nb a3.tmps C4 _ hq.1 NU hq.2 hres rfl
   rcases hne with rfl|rfl
   ·exact main
   ·exact main
  ·obtain⟨C3,p1,p2,p3⟩:=hw C2 a3 q3
   show LeavesInM Fence.wide 0 P fn a3.tmps _ a3.defers (.panicking ch) C2.w
   rw[←p1,p3.defers]
   refine drain (u:=.panicking ch) (by simp) (W0:=.off W 3 [d]) (Q:=fun C4=>Rel (.off W 3 []) N (lk xE) (ng (i64 i) (i64 j) (bl t)) C4 {tmps:=a3.tmps,defers:=[]}∧Mem {C1' with lz:=3} C4) (fun C4 hq NU=> ?_) C3.gB C3 rfl p3.inv p3.heap
     (fun C4 h1 h2 h3 h4 h5 h6=>⟨⟨h1.trans p3.heap,h4.dx,p3.size,by simp[h5],fun t x hx=>h6 x _ (p3.rep t x hx)⟩,(q2.trans p2).trans h3⟩)
   refine⟨by simp,.inr ⟨(fun h=>by cases h),.func g, #[v2,v3,v4],g, #[v2,v3,v4],by rw[←hdd],inv _,fun _ _=>trivial,
    (hR.WO ch C4 v2 v3 v4 i j t hch hq.1.inv hq.1.heap NU (X3.mem hq.2 hle (.ref 0 0 0 (show(0:Nat)<3 by decide))) (X4.mem hq.2 hle (.ref 1 0 0 (show(1:Nat)<3 by decide))) (X5.mem hq.2 hle (.ref 2 0 0 (show(2:Nat)<3 by decide)))).mono ?_⟩⟩
   rintro e u' w' ⟨⟨v,rfl⟩,hu,C5,rfl,hE,WZ,WY⟩
   show LeavesInM Fence.wide 0 P fn a3.tmps _ [] (settle u') C5.w
   rw[hu]
   exact Nb a3.tmps C5 _ ⟨WY,WZ,hq.1.size,by rw[hE.gB,NU];rfl,fun t x hx=>(hq.1.rep t x hx).ext hE⟩ (hE.gB.trans NU) (hq.2.trans hE.mem) hres rfl
end
end Go.Av
end

section
/- Numbers sorted by where they stand in a row: what the library's function does, in the words of the walks. -/
namespace Go.Av
open Go.Proofs Go.Shelf Go.Lib

theorem Nu(x y:Int):decide (compareInt x y<0)=decide (x<y):=by
 unfold compareInt
 by_cases h1:x<y
 ·simp[h1]
 ·by_cases h2:y<x <;> simp[h1,h2]
theorem FR{P:Program}{f g:FuncId}(call:iu P f)(no:∀(p:Option Addr) (cap:Nat) (fv:Value) (w:World),Calls P f #[.slice p 0 cap,fv] w fun e w'=>e=.returned (.tuple #[])∧w'=w)
  (is:∀(m:Nat) (v:Fin (m+1)→Value) (k:Fin (m+1)→Int) (cb:Array Value) (eB off cap:Nat) (d:Array (Fin (m+1))) (w:World),OneCell v→(∀args w,(callFunc g args).run P w=.ok (.enter g args) w)→CmpLays1 P g cb v (fun i j=>compareInt (k i) (k j)) eB off d.size w→Sort.Holds v w eB off d→eB<w.heap.size→d.size<4611686018427387904→
   Sort.SWO (ltOf fun i j=>compareInt (k i) (k j))→(∀x y,(ltOf fun i j=>compareInt (k i) (k j)) x y=false→(ltOf fun i j=>compareInt (k i) (k j)) y x=false→x=y)→
   Calls P f #[.slice (some ⟨eB,off,none⟩) d.size cap,.func (.func g) #[] cb] w fun e w'=>e=.returned (.tuple #[])∧∃n os,w'=sortWorld v w eB off n (d.toList.mergeSort fun x y=> !(ltOf fun i j=>compareInt (k i) (k j)) y x).toArray os)
  (eg:∀args w,(callFunc g args).run P w=.ok (.enter g args) w)
  (cl:∀(b1 o1 b2 o2 c2:Nat) (zs:List Int) (a b:Int) (W:World),zs.length≤9223372036854775807→W.cell? ⟨b1,o1,none⟩=some (.slice (some ⟨b2,o2,none⟩) zs.length c2)→(∀j,j<zs.length→W.cell? ⟨b2,o2+j,none⟩=some (.int .i64 (zs.getD j 0)))→Calls P g #[.int .i64 a,.int .i64 b,.pointer (some ⟨b1,o1,none⟩)] W fun e w'=>e=.returned (.int .i64 (compareInt (idxOf zs a) (idxOf zs b)))∧∃q os',w'=Sort.grow (W.drewN q) os'):xX P f g where
 call:=call
 no:=fun p cap cb w=>no p cap _ w
 is eB off cap m x os bx ox b2 o2 c2 w hk hne hbig K_ Pd Ga IN Pe GH hH hblk hsz:=by
  have hlt:∀i j,(ltOf fun i j=>compareInt (idxOf os (x i)) (idxOf os (x j))) i j=decide (idxOf os (x i)<idxOf os (x j)):=fun i j=>Nu _ _
  have hcell:∀(b o:Nat) (m':Nat) (os':Array Obj) (dk:Array (Fin (m+1))) (y:Value),b≠eB→b<w.heap.size→w.cell? ⟨b,o,none⟩=some y→(sortWorld (fun i=>Value.int .i64 (x i)) w eB off m' dk os').cell? ⟨b,o,none⟩=some y:=fun b o m' os' dk y hb hbs hx=>by
   rw[←hx]
   refine World.cell?_of_block (a:=⟨b,o,none⟩) ?_
   unfold sortWorld
   rw[Sort.heap_grow_old _ _ (by simpa [Sort.putRow,Sort.mapBlock,Sort.ahead] using hbs)]
   simp[Sort.putRow,Sort.mapBlock,Sort.ahead,Array.getElem?_modify,Ne.symm hb]
  have h:=is m (fun i=>Value.int .i64 (x i)) (fun i=>idxOf os (x i)) #[.pointer (some ⟨bx,ox,none⟩)] eB off cap (List.finRange (m+1)).toArray w (fun _=>rfl) eg (fun m' os' dk _ i j=>
   cl bx ox b2 o2 c2 os (x i) (x j) _ hbig (hcell _ _ _ _ _ _ K_ Pd Ga) (fun q hq=>hcell _ _ _ _ _ _ IN Pe (GH q hq))) hH hblk (by simpa using hsz)
   ⟨fun x=>by rw[hlt];simp,fun x y z a b=>by rw[hlt] at*;simp at*;omega,fun x y z a b=>by rw[hlt] at*;simp at*;omega⟩
   (fun x y a b=>by rw[hlt] at a b;simp at a b;exact hk x y (by omega))
  have hsize:(List.finRange (m+1)).toArray.size=m+1:=by simp
  rw[hsize] at h
  refine h.mono ?_
  rintro e w' ⟨rfl,n,os',rfl⟩
  refine⟨rfl,n,os',_,List.mergeSort_perm _ _, ?_,rfl⟩
  have hp:=List.pairwise_mergeSort (le:=fun a b=> !(ltOf fun i j=>compareInt (idxOf os (x i)) (idxOf os (x j))) b a) (fun a b c h1 h2=>by simp only[hlt] at*;simp at*;omega) (fun a b=>by simp only[hlt];simp;omega) (List.finRange (m+1))
  exact hp.imp fun{a b} hab=>by simp only[hlt] at hab;simpa using hab
end Go.Av
end

section
/- From the reading of a claim's arguments to what the proof sees of them; and from what a law's function does to what its row asks. -/
namespace Go.Av
open Go.RowKit (Below)

mutual
def oD{H:Type}:DataW H→AV
 |.lit (.bool b)=>.imm (.bool b)
 |.lit (.int k n)=>.imm (.int k n)
 |.lit (.string bs)=>.imm (.string ⟨bs.toArray⟩)
 |.nil=>.sl []
 |.slice es _=>.sl (F7 es)
 |.agg ps=>.agg (mK ps)
 |_=>.any
def F7{H:Type}:List (DataW H)→List AV
 |[]=>[]
 |d::r=>oD d::F7 r
def mK{H:Type}:List (DataW H)→List AV
 |[]=>[]
 |d::r=>(oD d).flat++mK r
end

theorem Bx{H:Type}(l:List (DataW H)):F7 l=l.map oD:=by
 induction l with
 |nil=>rfl
 |cons d r ih=>simp[F7,ih]

def mh(P:Program):Nat→TypeId→Bool
 |0,_=>false
 |n+1,t=>
  match P.underlying t with
  |some .bool|some (.int _)|some .string=>true
  |some (.slice e)=>P.cellsOf e !=0&&mh P n e
  |some (.struct fs)=>fs.toList.all (fun f=>mh P n f.type)&&(fs.toList.foldl (fun(acc:Option Nat) f=>acc.bind fun a=>if f.offset==a then some (a+P.cellsOf f.type) else none) (some 0))==some (P.cellsOf t)
  |some (.array m e)=>mh P n e&&m*P.cellsOf e==P.cellsOf t
  |_=>false

theorem flat_agg(cs:List AV):(AV.agg cs).flat=cs:=rfl

structure wS (C:Ctx) (cs:List Value) (x:AV):Prop where
 len:x.flat.length=cs.length
 one:∀c∈cs,c.oneCell'=true
 rep:∀(k:Nat) (y:AV),x.flat[k]? =some y→∃c,cs[k]? =some c∧dw C y c

theorem mapM_some{α β:Type}(f:α→Option β):∀(l:List α) (ys:List β),l.mapM f=some ys→ys.length=l.length∧∀(k:Nat) (x:α),l[k]? =some x→∃y,ys[k]? =some y∧f x=some y:=by
 intro l
 induction l with
 |nil=>intro ys h;simp only[List.mapM_nil,Option.pure_def,Option.some.injEq] at h;subst h;exact⟨rfl,fun k x hk=>by simp at hk⟩
 |cons y l ih=>
  intro ys h
  rw[List.mapM_cons] at h
  simp only[Option.bind_eq_bind,Option.bind_eq_some_iff,Option.pure_def,Option.some.injEq] at h
  obtain⟨z,hz,zs,hzs,rfl⟩:=h
  obtain⟨h1,h2⟩:=ih zs hzs
  refine⟨by simp[h1],fun k x hk=> ?_⟩
  cases k with
  |zero=>simp at hk;subst hk;exact⟨z,rfl,hz⟩
  |succ k=>simp at hk;simpa using h2 k x hk

theorem pK{C:Ctx}{c:Value}{x:AV}(h1:c.oneCell'=true)(hr:dw C x c):wS C [c] x:=by
 have hf:=tL hr h1
 refine⟨by rw[hf];rfl,fun c' hc=>by simp at hc;subst hc;exact h1,fun k y hk=> ?_⟩
 rw[hf] at hk
 cases k with
 |zero=>simp at hk;subst hk;exact⟨c,rfl,hr⟩
 |succ k=>simp at hk

section
variable {H:Type} {enc:TypeId×Value→H} {P:Program} {w:World} {spare:Nat→Bool} {held:Bool} {C:Ctx}

theorem AD{ι:Type}(ty:ι→TypeId)(off:ι→Nat)(fuel:Nat)(cs:List Value):
  ∀(l:List ι) (acc:Nat) (xs:List (DataW H×List MemPlace)),(∀x∈l,∀(seg:List Value) (y:DataW H×List MemPlace),DataW.trod enc P w 0 spare held fuel (ty x) seg=some y→seg.length=P.cellsOf (ty x)→wS C seg (oD y.1))→(∀(i:Nat) (x:ι),l[i]? =some x→off x=acc+((l.take i).map fun y=>P.cellsOf (ty y)).sum)→acc+(l.map fun y=>P.cellsOf (ty y)).sum=cs.length→
   l.mapM (fun x=>DataW.trod enc P w 0 spare held fuel (ty x) ((cs.drop (off x)).take (P.cellsOf (ty x))))=some xs→wS C (cs.drop acc) (.agg (mK (xs.map (·.1)))):=by
 intro l
 induction l with
 |nil=>
  intro acc xs _ _ hlen h
  simp only[List.mapM_nil,Option.pure_def,Option.some.injEq] at h;subst h
  have:cs.drop acc=[]:=List.drop_eq_nil_of_le (by simp at hlen;omega)
  rw[this]
  exact⟨rfl,fun c hc=>(by cases hc),fun k y hk=>(by simp[mK,AV.flat] at hk)⟩
 |cons x l ihl=>
  intro acc xs ih hoff hlen h
  rw[List.mapM_cons] at h
  simp only[Option.bind_eq_bind,Option.bind_eq_some_iff,Option.pure_def,Option.some.injEq] at h
  obtain⟨z,hz,zs,hzs,rfl⟩:=h
  have h0:off x=acc:=by have:=hoff 0 x rfl;simpa using this
  simp only[List.map_cons,List.sum_cons] at hlen
  rw[h0] at hz
  have hseg:((cs.drop acc).take (P.cellsOf (ty x))).length=P.cellsOf (ty x):=by simp;omega
  have r1:=ih x (List.mem_cons_self ..) _ z hz hseg
  have r2:=ihl (acc+P.cellsOf (ty x)) zs (fun y hy=>ih y (List.mem_cons_of_mem _ hy)) (fun i y hy=>by
   have:=hoff (i+1) y (by simpa using hy)
   rw[this];simp only[List.take_succ_cons,List.map_cons,List.sum_cons];omega) (by omega) hzs
  have hsplit:cs.drop acc=(cs.drop acc).take (P.cellsOf (ty x))++cs.drop (acc+P.cellsOf (ty x)):=by
   rw[←List.drop_drop];exact(List.take_append_drop _ _).symm
  rw[hsplit]
  have l1:=r1.len
  have l2:=r2.len
  simp only[flat_agg] at l2
  refine⟨by simp only[flat_agg,List.map_cons,mK,List.length_append,l1,l2],fun c hc=> ?_,fun k y hk=> ?_⟩
  ·rcases List.mem_append.1 hc with h|h
   ·exact r1.one c h
   ·exact r2.one c h
  ·simp only[flat_agg,List.map_cons,mK] at hk
   by_cases hlt:k<(oD z.1).flat.length
   ·rw[List.getElem?_append_left hlt] at hk
    obtain⟨c,g1,g2⟩:=r1.rep k y hk
    exact⟨c,by rw[List.getElem?_append_left (by omega)];exact g1,g2⟩
   ·rw[List.getElem?_append_right (by omega)] at hk
    obtain⟨c,g1,g2⟩:=r2.rep _ y hk
    exact⟨c,by rw[List.getElem?_append_right (by omega),←l1];exact g1,g2⟩

theorem Cn(P:Program):∀(fs:List Field) (a tot:Nat),fs.foldl (fun(acc:Option Nat) f=>acc.bind fun a=>if f.offset==a then some (a+P.cellsOf f.type) else none) (some a)=some tot→
  (∀(i:Nat) (x:Field),fs[i]? =some x→x.offset=a+((fs.take i).map fun y=>P.cellsOf y.type).sum)∧a+(fs.map fun y=>P.cellsOf y.type).sum=tot:=by
 intro fs
 induction fs with
 |nil=>intro a tot h;simp only[List.foldl_nil,Option.some.injEq] at h;subst h;exact⟨fun i x h=>by simp at h,by simp⟩
 |cons f fs ih=>
  intro a tot h
  simp only[List.foldl_cons,Option.bind_some] at h
  by_cases hf:f.offset==a
  ·rw[if_pos hf] at h
   obtain⟨h1,h2⟩:=ih _ _ h
   have hf':f.offset=a:=by simpa using hf
   refine⟨fun i x hx=> ?_,by simp only[List.map_cons,List.sum_cons];omega⟩
   cases i with
   |zero=>simp at hx;subst hx;simpa using hf'
   |succ i=>
    simp only[List.getElem?_cons_succ] at hx
    rw[h1 i x hx]
    simp only[List.take_succ_cons,List.map_cons,List.sum_cons];omega
  ·rw[if_neg hf] at h
   have:∀(l:List Field),l.foldl (fun(acc:Option Nat) f=>acc.bind fun a=>if f.offset==a then some (a+P.cellsOf f.type) else none) none=none:=by
    intro l;induction l with
    |nil=>rfl
    |cons _ _ ih=>simpa using ih
   rw[this] at h;cases h

theorem ri{fuel:Nat}{t e:TypeId}{cs:List Value}{d:DataW H}{ps:List MemPlace}(hu:P.underlying t=some (.slice e))(h:DataW.trod enc P w 0 spare held (fuel+1) t cs=some (d,ps)):
  (cs=[.slice none 0 0]∧d=.nil)∨∃a len cap elems rest,cs=[.slice (some a) len cap]∧d=.slice (elems.map (·.1)) rest∧len≤cap∧cap≤maxLen∧
   (List.range len).mapM (fun i=>(w.cells? 0 (a.add (i*P.cellsOf e)) (P.cellsOf e)).bind (DataW.trod enc P w 0 spare held fuel e))=some elems:=by
 rcases cs with _|⟨c,_|⟨c',cs⟩⟩
 ·simp[DataW.trod,hu] at h
 ·cases c <;> try (simp[DataW.trod,hu] at h;done)
  rename_i a len cap
  cases a with
  |none=>
   cases len <;> cases cap <;> simp[DataW.trod,hu] at h
   exact .inl ⟨rfl,h.1.symm⟩
  |some a=>
   simp only[DataW.trod,hu] at h
   split at h
   ·rename_i hc
    simp only[Option.bind_eq_some_iff,Option.map_eq_some_iff,Prod.mk.injEq] at h
    obtain⟨elems,h1,rest,h2,rfl,_⟩:=h
    exact .inr ⟨a,len,cap,elems,_,rfl,rfl,hc.2.1,hc.2.2,h1⟩
   ·cases h
 ·simp[DataW.trod,hu] at h

theorem vZ{fuel:Nat}{t:TypeId}{cs:List Value}{d:DataW H}{ps:List MemPlace}(hu:P.underlying t=some .bool)(h:DataW.trod enc P w 0 spare held (fuel+1) t cs=some (d,ps)):∃b,cs=[.bool b]∧d=.lit (.bool b):=by
 rcases cs with _|⟨c,_|⟨c',cs⟩⟩
 ·simp[DataW.trod,hu] at h
 ·cases c <;> try (simp[DataW.trod,hu] at h;done)
  rename_i b
  simp only[DataW.trod,hu,Option.some.injEq,Prod.mk.injEq] at h
  exact⟨b,rfl,h.1.symm⟩
 ·simp[DataW.trod,hu] at h

theorem tS{fuel:Nat}{t:TypeId}{k:IntKind}{cs:List Value}{d:DataW H}{ps:List MemPlace}(hu:P.underlying t=some (.int k))(h:DataW.trod enc P w 0 spare held (fuel+1) t cs=some (d,ps)):∃n,cs=[.int k n]∧d=.lit (.int k n)∧(Lit.int k n).wf=true:=by
 rcases cs with _|⟨c,_|⟨c',cs⟩⟩
 ·simp[DataW.trod,hu] at h
 ·cases c <;> try (simp[DataW.trod,hu] at h;done)
  rename_i k' n
  simp only[DataW.trod,hu] at h
  split at h
  ·rename_i hk
   obtain⟨rfl,hwf⟩:=hk
   simp only[Option.some.injEq,Prod.mk.injEq] at h
   exact⟨n,rfl,h.1.symm,hwf⟩
  ·cases h
 ·simp[DataW.trod,hu] at h

theorem uf{fuel:Nat}{t:TypeId}{cs:List Value}{d:DataW H}{ps:List MemPlace}(hu:P.underlying t=some .string)(h:DataW.trod enc P w 0 spare held (fuel+1) t cs=some (d,ps)):∃s,cs=[.string s]∧d=.lit (.string s.data.toList):=by
 rcases cs with _|⟨c,_|⟨c',cs⟩⟩
 ·simp[DataW.trod,hu] at h
 ·cases c <;> try (simp[DataW.trod,hu] at h;done)
  rename_i s
  simp only[DataW.trod,hu] at h
  split at h
  ·simp only[Option.some.injEq,Prod.mk.injEq] at h
   exact⟨s,rfl,h.1.symm⟩
  ·cases h
 ·simp[DataW.trod,hu] at h

theorem p5{fuel:Nat}{t:TypeId}{fs:Array Field}{cs:List Value}{d:DataW H}{ps:List MemPlace}(hu:P.underlying t=some (.struct fs))(h:DataW.trod enc P w 0 spare held (fuel+1) t cs=some (d,ps)):
  ∃xs,cs.length=P.cellsOf t∧d=.agg (xs.map (·.1))∧fs.toList.mapM (fun f=>DataW.trod enc P w 0 spare held fuel f.type ((cs.drop f.offset).take (P.cellsOf f.type)))=some xs:=by
 have key:(if cs.length=P.cellsOf t then(fs.toList.mapM fun f=>DataW.trod enc P w 0 spare held fuel f.type ((cs.drop f.offset).take (P.cellsOf f.type))).map fun xs=>((.agg (xs.map (·.1)):DataW H),xs.flatMap (·.2)) else none)=some (d,ps):=by
  rcases cs with _|⟨c,_|⟨c',cs⟩⟩
  ·simpa only[DataW.trod,hu] using h
  ·cases c <;> simpa only[DataW.trod,hu] using h
  ·simpa only[DataW.trod,hu] using h
 split at key
 ·rename_i hl
  obtain⟨xs,h1,h2⟩:=Option.map_eq_some_iff.1 key
  simp only[Prod.mk.injEq] at h2
  exact⟨xs,hl,h2.1.symm,h1⟩
 ·cases key

theorem vm{fuel:Nat}{t e:TypeId}{m:Nat}{cs:List Value}{d:DataW H}{ps:List MemPlace}(hu:P.underlying t=some (.array m e))(h:DataW.trod enc P w 0 spare held (fuel+1) t cs=some (d,ps)):
  ∃xs,cs.length=P.cellsOf t∧d=.agg (xs.map (·.1))∧(List.range m).mapM (fun i=>DataW.trod enc P w 0 spare held fuel e ((cs.drop (i*P.cellsOf e)).take (P.cellsOf e)))=some xs:=by
 have key:(if cs.length=P.cellsOf t then((List.range m).mapM fun i=>DataW.trod enc P w 0 spare held fuel e ((cs.drop (i*P.cellsOf e)).take (P.cellsOf e))).map fun xs=>((.agg (xs.map (·.1)):DataW H),xs.flatMap (·.2)) else none)=some (d,ps):=by
  rcases cs with _|⟨c,_|⟨c',cs⟩⟩
  ·simpa only[DataW.trod,hu] using h
  ·cases c <;> simpa only[DataW.trod,hu] using h
  ·simpa only[DataW.trod,hu] using h
 split at key
 ·rename_i hl
  obtain⟨xs,h1,h2⟩:=Option.map_eq_some_iff.1 key
  simp only[Prod.mk.injEq] at h2
  exact⟨xs,hl,h2.1.symm,h1⟩
 ·cases key

theorem wh{a:Addr}{n:Nat}{seg:List Value}(h:w.cells? 0 a n=some seg):seg.length=n∧∀(j:Nat) (c:Value),seg[j]? =some c→w.cell? (a.add j)=some c:=by
 unfold World.cells? at h
 rw[if_pos (Nat.zero_le _)] at h
 obtain⟨h1,h2⟩:=mapM_some _ _ _ h
 refine⟨by simpa using h1,fun j c hc=> ?_⟩
 have hj:j<n:=by have:=(List.getElem?_eq_some_iff.1 hc).1;rw[h1] at this;simpa using this
 obtain⟨y,g1,g2⟩:=h2 j j (by simp[hj])
 rw[g1] at hc;cases hc;exact g2

theorem Bg(hw:C.w=w)(hbad:∀b,¬C.bad b):∀(fuel n:Nat) (t:TypeId) (cs:List Value) (d:DataW H) (ps:List MemPlace),mh P n t=true→
  DataW.trod enc P w 0 spare held fuel t cs=some (d,ps)→wS C cs (oD d):=by
 intro fuel
 induction fuel with
 |zero=>intro n t cs d ps _ h;simp[DataW.trod] at h
 |succ fuel ih=>
  intro n t cs d ps hp h
  cases n with
  |zero=>simp[mh] at hp
  |succ n=>
  unfold mh at hp
  split at hp
  ·rename_i hu
   obtain⟨b,rfl,rfl⟩:=vZ hu h
   exact pK rfl (.imm _ rfl)
  ·rename_i k hu
   obtain⟨q,rfl,rfl,_⟩:=tS hu h
   exact pK rfl (.imm _ rfl)
  ·rename_i hu
   obtain⟨q,rfl,rfl⟩:=uf hu h
   refine pK (c:=.string q) rfl ?_
   have:(⟨q.data.toList.toArray⟩:ByteArray)=q:=by cases q;simp
   simp only[oD,this]
   exact .imm _ rfl
  · -- slice
   rename_i e hu
   simp only[Bool.and_eq_true,bne_iff_ne,ne_eq] at hp
   obtain⟨Va,hpe⟩:=hp
   rcases ri hu h with⟨rfl,rfl⟩|⟨a,len,cap,elems,rest,rfl,rfl,hlc,_,hm⟩
   ·exact pK rfl (.slNil _ _)
   ·obtain⟨l1,l2⟩:=mapM_some _ _ _ hm
    simp only[List.length_range] at l1
    refine pK rfl ?_
    simp only[oD,Bx,List.map_map]
    subst l1
    by_cases h0:elems=[]
    ·subst h0;exact .slNil _ _
    ·have hpos:0<elems.length:=List.length_pos_iff.2 h0
     obtain⟨b,off,sp⟩:=a
     -- each element's cells
     have hel:∀i,i<elems.length→∃seg z,elems[i]? =some z∧w.cells? 0 ((⟨b,off,sp⟩:Addr).add (i*P.cellsOf e)) (P.cellsOf e)=some seg∧wS C seg (oD z.1):=fun i hi=>by
      obtain⟨z,g1,g2⟩:=l2 i i (by simp[hi])
      obtain⟨seg,g3,g4⟩:=Option.bind_eq_some_iff.1 g2
      exact⟨seg,z,g1,g3,ih n e seg z.1 z.2 hpe g4⟩
     have hsp:sp=none:=by
      obtain⟨seg,z,_,g2,_⟩:=hel 0 hpos
      obtain⟨q1,q2⟩:=wh g2
      have hs:0<seg.length:=by omega
      have:=q2 0 _ (List.getElem?_eq_getElem hs)
      rw[Nat.zero_mul] at this
      cases sp with
      |none=>rfl
      |some x=>simp[Addr.add,World.cell?] at this;split at this <;> simp at this
     subst hsp
     have cell:∀(i j:Nat) (q x:AV),(elems.map (oD∘(·.1)))[i]? =some q→q.flat[j]? =some x→∃v,Holds C.w b (off+i*P.cellsOf e+j) v∧dw C x v:=fun i j q x hq hx=>by
      have hi:i<elems.length:=by have:=(List.getElem?_eq_some_iff.1 hq).1;simpa using this
      obtain⟨seg,z,g1,g2,g3⟩:=hel i hi
      simp only[List.getElem?_map,g1,Option.map_some,Function.comp,Option.some.injEq] at hq
      subst hq
      obtain⟨c,g4,g5⟩:=g3.rep j x hx
      have:=(wh g2).2 j c g4
      rw[nS,nS] at this
      exact⟨c,⟨by rw[hw];exact this,g3.one c (List.mem_of_getElem? g4)⟩,g5⟩
     have hfl:∀(i:Nat) (q:AV),(elems.map (oD∘(·.1)))[i]? =some q→q.flat.length=P.cellsOf e:=fun i q hq=>by
      have hi:i<elems.length:=by have:=(List.getElem?_eq_some_iff.1 hq).1;simpa using this
      obtain⟨seg,z,g1,g2,g3⟩:=hel i hi
      simp only[List.getElem?_map,g1,Option.map_some,Function.comp,Option.some.injEq] at hq
      subst hq
      rw[g3.len];exact(wh g2).1
     have hb:b<C.w.heap.size:=by
      obtain⟨seg,z,g1,g2,g3⟩:=hel 0 hpos
      have hs:0<(oD z.1).flat.length:=by
       rw[hfl 0 _ (by simp[g1])];omega
      obtain⟨v,g4,_⟩:=cell 0 0 _ _ (by simp[g1]) (List.getElem?_eq_getElem hs)
      have:=g4.1
      unfold World.cell? at this
      split at this
      ·rename_i h9;exact(Array.getElem?_eq_some_iff.1 h9).1
      ·cases this
     have hlen:(elems.map (oD∘(·.1))).length=elems.length:=by simp
     have:=dw.sl (C:=C) (elems.map (oD∘(·.1))) b off (P.cellsOf e) cap (fun i j=>(C.w.cell? ⟨b,off+i*P.cellsOf e+j,none⟩).getD undef) hb (hbad b) (by rw[hlen];exact hlc) hfl
      (fun i j q x hq hx=>by
       obtain⟨v,g1,g2⟩:=cell i j q x hq hx
       rw[g1.1];exact g1)
      (fun i j q x hq hx=>by
       obtain⟨v,g1,g2⟩:=cell i j q x hq hx
       rw[g1.1];exact g2)
     rw[hlen] at this
     exact this
  · -- struct
   rename_i fs hu
   rw[Bool.and_eq_true,List.all_eq_true] at hp
   obtain⟨hpf,hct⟩:=hp
   rw[beq_iff_eq] at hct
   obtain⟨xs,hl,rfl,hm⟩:=p5 hu h
   obtain⟨c1,c2⟩:=Cn P fs.toList 0 _ hct
   have:=AD (C:=C) (P:=P) (w:=w) (enc:=enc) (spare:=spare) (held:=held) (fun f:Field=>f.type) (fun f=>f.offset) fuel cs
    fs.toList 0 xs (fun x hx seg y hy _=>ih n x.type seg y.1 y.2 (hpf x hx) hy) c1 (by rw[hl];exact c2) hm
   simpa [oD] using this
  · -- array
   rename_i m e hu
   simp only[Bool.and_eq_true,beq_iff_eq] at hp
   obtain⟨hpe,hct⟩:=hp
   obtain⟨xs,hl,rfl,hm⟩:=vm hu h
   have hsum:∀(l:List Nat),(l.map fun _=>P.cellsOf e).sum=l.length*P.cellsOf e:=by
    intro l;induction l with
    |nil=>simp
    |cons _ l ih=>simp[ih,Nat.add_mul,Nat.add_comm]
   have:=AD (C:=C) (P:=P) (w:=w) (enc:=enc) (spare:=spare) (held:=held) (fun _:Nat=>e) (fun i=>i*P.cellsOf e) fuel cs
    (List.range m) 0 xs (fun x _ seg y hy _=>ih n e seg y.1 y.2 hpe hy)
    (fun i x hx=>by
     have hi:i<m:=by have:=(List.getElem?_eq_some_iff.1 hx).1;simpa using this
     have hx':x=i:=by simp[hi] at hx;exact hx.symm
     subst hx'
     rw[hsum];simp;rw[Nat.min_eq_left (by omega)]) (by rw[hsum,hl];simpa using hct) hm
   simpa [oD] using this
  ·cases hp
end
end Go.Av
end

section
/- From what a law's function does to what its row asks. -/
namespace Go.Av
open Go.RowKit (Below)

section
variable {H:Type} {enc:TypeId×Value→H} {P:Program}

theorem vY(hl:laidOutB P=true){W W':World}(hb:Below W.heap.size W W'):∀{ts:List TypeId} {vs:List Value} {ds:List (DataW H)} {ps:List MemPlace},(∀t∈ts,P.readableRec t=true∧t<P.types.size)→
  DataW.TrodAll enc P W 0 (fun _=>true) true ts vs ds ps→(∀x∈ps,x.block<W.heap.size)→DataW.TrodAll enc P W' 0 (fun b=>decide (b<W.heap.size)) true ts vs ds ps
 |[],[],[],ps,_,h,_=>h
 |t::ts,v::vs,d::ds,ps,hr,h,hlt=>by
  obtain⟨p,q,h1,h2,rfl⟩:=h
  obtain⟨r1,r2⟩:=hr t (List.mem_cons_self ..)
  exact⟨p,q,RowKit.Below.trod hl r1 r2 h1 hb (fun x hx=>hlt x (List.mem_append_left _ hx)),vY hl hb (fun t ht=>hr t (List.mem_cons_of_mem _ ht)) h2 (fun x hx=>hlt x (List.mem_append_right _ hx)),rfl⟩

theorem J4{fn:Func}{s:ChangeSpec}{W W':World}{args:Array Value}{ds gs:List (DataW H)}{before:List MemPlace}{tb:TypeId}(hW:DataW.Whole enc P fn.params.toList s.vars false W args.toList ds gs before)
  (hv:s.vars=[])(hfn:s.fn H (ds++gs)=⟨[.lit (.bool true)],ds,[]⟩)(hres:fn.resultTypes= #[tb])(hb:P.underlying tb=some .bool)(hl:laidOutB P=true)(hr:∀t∈fn.params.toList,P.readableRec t=true∧t<P.types.size)
  (hbel:Below W.heap.size W W'):s.post enc P fn false true false false W args (.bool true) W':=by
 have hlt:=fun p hp=>hW.lt p hp
 have hW':=hW
 obtain⟨p,q,h1,h2,rfl,h3,h4⟩:=hW
 refine⟨ds,gs,p++q,[],p,[],hW', ?_, ?_, ?_,hbel.frame _,fun h=>by cases h⟩
 ·rw[hfn,hres]
  show DataW.TrodAll enc P W' _ _ _ [tb] [.bool true] [.lit (.bool true)] []
  exact⟨[],[],RowKit.shut_bool hb true,rfl,rfl⟩
 ·rw[hfn]
  exact vY hl hbel hr h1 (fun x hx=>hlt x (List.mem_append_left _ hx))
 ·rw[hfn,hv];rfl

def Ctx.start(W:World):Ctx:={w:=W,H:=.empty,pl:=fun _=>⟨0,0,0,0,false⟩,dr:=fun _=>False,gB:=[],lz:=0}

theorem vB(W:World)(b:Nat):¬(Ctx.start W).own b:=Ao rfl rfl b

theorem Ho(W:World):Inv (.of W) (Ctx.start W) where
 fresh id es h:=by simp[Ctx.start,aP.empty,aP.get,lk] at h
 nil id es h:=by simp[Ctx.start,aP.empty,aP.get,lk] at h
 obj id es h:=by simp[Ctx.start,aP.empty,aP.get,lk] at h
 sep i1 i2 e1 e2 h:=by simp[Ctx.start,aP.empty,aP.get,lk] at h
 dr id es h:=by simp[Ctx.start,aP.empty,aP.get,lk] at h
 kY id s h:=by simp[Ctx.start,aP.empty,aP.sz,lk] at h
 ew _ h:=h.elim
 eP _ h:=h.elim
 size:=Nat.le_refl _
 gQ b _:=⟨rfl,vB W b⟩
 dg l r h:=by simp[Ctx.start,aP.empty,lk] at h
 gB d h:=by simp[Ctx.start] at h
 vt:=.nil
 vL:=fun _ _=>rfl
 e7 b h:=absurd (.inr h) (vB W b)
 lT:=rfl
 fK:=Nat.zero_le _
 gh:=trivial

theorem Hl(W:World)(b:Nat):¬(Ctx.start W).bad b:=by
 rintro(h|h)
 ·exact vB W b h
 ·exact h

theorem Be{W:World}{base:Nat}{t:TypeId}{v:Value}{n:Nat}(hp:mh P n t=true)(h:Value.okWide P W .any base t v):v.oneCell'=true∨∃cs,v=.agg cs∧((∃fs,P.underlying t=some (.struct fs))∨∃m e,P.underlying t=some (.array m e)):=by
 cases n with
 |zero=>simp[mh] at hp
 |succ n=>
  unfold mh at hp
  split at hp <;> rename_i hu
  ·left;cases v <;> first|rfl|(simp[Value.okWide,Cell.okWide,Cell.ok,hu] at h)
  ·left;cases v <;> first|rfl|(simp[Value.okWide,Cell.okWide,Cell.ok,hu] at h)
  ·left;cases v <;> first|rfl|(simp[Value.okWide,Cell.okWide,Cell.ok,hu] at h)
  ·left;cases v <;> first|rfl|(simp[Value.okWide,Cell.okWide,Cell.ok,hu] at h)
  ·right
   simp only[Value.okWide,hu] at h
   obtain⟨cs,rfl,_⟩:=h
   exact⟨cs,rfl,.inl ⟨_,hu⟩⟩
  ·right
   simp only[Value.okWide,hu] at h
   obtain⟨cs,rfl,_⟩:=h
   exact⟨cs,rfl,.inr ⟨_,_,hu⟩⟩
  ·cases hp

theorem Lj{W:World}{base:Nat}{t:TypeId}{v:Value}{d:DataW H}{ps:List MemPlace}(n:Nat)(hp:mh P n t=true)(h:DataW.Trod enc P W 0 (fun _=>true) true t v d ps)(hform:Value.okWide P W .any base t v):dw (Ctx.start W) (oD d) v:=by
 obtain⟨fuel,hf⟩:=h
 have hr:=Bg (C:=Ctx.start W) rfl (Hl W) fuel n t v.cells.toList d ps hp hf
 rcases Be hp hform with h1|⟨cs,rfl,hu⟩
 ·rw[cells_one h1] at hr hf
  obtain⟨c,g1,g2⟩:=hr.rep 0 ((oD d).flat.getD 0 .any) (by
   have:=hr.len
   simp only[List.length_cons,List.length_nil] at this
   rw[List.getD_eq_getElem?_getD]
   cases hq:(oD d).flat with
   |nil=>rw[hq] at this;simp at this
   |cons _ _=>rfl)
  simp only[List.getElem?_cons_zero,Option.some.injEq] at g1
  subst g1
  -- the datum is no aggregate
  have hd:(oD d).flat=[oD d]:=by
   cases fuel with
   |zero=>simp[DataW.trod] at hf
   |succ fuel=>
    cases n with
    |zero=>simp[mh] at hp
    |succ n=>
     unfold mh at hp
     split at hp
     ·rename_i hu;obtain⟨b,_,rfl⟩:=vZ hu hf;rfl
     ·rename_i k hu;obtain⟨q,_,rfl,_⟩:=tS hu hf;rfl
     ·rename_i hu;obtain⟨q,_,rfl⟩:=uf hu hf;rfl
     ·rename_i e hu
      rcases ri hu hf with⟨_,rfl⟩|⟨_,_,_,_,_,_,rfl,_⟩ <;> rfl
     ·rename_i fs hu
      simp only[Value.okWide,hu] at hform
      obtain⟨cs,rfl,_⟩:=hform
      simp[Value.oneCell'] at h1
     ·rename_i m e hu
      simp only[Value.okWide,hu] at hform
      obtain⟨cs,rfl,_⟩:=hform
      simp[Value.oneCell'] at h1
     ·cases hp
  rw[hd] at g2
  exact g2
 ·have hagg:∃l,oD d=.agg l:=by
   cases fuel with
   |zero=>simp[DataW.trod] at hf
   |succ fuel=>
    rcases hu with⟨fs,hu⟩|⟨m,e,hu⟩
    ·obtain⟨xs,_,rfl,_⟩:=p5 hu hf;exact⟨_,rfl⟩
    ·obtain⟨xs,_,rfl,_⟩:=vm hu hf;exact⟨_,rfl⟩
  obtain⟨l,hl⟩:=hagg
  rw[hl] at hr ⊢
  have hlen:=hr.len
  simp only[flat_agg,Value.cells,Array.length_toList] at hlen
  refine .agg l cs hlen.symm (fun k u hk=>hr.one u (by simp[Value.cells];exact Array.mem_of_getElem? hk)) (fun k x hx=> ?_)
  obtain⟨c,g1,g2⟩:=hr.rep k x hx
  have g1':cs[k]? =some c:=by simpa [Value.cells] using g1
  have hlt:=(Array.getElem?_eq_some_iff.1 g1').1
  have:cs.getD k undef=c:=by have:=jB hlt;rw[g1'] at this;exact(Option.some.inj this).symm
  rw[this];exact g2


def Nj(P:Program)(t:TypeId){α:Type}(f:α→AV)(ok:α→Prop):Prop:=
 ∀{H:Type} (enc:TypeId×Value→H) (w:World) (spare:Nat→Bool) (held:Bool) (fuel:Nat) (cs:List Value) (d:DataW H) (ps:List MemPlace),DataW.trod enc P w 0 spare held fuel t cs=some (d,ps)→∃x,ok x∧oD d=f x

theorem w8{t:TypeId}(hu:P.underlying t=some (.int .i64)):Nj P t i64 (fun n=> -9223372036854775808≤n∧n≤9223372036854775807):=by
 intro H enc w spare held fuel cs d ps h
 cases fuel with
 |zero=>simp[DataW.trod] at h
 |succ fuel=>
  obtain⟨n,_,rfl,hwf⟩:=tS hu h
  simp[Lit.wf,IntKind.min,IntKind.max,IntKind.signed,IntKind.bits] at hwf
  exact⟨n,by omega,rfl⟩

theorem vq{t e:TypeId}{α:Type}{f:α→AV}{ok:α→Prop}(hu:P.underlying t=some (.slice e))(he:Nj P e f ok):Nj P t (fun l:List α=>AV.sl (l.map f)) (fun l=>(∀x∈l,ok x)∧l.length≤9223372036854775807):=by
 intro H enc w spare held fuel cs d ps h
 cases fuel with
 |zero=>simp[DataW.trod] at h
 |succ fuel=>
  rcases ri hu h with⟨_,rfl⟩|⟨a,len,cap,elems,rest,_,rfl,hlc,hmx,hm⟩
  ·exact⟨[],by simp,rfl⟩
  ·obtain⟨l1,l2⟩:=mapM_some _ _ _ hm
   have key:∀(es:List (DataW H×List MemPlace)),(∀z∈es,∃x,ok x∧oD z.1=f x)→∃l:List α,(∀x∈l,ok x)∧l.length=es.length∧(es.map (·.1)).map oD=l.map f:=by
    intro es
    induction es with
    |nil=>intro _;exact⟨[],by simp,rfl,rfl⟩
    |cons z es ih=>
     intro hz
     obtain⟨x,g1,g2⟩:=hz z (List.mem_cons_self ..)
     obtain⟨l,g3,g4,g5⟩:=ih (fun y hy=>hz y (List.mem_cons_of_mem _ hy))
     refine⟨x::l, ?_,by simp[g4],by simp only[List.map_cons,g2,g5]⟩
     intro y hy
     rcases List.mem_cons.1 hy with rfl|hy
     ·exact g1
     ·exact g3 y hy
   obtain⟨l,g1,g2,g3⟩:=key elems (fun z hz=>by
    obtain⟨k,hk⟩:=List.getElem?_of_mem hz
    have hlt:=(List.getElem?_eq_some_iff.1 hk).1
    rw[l1] at hlt
    have hlt':k<len:=by simpa using hlt
    obtain⟨y,q1,q2⟩:=l2 k k (by simp[hlt'])
    rw[hk] at q1;cases q1
    obtain⟨seg,_,q4⟩:=Option.bind_eq_some_iff.1 q2
    exact he enc w spare held fuel seg z.1 z.2 q4)
   refine⟨l,⟨g1, ?_⟩, ?_⟩
   ·rw[g2,l1]
    have:cap≤9223372036854775807:=hmx
    simp;omega
   ·simp only[oD,Bx,g3]

theorem Cg{t:TypeId}{fs:Array Field}(hu:P.underlying t=some (.struct fs)){H:Type}{enc:TypeId×Value→H}{w:World}{spare:Nat→Bool}{held:Bool}{fuel:Nat}{cs:List Value}{d:DataW H}{ps:List MemPlace}(h:DataW.trod enc P w 0 spare held fuel t cs=some (d,ps)):
  ∃fuel' xs,oD d=.agg (mK (xs.map (·.1)))∧fs.toList.mapM (fun f=>DataW.trod enc P w 0 spare held fuel' f.type ((cs.drop f.offset).take (P.cellsOf f.type)))=some xs:=by
 cases fuel with
 |zero=>simp[DataW.trod] at h
 |succ fuel=>
  obtain⟨xs,_,rfl,hm⟩:=p5 hu h
  exact⟨fuel,xs,rfl,hm⟩

theorem GP{f:FuncId}{fn:Func}{s:ChangeSpec}{W:World}{args:Array Value}{ds gs:List (DataW H)}{before:List MemPlace}{tb:TypeId}{xs:List AV}(hf:cB P W f xs (bl true))(hsz:args.size=xs.length)
  (hrep:∀(k:Nat) (x:AV),xs[k]? =some x→dw (Ctx.start W) x (args.getD k undef))(hW:DataW.Whole enc P fn.params.toList s.vars false W args.toList ds gs before)
  (hv:s.vars=[])(hfn:s.fn H (ds++gs)=⟨[.lit (.bool true)],ds,[]⟩)(hres:fn.resultTypes= #[tb])(hb:P.underlying tb=some .bool)(hl:laidOutB P=true)(hr:∀t∈fn.params.toList,P.readableRec t=true∧t<P.types.size):
  Calls P f args W fun e W'=>∃v,e=.returned v∧s.post enc P fn false true false false W args v W':=by
 refine(hf.runs (Ctx.start W) args (Ho W) rfl rfl hsz hrep).mono ?_
 rintro e W' ⟨v,C',rfl,rfl,hE,_,hv'⟩
 obtain rfl:=dR (v:=.bool true) rfl hv'
 exact⟨_,rfl,J4 hW hv hfn hres hb hl hr (s9 hE (vB W))⟩

end
end Go.Av
end

section
/- From a row's argument to what a proof sees of it. -/
namespace Go.Av
open Go.ChangeShapes Go.WideShapes Go.ChangeAt Go.RowKit
variable {P:Program} {H:Type} {enc:TypeId×Value→H}

theorem F6{W:World}{base:Nat}{t:TypeId}{v:Value}{d:DataW H}{ps:List MemPlace}{α:Type}{f:α→AV}{ok:α→Prop}(n:Nat)(hp:mh P n t=true)(hd:Nj P t f ok)(h:DataW.Trod enc P W 0 (fun _=>true) true t v d ps)(hform:Value.okWide P W .any base t v):∃x,ok x∧dw (Ctx.start W) (f x) v:=by
 have h1:=Lj n hp h hform
 obtain⟨fuel,hf⟩:=h
 obtain⟨x,h2,h3⟩:=hd enc W _ _ fuel _ d ps hf
 exact⟨x,h2,h3▸h1⟩

theorem G0{fn:Func}(h:(fn.params.toList.all fun t=>P.readableRec t&&decide (t<P.types.size))=true):∀t∈fn.params.toList,P.readableRec t=true∧t<P.types.size:=fun t ht=>by
 have:=List.all_eq_true.1 h t ht
 simpa using this

theorem SI{C:Ctx}{x0 x1:AV}{v0 v1:Value}(h0:dw C x0 v0)(h1:dw C x1 v1):∀(k:Nat) (x:AV),[x0,x1][k]? =some x→dw C x (#[v0,v1].getD k undef):=fun k x h=>by
 match k with
 |0=>cases h;exact h0
 |1=>cases h;exact h1
 |k+2=>cases h
end Go.Av
end
