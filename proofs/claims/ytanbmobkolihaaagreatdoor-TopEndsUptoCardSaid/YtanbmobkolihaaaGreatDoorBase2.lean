/- What a proof sees of a run, and the rules by which it goes through a text. -/
import Derived.Test.YtanbmobkolihaaaGreatDoorBase1
import Derived.Sort.Grow
import Derived.Lib.SlicesCompact
import Derived.Lib.Slices
import Derived.RecoverIn
import Derived.Lib.SplitLaws
import Derived.Lib.AppendZerosOnto
import Derived.Lib.Overlaps
import Derived.Laws.Externs
import Derived.Lib.AppendZeros
import Derived.Conc.SmallLaws
import Derived.Shelf.SlSortCmp.NoneTotal
open List renaming cons_append→ajF,drop→ajG,ext_getElem?→ajH,finRange→ajI,getElem?_append_left→abU,getElem?_map→ab_,getElem?_of_mem→ack,getElem_map→ajJ,isPrefixOf→ajK,length→ajL,length_map→ajM,map→ajN,map_cons→ac7,map_map→adQ,mem_cons_of_mem→adU,mem_cons_self→ad2,mem_of_getElem?→ad7,mem_of_mem_take→ajO,mem_replicate→ajP,mergeSort_perm→ajT,pairwise_cons→agX,pairwise_mergeSort→ajU,perm_cons→ajV,replicate→aeR,take→ajW,take_append_drop→aeW,take_of_length_le→aha
open Option renaming map_eq_some_iff→ae5,map_some→ajX
open Nat renaming add_assoc→afe,add_zero→afg,le_refl→afk,mul_one→ajY,zero_le→afR
open Bool renaming and_eq_true→aiq,not_eq_true'→ajh
open Array renaming ext→ajZ,ext_getElem?→aj0,getElem?_mapIdx→aj1,getElem?_modify→aj2,getElem?_of_mem→af5
set_option linter.unusedSimpArgs false
set_option linter.unusedVariables false
section
namespace Go.Av
open Go.RowKit (Below)
structure Ye (P:Program) (f:FuncId):Prop where
 call:gO P f
 no:∀(p:Option Addr) (cap:Nat) (w:World),Calls P f #[.slice p 0 cap] w fun e w'=>e=.returned (.tuple #[])∧w'=w
 is:∀(de off cap:Nat) (zs:List Int) (w:World),Sort.Holds (Value.int .i64) w de off zs.toArray→de<w.heap.size→zs.length<4611686018427387904→
  Calls P f #[.slice (some ⟨de,off,none⟩) zs.length cap] w fun e w'=>
   e=.returned (.tuple #[])∧∃n os,w'=Sort.grow (Sort.putRow (Value.int .i64) (Sort.ahead w n) de off (zs.mergeSort fun x y=>decide (x≤y)).toArray) os

structure Nf (P:Program) (f:FuncId):Prop where
 call:gO P f
 no:∀(p:Option Addr) (cap:Nat) (w:World),Calls P f #[.slice p 0 cap] w fun e w'=>e=.returned (.slice p 0 cap)∧w'=w
 is:∀(de off cap:Nat) (zs:List Int) (w:World),Sort.Holds (Value.int .i64) w de off zs.toArray→zs.length≤9223372036854775807→zs.length≤cap→
  Calls P f #[.slice (some ⟨de,off,none⟩) zs.length cap] w fun e w'=>e=.returned (.slice (some ⟨de,off,none⟩) (Lib.compact zs).length cap)∧∃q,w'=Sort.putRow (Value.int .i64) (Sort.ahead w q) de off (Lib.compact zs++aeR (zs.length - (Lib.compact zs).length) 0).toArray

def Sh.put(x:Int):List Int→List Int
 |[]=>[x]
 |y::l=>if x≤y then x::y::l else y::Sh.put x l
def Sh.tv:List Int→List Int
 |[]=>[]
 |x::l=>Sh.put x (Sh.tv l)
theorem Sh.L4(x:Int):∀l:List Int,(Sh.put x l).Perm (x::l)
 |[]=>.refl _
 |y::l=>by
  unfold Sh.put;split
  ·rfl
  ·exact((Sh.L4 x l).cons y).trans (.swap x y l)
theorem Sh.CZ:∀l:List Int,(Sh.tv l).Perm l
 |[]=>.refl _
 |x::l=>(Sh.L4 x _).trans ((Sh.CZ l).cons x)
theorem Sh.L5(x:Int):∀l:List Int,l.Pairwise (· ≤ ·)→(Sh.put x l).Pairwise (· ≤ ·)
 |[],_=>by simp[Sh.put]
 |y::l,h=>by
  unfold Sh.put;rw[agX] at h;split
  ·rw[agX,agX]
   grind
  ·rw[agX]
   refine⟨fun z hz=> ?_,Sh.L5 x l h.2⟩;rcases List.mem_cons.1 ((Sh.L4 x l).mem_iff.1 hz) with rfl|hz
   ·omega
   grind
theorem Sh.C6:∀l:List Int,(Sh.tv l).Pairwise (· ≤ ·)
 |[]=>.nil
 |x::l=>Sh.L5 x _ (Sh.C6 l)
theorem Sh.G7:∀{a b:List Int},a.Perm b→a.Pairwise (· ≤ ·)→b.Pairwise (· ≤ ·)→a=b
 |[],b,h,_,_=>(List.nil_perm.1 h).symm
 |x::a,[],h,_,_=>absurd h.symm (by simp)
 |x::a,y::b,h,ha,hb=>by
  have ha':=List.pairwise_cons.1 ha;have hb':=List.pairwise_cons.1 hb;have hxy:x=y:=by
   grind [ad2]
  subst hxy;rw[Sh.G7 (ajV x|>.1 h) ha'.2 hb'.2]
theorem Sh.Q6(l:List Int):Sh.tv l=l.mergeSort fun x y=>decide (x≤y):=by
 have h:=ajU (le:=fun x y:Int=>decide (x≤y)) (fun a b c h1 h2=>by grind) (fun a b=>by grind) l;exact Sh.G7 ((Sh.CZ l).trans (ajT l _).symm) (Sh.C6 l) (h.imp fun{a b} hab=>by grind)
def Sh.sort(l:List Int):Option (List Int):=if l.length<4611686018427387904 then some (Sh.tv l) else none
def Sh.compact(l:List Int):Option (List Int):=if l.length<4611686018427387904 then some (Lib.compact l) else none
variable {l L:List Int}
theorem Sh.N9(h:Sh.sort l=some L):l.length<4611686018427387904∧L=l.mergeSort fun x y=>decide (x≤y):=by
 grind [Sh.sort,Sh.Q6]
theorem Sh.aa6(h:Sh.sort l=some L):L.length=l.length:=by rw[(Sh.N9 h).2];simp
theorem Sh.OD(h:Sh.compact l=some L):l.length<4611686018427387904∧L=Lib.compact l:=by
 simp_all [Sh.compact]
theorem Qt(l:List Int):(Lib.compact l).length≤l.length:=by
 grind [Lib.compact,Lib.compactUpTo]

section
variable {P:Program} {W0:bS} {C:Ctx} {fr:Fr} {a:Act} {H:Heap} {o:Oper} {N:Nat}

theorem Mk(hI:Inv W0 C){id:Nat}(hid:C.H.get id=some []):Ext C {C with H:=C.H.set id []}∧Inv W0 {C with H:=C.H.set id []}:=by
 have hg:∀k e,(C.H.set id []).get k=some e→C.H.get k=some e:=fun k e h=>by
  grind [Heap.tQ]
 have ho':∀b,Ctx.own {C with H:=C.H.set id []} b→C.own b:=by
  rintro b (⟨k,e,h1,h2,h3⟩|h)
  ·exact .inl ⟨k,e,hg k e h1,h2,h3⟩
  ·exact .inr h
 have hE:Ext C {C with H:=C.H.set id []}:=⟨.refl _ _,fun _ _ _=>rfl,fun b _ h=>ho' b h,afk _,fun k e _ h=>⟨⟨e,hg k e h⟩,rfl⟩,rfl,rfl,rfl⟩
 exact⟨hE,{
  fresh:=fun k e h=>hI.fresh k e (hg k e h)
  nil:=fun k e h=>hI.nil k e (hg k e h)
  obj:=fun k e h hn=>(hI.obj k e (hg k e h) hn).ext hE rfl
  sep:=fun p q ep eq hp hq=>hI.sep p q ep eq (hg _ _ hp) (hg _ _ hq)
  cI:=fun k e h=>hI.cI k e (hg k e h)
  jX:=fun k s' h=>hI.jX k s' (by grind [Heap.Mq])
  dU:=hI.dU
  eG:=hI.eG
  size:=hI.size
  gD:=fun b h=>⟨(hI.gD b h).1,fun hh=>(hI.gD b h).2 (ho' b hh)⟩
  ec:=hI.ec
  iu:=hI.iu
  BX:=hI.BX
  Cn:=hI.Cn
  eS:=hI.eS
  lU:=hI.lU
  fe:=hI.fe
  gh:=W0.st C _ hE.mem hI.fe hI.gh}⟩

theorem NH(hI:Inv W0 C){id:Nat}{l:List Int}(hid:C.H.get id=some (l.map J))(hn:(C.pl id).nil=false)(hs:(C.pl id).sz=1):
  Sort.Holds (Value.int .i64) C.w (C.pl id).de 0 l.toArray:=by
 intro j hj
 have hj':j<l.length:=by omega
 obtain⟨arr,el,harr,_⟩:=(hI.obj id _ hid hn).rows (by omega)
 obtain⟨v,h1,h2⟩:=wK hI hid hn (i:=j) (j:=0) (e:=J l[j]) (x:=J l[j]) (by simp[hj']) rfl
 refine⟨?_,by simp[World.frozen?,harr]⟩
 have hv:v=.int .i64 l[j]:=bR rfl h2
 have h3:=h1.1
 grind

theorem Rt(hI:Inv W0 C){id:Nat}{l L:List Int}(hid:C.H.get id=some (l.map J))(hn:(C.pl id).nil=false)(hs:(C.pl id).sz=1)(hl:L.length=l.length)(n:Nat)(os:Array Obj):
  ∃C',C'.w=Sort.grow (Sort.putRow (Value.int .i64) (Sort.ahead C.w n) (C.pl id).de 0 L.toArray) os∧Ext C C'∧Inv W0 C'∧C'.H=C.H.set id (L.map J)∧C'.pl=C.pl:=by
 have hO:=hI.obj id _ hid hn
 obtain⟨arr,el,harr,hcap⟩:=hO.rows (by omega)
 have hlen:l.length≤arr.size:=by
  have h1:=hO.n;have h2:=hO.cap
  grind
 have hone:∀v∈arr,v.oneCell'=true:=fun v hv=>by
  obtain⟨k,hk⟩:=af5 hv
  exact hO.one k v (by grind [iS])
 obtain⟨hE,hI'⟩:=vQ hI hid hn harr (Sort.putCells (Value.int .i64) 0 L.toArray arr) (by simp[Sort.putCells]) (L.map J) (by simp[hl]) (fun v hv=>by
  obtain⟨k,hk⟩:=af5 hv
  simp only[Sort.putCells,aj1,ae5] at hk
  obtain⟨u,hu,rfl⟩:=hk
  split
  ·rfl
  grind) (fun i e h=>by
   simp only[ab_,ae5] at h
   obtain⟨z,_,rfl⟩:=h
   rw[hs];rfl) (fun i j e x v h1 h2 h3=>by
   simp only[ab_,ae5] at h1
   obtain⟨z,hz,rfl⟩:=h1
   have hj:j=0∧x=J z:=by
    cases j with
    |zero=>simp_all [AV.flat]
    |succ j=>simp[AV.flat] at h2
   obtain⟨rfl,rfl⟩:=hj
   rw[hs,ajY,afg] at h3
   simp only[Sort.putCells,aj1,ae5] at h3
   obtain⟨u,hu,rfl⟩:=h3
   have e2:L.toArray[i - 0]! =z:=by
    grind
   rw[if_pos ⟨afR _,by grind⟩,e2]
   exact .imm _ rfl)
 have hw:C.w.setRow (C.pl id).de (Sort.putCells (Value.int .i64) 0 L.toArray arr)=Sort.putRow (Value.int .i64) C.w (C.pl id).de 0 L.toArray:=by
  unfold Sort.putRow Sort.mapBlock World.setRow
  congr 1
  apply aj0
  intro k
  simp only[aj2]
  split
  ·rename_i hk;subst hk;rw[harr];rfl
  ·rfl
 rw[hw] at hE hI'
 have hB:Below (Sort.putRow (Value.int .i64) C.w (C.pl id).de 0 L.toArray).heap.size (Sort.putRow (Value.int .i64) C.w (C.pl id).de 0 L.toArray) (Sort.grow (Sort.putRow (Value.int .i64) (Sort.ahead C.w n) (C.pl id).de 0 L.toArray) os):=
  ⟨rfl,rfl,rfl,by simp_all,fun k hk=>Sort.heap_grow_old (Sort.putRow (Value.int .i64) (Sort.ahead C.w n) (C.pl id).de 0 L.toArray) os hk⟩
 refine⟨(C.write id (Sort.putRow (Value.int .i64) C.w (C.pl id).de 0 L.toArray) (L.map J)).uG (Sort.grow (Sort.putRow (Value.int .i64) (Sort.ahead C.w n) (C.pl id).de 0 L.toArray) os),rfl,hE.trans (dh hB),hI'.uG hB,rfl,rfl⟩

theorem Jf{id n:Nat}{x:Operand}{es:List AV}(hI:Inv W0 C)(hx:aD fr x=some (.view id 0 n))(hop:yV C fr a x)(hid:C.H.get id=some es)(hn:n=es.length)(hs:C.H.sz id=some 1):
  (es=[]∧∃p cap,a.eval x=.slice p 0 cap)∨((C.pl id).nil=false∧(C.pl id).sz=1∧∃cap,es.length≤cap∧cap≤(C.pl id).cap∧a.eval x=.slice (some ⟨(C.pl id).de,0,none⟩) es.length cap):=by
 have hr:=aQ hop hx;generalize hux:a.eval x=ux at hr
 match hr with
 |.view _ _ _ _ h1 h2 h3=>
 have h6:=h2 es hid;unfold jl at h6;split at h6
 ·grind
 ·have hnil':(C.pl id).nil=false:=by grind
  obtain⟨A,cap,rfl,g1,g2,g3,g4⟩:=h6;have hsz:=hI.jX id 1 hs hnil';rcases g4 with g4|rfl
  ·simp_all
  grind

theorem Yo{f:FuncId}{tys:Array TypeId}{xo:Operand}{id n:Nat}(hf:Ye P f)(l L:List Int)(hL:Sh.sort l=some L)(hn:n=(l.map J).length)(ho:o.op=.call {callee:=.value (.func f),args:= #[xo],argTypes:=tys})(hx:aD fr xo=some (.view id 0 n))(hid:H.get id=some (l.map J))(hs:H.sz id=some 1):
  b_ P W0 o fr H (.tuple []) (H.set id (L.map J)):=by
 intro C a hI hH hop K Q hK
 subst hH
 obtain⟨hlt,rfl⟩:=Sh.N9 hL
 unfold Oper.wp
 rw[pJ ho hf.call,Oper.upon_enter]
 have hea:(#[xo].map a.eval)= #[a.eval xo]:=by simp
 rw[hea]
 rcases Jf hI hx (hop xo (by simp[ho,Op.operands,Call.operands])) hid hn hs with⟨h0,p,cap,he⟩|⟨h1,h2,cap,_,_,he⟩
 ·have X3:l=[]:=List.map_eq_nil_iff.1 h0
  subst X3
  rw[he]
  refine(hf.no p cap C.w).mono ?_
  rintro e w' ⟨rfl,rfl⟩
  have hset:=Mk hI hid
  exact hK _ {C with H:=C.H.set id []} hset.1 hset.2 (by simp) (.tuple [] #[] rfl (fun k x h=>by simp at h))
 ·rw[he]
  have hh:=NH hI hid h1 h2
  have hc:=hf.is (C.pl id).de 0 cap l C.w hh (hI.lt hid h1) hlt
  rw[ajM]
  refine hc.mono ?_
  rintro e w' ⟨rfl,n,os,rfl⟩
  obtain⟨C',q1,q2,q3,q4,_⟩:=Rt hI hid h1 h2 (L:=l.mergeSort fun x y=>decide (x≤y)) (by simp) n os
  rw[←q1]
  exact hK _ C' q2 q3 q4 (.tuple [] #[] rfl (fun k x h=>by simp at h))

theorem Qg{f:FuncId}{tys:Array TypeId}{xo:Operand}{id n:Nat}(hf:Nf P f)(l L:List Int)(hL:Sh.compact l=some L)(hn:n=(l.map J).length)(ho:o.op=.call {callee:=.value (.func f),args:= #[xo],argTypes:=tys})(hx:aD fr xo=some (.view id 0 n))(hid:H.get id=some (l.map J))(hs:H.sz id=some 1):
  b_ P W0 o fr H (.sl (L.map J)) (H.del id):=by
 intro C a hI hH hop K Q hK
 subst hH
 obtain⟨hlt,rfl⟩:=Sh.OD hL
 unfold Oper.wp
 rw[pJ ho hf.call,Oper.upon_enter]
 have hea:(#[xo].map a.eval)= #[a.eval xo]:=by simp
 rw[hea]
 rcases Jf hI hx (hop xo (by simp[ho,Op.operands,Call.operands])) hid hn hs with⟨h0,p,cap,he⟩|⟨h1,h2,cap,hcap,awX,he⟩
 ·have X3:l=[]:=List.map_eq_nil_iff.1 h0
  subst X3
  rw[he]
  refine(hf.no p cap C.w).mono ?_
  rintro e w' ⟨rfl,rfl⟩
  exact hK _ (C.del id) (AZ id) (hI.del id) rfl (by exact .slNil _ _)
 ·rw[he]
  have hh:=NH hI hid h1 h2
  rw[ajM] at hcap ⊢
  have hc:=hf.is (C.pl id).de 0 cap l C.w hh (by omega) hcap
  refine hc.mono ?_
  rintro e w' ⟨rfl,q,rfl⟩
  have hcl:=Qt l
  obtain⟨C',q1,q2,q3,q4,q5⟩:=Rt hI hid h1 h2 (L:=Lib.compact l++aeR (l.length - (Lib.compact l).length) 0) (by grind) q #[]
  rw[Sort.grow_empty] at q1
  have hid':C'.H.get id=some ((Lib.compact l++aeR (l.length - (Lib.compact l).length) 0).map J):=by grind [Heap.tQ]
  have hnil:(C'.pl id).nil=false:=by grind
  have hO:=q3.obj id _ hid' hnil
  have hN:(C'.pl id).n=l.length:=by rw[hO.n];grind
  have hview:c4 C' (.view id 0 (Lib.compact l).length) (.slice (some ⟨(C.pl id).de,0,none⟩) (Lib.compact l).length cap):=by
   refine .view _ _ _ _ (q3.fresh id _ hid') (fun es he=> ?_) rfl
   unfold jl
   grind
  have Zo:=N2 (C':=C'.del id) q3 hview hid' (fun e he=>by
   obtain⟨z,_,rfl⟩:=List.mem_map.1 (List.mem_of_mem_drop (ajO he))
   simp) rfl (fun b hb=>by
    rcases hb with hb|hb
    ·exact .inl (Ctx.Pc hb)
    ·exact .inr hb) (fun _ hb=>by
    obtain⟨arr,harr,hdd⟩:=hO.dat
    rcases hb with(⟨k,e,k1,k2,k3⟩|hb)|hb
    ·have k1':=k1
     simp only[Ctx.del,Heap.u7] at k1'
     split at k1'
     ·cases k1'
     ·rename_i hne
      exact hne (q3.sep k id e _ k1' hid' k2 hnil k3)
    ·exact q3.AD hb harr hdd
    ·exact q3.cI id _ hid' hnil hb)
  rw[←q1]
  refine hK _ (C'.del id) (q2.trans (AZ id)) (q3.del id) (by show C'.H.del id=_;rw[q4,Heap.U1]) ?_
  grind
end
@[simp] theorem ajB(p q:Prop)(R:AV→Prop):(∀e:AV,p∧bl false=e∨q∧bl true=e→R e)↔(p→R (bl false))∧(q→R (bl true)):=⟨fun h=>⟨fun hp=>h _ (.inl ⟨hp,rfl⟩),fun hq=>h _ (.inr ⟨hq,rfl⟩)⟩,fun⟨h1,h2⟩ e h=>by grind⟩
def Sh.first(l:List Int):Int:=l.headD 0
section
variable {P:Program} {W0:bS} {C:Ctx} {fr:Fr} {a:Act} {H:Heap} {o:Oper} {N:Nat}

theorem aaD(hI:Inv W0 C){id m:Nat}{es es':List AV}(hid:C.H.get id=some es)(hn:(C.pl id).nil=false)(hs:(C.pl id).sz=1)(v:Fin (m+1)→Value)(d:List (Fin (m+1)))(hd:d.length=es.length)(hl:es'.length=es.length)
  (h1:∀i,(v i).oneCell'=true)(hf:∀e∈es',e.flat=[e])(hv:∀(i:Nat) (j:Fin (m+1)) (e:AV),d[i]? =some j→es'[i]? =some e→c4 C e (v j))(n:Nat)(os:Array Obj):
  ∃C',C'.w=Sort.grow (Sort.putRow v (Sort.ahead C.w n) (C.pl id).de 0 d.toArray) os∧Ext C C'∧Inv W0 C'∧C'.H=C.H.set id es'∧C'.pl=C.pl:=by
 have hO:=hI.obj id _ hid hn
 obtain⟨arr,el,harr,hcap⟩:=hO.rows (by omega)
 have hlen:es.length≤arr.size:=by
  have h1:=hO.n;have h2:=hO.cap
  grind
 have hone:∀u∈arr,u.oneCell'=true:=fun u hu=>by
  obtain⟨k,hk⟩:=af5 hu
  exact hO.one k u (by grind [iS])
 obtain⟨hE,hI'⟩:=vQ hI hid hn harr (Sort.putCells v 0 d.toArray arr) (by simp[Sort.putCells]) es' hl (fun u hu=>by
  obtain⟨k,hk⟩:=af5 hu
  simp only[Sort.putCells,aj1,ae5] at hk
  grind) (fun i e h=>by
   grind) (fun i j e x u g1 g2 g3=>by
   have hj:j=0∧x=e:=by
    grind
   simp only[Sort.putCells,aj1,ae5] at g3
   grind)
 have hw:C.w.setRow (C.pl id).de (Sort.putCells v 0 d.toArray arr)=Sort.putRow v C.w (C.pl id).de 0 d.toArray:=by
  unfold Sort.putRow Sort.mapBlock World.setRow
  congr 1
  apply aj0
  intro k
  simp only[aj2]
  split
  ·rename_i hk;subst hk;rw[harr];rfl
  ·rfl
 rw[hw] at hE hI'
 have hB:Below (Sort.putRow v C.w (C.pl id).de 0 d.toArray).heap.size (Sort.putRow v C.w (C.pl id).de 0 d.toArray) (Sort.grow (Sort.putRow v (Sort.ahead C.w n) (C.pl id).de 0 d.toArray) os):=
  ⟨rfl,rfl,rfl,by simp_all,fun k hk=>Sort.heap_grow_old (Sort.putRow v (Sort.ahead C.w n) (C.pl id).de 0 d.toArray) os hk⟩
 refine⟨(C.write id (Sort.putRow v C.w (C.pl id).de 0 d.toArray) es').uG (Sort.grow (Sort.putRow v (Sort.ahead C.w n) (C.pl id).de 0 d.toArray) os),rfl,hE.trans (dh hB),hI'.uG hB,rfl,rfl⟩

end
structure I6 (P:Program) (f g:FuncId):Prop where
 call:gO P f
 no:∀(p:Option Addr) (cap:Nat) (cb:Array Value) (w:World),Calls P f #[.slice p 0 cap,.func (.func g) #[] cb] w fun e w'=>e=.returned (.tuple #[])∧w'=w
 is:∀(de off cap m:Nat) (x:Fin (m+1)→Int) (os:List Int) (bx ox b2 o2 c2:Nat) (w:World),(∀i j,Lib.idxOf os (x i)=Lib.idxOf os (x j)→i=j)→os≠[]→os.length≤9223372036854775807→
  bx≠de→bx<w.heap.size→w.cell? ⟨bx,ox,none⟩=some (.slice (some ⟨b2,o2,none⟩) os.length c2)→b2≠de→b2<w.heap.size→(∀j,j<os.length→w.cell? ⟨b2,o2+j,none⟩=some (.int .i64 (os.getD j 0)))→
  Sort.Holds (fun i=>.int .i64 (x i)) w de off (ajI (m+1)).toArray→de<w.heap.size→m+1<4611686018427387904→
  Calls P f #[.slice (some ⟨de,off,none⟩) (m+1) cap,.func (.func g) #[] #[.pointer (some ⟨bx,ox,none⟩)]] w fun e w'=>
   e=.returned (.tuple #[])∧∃n os',∃d:List (Fin (m+1)),d.Perm (ajI (m+1))∧d.Pairwise (fun a b=>Lib.idxOf os (x a)≤Lib.idxOf os (x b))∧w'=Sort.grow (Sort.putRow (fun i=>.int .i64 (x i)) (Sort.ahead w n) de off d.toArray) os'

def Sh.ix(os:List Int)(x:Int):Int:=Lib.idxOf os x
def Sh.TK(os:List Int)(x:Int):List Int→List Int
 |[]=>[x]
 |y::l=>if Sh.ix os x≤Sh.ix os y then x::y::l else y::Sh.TK os x l
def Sh.GD(os:List Int):List Int→List Int
 |[]=>[]
 |x::l=>Sh.TK os x (Sh.GD os l)
def Sh.Dv(os l:List Int):Option (List Int):=if l.length<4611686018427387904∧os≠[]∧os.length≤9223372036854775807∧(l.map (Sh.ix os)).Nodup then some (Sh.GD os l) else none
theorem Sh.Jy(os:List Int)(x:Int):∀l:List Int,(Sh.TK os x l).Perm (x::l)
 |[]=>.refl _
 |y::l=>by
  unfold Sh.TK;split
  ·rfl
  ·exact((Sh.Jy os x l).cons y).trans (.swap x y l)
theorem Sh.Hh(os:List Int):∀l:List Int,(Sh.GD os l).Perm l
 |[]=>.refl _
 |x::l=>(Sh.Jy os x _).trans ((Sh.Hh os l).cons x)
theorem Sh.J5(os:List Int)(x:Int):∀l:List Int,l.Pairwise (fun a b=>Sh.ix os a≤Sh.ix os b)→(Sh.TK os x l).Pairwise (fun a b=>Sh.ix os a≤Sh.ix os b)
 |[],_=>by simp[Sh.TK]
 |y::l,h=>by
  unfold Sh.TK;rw[agX] at h;split
  ·rw[agX,agX]
   grind
  ·rw[agX]
   refine⟨fun z hz=> ?_,Sh.J5 os x l h.2⟩;rcases List.mem_cons.1 ((Sh.Jy os x l).mem_iff.1 hz) with rfl|hz
   ·omega
   grind
theorem Sh.IW(os:List Int):∀l:List Int,(Sh.GD os l).Pairwise (fun a b=>Sh.ix os a≤Sh.ix os b)
 |[]=>.nil
 |x::l=>Sh.J5 os x _ (Sh.IW os l)
theorem Sh.Oi(os:List Int):∀{a b:List Int},a.Perm b→(a.map (Sh.ix os)).Nodup→a.Pairwise (fun x y=>Sh.ix os x≤Sh.ix os y)→b.Pairwise (fun x y=>Sh.ix os x≤Sh.ix os y)→a=b
 |[],b,h,_,_,_=>(List.nil_perm.1 h).symm
 |x::a,[],h,_,_,_=>absurd h.symm (by simp)
 |x::a,y::b,h,hn,ha,hb=>by
  have ha':=List.pairwise_cons.1 ha
  have hb':=List.pairwise_cons.1 hb
  simp only[ac7,List.nodup_cons] at hn
  have hxy:x=y:=by
   grind
  subst hxy
  rw[Sh.Oi os (ajV x|>.1 h) hn.2 ha'.2 hb'.2]
theorem Sh.II{os l L:List Int}(h:Sh.Dv os l=some L):(l.length<4611686018427387904∧os≠[]∧os.length≤9223372036854775807∧(l.map (Sh.ix os)).Nodup)∧L=Sh.GD os l:=by
 simp_all [Sh.Dv]
theorem Sh.RR{os l L:List Int}(h:Sh.Dv os l=some L):L.length=l.length:=by rw[(Sh.II h).2];exact(Sh.Hh os l).length_eq

section
variable {P:Program} {W0:bS} {C:Ctx} {fr:Fr} {a:Act} {H:Heap} {o:Oper} {N:Nat}

theorem Ox{f g:FuncId}{tys:Array TypeId}{xo yo:Operand}{id n:Nat}(hf:I6 P f g)(os l L:List Int)(hL:Sh.Dv os l=some L)(hn:n=(l.map J).length)
  (ho:o.op=.call {callee:=.value (.func f),args:= #[xo,yo],argTypes:=tys})(hx:aD fr xo=some (.view id 0 n))(hy:aD fr yo=some (.fH (.func g) [.pp [.sl (os.map J)] 0]))(hid:H.get id=some (l.map J))(hs:H.sz id=some 1):
  b_ P W0 o fr H (.tuple []) (H.set id (L.map J)):=by
 intro C a hI hH hop K Q hK;subst hH;obtain⟨⟨hlt,hne,hbig,hnd⟩,rfl⟩:=Sh.II hL;unfold Oper.wp;rw[pJ ho hf.call,Oper.upon_enter];have hea:(#[xo,yo].map a.eval)= #[a.eval xo,a.eval yo]:=by simp
 have hfy:∃bx ox b2 o2 c2,a.eval yo=.func (.func g) #[] #[.pointer (some ⟨bx,ox,none⟩)]∧bx<C.w.heap.size∧¬C.bad bx∧C.w.cell? ⟨bx,ox,none⟩=some (.slice (some ⟨b2,o2,none⟩) os.length c2)∧b2<C.w.heap.size∧¬C.bad b2∧∀j,j<os.length→C.w.cell? ⟨b2,o2+j,none⟩=some (.int .i64 (os.getD j 0)):=by
  have h:=aQ (hop yo (by simp[ho,Op.operands,Call.operands])) hy;generalize a.eval yo=u at h
  match h with
  |.fH _ _ vs h1 h2=>
   have hp:=h2 0 _ rfl;have hvs:vs= #[vs.getD 0 undef]:=by
    apply ajZ
    ·omega
    simp_all
   generalize vs.getD 0 undef=pv at hp hvs
   match hp with
   |.pp _ _ b off c hb hbad hc1 MO=>
    have c1:=hc1 0 _ rfl;have c2:=MO 0 _ rfl;generalize hcv:c 0=cv at c1 c2;have fin:∀(b2 o2 sz cap:Nat) (cc:Nat→Nat→Value),cv=.slice (some ⟨b2,o2,none⟩) (os.map J).length cap→b2<C.w.heap.size→¬C.bad b2→(∀(i:Nat) (e:AV),(os.map J)[i]? =some e→e.flat.length=sz)→
      (∀(i j:Nat) (e x:AV),(os.map J)[i]? =some e→e.flat[j]? =some x→Holds C.w b2 (o2+i*sz+j) (cc i j))→(∀(i j:Nat) (e x:AV),(os.map J)[i]? =some e→e.flat[j]? =some x→c4 C x (cc i j))→∃bx ox b2 o2 c2,Value.func (.func g) #[] vs=.func (.func g) #[] #[.pointer (some ⟨bx,ox,none⟩)]∧bx<C.w.heap.size∧¬C.bad bx∧C.w.cell? ⟨bx,ox,none⟩=some (.slice (some ⟨b2,o2,none⟩) os.length c2)∧b2<C.w.heap.size∧¬C.bad b2∧∀j,j<os.length→C.w.cell? ⟨b2,o2+j,none⟩=some (.int .i64 (os.getD j 0)):=by
     intro b2 o2 sz cap cc e1 e2 e3 e4 e5 e6;refine⟨b,off+0,b2,o2,cap,by rw[hvs],hb,hbad,by rw[c1.1,e1,ajM],e2,e3,fun j hj=> ?_⟩;have hsz:sz=1:=by
      have:(os.map J)[0]? =some (J (os[0]'(by omega))):=by grind
      grind [AV.flat]
     subst hsz;have hj1:(os.map J)[j]? =some (J os[j]):=by simp[hj]
     have h3:=e5 j 0 _ _ hj1 rfl;have h4:=e6 j 0 _ _ hj1 rfl;rw[ajY,afg] at h3;rw[h3.1,bR (v:=.int .i64 os[j]) rfl h4];grind
    cases os with
    |nil=>grind
    |cons z zs=>
     match c2 with
     |.sl _ b2 o2 sz cap cc e2 e3 _ e4 e5 e6=>exact fin b2 o2 sz cap cc rfl e2 e3 e4 e5 e6
 obtain⟨bx,ox,b2,o2,c2,hfy,k1,k2,k3,k4,k5,k6⟩:=hfy;rw[hea,hfy];rcases Jf hI hx (hop xo (by simp[ho,Op.operands,Call.operands])) hid hn hs with⟨h0,p,cap,he⟩|⟨h1,h2,cap,_,_,he⟩
 ·have X3:l=[]:=List.map_eq_nil_iff.1 h0
  subst X3;rw[he];refine(hf.no p cap _ C.w).mono ?_;rintro e w' ⟨rfl,rfl⟩;have hset:=Mk hI hid;exact hK _ {C with H:=C.H.set id []} hset.1 hset.2 (by rfl) (.tuple [] #[] rfl (fun k x h=>by simp at h))
 ·by_cases X3:l=[]
  ·subst X3
   rw[he];refine(hf.no _ cap _ C.w).mono ?_;rintro e w' ⟨rfl,rfl⟩;have hset:=Mk hI hid;exact hK _ {C with H:=C.H.set id []} hset.1 hset.2 (by rfl) (.tuple [] #[] rfl (fun k x h=>by simp at h))
  obtain⟨m,hm⟩:∃m,l.length=m+1:=⟨l.length - 1,by grind [List.length_pos_iff]⟩
  let x:Fin (m+1)→Int:=fun i=>l[i.1]'(by omega)
  have hcell:∀i:Fin (m+1),Holds C.w (C.pl id).de i.1 (.int .i64 (x i)):=fun i=>by
   have hi:i.1<l.length:=by omega
   obtain⟨u,g1,g2⟩:=wK hI hid h1 (i:=i.1) (j:=0) (e:=J l[i.1]) (x:=J l[i.1]) (by simp[hi]) rfl;rw[h2,ajY,afg] at g1;rw[bR (v:=.int .i64 l[i.1]) rfl g2] at g1;exact g1
  have hk:∀i j,Lib.idxOf os (x i)=Lib.idxOf os (x j)→i=j:=fun i j h=>by
   have hp:=List.pairwise_iff_getElem.1 hnd;rcases Nat.lt_trichotomy i.1 j.1 with h3|h3|h3
   ·exact(hp i.1 j.1 (by grind) (by grind) h3 (by simp only[ajJ];exact h)).elim
   ·omega
   ·exact(hp j.1 i.1 (by grind) (by grind) h3 (by simp only[ajJ];exact h.symm)).elim
  obtain⟨arr,el,harr,_⟩:=(hI.obj id _ hid h1).rows (by omega);have hown:∀b,¬C.bad b→b≠(C.pl id).de:=fun b hb e=>hb (.inl (.inl ⟨id,_,hid,h1,e.symm⟩));have hc:=hf.is (C.pl id).de 0 cap m x os bx ox b2 o2 c2 C.w hk hne hbig (hown bx k2) k1 k3 (hown b2 k5) k4 k6 (fun j hj=>by
   have hj':j<m+1:=by grind
   refine⟨?_,by simp[World.frozen?,harr]⟩;have:=(hcell ⟨j,hj'⟩).1;grind) (hI.lt hid h1) (by omega)
  rw[he,ajM,hm];refine hc.mono ?_;rintro e w' ⟨rfl,n',os',d,hp,hsd,rfl⟩;have hdl:d.length=m+1:=by rw[hp.length_eq];simp
  have hL2:d.map x=Sh.GD os l:=by
   refine Sh.Oi os ?_ ?_ ?_ (Sh.IW os l)
   ·refine(hp.map _).trans (List.Perm.trans (.of_eq ?_) (Sh.Hh os l).symm)
    apply List.ext_getElem
    ·simp[hm]
    grind
   ·rw[adQ]
    refine List.Pairwise.map _ (fun a b h=> ?_) (hp.nodup_iff.2 (List.nodup_finRange _));exact fun e=>h (hk _ _ e)
   ·exact List.pairwise_map.2 hsd
  obtain⟨C',q1,q2,q3,q4,_⟩:=aaD hI hid h1 h2 (fun i=>Value.int .i64 (x i)) d (es':=(Sh.GD os l).map J) (by grind) (by grind) (fun i=>rfl) (fun e he=>by
   obtain⟨r,_,rfl⟩:=List.mem_map.1 he;rfl) (fun i j e g1 g2=>by
   rw[←hL2,adQ,ab_,g1] at g2;simp only[ajX,Option.some.injEq] at g2;rw[←g2];exact .imm _ rfl) n' os'
  rw[←q1];exact hK _ C' q2 q3 q4 (.tuple [] #[] rfl (fun k x h=>by simp at h))
end
end Go.Av
end

section
namespace Go.Av
section
variable {P:Program} {W0:bS} {fr:Fr} {H:Heap} {o:Oper}
end
end Go.Av
end

section
namespace Go.Av
open Go.RowKit (Below)
def Bt(ch:List PanicEntry):Prop:=∃t v,ch=[{v:=.iface t v,recovered:=false}]

def V9(P:Program)(W0:bS)(o:Oper)(fr:Fr)(H:Heap)(H':Heap)(R:List PanicEntry→Prop:=Bt):Prop:=
 ∀(C:Ctx) (a:Act),Inv W0 C→C.H=H→(∀x∈o.op.operands,yV C fr a x)→
  ∀(K:Act→World→Prop) (Q:Exit→Act→World→Prop),
   (∀ch C',R ch→Ext C C'→Inv W0 C'→C'.H=H'→Q (.panic ch) a C'.w)→o.wp P a C.w K Q

structure KL (P:Program) (B:bS) (f:FuncId) (xs:List AV) (Hin:Heap) (Hout:Heap) (R:List PanicEntry→Prop:=Bt):Prop where
 call:gO P f
 runs:∀(C:Ctx) (vals:Array Value),Inv B C→C.H=Hin→C.iu=[]→vals.size=xs.length→(∀(k:Nat) (x:AV),xs[k]? =some x→c4 C x (vals.getD k undef))→
  Calls P f vals C.w (fun e w'=>∃ch C',e=.panicked ch∧R ch∧C'.w=w'∧Mem C C'∧Inv B C'∧C'.H=Hout∧C'.iu=[])

section
variable {P:Program} {W0:bS} {C:Ctx} {fr:Fr} {a:Act} {H:Heap} {o:Oper} {N:Nat} {ops:Array Oper} {Q:Exit→St→Prop} {R:List PanicEntry→Prop}

theorem KP{x:Operand}{t:TypeId}{ax:AV}(ho:o.op=.panic x)(hx:aD fr x=some (.ifc t ax)):V9 P W0 o fr H H:=by
 intro C a hI hH hop K Q hQ;have hr:=aQ (hop x (by simp[ho,Op.operands])) hx;generalize hu:a.eval x=ux at hr;cases hr;rename_i v hv;unfold Oper.wp;have:(execOp a.eval o).run P C.w=.halt (.panic (.iface t v)) C.w:=by
  simp_all [execOp,Instr.panic]
 rw[this,Oper.upon_panic];exact hQ _ C ⟨_,_,rfl⟩ (.refl C) hI hH

def CE(t:TypeId)(v:Value)(ch:List PanicEntry):Prop:=ch=[{v:=.iface t v,recovered:=false}]
theorem Qb{x:Operand}{t:TypeId}{ax:AV}{v:Value}(ho:o.op=.panic x)(hx:aD fr x=some (.ifc t ax))(hv:ax.Xv=some v):V9 P W0 o fr H H (CE t v):=by
 intro C a hI hH hop K Q hQ;have hr:=aQ (hop x (by simp[ho,Op.operands])) hx;generalize hu:a.eval x=ux at hr;cases hr;rename_i v' hv';obtain rfl:=bR hv hv';unfold Oper.wp;have:(execOp a.eval o).run P C.w=.halt (.panic (.iface t v')) C.w:=by
  simp_all [execOp,Instr.panic]
 rw[this,Oper.upon_panic];exact hQ _ C rfl (.refl C) hI hH

variable {f:FuncId}
theorem zz{ok:AV→Prop}{args:Array Operand}{tys:Array TypeId}{ys xs:List AV}{r r':AV}{Hs Hin Hout H':Heap}{g m:List (Nat×Nat)}{nw:List Nat}{p:Nat}(ho:o.op=.call {callee:=.value (.func f),args:=args,argTypes:=tys})(hys:args.toList.mapM (aD fr)=some ys)
  (hf:KL P (.pinned W0.w p) f xs Hin Hout R)(h:Pass ok (bN 0 ys) (bN 0 xs) H Hs Hin Hout H' g m nw p r r')(hl:xs.length=ys.length):V9 P W0 o fr H H' R:=by
 intro C a hI hH hop K Q hQ;unfold Oper.wp;rw[pJ ho hf.call,Oper.upon_enter];have MP:=D_ (Qp ho hop) hys;have h1:=h.agZ hI hH MP.1 MP.2;have h2:Inv (.pinned W0.w p) (C.sub Hs Hin g p):=h1.inv.aaQ (W0:=W0) rfl rfl (of_decide_eq_true h.Su) rfl trivial;refine(hf.runs (C.sub Hs Hin g p) _ h2 rfl rfl (by omega) (fun k x hx=>vt (Ap h1 k x hx))).mono ?_;rintro e w' ⟨ch,C2,rfl,hch,rfl,hM,Hl,X0,H9⟩;obtain⟨q1,q2,_⟩:=h.aam (B1:=.pinned W0.w p) hI hH rfl hM Hl X0 H9;exact hQ ch (C.back C2 H') hch q1 q2 rfl

theorem KO{args:Array Operand}{tys:Array TypeId}{xs:List AV}{Hout:Heap}(ho:o.op=.call {callee:=.value (.func f),args:=args,argTypes:=tys})(hxs:args.toList.mapM (aD fr)=some xs)(hno:∀x∈xs,bQ x)(hf:KL P (.pinned W0.w 0) f xs .empty Hout R):V9 P W0 o fr H H R:=by
 intro C a hI hH hop K Q hQ
 unfold Oper.wp
 rw[pJ ho hf.call,Oper.upon_enter]
 obtain⟨m1,m2⟩:=Ce args.toList xs hxs
 have MM:Inv (.of W0.w) (C.bare (fun b=>C.cI b∨C.own b)):=hI.bare (fun b hb=>by
  rcases hb with h|h
  ·exact hI.dU b h
  ·exact hI.G0 h) (fun b hb=>by
  rcases hb with h|h
  ·exact hI.eG b h
  ·exact hI.LX h)
 have hrep:∀(k:Nat) (x:AV),xs[k]? =some x→c4 (C.bare (fun b=>C.cI b∨C.own b)) x ((args.map a.eval).getD k undef):=fun k x hx=>by
  obtain⟨y,g1,g2⟩:=m2 k x hx
  have hy:args[k]? =some y:=by grind
  have hlt:k<(args.map a.eval).size:=by grind
  have e:(args.map a.eval).getD k undef=a.eval y:=by
   simp_all
  rw[e]
  have hmem:y∈o.op.operands:=by grind [Op.operands,Call.operands]
  exact(aQ (hop y hmem) g2).bare (hno x (ad7 hx)) (fun b hb h=>hb (h.elim .inr .inl))
 refine(hf.runs _ (args.map a.eval) MM rfl rfl (by grind) hrep).mono ?_
 rintro e w' ⟨ch,C1,rfl,hch,rfl,hM,hI',_,_⟩
 have hB:Below C.w.heap.size C.w C1.w:=⟨hM.below.os,hM.below.tape,hM.below.output,hM.below.size,fun k hk=>hM.keep k hk (zB _ k)⟩
 exact hQ ch (C.uG C1.w) hch (dh hB) (hI.uG hB) hH

theorem PT{l1:List Oper}{rest:List Oper}{fr':Fr}{H' Hp:Heap}(h:Hq P W0 ops l1 fr H fr' H')(hN:∀o∈l1,jb N o=true)(hd:∀c,o.op≠.defer c)(hw:dO ops fr' o=some true)(hp:V9 P W0 o fr' H' Hp R):
  ∀(C:Ctx) (a:Act) (Q:Exit→Act→World→Prop),Rel W0 N fr H C a→
  (∀ch C' a',R ch→Mem C C'→Rel W0 N fr' Hp C' a'→Q (.panic ch) a' C'.w)→wpListIn (Fw W0.ro) 0 P ops Q (l1++o::rest) a C.w:=by
 induction h with
 |nil fr H=>
  intro C a Q hr hQ
  show wpListIn (Fw W0.ro) 0 P ops Q (o::rest) a C.w
  unfold wpListIn
  rw[kG hr.rep hw]
  refine pQ hd (hp C a hr.inv hr.heap (fun x _ t _ av hav=>hr.rep t av hav) _ _ (fun ch C' hch hE hi hH=> ?_))
  exact hQ ch C' a hch hE.mem ⟨hH,hi,hr.size,by rw[hE.iu];exact hr.defers,fun t x hx=>(hr.rep t x hx).ext hE⟩
 |skip Q2 _ ih=>
  intro C a Q hr hQ
  rw[ajF]
  unfold wpListIn
  rw[kG hr.rep Q2]
  exact⟨fun _ _=>trivial,ih (fun o ho=>hN o (adU _ ho)) hw hp C _ Q (hr.put (.refl C) hr.inv hr.heap IB (jb.lt (hN _ (ad2 ..)))) hQ⟩
 |op Q2 hop _ ih=>
  intro C a Q hr hQ
  rw[ajF]
  unfold wpListIn
  rw[kG hr.rep Q2]
  refine pQ (jb.ZW (hN _ (ad2 ..))) (hop C a hr.inv hr.heap (fun x _ t _ av hav=>hr.rep t av hav) _ _ (fun v C' he hi hH hv=> ?_))
  exact ih (fun o ho=>hN o (adU _ ho)) hw hp C' _ Q (hr.put he hi hH hv (jb.lt (hN _ (ad2 ..)))) (fun ch C2 a2 hch h2=>hQ ch C2 a2 hch (he.mem.trans h2))
 |opI Q2 hop _ ih=>
  intro C a Q hr hQ
  rw[ajF]
  unfold wpListIn
  rw[kG hr.rep Q2]
  refine hop C a hr.inv hr.heap (fun x _ t _ av hav=>hr.rep t av hav) _ _ (fun v C' he hi hH hv=> ?_)
  exact ih (fun o ho=>hN o (adU _ ho)) hw hp C' _ Q (hr.put he hi hH hv (jb.lt (hN _ (ad2 ..)))) (fun ch C2 a2 hch h2=>hQ ch C2 a2 hch (he.mem.trans h2))
 |drop hk _ ih=>
  intro C a Q hr hQ
  exact ih hN hw hp C a Q ⟨hr.heap,hr.inv,hr.size,hr.defers,fun t x hx=>hr.rep t x (hk t x hx)⟩ hQ

theorem s9{id:Nat}{frl:List (Nat×AV)}(k:Nat){l:List Oper}{Hp:Heap}(hk:l[k]? =some o)(hN:(l.take k).all (jb N)=true)(hd:(match o.op with|.defer _=>false|_=>true)=true)
  (h:AR P W0 l.toArray (l.take k) frl H (fun f g=>dO l.toArray (lk f) o=some true∧V9 P W0 o (lk f) g Hp R∧∀ch,R ch→Q (.panic ch) ⟨f,Hp⟩)):iD P W0 N (.region id l.toArray false) ⟨frl,H⟩ Q:=fun C a hr=>by
 obtain⟨fr',H',h1,h2,h3,hQ⟩:=h
 have e:l=l.take k++o::l.drop (k+1):=by
  grind [List.getElem_cons_drop,aeW]
 refine wpIn_region_lit ?_
 have:=PT (rest:=l.drop (k+1)) h1 (fun o ho=>List.all_eq_true.1 hN o ho) (fun c hc=>by grind) h2 h3 C a (Ya W0 N C Q) hr (fun ch C' a' hch hm hrel=>⟨⟨fr',Hp⟩,C',rfl,hm,hrel,hQ ch hch⟩)
 grind

theorem zc{B:bS}{fn:Func}{c:Code}{xs:List AV}{Hin Hr:Heap}(hro:B.ro=none)(hf:P.funcs[f]? =some fn)(hb:fn.body=some c)(hname:(fn.name== "runtime.NumGoroutine")=false)(hN:fn.ntmps=N)(hxN:xs.length≤N)
  (h:iD P B N c ⟨bN 0 xs,Hin⟩ (fun e s=>(∃ch,e=.panic ch∧R ch)∧b8 B N s ⟨[],Hr⟩))(hdx:B.dx=[]:=by rfl):KL P B f xs Hin Hr R where
 call:=iF hf hname hb
 runs C vals hI hH hd hsz hrep:=by
  refine(callsIn_wide (n:=0)).1 (callsIn_of_wp_marks hf hb trivial ?_)
  have hrel:=JB (W0:=B) hI hH hd hN hxN hsz hrep hdx
  have key:=h C _ hrel
  rw[hro,xh] at key
  refine wpIn_mono key fun e a' w' ⟨s,C',g1,g2,g3,⟨ch,g4,g5⟩,g6⟩=> ?_
  subst g1 g4
  obtain⟨C3,q1,q2,q3⟩:=g6 C' a' g3
  show LeavesInM Fence.wide 0 P fn a'.tmps _ a'.defers (.panicking ch) C'.w
  rw[←q1,q3.defers,hdx]
  refine drain (W0:=B) (u:=.panicking ch) (by simp) (ds:=[]) (Q:=fun C2=>Inv B C2∧C2.H=Hr∧Mem C C2) (fun C2 hq H9=> ?_) C3.iu C3 rfl q3.inv q3.heap (fun C2 h1 h2 h3 h4 h5 h6=>⟨h4,h1.trans q3.heap,(g2.trans q2).trans h3⟩)
  exact⟨ch,C2,rfl,g5,rfl,hq.2.2,hq.1,hq.2.1,H9⟩


@[reducible] def bS.off(W:World)(p:Nat)(ds:List Deferred):bS:=⟨W,p,none,fun _=>True,fun _ _ _ _ _=>trivial,ds⟩

variable {W:World}
theorem Inv.off{B:bS}(hI:Inv B C)(hB:B.w=W)(p:Nat)(ds:List Deferred)(hle:p≤C.H.next):Inv (.off W p ds) {C with nI:=p} where
 fresh:=hI.fresh
 nil:=hI.nil
 obj id es h hn:=by
  have hO:=hI.obj id es h hn;exact⟨hO.n,hO.cap,hO.de,hO.one,hO.flat,fun i j e x v h1 h2 h3=>(hO.cell i j e x v h1 h2 h3).sub rfl (afk _) (fun id es _ h=>⟨es,h⟩) (fun _ _=>rfl) (fun b h=>h)⟩
 sep:=hI.sep
 cI:=hI.cI
 jX:=hI.jX
 dU:=hI.dU
 eG b h:=by subst hB;exact hI.eG b h
 size:=by subst hB;exact hI.size
 gD b h:=by subst hB;exact hI.gD b h
 ec:=hI.ec
 iu:=hI.iu
 BX:=hI.BX
 Cn _ h:=by cases h
 eS:=hI.eS
 lU:=rfl
 fe:=hle
 gh:=trivial

theorem Inv.dx{p:Nat}{ds ds':List Deferred}(h:Inv (.off W p ds) C):Inv (.off W p ds') C:=
 ⟨h.fresh,h.nil,h.obj,h.sep,h.cI,h.jX,h.dU,h.eG,h.size,h.gD,h.ec,h.iu,h.BX,h.Cn,h.eS,h.lU,h.fe,h.gh⟩
theorem Inv.on{p:Nat}{ds:List Deferred}(h:Inv (.off W p ds) C):Inv (.of W) {C with nI:=0}:=
 have k:=h.off (W:=W) rfl 0 [] (afR _)
 ⟨k.fresh,k.nil,k.obj,k.sep,k.cI,k.jX,k.dU,k.eG,k.size,k.gD,k.ec,k.iu,k.BX,k.Cn,k.eS,k.lU,k.fe,k.gh⟩

theorem Mem.af1{C C':Ctx}{q:Nat}(h:Mem {C with nI:=q} C')(h0:C.nI=0):Mem C {C' with nI:=0}:=
 ⟨h.below,h.keep,h.own,h.cI,h0.symm,fun _=>⟨afR _,fun k es' hk _=>by omega⟩⟩

theorem Cy{l:List Oper}{fr':Fr}{H':Heap}(h:Hq P W0 ops l fr H fr' H')(hN:∀o∈l,jb N o=true):∀(C:Ctx) (a:Act) (Q:Exit→Act→World→Prop),Rel W0 N fr H C a→
  (∀C' a',Ext C C'→Rel W0 N fr' H' C' a'→Q .normal a' C'.w)→wpListIn (Fw W0.ro) 0 P ops Q l a C.w:=by
 induction h with
 |nil fr H=>intro C a Q hr hQ;exact hQ C a (.refl C) hr
 |skip hw _ ih=>
  intro C a Q hr hQ
  unfold wpListIn
  rw[kG hr.rep hw]
  exact⟨fun _ _=>trivial,ih (fun o ho=>hN o (adU _ ho)) C _ Q (hr.put (.refl C) hr.inv hr.heap IB (jb.lt (hN _ (ad2 ..)))) hQ⟩
 |op hw hop _ ih=>
  intro C a Q hr hQ
  unfold wpListIn
  rw[kG hr.rep hw]
  refine pQ (jb.ZW (hN _ (ad2 ..))) (hop C a hr.inv hr.heap (fun x _ t _ av hav=>hr.rep t av hav) _ _ (fun v C' he hi hH hv=> ?_))
  exact ih (fun o ho=>hN o (adU _ ho)) C' _ Q (hr.put he hi hH hv (jb.lt (hN _ (ad2 ..)))) (fun C2 a2 h2=>hQ C2 a2 (he.trans h2))
 |opI hw hop _ ih=>
  intro C a Q hr hQ
  unfold wpListIn
  rw[kG hr.rep hw]
  refine hop C a hr.inv hr.heap (fun x _ t _ av hav=>hr.rep t av hav) _ _ (fun v C' he hi hH hv=> ?_)
  exact ih (fun o ho=>hN o (adU _ ho)) C' _ Q (hr.put he hi hH hv (jb.lt (hN _ (ad2 ..)))) (fun C2 a2 h2=>hQ C2 a2 (he.trans h2))
 |drop hk _ ih=>
  intro C a Q hr hQ
  exact ih hN C a Q ⟨hr.heap,hr.inv,hr.size,hr.defers,fun t x hx=>hr.rep t x (hk t x hx)⟩ hQ

abbrev qe(b0 b1 b2:AV):Heap:=⟨3,[(0,(1,[b0])),(1,(1,[b1])),(2,(1,[b2]))],[]⟩
abbrev IA:List (Nat×AV):=[(2,.ref 0 0 0),(3,.ref 1 0 0),(4,.ref 2 0 0)]

def S3:AV→AV→AV→Prop:=fun b0 b1 b2=>∃i j t,b0=J i∧b1=J j∧b2=bl t
structure On (P:Program) (W:World) (g:FuncId) (c0 c1 c2:AV) (R:List PanicEntry→Prop:=Bt) (S:AV→AV→AV→Prop:=S3):Prop where
 call:gO P g
 idle:∀(v0 v1 v2:Value) (w:World),CallsDIn Fence.wide 0 P g #[v0,v1,v2] .returning w fun e u' w'=>(∃v,e=.returned v)∧u'=.returning∧Below w.heap.size w w'
 pan:∀(ch:List PanicEntry) (C:Ctx) (v0 v1 v2:Value) (b0 b1 b2:AV),R ch→S b0 b1 b2→Inv (.off W 3 []) C→C.H=qe b0 b1 b2→C.iu=[]→c4 C (.ref 0 0 0) v0→c4 C (.ref 1 0 0) v1→c4 C (.ref 2 0 0) v2→
  CallsDIn Fence.wide 0 P g #[v0,v1,v2] (.panicking ch) C.w fun e u' w'=>(∃v,e=.returned v)∧settle u'=.returning∧∃C',C'.w=w'∧Ext C C'∧Inv (.off W 3 []) C'∧C'.H=qe c0 c1 c2

theorem Wz{o2:Oper}{g t6:Nat}{w:World}{a:Act}(ho2:o2.op=.defer {callee:=.value (.tmp t6),args:= #[],argTypes:= #[]}){caps:Array Value}(h6:a.tmps.getD t6 undef=.func (.func g) #[] caps):
  (execOp a.eval o2).run P w=.ok (.defer {target:=.fn (.func g) caps,args:= #[]}) w:=by
 simp_all [Act.eval,execOp,resolve,Deferred.ofValue]

set_option maxHeartbeats 1000000 in
theorem JY{f g t6:Nat}{fn:Func}{rest:Code}{i0 i1:Nat}{l0:List Oper}{o1 o2:Oper}{xs:List AV}{r z0 z1 z2 c0 c1 c2:AV}{S:AV→AV→AV→Prop}{frx:List (Nat×AV)}
  (hf:P.funcs[f]? =some fn)(hb:fn.body=some (.seq (.region i0 l0.toArray false) (.seq (.region i1 [o1,o2].toArray false) rest)))(hname:(fn.name== "runtime.NumGoroutine")=false)(hN:fn.ntmps=N)(hxN:xs.length≤N)
  (ho1:o1.op=.makeFunc (.func g) #[] #[.tmp 2,.tmp 3,.tmp 4])(hg1:o1.guard=none)(X2:o1.dst=some t6)(ht6:t6<N)(ht6':lk frx t6=none)
  (ho2:o2.op=.defer {callee:=.value (.tmp t6),args:= #[],argTypes:= #[]})(hg2:o2.guard=none)(H9:o2.dst=none)
  (X3:l0.all (jb N)=true)(h0:AR P (.of W) l0.toArray l0 (bN 0 xs) .empty (fun f K=>uR f frx∧K=qe z0 z1 z2))
  (Zo:lk frx 2=some (.ref 0 0 0))(hx3:lk frx 3=some (.ref 1 0 0))(hx4:lk frx 4=some (.ref 2 0 0))
  (h1:∀ds,iD P (.off W 3 ds) N rest ⟨frx,qe z0 z1 z2⟩ (fun e s=>
   ((e=.normal∨e=.ret)∧∃b0 b1 b2,b8 (.off W 3 ds) N s ⟨IA,qe b0 b1 b2⟩∧Cm P fn.results.toList ⟨IA,qe b0 b1 b2⟩=some r)∨
   ((∃ch,e=.panic ch∧R ch)∧(∃b0 b1 b2,S b0 b1 b2∧b8 (.off W 3 ds) N s ⟨IA,qe b0 b1 b2⟩)∧Cm P fn.results.toList ⟨IA,qe c0 c1 c2⟩=some r)))
  (hR:On P W g c0 c1 c2 R S)(hn:bQ r):oQ P W f xs r where
 call:=iF hf hname hb
 lT:=hn
 runs C vals hI hH hd hsz hrep:=by
  refine(callsIn_wide (n:=0)).1 (callsIn_of_wp_marks hf hb trivial ?_);have hrel:=JB (W0:=.of W) hI hH hd hN hxN hsz hrep rfl;obtain⟨f0,K0,h0,hk0,rfl⟩:=h0;refine wpIn_seq (wpIn_region_lit (Cy h0 (fun o ho=>List.all_eq_true.1 X3 o ho) C _ _ hrel fun C1' a1 e1 k0=> ?_));have m1:Mem C C1':=e1.mem;have hd1':C1'.iu=[]:=e1.iu.trans hd;have k3:Rel (.of W) N (lk frx) (qe z0 z1 z2) C1' a1:=⟨k0.heap,k0.inv,k0.size,k0.defers,fun t x hx=>k0.rep t x (hk0.lk t x hx)⟩
  -- what is put off
  have r2:=k3.rep 2 _ Zo;have r3:=k3.rep 3 _ hx3;have r4:=k3.rep 4 _ hx4;have atw:C1'.nI=0:=k3.inv.lU;have hHx:C1'.H=qe z0 z1 z2:=k3.heap;generalize hv2:a1.tmps.getD 2 undef=v2 at r2;generalize hv3:a1.tmps.getD 3 undef=v3 at r3;generalize hv4:a1.tmps.getD 4 undef=v4 at r4;have aus:(execOp a1.eval o1).run P C1'.w=.ok (.value (.func (.func g) #[] #[v2,v3,v4])) C1'.w:=by
   have e2:a1.tmps[2]?.getD undef=v2:=by simpa using hv2
   have e3:a1.tmps[3]?.getD undef=v3:=by simpa using hv3
   have e4:a1.tmps[4]?.getD undef=v4:=by simpa using hv4
   have hmf:∀(fn:Fn) (first cap:Array Value) (w:World),(Instr.makeFunc fn first cap).run P w=.ok (.func fn first cap) w:=fun _ _ _ _=>rfl;simp only[execOp,ho1];simp[go_sem,e2,e3,e4,hmf]
  generalize hdd:({target:=.fn (.func g) #[v2,v3,v4],args:= #[]}:Deferred)=d;generalize ha2:a1.put o1.dst (.func (.func g) #[] #[v2,v3,v4])=a2;have d6:a2.tmps.getD t6 undef=.func (.func g) #[] #[v2,v3,v4]:=by
   rw[←ha2,X2];simp[Act.put,k3.size,ht6]
  have afU:∀(tmps:Array Value) (C4:Ctx) (H4:Heap),Rel (.off W 3 []) N (lk IA) H4 C4 {tmps:=tmps,defers:=[]}→C4.iu=[]→Mem {C1' with nI:=3} C4→Cm P fn.results.toList ⟨IA,H4⟩=some r→H4.ec=[]→
    ∃v,(results fn tmps).run P C4.w=.ok v C4.w∧∃v' C',Ending.returned v=.returned v'∧C'.w=C4.w∧Ext C C'∧Inv (.of W) C'∧c4 C' r v':=by
   intro tmps C4 H4 hq hd4 hm hres hl;obtain⟨v,g7,g8⟩:=J8 (st:=⟨IA,H4⟩) hq hres;have g9:=Pv hq.inv.on (by exact hd4) (vt g8);obtain⟨C5,q1,q2,q3⟩:=(bE (W0:=.of W) (N:=1) (st:=⟨[(0,r)],C4.H⟩) (fr':=[(0,r)]) (H':=.empty) [] [] rfl rfl rfl trivial ⟨⟨r,rfl,.same r hn⟩,trivial⟩ rfl (by rw[hq.heap];exact hl.symm)) {C4 with nI:=0} _ g9;have m2:Mem C C5:=(m1.trans (hm.af1 atw)).trans q2;refine⟨v,g7,v,C5,rfl,q1, ?_,q3.inv,q3.rep 0 r rfl⟩;refine⟨m2.below,m2.keep,m2.own,by rw[hH];exact afR _,fun id es hi _=> ?_,m2.cI,(r_ q3).trans hd.symm,m2.nI⟩;rw[hH] at hi;exact absurd hi (Nat.not_lt_zero _)
  have amO:Rel (.off W 3 [d]) N (lk frx) (qe z0 z1 z2) {C1' with nI:=3} ({a2 with defers:=d::a2.defers}.put o2.dst undef):=by
   rw[H9];have Hl:=k3.inv.off (W:=W) rfl 3 [d] (by rw[hHx];exact afk 3);refine⟨hHx,Hl, ?_, ?_,fun t x hx=> ?_⟩
   ·rw[←ha2,X2];simp[Act.put,k3.size]
   ·have h5:a2.defers=[]:=by rw[←ha2,X2];simp[Act.put,k3.defers,hd1']
    show d::a2.defers=_;rw[h5,hd1'];rfl
   ·have hne:t≠t6:=fun h=>by rw[h,ht6'] at hx;cases hx
    have e0:a2.tmps.getD t undef=a1.tmps.getD t undef:=by
     rw[←ha2,X2];simp only[Act.put,Array.getD_eq_getD_getElem?];rw[Array.getElem?_setIfInBounds_ne (Ne.symm hne)]
    show c4 _ x (a2.tmps.getD t undef);rw[e0];exact vt (k3.rep t x hx)
  refine wpIn_seq (wpIn_region_lit (wpListIn_plain hg1 fun K hK=> ?_));refine pQ (fun c hc=>by rw[ho1] at hc;cases hc) ?_;unfold Oper.wp;rw[aus,Oper.upon_value,ha2];refine hK _ _ (wpListIn_plain hg2 fun K2 IZ=>⟨fun _ _=>trivial, ?_⟩);have hs:o2.semAt Fence.wide.round a2.eval=execOp a2.eval o2:=rfl;rw[hs,Wz ho2 d6,Oper.uponIn_defer,hdd];refine IZ _ _ ?_;have key:=h1 [d] _ _ amO;refine wpIn_mono key fun e a3 w3 ⟨s,C2,q1,q2,q3,q4⟩=> ?_;subst q1;have rr2:c4 {C1' with nI:=3} (.ref 0 0 0) v2:=vt r2;have rr3:c4 {C1' with nI:=3} (.ref 1 0 0) v3:=vt r3;have rr4:c4 {C1' with nI:=3} (.ref 2 0 0) v4:=vt r4;have hle:Ctx.nI {C1' with nI:=3}≤Heap.next (Ctx.H {C1' with nI:=3}):=by rw[hHx];exact afk 3
  have inv:∀w,(invoke d.target d.args).run P w=.ok (.enter g #[v2,v3,v4]) w:=fun w=>by
   rw[←hdd];exact hR.call _ w
  rcases q4 with⟨hne,b0,b1,b2,hw,hres⟩|⟨⟨ch,rfl,hch⟩,⟨b0,b1,b2,hbs,hw⟩,hres⟩
  ·obtain⟨C3,p1,p2,p3⟩:=hw C2 a3 q3
   have main:LeavesInM Fence.wide 0 P fn a3.tmps (fun e w'=>∃v C',e=.returned v∧C'.w=w'∧Ext C C'∧Inv (.of W) C'∧c4 C' r v) a3.defers .returning C2.w:=by
    rw[←p1,p3.defers];refine drain (u:=.returning) (by simp) (W0:=.off W 3 [d]) (Q:=fun C4=>Rel (.off W 3 []) N (lk IA) (qe b0 b1 b2) C4 {tmps:=a3.tmps,defers:=[]}∧Mem {C1' with nI:=3} C4) (fun C4 hq hd4=> ?_) C3.iu C3 rfl p3.inv p3.heap
     (fun C4 h1 h2 h3 h4 h5 h6=>⟨⟨h1.trans p3.heap,h4.dx,p3.size,by simp[h5],fun t x hx=>h6 x _ (p3.rep t x hx)⟩,(q2.trans p2).trans h3⟩)
    refine⟨by simp,.inr ⟨(fun h=>by cases h),.func g, #[v2,v3,v4],g, #[v2,v3,v4],by rw[←hdd],inv _,fun _ _=>trivial,(hR.idle v2 v3 v4 C4.w).mono ?_⟩⟩;rintro e u' w' ⟨⟨v,rfl⟩,rfl,hB⟩;exact afU a3.tmps (C4.uG w') _ ⟨hq.1.heap,hq.1.inv.uG hB,hq.1.size,hq.1.defers,fun t x hx=>(hq.1.rep t x hx).ext (dh hB)⟩ hd4 (hq.2.trans (dh hB).mem) hres rfl
   rcases hne with rfl|rfl
   ·exact main
   ·exact main
  ·obtain⟨C3,p1,p2,p3⟩:=hw C2 a3 q3
   show LeavesInM Fence.wide 0 P fn a3.tmps _ a3.defers (.panicking ch) C2.w;rw[←p1,p3.defers];refine drain (u:=.panicking ch) (by simp) (W0:=.off W 3 [d]) (Q:=fun C4=>Rel (.off W 3 []) N (lk IA) (qe b0 b1 b2) C4 {tmps:=a3.tmps,defers:=[]}∧Mem {C1' with nI:=3} C4) (fun C4 hq hd4=> ?_) C3.iu C3 rfl p3.inv p3.heap
     (fun C4 h1 h2 h3 h4 h5 h6=>⟨⟨h1.trans p3.heap,h4.dx,p3.size,by simp[h5],fun t x hx=>h6 x _ (p3.rep t x hx)⟩,(q2.trans p2).trans h3⟩)
   refine⟨by simp,.inr ⟨(fun h=>by cases h),.func g, #[v2,v3,v4],g, #[v2,v3,v4],by rw[←hdd],inv _,fun _ _=>trivial,
    (hR.pan ch C4 v2 v3 v4 b0 b1 b2 hch hbs hq.1.inv hq.1.heap hd4 (rr2.mem hq.2 hle (.ref 0 0 0 (show(0:Nat)<3 by decide))) (rr3.mem hq.2 hle (.ref 1 0 0 (show(1:Nat)<3 by decide))) (rr4.mem hq.2 hle (.ref 2 0 0 (show(2:Nat)<3 by decide)))).mono ?_⟩⟩
   rintro e u' w' ⟨⟨v,rfl⟩,hu,C5,rfl,hE,hI5,hH5⟩;show LeavesInM Fence.wide 0 P fn a3.tmps _ [] (settle u') C5.w;rw[hu];exact afU a3.tmps C5 _ ⟨hH5,hI5,hq.1.size,by rw[hE.iu,hd4];rfl,fun t x hx=>(hq.1.rep t x hx).ext hE⟩ (hE.iu.trans hd4) (hq.2.trans hE.mem) hres rfl
end
end Go.Av
end

section
namespace Go.Sh
def q9{α:Type}(a b c d:α):Nat→α
 |0=>a
 |1=>b
 |2=>c
 |_=>d
def sX{α:Type}(k i:Nat)(v a:α):α:=if k=i then v else a
end Go.Sh
namespace Go.Av
open Go
section
variable {P:Program} {W0:bS} {fr:Fr} {H:Heap} {o:Oper}

variable {t:TypeId}{N:Nat}{x i:Operand}{id j:Nat}{es:List AV}{kd:IntKind}{n:Int}
theorem abh{p:Nat}{m:Nat}(h:Sh.lim N n=some m)(ho:o.op=.indexAddr t x i)(hx:aD fr x=some (.ref id p j))(hid:H.get id=some es)(hi:aD fr i=some (.imm (.int kd n)))
  (ht:Hi P t=some (N,1)):b_ P W0 o fr H (.ref id p (j+m)) H:=by
 have:=Hz (P:=P) (W0:=W0) (fr:=fr) (H:=H) ho hx hid hi ht (Sh.xR h).1 (Sh.xR h).2;grind
theorem apa{p:Nat}(m:Nat)(h:n=(m:Int))(ho:o.op=.indexAddr t x i)(hx:aD fr x=some (.ref id p j))(hid:H.get id=some es)(hi:aD fr i=some (.imm (.int kd n)))
  (ht:Hi P t=some (N,1))(hm:m<N:=by decide):b_ P W0 o fr H (.ref id p (j+m)) H:=
 abh (n:=n) (m:=m) (by simp_all [Sh.lim]) ho hx hid hi ht
variable {α:Type}{fl:List AV}{k:Nat}{a b c d:α}
theorem OL{f:α→AV}(hc:(fl.drop j).take 4=[f a,f b,f c,f d])(hk:k<4):fl[j+k]? =some (f (Sh.q9 a b c d k)):=by
 have h1:((fl.drop j).take 4)[k]? =fl[j+k]? :=by grind
 rw[←h1,hc]
 match k,hk with
 |0,_=>rfl
 |1,_=>rfl
 |2,_=>rfl
 |3,_=>rfl
variable {xo:Operand}
theorem V1{i:Nat}{e:AV}(f:α→AV)(h:Sh.lim 4 n=some k)(ho:o.op=.load t xo)(hx:aD fr xo=some (.ref id i (j+k)))(hid:H.get id=some es)(he:es[i]? =some e)
  (hc:(e.flat.drop j).take 4=[f a,f b,f c,f d])(ht:Dw P t=some (1,false)):b_ P W0 o fr H (f (Sh.q9 a b c d k)) H:=
 cu ho hx hid he ht (OL hc (Sh.xR h).2)
theorem R2{yo:Operand}{i:Nat}{S_:List AV}{e:AV}(f:α→AV){v:α}{e2:List AV}(h:Sh.lim 4 n=some k)(ho:o.op=.store t xo yo)(hx:aD fr xo=some (.ref id i (j+k)))(hy:aD fr yo=some (f v))(hsol:(f v).b6=true)(hfl:(f v).flat=[f v])(hid:H.get id=some es)(he:es[i]? =some e)
  (hc:(e.flat.drop j).take 4=[f a,f b,f c,f d])(ht:Dw P t=some (1,false))(he2:e.flat.take j++[f (Sh.sX k 0 v a),f (Sh.sX k 1 v b),f (Sh.sX k 2 v c),f (Sh.sX k 3 v d)]++e.flat.drop (j+4)=e2)(hes:es.set i (.agg e2)=S_):b_ P W0 o fr H .any (H.set id S_):=by
 subst hes;have hk:=(Sh.xR h).2;have hlen:j+4≤e.flat.length:=by
  have:=congrArg ajL hc;grind
 refine bX (e':=.agg e2) ho hx hy hsol hid he ht (by grind) (by omega) ?_;show e2=_;rw[←he2,hfl];have hs:e.flat=e.flat.take j++[f a,f b,f c,f d]++e.flat.drop (j+4):=by
  grind [List.drop_drop,aeW]
 have hj:(e.flat.take j).length=j:=by grind
 generalize e.flat.take j=A at hs hj ⊢;generalize e.flat.drop (j+4)=B at hs ⊢;rw[hs];subst hj;have d4:∀m,ajG (A.length+m) (A++[f a,f b,f c,f d]++B)=ajG m ([f a,f b,f c,f d]++B):=fun m=>by simp_all
 have t4:∀m,ajW (A.length+m) (A++[f a,f b,f c,f d]++B)=A++ajW m ([f a,f b,f c,f d]++B):=fun m=>by grind [List.take_length_add_append]
 rw[t4,afe,d4]
 match k,hk with
 |0,_=>simp[Sh.sX]
 |1,_=>simp[Sh.sX]
 |2,_=>simp[Sh.sX]
 |3,_=>simp[Sh.sX]
theorem aey{m:Nat}(h:Sh.lim N n=some m)(ho:o.op=.indexAddr t x i)(hx:aD fr x=some (.pp fl j))(hi:aD fr i=some (.imm (.int kd n)))
  (ht:Hi P t=some (N,1)):b_ P W0 o fr H (.pp fl (j+m)) H:=by
 have:=Ot (P:=P) (W0:=W0) (fr:=fr) (H:=H) ho hx hi ht (Sh.xR h).1 (Sh.xR h).2;grind
theorem RY(f:α→AV)(h:Sh.lim 4 n=some k)(ho:o.op=.load t xo)(hx:aD fr xo=some (.pp fl (j+k)))
  (hc:(fl.drop j).take 4=[f a,f b,f c,f d])(ht:Dw P t=some (1,false)):b_ P W0 o fr H (f (Sh.q9 a b c d k)) H:=
 mO ho hx ht (OL hc (Sh.xR h).2)
theorem abi{e:TypeId}(f:α→AV)(h:Sh.lim 4 n=some k)(ho:o.op=.index t x i)(hx:aD fr x=some (.agg [f a,f b,f c,f d]))(hi:aD fr i=some (.imm (.int kd n)))
  (ht:P.underlying t=some (.array 4 e))(hs:Dw P e=some (1,false)):b_ P W0 o fr H (f (Sh.q9 a b c d k)) H:=
 .cz fun C a0 _ _ hop=>by
  have h1:=aQ (hop x (by simp[ho,Op.operands])) hx
  have h2:=bR (v:=.int kd n) rfl (aQ (hop i (by simp[ho,Op.operands])) hi)
  obtain⟨hn,hk⟩:=Sh.xR h
  generalize hu:a0.eval x=u at h1
  cases h1
  case agg vs hone hsz Lz=>
   have g1:[f a,f b,f c,f d][k]? =some (f (Sh.q9 a b c d k)):=by
    have:=OL (f:=f) (fl:=[f a,f b,f c,f d]) (j:=0) rfl hk
    grind
   refine⟨vs.getD k undef, ?_,Lz k _ g1⟩
   obtain⟨s1,s2⟩:=AE hs C.w
   have hlt:k<vs.size:=by grind
   have e1:(asIntOf (.int kd n)).run P C.w=.ok (kd,n) C.w:=rfl
   have e2:(part e vs (k*1)).run P C.w=.ok (vs.getD k undef) C.w:=by
    simp_all [part]
   simp only[execOp,ho,hu,h2]
   have e3:(Instr.index t (.agg vs) (.int kd n)).run P C.w=.ok (vs.getD k undef) C.w:=by
    unfold Instr.index
    rw[Sem.run_bind,e1]
    simp only[Result.andThen_ok]
    simp_all [run_underlying]
   simp_all
theorem RL(P:Program)(d:Nat)(e t:TypeId)(a0 a1 a2 a3 b0 b1 b2 b3:Int)(w:World)(hu:P.underlying t=some (.array 4 e))(hue:P.underlying e=some (.int .i64))(s1:Sem.run P (sizeOf e) w=Result.ok 1 w):(Op.equalIn (d+2) t (.agg #[.int .i64 a0,.int .i64 a1,.int .i64 a2,.int .i64 a3]) (.agg #[.int .i64 b0,.int .i64 b1,.int .i64 b2,.int .i64 b3])).run P w=.ok (decide ([a0,a1,a2,a3]=[b0,b1,b2,b3])) w:=by
 have hp:∀(cs:Array Value) (k:Nat) (v:Value),cs[k]? =some v→(part e cs k).run P w=.ok v w:=fun cs k v h=>Iw hue h w;have q:∀a b,(Op.equalIn (d+1) e (.int .i64 a) (.int .i64 b)).run P w=.ok (a==b) w:=fun a b=>run_equalIn_int w d e .i64 .i64 a b hue;unfold Op.equalIn;rw[Sem.run_bind,run_underlying hu];simp only[Result.andThen_ok];simp only[Std.Legacy.Range.forIn_eq_forIn_range',Std.Legacy.Range.size];simp only[Nat.sub_zero,Nat.reduceAdd,Nat.reduceSub,Nat.reduceDiv,List.range',List.forIn_cons,List.forIn_nil];by_cases h0:a0=b0
 ·by_cases h1:a1=b1
  ·by_cases h2:a2=b2
   ·by_cases h3:a3=b3
    ·simp_all
    simp_all
   simp_all
  simp_all
 simp_all

theorem ao_{e t':TypeId}{y:Operand}{a0 a1 a2 a3 b0 b1 b2 b3:Int}(ht:P.underlying t=some (.array 4 e))(hc:(Dw P e==some (1,false)&&(match P.underlying e with|some (.int .i64)=>true|_=>false)&& !P.eqGuardType P.depth t)=true)(ho:o.op=.binOp .eql t x y t')(hx:aD fr x=some (.agg [J a0,J a1,J a2,J a3]))(hy:aD fr y=some (.agg [J b0,J b1,J b2,J b3])):
  b_ P W0 o fr H (bl (decide ([a0,a1,a2,a3]=[b0,b1,b2,b3]))) H:=
 .cz fun C a _ _ hr=>by
  have e1:=Cl (l:=[a0,a1,a2,a3]) (aQ (hr x (by simp[ho,Op.operands])) hx);have e2:=Cl (l:=[b0,b1,b2,b3]) (aQ (hr y (by simp[ho,Op.operands])) hy);simp only[aiq,beq_iff_eq,ajh] at hc;obtain⟨⟨hs,hi⟩,hg⟩:=hc;have hue:P.underlying e=some (.int .i64):=by
   grind
  have h1:=RL P 9998 e t a0 a1 a2 a3 b0 b1 b2 b3 C.w ht hue (AE hs C.w).1;refine⟨.bool (decide ([a0,a1,a2,a3]=[b0,b1,b2,b3])), ?_,.imm _ rfl⟩;simp_all [execOp,run_eqGuard_agg,run_eql_struct]
end
end Go.Av
end

section
namespace Go.Sh
def eC(c:UInt8):List UInt8→List (List UInt8)
 |[]=>[[]]
 |b::l=>if b=c then []::eC c l else match eC c l with
  |[]=>[[b]]
  |w::ws=>(b::w)::ws
def split(s sep:List UInt8):Option (List (List UInt8)):=match sep with
 |[c]=>if s.length<4294967281 then some (eC c s) else none
 |_=>none
theorem JE(c:UInt8):∀s,eC c s≠[]
 |[]=>by simp[eC]
 |b::l=>by
  grind [eC]
open Go.Lib in
theorem Ac(b c:UInt8)(l:List UInt8):Lib.index (b::l) [c]=if b=c then 0 else if Lib.index l [c]= -1 then -1 else Lib.index l [c]+1:=by
 rw[Lib.index];by_cases h:b=c
 ·subst h;simp[ajK]
 ·simp[ajK,h,Ne.symm h]
open Go.Lib in
theorem Mp(c:UInt8):∀(s:List UInt8),Lib.splitK [c] 0 (s.count c) s=eC c s
 |[]=>rfl
 |b::l=>by
  have ih:=Mp c l;by_cases h:b=c
  ·subst h
   rw[List.count_cons_self];unfold Lib.splitK eC;rw[if_neg (by rw[Ac];simp),Ac];simp[ih]
  ·rw[List.count_cons_of_ne (by simpa using h)]
   unfold eC;rw[if_neg h,←ih];cases hn:l.count c with
   |zero=>rfl
   |succ n=>
    have hm:Lib.index l [c]≠ -1:=fun e=>by
     have:=Lib.count_one c l;rw[Lib.count_miss e] at this;omega
    have hge:=Lib.index_ge l [c];unfold Lib.splitK;have e1:Lib.index (b::l) [c]=Lib.index l [c]+1:=by rw[Ac,if_neg h,if_neg hm]
    rw[e1];have h1:¬(Lib.index l [c]+1== -1)=true:=by simp;omega
    have h2:¬(Lib.index l [c]== -1)=true:=by simpa using hm
    rw[if_neg h1,if_neg h2];have e2:(Lib.index l [c]+1).toNat=(Lib.index l [c]).toNat+1:=by omega
    simp[e2]
end Go.Sh
namespace Go.Av
@[simp] theorem ads(b:ByteArray):bQ (AV.Ch (.string b)):=.imm _
open Go
open Go.RowKit (Below)
section
variable {P:Program} {W0:bS} {fr:Fr} {H:Heap} {o:Oper}
variable {x:Operand}
theorem Yn{y z:Operand}{tys:Array TypeId}{a b c:Int}(ho:o.op=.call {callee:=.builtin .min,args:= #[x,y,z],argTypes:=tys})(hx:aD fr x=some (J a))(hy:aD fr y=some (J b))(hz:aD fr z=some (J c)):b_ P W0 o fr H (J (Sh.min (Sh.min a b) c)) H:=
 .cz fun C a0 _ _ hr=>by
  have e1:=bR (v:=.int .i64 a) rfl (aQ (hr x (by simp[ho,Op.operands,Call.operands])) hx);have e2:=bR (v:=.int .i64 b) rfl (aQ (hr y (by simp[ho,Op.operands,Call.operands])) hy);have e3:=bR (v:=.int .i64 c) rfl (aQ (hr z (by simp[ho,Op.operands,Call.operands])) hz);obtain⟨cs,hb⟩:=je (P:=P) ho a0;refine⟨.int .i64 (Sh.min (Sh.min a b) c), ?_,.imm _ rfl⟩;rw[hb];have e:(#[x,y,z].map a0.eval)= #[.int .i64 a,.int .i64 b,.int .i64 c]:=by grind
  rw[e];rfl
theorem Uh{t:TypeId}{lo hi:Option Operand}{s r:List UInt8}{i j:Int}(h:Sh.sub s i j=some r)(ho:o.op=.slice t x lo hi none)(hx:aD fr x=some (dP s))(hlo:(lo=none∧i=0)∨∃y k,lo=some y∧aD fr y=some (.imm (.int k i)))(hhi:(hi=none∧j=Sh.len s)∨∃y k,hi=some y∧aD fr y=some (.imm (.int k j)))
  (hu:P.underlying t=some .string):b_ P W0 o fr H (dP r) H:=
 .cz fun C a _ _ hr=>by
  have e1:=tZ (aQ (hr x (by simp[ho,Op.operands])) hx);obtain⟨m,k,rfl,rfl,h1,h2,rfl⟩:=Sh.Fg h;refine⟨.string ⟨((s.drop m).take (k - m)).toArray⟩, ?_,.imm _ rfl⟩;rcases hlo with⟨rfl,h0⟩|⟨y,kk,rfl,hy⟩ <;> rcases hhi with⟨rfl,h9⟩|⟨z,kz,rfl,hz⟩
  ·have hk:k=s.length:=by grind
   simp_all [execOp,Instr.sliceAt,Instr.slice,Instr.sliceBounds,run_underlying]
  ·have e2:=bR (v:=.int kz k) rfl (aQ (hr z (by simp[ho,Op.operands])) hz)
   simp_all [execOp,Instr.sliceAt,Instr.slice,Instr.sliceBounds,Instr.sliceBound,asIntOf,run_underlying,Ct,Bo]
  ·have hk:k=s.length:=by grind
   have e2:=bR (v:=.int kk m) rfl (aQ (hr y (by simp[ho,Op.operands])) hy);simp_all [execOp,Instr.sliceAt,Instr.slice,Instr.sliceBounds,Instr.sliceBound,asIntOf,run_underlying,Ct,Bo]
  ·have e2:=bR (v:=.int kk m) rfl (aQ (hr y (by simp[ho,Op.operands])) hy)
   have e3:=bR (v:=.int kz k) rfl (aQ (hr z (by simp[ho,Op.operands])) hz);simp_all [execOp,Instr.sliceAt,Instr.slice,Instr.sliceBounds,Instr.sliceBound,asIntOf,run_underlying,Ct,Bo]
structure UE (P:Program) (f g t:Nat):Prop where
 call:gO P f
 is:∀(s sep:ByteArray) (m:Int) (w:World),s.size<4294967281→w.cell? ⟨g,0,none⟩=some (.int .i64 m)→1≤sep.size→Calls P f #[.string s,.string sep] w fun e w'=>
   e=.returned (.slice (some ⟨w.heap.size,0,none⟩) (Lib.countB s sep+1) (Lib.countB s sep+1))∧w'=w.alloc (.cells ((Lib.splitB sep 0 (Lib.countB s sep) s).map Value.string).toArray t)
theorem WI{W0:World}{f g t:Nat}(hf:UE P f g t){m:Int}(hm:W0.cell? ⟨g,0,none⟩=some (.int .i64 m)){s sep:List UInt8}{r:List (List UInt8)}(h:Sh.split s sep=some r):oQ P W0 f [dP s,dP sep] (.sl (r.map dP)) where
 call:=hf.call
 lT:=by simp
 runs C vals hI hH hd hsz hrep:=by
  unfold Sh.split at h;split at h
  ·rename_i c
   split at h
   ·cases h
    have hg:g<W0.heap.size:=by
     grind [World.cell?]
    have hmC:C.w.cell? ⟨g,0,none⟩=some (.int .i64 m):=by
     rw[World.cell?_of_block (w:=W0) (a:=⟨g,0,none⟩) (hI.gD g hg).1];exact hm
    have e0:=tZ (hrep 0 _ rfl);have e1:=tZ (hrep 1 _ rfl);have ev:vals= #[.string ⟨s.toArray⟩,.string ⟨#[c]⟩]:=by
     apply aj0;grind [CV]
    subst ev;have hs:(⟨s.toArray⟩:ByteArray).size<4294967281:=by assumption
    refine(hf.is ⟨s.toArray⟩ ⟨#[c]⟩ m C.w hs hmC (afk 1)).mono ?_;rintro e w' ⟨rfl,rfl⟩;have hB:=xE C.w (.cells ((Lib.splitB ⟨#[c]⟩ 0 (Lib.countB ⟨s.toArray⟩ ⟨#[c]⟩) ⟨s.toArray⟩).map Value.string).toArray t);have X2:=Lib.splitB_data ⟨#[c]⟩ 0 (Lib.countB ⟨s.toArray⟩ ⟨#[c]⟩) ⟨s.toArray⟩;have hcnt:Lib.countB ⟨s.toArray⟩ ⟨#[c]⟩=s.count c:=by
     grind [Lib.count_one]
    rw[hcnt] at X2 hB ⊢;have H9:(Lib.splitB ⟨#[c]⟩ 0 (s.count c) ⟨s.toArray⟩).map (·.data.toList)=Sh.eC c s:=by grind [Sh.Mp]
    have hl:=Lib.splitB_all ⟨#[c]⟩ (afk 1) 0 (s.count c) ⟨s.toArray⟩ hcnt;generalize Lib.splitB ⟨#[c]⟩ 0 (s.count c) ⟨s.toArray⟩=B at H9 hl hB ⊢;have hlr:(Sh.eC c s).length=s.count c+1:=by grind
    refine⟨_,C.uG _,rfl,rfl,dh hB,hI.uG hB, ?_⟩;rw[←hlr,show(Sh.eC c s).length=((Sh.eC c s).map dP).length by simp];have hcell:∀(i:Nat) (x:List UInt8),(Sh.eC c s)[i]? =some x→(C.w.alloc (.cells (B.map Value.string).toArray t)).cell? ⟨C.w.heap.size,i,none⟩=some (.string ⟨x.toArray⟩):=fun i x hx=>by
     rw[←H9,ab_,ae5] at hx;obtain⟨b,hb,rfl⟩:=hx;simp_all
    refine .sl _ C.w.heap.size 0 1 _ (fun i _=>.string ⟨((Sh.eC c s).getD i []).toArray⟩) (by show _<(C.w.alloc _).heap.size;simp_all) ?_ (afk _) (fun i e he=> ?_) (fun i j e x he hx=> ?_) (fun i j e x he hx=> ?_)
    ·rintro(h1|h1)
     ·exact Ci (C:=C.uG _) hH hd _ h1
     ·exact absurd (hI.dU _ h1) (Nat.lt_irrefl _)
    ·simp only[ab_,ae5] at he
     obtain⟨x,_,rfl⟩:=he;rfl
    ·simp only[ab_,ae5] at he
     obtain⟨y,hy,rfl⟩:=he;have hj:j=0:=by
      grind [AV.flat]
     subst hj;have:(Sh.eC c s).getD i []=y:=by grind
     rw[this];refine⟨?_,rfl⟩;have:=hcell i y hy;rw[show 0+i*1+0=i by omega];exact this
    ·simp only[ab_,ae5] at he
     obtain⟨y,hy,rfl⟩:=he;have hj:j=0:=by
      grind [AV.flat]
     subst hj;have:(Sh.eC c s).getD i []=y:=by grind
     rw[this];simp only[AV.flat,List.getElem?_cons_zero,Option.some.injEq] at hx;subst hx;exact .imm _ rfl
   ·cases h
  ·cases h
def SC(W0:World)(g:Nat)(l:List (List UInt8)):Prop:=∀(j:Nat) (x:List UInt8),l[j]? =some x→W0.cell? ⟨g,j,none⟩=some (.string ⟨x.toArray⟩)
theorem RZ{t g n:Nat}{l:List (List UInt8)}(hT:SC W0.w g l)(h0:l≠[])(ho:o.op=.load t (.global g))(ht:Dw P t=some (n,true))(hn:l.length=n):b_ P W0 o fr H (.agg (l.map dP)) H:=
 .cz fun C a hI _ _=>by
  have hg:g<W0.w.heap.size:=by
   obtain⟨x,l',rfl⟩:=List.exists_cons_of_ne_nil h0;have:=hT 0 x rfl;grind [World.cell?]
  have hblk:=hI.gD g hg;have hx:a.eval (.global g)=.pointer (some ⟨g,0,none⟩):=rfl;have hc:AU C g 0 (l.map dP):=fun k x hk=>by
   simp only[ab_,ae5] at hk;obtain⟨y,hy,rfl⟩:=hk;refine⟨.string ⟨y.toArray⟩,⟨?_,rfl⟩,.imm _ rfl⟩;rw[Nat.zero_add,World.cell?_of_block (w:=W0.w) (a:=⟨g,k,none⟩) hblk.1];exact hT k y hy
  have hp:qF (l.map dP) 0 n true=some (.agg (l.map dP)):=by
   simp_all [qF,aha]
  obtain⟨v,h4,h5⟩:=qI ht hc hp;simp_all [execOp,Instr.loadAt,Instr.sureAddr]
theorem abj{t e:TypeId}{i:Operand}{n:Int}{N:Nat}{kd:IntKind}{α:Type}(f:α→AV){l:List α}{y:α}(h:Sh.idx l n=some y)(hN:l.length=N)(ho:o.op=.index t x i)(hx:aD fr x=some (.agg (l.map f)))(hi:aD fr i=some (.imm (.int kd n)))
  (ht:P.underlying t=some (.array N e))(hs:Dw P e=some (1,false)):b_ P W0 o fr H (f y) H:=
 .cz fun C a0 _ _ hop=>by
  have h1:=aQ (hop x (by simp[ho,Op.operands])) hx
  have h2:=bR (v:=.int kd n) rfl (aQ (hop i (by simp[ho,Op.operands])) hi)
  obtain⟨k,hn,hk⟩:=Sh.jo h
  generalize hu:a0.eval x=u at h1
  cases h1
  case agg vs hone hsz Lz=>
   have g1:(l.map f)[k]? =some (f y):=by simp[hk]
   have hlt:k<vs.size:=by grind
   have hkN:k<N:=by grind
   refine⟨vs.getD k undef, ?_,Lz k _ g1⟩
   obtain⟨s1,s2⟩:=AE hs C.w
   have e1:(asIntOf (.int kd n)).run P C.w=.ok (kd,n) C.w:=rfl
   have e2:(part e vs (k*1)).run P C.w=.ok (vs.getD k undef) C.w:=by
    simp_all [part]
   simp_all [execOp,Instr.index,run_underlying]
end
end Go.Av
end

section
namespace Go.Sh
variable {κ β:Type} [DecidableEq κ]
def cD(k:κ):List (κ×β)→Option β
 |[]=>none
 |e::L=>if k=e.1 then some e.2 else cD k L
def nC(k:κ)(b:β):List (κ×β)→List (κ×β)
 |[]=>[(k,b)]
 |e::L=>if k=e.1 then(e.1,b)::L else e::nC k b L
def Il(k:κ):List (κ×β)→List (κ×β)
 |[]=>[]
 |e::L=>if k=e.1 then L else e::Il k L
end Go.Sh
namespace Go.Av
open Go
open Go.RowKit (Below)
variable {κ:Type}
def FT [DecidableEq κ] (k:κ):List (κ×Value)→Nat→Option (Nat×Value)
 |[],_=>none
 |e::es,i=>if k=e.1 then some (i,e.2) else FT k es (i+1)
structure Kb (P:Program) (kt:TypeId) {κ:Type} [DecidableEq κ] (kv:κ→Value):Prop where
 chk:∀em k w,(Instr.checkKey em 10000 kt (kv k)).run P w=.ok () w
 find:∀(k:κ) (w:World) (L:List (κ×Value)) (es:List MapEntry),es.map (fun e=>(e.key,e.val))=L.map (fun e=>(kv e.1,e.2))→(Instr.findKey kt (kv k) es).run P w=.ok (FT k L 0) w
 same:∀k,Instr.sameBits 10000 (kv k) (kv k)=true
 nf:∀k,kv k≠.nilFunc
variable {P:Program}{kt:TypeId}{β:Type}
theorem Kb.no [DecidableEq κ] {kv:κ→Value}(h:Kb P kt kv)(vv:β→Value)(L:List (κ×β)):Om (L.map fun e=>(kv e.1,vv e.2)):=fun q hq=>by
 obtain⟨e,_,rfl⟩:=List.mem_map.1 hq;exact h.nf _
def Gj(n:Int):Value:=.int .i64 n
def Tq(b:Bool):Value:=.bool b
theorem ZC(hu:P.underlying kt=some (.int .i64)):Kb P kt Gj where
 chk em k w:=by
  rw[show(10000:Nat)=9999+1 from rfl,Instr.checkKey];simp_all [run_underlying]
 find k w L es h:=by
  have key:∀(L:List (Int×Value)) (es:List MapEntry) (i:Nat),es.map (fun e=>(e.key,e.val))=L.map (fun e=>(Gj e.1,e.2))→Instr.findNow (.int .i64) (Gj k) es i=some (FT k L i):=by
   intro L
   induction L with
   |nil=>intro es i h;cases es with
    |nil=>rfl
    |cons _ _=>simp at h
   |cons e L ih=>intro es i h;cases es with
    |nil=>simp at h
    |cons m es=>
     simp only[ac7,List.cons.injEq,Prod.mk.injEq] at h;obtain⟨⟨h1,h2⟩,h3⟩:=h;unfold Instr.findNow;rw[h1];simp only[Instr.sameNow,Gj,if_true,FT];by_cases hc:k=e.1
     ·grind
     ·have:(k==e.1)=false:=by grind
      simp only[this,hc,if_false];exact ih es (i+1) h3
  unfold Instr.findKey;rw[Sem.run_bind,run_underlying hu];simp only[Result.andThen_ok,key L es 0 h];rfl
 same k:=by simp[Instr.sameBits,Gj]
 nf k:=by simp[Gj]
theorem NK{n:Nat} [DecidableEq κ] {ky:κ→List Int}{kv:κ→Value}(ht:EB P kt n=true)(hi:∀a b,ky a=ky b→a=b)(hn:∀a,(ky a).length=n)(hkv:∀a,kv a=.agg ((ky a).map fun n=>Value.int .i64 n).toArray):Kb P kt kv where
 chk em k w:=by grind [ID]
 find k w L es h:=by
  rw[hkv,run_findKey_eq w (by
   simp only[EB,aiq] at ht;grind)]
  have key:∀(L:List (κ×Value)) (es:List MapEntry) (i:Nat),es.map (fun e=>(e.key,e.val))=L.map (fun e=>(kv e.1,e.2))→(Instr.findAsking kt (.agg ((ky k).map fun n=>Value.int .i64 n).toArray) es i).run P w=.ok (FT k L i) w:=by
   intro L
   induction L with
   |nil=>simp_all [Instr.findAsking,FT]
   |cons e L ih=>intro es i h;cases es with
    |nil=>simp at h
    |cons m es=>
     simp only[ac7,List.cons.injEq,Prod.mk.injEq] at h;obtain⟨⟨h1,h2⟩,h3⟩:=h;have he:=(E5 (P:=P) ht (ky k) (ky e.1) (hn k) (hn e.1) w).1;unfold Instr.findAsking;rw[h1,hkv,Sem.run_bind];have he':(Op.equal kt (.agg ((ky k).map fun n=>Value.int .i64 n).toArray) (.agg ((ky e.1).map fun n=>Value.int .i64 n).toArray)).run P w=.ok (decide (ky k=ky e.1)) w:=he;rw[he'];simp only[Result.andThen_ok,FT];by_cases hc:k=e.1
     ·simp[hc,h2]
     grind
  grind
 same k:=by grind [M0]
 nf k:=by grind
def CC(kv:κ→Value)(vv:β→Value)(L:List (κ×β)):AV:=.fL (L.map fun e=>(kv e.1,vv e.2))
@[simp] theorem anS{κ β:Type}(kv:κ→Value)(vv:β→Value)(L:List (κ×β)):bQ (CC kv vv L):=.fL _
@[simp] theorem alD{κ β:Type}(kv:κ→Value)(vv:β→Value)(L:List (κ×β)):(CC kv vv L).flat=[]:=rfl
theorem CT{α:Type}(f:α→β):∀(l:List α) (i:Nat),(l.eraseIdx i).map f=(l.map f).eraseIdx i
 |[],_=>rfl
 |_::_,0=>rfl
 |x::l,i+1=>by simp[CT f l i]
theorem Nn [DecidableEq κ] (vv:β→Value)(k:κ):∀(L:List (κ×β)) (i:Nat),(FT k (L.map fun e=>(e.1,vv e.2)) i).map (·.2)=(Sh.cD k L).map vv
 |[],_=>rfl
 |e::L,i=>by
  simp only[ac7,FT,Sh.cD];by_cases h:k=e.1
  ·simp[h]
  ·simp[h,Nn vv k L]
theorem Jr [DecidableEq κ] (vv:β→Value){k:κ}(b:β):∀{L:List (κ×β)} {i:Nat},FT k (L.map fun e=>(e.1,vv e.2)) i=none→Sh.nC k b L=L++[(k,b)]∧Sh.Il k L=L
 |[],_,_=>⟨rfl,rfl⟩
 |e::L,i,h=>by
  simp only[ac7,FT] at h;split at h
  ·cases h
  ·obtain⟨h1,h2⟩:=Jr vv b (L:=L) h
   grind [Sh.nC,Sh.Il]
theorem Js [DecidableEq κ] (vv:β→Value){k:κ}(b:β):∀{L:List (κ×β)} {i j:Nat} {v:Value},FT k (L.map fun e=>(e.1,vv e.2)) i=some (j,v)→∃m b0,j=i+m∧L[m]? =some (k,b0)∧Sh.nC k b L=L.modify m (fun e=>(e.1,b))∧Sh.Il k L=L.eraseIdx m
 |[],_,_,_,h=>by cases h
 |e::L,i,j,v,h=>by
  simp only[ac7,FT] at h;split at h
  ·rename_i hk
   cases h
   refine⟨0,e.2,rfl, ?_, ?_, ?_⟩
   ·grind
   ·simp[Sh.nC,hk]
   ·simp[Sh.Il,hk]
  ·rename_i hk
   obtain⟨m,b0,h1,h2,h3,h4⟩:=Js vv b (L:=L) h;refine⟨m+1,b0,by omega,by grind, ?_, ?_⟩
   ·simp[Sh.nC,hk,h3]
   grind [Sh.Il]
section
variable {P:Program} {W0:bS} {C:Ctx} {fr:Fr} {a:Act} {H:Heap} {o:Oper} {κ β:Type} [DecidableEq κ] {kv:κ→Value} {vv:β→Value}
variable {t:TypeId}
omit [DecidableEq κ] in
theorem AG{k v:TypeId}(ho:o.op=.makeMap t none)(hu:P.underlying t=some (.map k v)):b_ P W0 o fr H (.mref H.next) (H.push 0 [CC kv vv []]):=Qh ho hu

variable {kt et:TypeId}
theorem N6{u:Value}{b:Nat}{ms:Array MapEntry}{clock:Nat}{w:World}(hk:Kb P kt kv)(hu:P.underlying t=some (.map kt et))(k:κ)(L:List (κ×β))(hb:w.heap[b]? =some (.map ms clock))(hms:F3 (L.map fun e=>(kv e.1,vv e.2)) ms){z:β}(hz:oL P et=some (vv z))(ok:Bool):
  (Instr.lookup t (.map (some b)) (kv k) ok).run P w=.ok (if ok then .tuple #[vv ((Sh.cD k L).getD z),.bool (Sh.cD k L).isSome] else vv ((Sh.cD k L).getD z)) w:=by
 have hms':ms.toList.map (fun e=>(e.key,e.val))=(L.map fun e=>(e.1,vv e.2)).map (fun e=>(kv e.1,e.2)):=by rw[adQ];exact hms
 have g1:=hk.chk ms.isEmpty k w;have g2:=hk.find k w _ ms.toList hms';have g3:=Nn vv k L 0;have gz:(zeroValue et).run P w=.ok (vv z) w:=by
  unfold oL at hz;cases hie:P.info? et with
  |none=>grind
  |some i=>
   simp_all [zeroValue,typeInfo]
 cases hq:FT k (L.map fun e=>(e.1,vv e.2)) 0 with
 |none=>
  rw[hq] at g2 g3;have g4:Sh.cD k L=none:=by
   cases hf:Sh.cD k L with
   |none=>rfl
   |some b=>grind
  cases ok <;> simp[Instr.lookup,run_underlying hu,g1,g2,g4,MapKept.run_getObj_map hb,gz]
 |some p=>
  rw[hq] at g2 g3;cases hf:Sh.cD k L with
  |none=>grind
  |some b0=>
   rw[hf] at g3;simp only[ajX,Option.some.injEq] at g3;cases ok <;> simp[Instr.lookup,run_underlying hu,g1,g2,g3,MapKept.run_getObj_map hb]

variable {x:Operand}{id:Nat}{ak:AV}
theorem V2{ix:Operand}(hk:Kb P kt kv)(k:κ)(L:List (κ×β))(z:β)(ho:o.op=.lookup t x ix false)(hx:aD fr x=some (.mref id))(hid:H.get id=some [CC kv vv L])
  (hu:P.underlying t=some (.map kt et))(hix:aD fr ix=some ak)(hak:ak.Xv=some (kv k))(hz:oL P et=some (vv z))(hok:∀b,(vv b).MD=true):b_ P W0 o fr H (.Ch (vv ((Sh.cD k L).getD z))) H:=
 .cz fun C a hI hH hr=>by
  subst hH;have e1:=aQ (hr x (by simp[ho,Op.operands])) hx;have e2:=bR hak (aQ (hr ix (by simp[ho,Op.operands])) hix);cases e1 with
  |mref _ _ h1 h2 h3=>
   obtain⟨hn,hrf⟩:=h2 _ hid;obtain⟨hre,_,ms,clock,hb,hms⟩:=Kz hI hid hn (hk.no vv L);refine⟨vv ((Sh.cD k L).getD z), ?_,FH (hok _)⟩;have:=N6 (P:=P) (u:=.map none) hk hu k L hb hms hz false;simp_all [execOp]
theorem R1{ix:Operand}(hk:Kb P kt kv)(k:κ)(L:List (κ×β))(z:β)(ho:o.op=.lookup t x ix true)(hx:aD fr x=some (.mref id))(hid:H.get id=some [CC kv vv L])
  (hu:P.underlying t=some (.map kt et))(hix:aD fr ix=some ak)(hak:ak.Xv=some (kv k))(hz:oL P et=some (vv z))(hok:∀b,(vv b).MD=true):b_ P W0 o fr H (.tuple [.Ch (vv ((Sh.cD k L).getD z)),bl (Sh.cD k L).isSome]) H:=
 .cz fun C a hI hH hr=>by
  subst hH;have e1:=aQ (hr x (by simp[ho,Op.operands])) hx;have e2:=bR hak (aQ (hr ix (by simp[ho,Op.operands])) hix);cases e1 with
  |mref _ _ h1 h2 h3=>
   obtain⟨hn,hrf⟩:=h2 _ hid;obtain⟨hre,_,ms,clock,hb,hms⟩:=Kz hI hid hn (hk.no vv L);refine⟨.tuple #[vv ((Sh.cD k L).getD z),.bool (Sh.cD k L).isSome], ?_,.tuple _ _ rfl fun i y hy=> ?_⟩
   ·have:=N6 (P:=P) (u:=.map none) hk hu k L hb hms hz true
    simp_all [execOp]
   ·match i with
    |0=>cases hy;exact FH (hok _)
    |1=>cases hy;exact .imm _ rfl
    |i+2=>simp at hy
theorem IN{kx vx:Operand}{av:AV}(hk:Kb P kt kv)(k:κ)(b:β)(L:List (κ×β))(ho:o.op=.mapUpdate t x kx vx)(hx:aD fr x=some (.mref id))(hid:H.get id=some [CC kv vv L])
  (hu:P.underlying t=some (.map kt et))(hkx:aD fr kx=some ak)(hak:ak.Xv=some (kv k))(hv:aD fr vx=some av)(hav:av.Xv=some (vv b)):b_ P W0 o fr H .any (H.set id [CC kv vv (Sh.nC k b L)]):=
 .VG fun C a hI hH hr=>by
  subst hH;have e1:=aQ (hr x (by simp[ho,Op.operands])) hx;have e2:=bR hak (aQ (hr kx (by simp[ho,Op.operands])) hkx);have e3:=bR hav (aQ (hr vx (by simp[ho,Op.operands])) hv);generalize hux:a.eval x=u at e1;cases e1 with
  |mref _ _ h1 h2 h3=>
   obtain⟨hn,hrf⟩:=h2 _ hid;obtain⟨hre,_,ms,clock,hb,hms⟩:=Kz hI hid hn (hk.no vv L);obtain rfl:=hrf.trans hre;have hms':ms.toList.map (fun e=>(e.key,e.val))=(L.map fun e=>(e.1,vv e.2)).map (fun e=>(kv e.1,e.2)):=by rw[adQ];exact hms
   have g1:=hk.chk false k C.w;have g2:=hk.find k C.w _ ms.toList hms';cases hq:FT k (L.map fun e=>(e.1,vv e.2)) 0 with
   |none=>
    rw[hq] at g2;rw[(Jr vv b hq).1];have hl:F3 ((L++[(k,b)]).map fun e=>(kv e.1,vv e.2)) (ms.push ⟨kv k,vv b,clock⟩):=by
     grind [F3]
    obtain⟨q1,q2⟩:=FP (ck':=clock+1) hI hid hn (hk.no vv L) hb hl (hk.no vv _);refine⟨_, ?_,q1,q2,rfl⟩;simp[execOp,ho,Instr.mapUpdate,run_underlying hu,hux,e2,e3,g1,g2,MapKept.run_getObj_map hb,MapKept.run_setObj_map _ hb,Ctx.write];rfl
   |some p=>
    obtain⟨i,v0⟩:=p;rw[hq] at g2;obtain⟨m,b0,hm,hLm,hp,_⟩:=Js vv b hq;obtain rfl:i=m:=by omega
    rw[hp];have acQ:ms.toList.map (fun e=>(e.key,e.val))=L.map fun e=>(kv e.1,vv e.2):=hms;have hmm:(ms.toList.map (fun e=>(e.key,e.val)))[i]? =some (kv k,vv b0):=by grind
    rw[ab_] at hmm;obtain⟨e0,he0,he1⟩:=Option.map_eq_some_iff.1 hmm;simp only[Prod.mk.injEq] at he1;have hei:ms[i]? =some e0:=by grind
    have hl:F3 ((L.modify i (fun e=>(e.1,b))).map fun e=>(kv e.1,vv e.2)) (ms.modify i fun e=>{e with key:=kv k,val:=vv b}):=by
     apply ajH;intro q;have hq2:=congrArg (fun l:List (Value×Value)=>l[q]?) acQ;grind
    obtain⟨q1,q2⟩:=FP (ck':=clock) hI hid hn (hk.no vv _) hb hl (hk.no vv _);refine⟨_, ?_,q1,q2,rfl⟩;simp[execOp,ho,Instr.mapUpdate,run_underlying hu,hux,e2,e3,g1,g2,hei,he1.1,Instr.keyThatStays,hk.same,MapKept.run_getObj_map hb,MapKept.run_setObj_map _ hb,Ctx.write];rfl
theorem aiN{ty':TypeId}{kx:Operand}(hk:Kb P kt kv)(k:κ)(L:List (κ×β))(ho:o.op=.call {callee:=.builtin .delete,args:= #[x,kx],argTypes:= #[t,ty']})(hx:aD fr x=some (.mref id))(hid:H.get id=some [CC kv vv L])
  (hu:P.underlying t=some (.map kt et))(hkx:aD fr kx=some ak)(hak:ak.Xv=some (kv k)):b_ P W0 o fr H .any (H.set id [CC kv vv (Sh.Il k L)]):=
 .of_run fun C a hI hH hr=>by
  subst hH;have e1:=aQ (hr x (by simp[ho,Op.operands,Call.operands])) hx;have e2:=bR hak (aQ (hr kx (by simp[ho,Op.operands,Call.operands])) hkx);cases e1 with
  |mref _ _ h1 h2 h3=>
   obtain⟨hn,hrf⟩:=h2 _ hid;obtain⟨hre,_,ms,clock,hb,hms⟩:=Kz hI hid hn (hk.no vv L);have hms':ms.toList.map (fun e=>(e.key,e.val))=(L.map fun e=>(e.1,vv e.2)).map (fun e=>(kv e.1,e.2)):=by rw[adQ];exact hms
   have acQ:ms.toList.map (fun e=>(e.key,e.val))=L.map fun e=>(kv e.1,vv e.2):=hms;have g1:=hk.chk ms.isEmpty k C.w;have g2:=hk.find k C.w _ ms.toList hms';obtain⟨cs,hbb⟩:=je (P:=P) ho a;have ea:(#[x,kx].map a.eval)= #[.map (some (C.pl id).de),kv k]:=by grind
   cases hq:FT k (L.map fun e=>(e.1,vv e.2)) 0 with
   |none=>
    rw[hq] at g2;have hL:F3 ((Sh.Il k L).map fun e=>(kv e.1,vv e.2)) ms:=by
     cases L with
     |nil=>exact hms
     |cons e L=>rw[(Jr vv e.2 hq).2];exact hms
    obtain⟨q1,q2⟩:=FP (ck':=clock) hI hid hn (hk.no vv _) hb hL (hk.no vv _);refine⟨.tuple #[],_, ?_,q1,q2,rfl,.any _⟩;rw[hbb,ea];simp[builtin,Builtin.delete_,run_underlying hu,g1,g2,MapKept.run_getObj_map hb,MapKept.run_setObj_map _ hb,Ctx.write];rfl
   |some p=>
    obtain⟨i,v0⟩:=p;rw[hq] at g2;cases L with
    |nil=>cases hq
    |cons e L=>
    obtain⟨m,b0,hm,hLm,_,hp⟩:=Js vv e.2 hq;obtain rfl:i=m:=by omega
    have hi:i<ms.size:=by
     have h2:=congrArg ajL acQ;grind
    have hl:F3 ((Sh.Il k (e::L)).map fun e=>(kv e.1,vv e.2)) (ms.eraseIdxIfInBounds i):=by
     rw[hp];unfold F3;rw[Array.eraseIdxIfInBounds,dif_pos hi,Array.toList_eraseIdx,CT,CT,acQ]
    obtain⟨q1,q2⟩:=FP (ck':=clock) hI hid hn (hk.no vv _) hb hl (hk.no vv _);refine⟨.tuple #[],_, ?_,q1,q2,rfl,.any _⟩;rw[hbb,ea];simp[builtin,Builtin.delete_,run_underlying hu,g1,g2,MapKept.run_getObj_map hb,MapKept.run_setObj_map _ hb,Ctx.write];rfl
end
end Go.Av
end

section
namespace Go.Av
open Go
open Go.RowKit (Below)
@[reducible] def bS.at0(W:World)(b cap s:Nat):bS where
 w:=W
 p:=1
 ro:=none
 G C:=C.nI=1∧∀es,C.H.get 0=some es→(C.pl 0).nil=false∧(C.pl 0).de=b∧cap≤(C.pl 0).cap∧(C.pl 0).sz=s
 st C C' h hp:=fun⟨g1,g2⟩=>⟨h.nI.trans g1,fun es hes=>by
  obtain⟨_,q⟩:=h.pins hp
  obtain⟨⟨Hj,h0⟩,hpl⟩:=q 0 es (by omega) hes
  rw[hpl]
  exact g2 Hj h0⟩
 dx:=[]
section
variable {P:Program} {W:World} {N:Nat} {C:Ctx} {a:Act} {fr:Fr} {H:Heap} {o:Oper} {c:Code} {st:St} {Q:Exit→St→Prop} {b cap s:Nat} {W0:bS}
theorem Inv.to0(h:Inv (.pinned W 0) C)(h1:1≤C.H.next)(g:(bS.at0 W b cap s).G {C with nI:=1}):Inv (.at0 W b cap s) {C with nI:=1}:=
 have k:=h.off (W:=W) rfl 1 [] h1
 ⟨k.fresh,k.nil,k.obj,k.sep,k.cI,k.jX,k.dU,k.eG,k.size,k.gD,k.ec,k.iu,k.BX,k.Cn,k.eS,k.lU,k.fe,g⟩
theorem Inv.of0(h:Inv (.at0 W b cap s) C):Inv (.pinned W 0) {C with nI:=0}:=
 have k:=h.off (W:=W) rfl 0 [] (afR _)
 ⟨k.fresh,k.nil,k.obj,k.sep,k.cI,k.jX,k.dU,k.eG,k.size,k.gD,k.ec,k.iu,k.BX,k.Cn,k.eS,k.lU,k.fe,trivial⟩
variable {es:List AV}
theorem Wq{t:Nat}(ht:lk st.fr t=some (.view 0 0 es.length))(hid:st.H.get 0=some es)(hs:st.H.sz 0=some s)(hne:es≠[])
  (k:∀b cap,es.length≤cap→iD P (.at0 W b cap s) N c ⟨up st.fr t (.imm (.slice (some ⟨b,0,none⟩) es.length cap)),st.H⟩ Q):iD P (.pinned W 0) N c st Q:=fun C a hr=>by
 have hv:=hr.rep t _ ht
 have hidC:C.H.get 0=some es:=by rw[hr.heap];exact hid
 generalize hu:a.tmps.getD t undef=u at hv
 cases hv with
 |view _ _ _ _ h1 h2 h3=>
  have h4:=h2 es hidC
  have hnil:(C.pl 0).nil=false:=by
   cases hn:(C.pl 0).nil with
   |false=>rfl
   |true=>exact absurd (hr.inv.nil 0 es hidC hn) hne
  unfold jl at h4
  rw[if_neg (by grind)] at h4
  obtain⟨A,cap,rfl,g1,g2,g3,g4⟩:=h4
  have hlen:0<es.length:=List.length_pos_iff.2 hne
  have hA:A=⟨(C.pl 0).de,0,none⟩:=by
   grind
  subst hA
  have hsz:(C.pl 0).sz=s:=hr.inv.jX 0 s (by rw[hr.heap];exact hs) hnil
  have hI:Inv (.at0 W (C.pl 0).de cap s) {C with nI:=1}:=hr.inv.to0 (hr.inv.fresh 0 es hidC) ⟨rfl,fun es' _=>⟨hnil,rfl,by grind,hsz⟩⟩
  have hr':Rel (.at0 W (C.pl 0).de cap s) N (lk (up st.fr t (.imm (.slice (some ⟨(C.pl 0).de,0,none⟩) es.length cap)))) st.H {C with nI:=1} a:=⟨hr.heap,hI,hr.size,hr.defers,fun t' x hx=>by
   rw[Ah] at hx
   split at hx
   ·rename_i e;subst e;cases hx;rw[hu];exact .imm _ h3
   ·exact vt (hr.rep t' x hx)⟩
  refine wpIn_mono (k (C.pl 0).de cap g3 {C with nI:=1} a hr') fun e a' w' ⟨st',C',q1,q2,q3,q4⟩=>⟨st',{C' with nI:=0},q1,q2.af1 hr.inv.lU,⟨q3.heap,q3.inv.of0,q3.size,q3.defers,fun t x hx=>vt (q3.rep t x hx)⟩,q4⟩
theorem Ut{frl:List (Nat×AV)}{H:Heap}{t m:Nat}(ht:lk frl t=some (.imm (.slice (some ⟨b,0,none⟩) es.length m)))(hm:es.length≤m)(hmc:m≤cap)(hid:H.get 0=some es):b8 (.at0 W b cap s) N ⟨frl,H⟩ ⟨up frl t (.view 0 0 es.length),H⟩:=fun C a hr=>by
 obtain⟨g0,g1⟩:=hr.inv.gh
 have hidC:C.H.get 0=some es:=by rw[hr.heap];exact hid
 obtain⟨g2,g3,g4,g5⟩:=g1 es hidC
 refine⟨C,rfl,.refl C,hr.heap,hr.inv,hr.size,hr.defers,fun t' x hx=> ?_⟩
 rw[Ah] at hx
 split at hx
 ·rename_i e;subst e;cases hx
  have hv:=bR (v:=.slice (some ⟨b,0,none⟩) es.length m) rfl (hr.rep t' _ ht)
  rw[hv]
  refine .view _ _ _ _ (hr.inv.fresh 0 es hidC) (fun es' he=> ?_) rfl
  have hn:=(hr.inv.obj 0 es hidC g2).n
  exact zl g2 (by omega) (by omega) hm (.inr (by grind))
 ·exact hr.rep t' x hx
theorem Us{frl:List (Nat×AV)}{H:Heap}{t m:Nat}{g:AV}(ht:lk frl t=some (.imm (.slice (some ⟨b,0,none⟩) (es.length+1) m)))(hm:es.length+1≤m)(hmc:m≤cap)(hid:H.get 0=some es)(hs:H.sz 0=some s)(Jl:s≠0)(hg:g.flat=aeR s .any)(hnx:0<H.next):
  b8 (.at0 W b cap s) N ⟨frl,H⟩ ⟨up frl t (.view H.next 0 (es.length+1)),(H.del 0).push s (es++[g])⟩:=fun C a hr=>by
 have hrH:=hr.heap
 subst hrH
 have hI:=hr.inv
 obtain⟨g0,g1⟩:=hI.gh
 obtain⟨g2,g3,g4,g5⟩:=g1 es hid
 subst g3
 have hO:=hI.obj 0 es hid g2
 obtain⟨arr,el,harr,hcap⟩:=hO.rows (by omega)
 have hv:=bR (v:=.slice (some ⟨(C.pl 0).de,0,none⟩) (es.length+1) m) rfl (hr.rep t _ ht)
 have hE:=AZ (C:=C) 0
 have hI':=hI.del 0
 have hnown:¬(C.del 0).own (C.pl 0).de:=by
  rintro(⟨k,e,h1,h2,h3⟩|h)
  ·simp only[Ctx.del,Heap.u7] at h1
   split at h1
   ·cases h1
   ·rename_i hk
    exact hk (hI.sep k 0 e es h1 hid h2 g2 h3)
  ·exact hI.AD (C:=C) h harr (.inl ⟨_,_,rfl⟩)
 have hE2:=zT (C:=C.del 0) hE ⟨(C.pl 0).de,s,es.length+1,(C.pl 0).cap,false⟩ (es++[g]) (fun _=>.inr (.inl ⟨0,es,hid,g2,rfl⟩))
 have hgl:g.flat.length=s:=by grind
 refine⟨(C.del 0).push ⟨(C.pl 0).de,s,es.length+1,(C.pl 0).cap,false⟩ (es++[g]),rfl,hE2.mem,rfl,hI'.push _ (es++[g]) (fun h=>by cases h) (fun _=>⟨hnown,hI.cI 0 es hid g2,hI.LX (.inl ⟨0,es,hid,g2,rfl⟩)⟩) (fun k e h1 h2=> ?_) (fun _=> ?_) ?_,hr.size,hr.defers,fun t' x hx=> ?_⟩
 ·have h1':C.H.get k=some e:=by
   grind [Ctx.del,Heap.u7]
  exact(hI.obj k e h1' h2).ext hE2 rfl
 ·refine⟨by simp,by grind,.inl ⟨Jl,arr,el,harr,by grind⟩,hO.one,fun i e he=> ?_,fun i j e x v h1 h2 h3=> ?_⟩
  ·by_cases hi:i<es.length
   ·rw[abU hi] at he
    exact(hO.flat i e he).trans g5
   grind
  ·by_cases hi:i<es.length
   ·rw[abU hi] at h1
    exact(hO.cell i j e x v h1 h2 (by rw[g5];exact h3)).ext hE2
   ·have:i=es.length:=by grind
    subst this
    simp at h1;subst h1
    rw[hg] at h2
    have:=ad7 h2
    rw[ajP] at this
    rw[this.2];exact .any _
 ·refine⟨g0,fun es' h=> ?_⟩
  simp only[Ctx.push,Ctx.del,Heap.zX,Heap.u7] at h
  rw[if_neg (by show ¬0=C.H.next;omega)] at h
  simp at h
 ·rw[Ah] at hx
  split at hx
  ·rename_i e;subst e;cases hx
   rw[hv]
   exact tG (C:=C.del 0) (zl rfl (by simp) (by grind) hm (.inr (by grind))) rfl
  ·exact(hr.rep t' x hx).ext hE2
variable {t e:TypeId}{x:Operand}
theorem JN{s' eN:Nat}{ad:Option Addr}{n m:Nat}(ho:o.op=.call {callee:=.builtin .cap,args:= #[x],argTypes:= #[t]})(hx:aD fr x=some (.imm (.slice ad n m)))(ht:oK P t=some (e,s',eN)):b_ P W0 o fr H (J (m:Int)) H:=
 .cz fun C a _ _ hr=>by
  have e1:=bR (v:=.slice ad n m) rfl (aQ (hr x (by simp[ho,Op.operands,Call.operands])) hx);obtain⟨cs,hb⟩:=je (P:=P) ho a;obtain⟨hu,_⟩:=lF ht;refine⟨.int .i64 m, ?_,.imm _ rfl⟩;simp_all [builtin,Builtin.cap_,run_underlying,goInt]
variable {y:Operand}
theorem F5{s' eN:Nat}{A:Addr}{n m h:Nat}{k:IntKind}(ho:o.op=.slice t x none (some y) none)(hx:aD fr x=some (.imm (.slice (some A) n m)))(hy:aD fr y=some (.imm (.int k (h:Int))))(ht:oK P t=some (e,s',eN))(hm:h≤m):b_ P W0 o fr H (.imm (.slice (some A) h m)) H:=
 .cz fun C a _ _ hop=>by
  have e1:=bR (v:=.slice (some A) n m) rfl (aQ (hop x (by simp[ho,Op.operands])) hx);have:=ir (C:=C) (fr:=fr) (P:=P) (l:=0) (h:=h) (m:=m) ht ho e1 rfl (by simp[fW,hy]) rfl (by simp) (afR _) hm (afk _) hop C.w;refine⟨.slice (some A) h m, ?_,.imm _ rfl⟩;grind [Addr.add]
theorem Oj{s eN:Nat}{z:Value}{za:AV}(hT:AM P t e s eN z)(hza:za.flat=z.cells.toList.map .imm)(k:Nat):(∀x∈aeR k za,x.flat.length=s)∧(Builtin.zeroCells z.cells k).toList.length=(aeR k za).length*s∧(∀u∈(Builtin.zeroCells z.cells k).toList,u.oneCell'=true)∧
  ∀(i j:Nat) (e x:AV),(aeR k za)[i]? =some e→e.flat[j]? =some x→∃v,(Builtin.zeroCells z.cells k).toList[i*s+j]? =some v∧c4 C x v:=by
 have h0s:0<z.cells.size:=by rw[hT.zs];exact hT.pos
 have hzg:∀q,q<k*s→(Builtin.zeroCells z.cells k).toList[q]? =some (z.cells[q % z.cells.size]'(Nat.mod_lt _ h0s)):=fun q hq=>by
  simp only[Builtin.zeroCells,Array.toList_map,Array.toList_range,ab_]
  rw[List.getElem?_range (by rw[hT.zs];exact hq)]
  grind
 refine⟨fun x hx=> ?_,by simp[size_zeroCells,hT.zs],fun u hu=> ?_,fun q j e x h1 h2=> ?_⟩
 ·rw[ajP] at hx;rw[hx.2,hza];simp[hT.zs]
 ·obtain⟨q,hq⟩:=ack hu
  have hlt:=(List.getElem?_eq_some_iff.1 hq).1
  simp only[Array.length_toList,size_zeroCells,hT.zs] at hlt
  rw[hzg q hlt] at hq
  cases hq
  exact Array.all_eq_true'.1 hT.z1 _ (Array.getElem_mem _)
 ·have hq:q<k:=by grind
  have he:e=za:=(List.mem_replicate.1 (ad7 h1)).2
  subst he
  rw[hza] at h2
  simp only[ab_,ae5] at h2
  obtain⟨v,hv,rfl⟩:=h2
  have hj:j<s:=by rw[←hT.zs];grind
  have hqs:q*s+j<k*s:=by
   have:(q+1)*s≤k*s:=Nat.mul_le_mul_right _ hq
   grind
  refine⟨v, ?_,.imm v ?_⟩
  ·have hm:(q*s+j) % z.cells.size=j:=by rw[hT.zs,Nat.mul_comm,Nat.mul_add_mod,Nat.mod_eq_of_lt hj]
   grind
  ·have:=Array.mem_of_getElem? (by rw[Array.getElem?_toList] at hv;exact hv)
   exact Array.all_eq_true'.1 hT.z1 _ this
theorem Qc{tn ty:TypeId}{eN:Nat}{z:Value}{i k m:Nat}{kn kq:IntKind}{za:AV}(ho:o.op=.call {callee:=.builtin .append,args:= #[x,y],argTypes:= #[t,tn]})(hty:o.type=ty)(hx:aD fr x=some (.imm (.slice (some ⟨b,0,none⟩) i m)))(hy:aD fr y=some (.imm (.int kq (k:Int))))
  (hid:H.get 0=some es)(hT:AM P t e s eN z)(htn:P.underlying tn=some (.int kn))(hi:i≤es.length)(him:i≤m)(hk:0<k)(hno:m<i+k)(hfe:∀x∈es,x.flat.length=s)(hza:za.flat=z.cells.toList.map .imm)(hsz:(i+k)*eN≤140737488355328):
  b_ P (.at0 W b cap s) o fr H (.view H.next 0 (i+k)) (H.push s (es.take i++aeR k za)):=
 .of_run fun C a hI hH hop=>by
  subst hH
  have e1:=bR (v:=.slice (some ⟨b,0,none⟩) i m) rfl (aQ (hop x (by simp[ho,Op.operands,Call.operands])) hx)
  have e2:=bR (v:=.int kq k) rfl (aQ (hop y (by simp[ho,Op.operands,Call.operands])) hy)
  obtain⟨g0,g1⟩:=hI.gh
  obtain⟨g2,g3,g4,g5⟩:=g1 es hid
  have hO:=hI.obj 0 es hid g2
  obtain⟨hu,ti,hti,his,hib⟩:=lF hT.el
  have hzr:=hT.zr
  unfold oL at hzr
  rw[hti] at hzr
  have hrd:Reads C (es.take i) (some ⟨b,0,none⟩):=by
   have:Reads C es (some ⟨b,0,none⟩):=by
    refine .inr ⟨b,0,s,rfl,by rw[←g3];exact hI.lt hid g2,fun q e he=>(hO.flat q e he).trans g5,fun q j e x he hx=> ?_⟩
    have:=wK hI hid g2 he hx
    grind
   exact L_ this i
  have hlen:(es.take i).length=i:=by grind
  have hfe':∀x∈es.take i,x.flat.length=s:=fun x hx=>hfe x (ajO hx)
  have hold:∃ve:List Value,ve.length=(es.take i).length*s∧(∀u∈ve,u.oneCell'=true)∧(∀(q j:Nat) (e x:AV),(es.take i)[q]? =some e→e.flat[j]? =some x→∃v,ve[q*s+j]? =some v∧c4 C x v)∧(Builtin.firstCells ti.size i (.slice (some ⟨b,0,none⟩) i m)).run P C.w.drew=.ok ve.toArray C.w.drew:=by
   by_cases h0:es.take i=[]
   ·have hi0:i=0:=by grind
    simp_all [Builtin.firstCells,loadCells,loadCellsFrom]
   ·obtain⟨b',off',hA,ve,le,ce,re⟩:=hrd.cells h0 hfe'
    cases hA
    refine⟨ve,le,fun u hu=>by grind [ack],re, ?_⟩
    exact run_firstCells_some (P:=P) C.w.drew ti.size i ⟨b,0,none⟩ i m ve (by grind) (fun j v hj=>(ce j v hj).1)
  obtain⟨ve,le,oe,re,amP⟩:=hold
  obtain⟨q1,q2,q3,q4⟩:=Oj (C:=C) hT hza k
  obtain⟨C',w1,w2,w3,w4,w5⟩:=Lv hI hT (es:=es.take i) (ys:=aeR k za) (vy:=(Builtin.zeroCells z.cells k).toList) hfe' q1 q2 q3 q4 ve (grownCap C.w (i+k) m e) le oe re (by grind [grownCap_ge])
  have hfit:=growslice_fits (old:=m) hno hsz
  rw[←hib] at hfit
  have hbp:=hT.akL
  have hr:=Lib.run_append_grow_zeros (P:=P) C.w t tn ty e ti z kq kn hu htn hti hzr (some ⟨b,0,none⟩) i m ve amP k hk (by rw[his];exact hT.pos) hno (by
   have:(i+k)*1≤(i+k)*eN:=Nat.mul_le_mul_left _ hbp
   omega) (by
   grind) hfit
  obtain⟨cs,hb⟩:=je (P:=P) ho a
  refine⟨_,C', ?_,w2,w3,by rw[w4],by rw[hlen] at w5;simpa using w5⟩
  simp_all [builtin]
theorem Ow{f:FuncId}{tys:Array TypeId}{tb:TypeId}{s eN i1 i2 o1 o2 n1 n2:Nat}{e1 e2:List AV}(ho:o.op=.call {callee:=.value (.func f),args:= #[x,y],argTypes:=tys})(hx:aD fr x=some (.view i1 o1 n1))(hy:aD fr y=some (.view i2 o2 n2))(h1:H.get i1=some e1)(h2:H.get i2=some e2)(hne:i1≠i2){s1 s2:Nat}(X4:H.sz i1=some s1)(hs2:H.sz i2=some s2)(hz1:s1≠0)(hz2:s2≠0)(hn1:n1≠0)(hn2:n2≠0)
  (ht:oK P t=some (e,s,eN))(hf:∀(args:Array Value) (w:World),(callFunc f args).run P w=(Extern.SlicesOverlaps.overlaps #[t,t] #[tb] args>>=fun v=>Pure.pure (Next.value v)).run P w):b_ P W0 o fr H (bl false) H:=
 .cz fun C a hI hH hop=>by
  subst hH;have r1:=aQ (hop x (by simp[ho,Op.operands,Call.operands])) hx;have r2:=aQ (hop y (by simp[ho,Op.operands,Call.operands])) hy;generalize hu1:a.eval x=u1 at r1;generalize hu2:a.eval y=u2 at r2;obtain⟨hu,ti,hti,his,_⟩:=lF ht;have hz:∀w,(sizeOf e).run P w=.ok s w:=fun w=>by simp_all [sizeOf,typeInfo]
  have hend:(Extern.SlicesOverlaps.overlaps #[t,t] #[tb] #[u1,u2]).run P C.w=.ok (.bool false) C.w:=by
   cases r1 with
   |view _ _ _ _ a1 a2 a3=>
   cases r2 with
   |view _ _ _ _ b1 b2 b3=>
   have a4:=a2 e1 h1;have b4:=b2 e2 h2;unfold jl at a4 b4;split at a4
   ·omega
   ·obtain⟨A,ca,rfl,p1,p2,p3,p4⟩:=a4
    split at b4
    ·omega
    ·obtain⟨B,cb,rfl,q1,q2,q3,q4⟩:=b4
     have na':(C.pl i1).nil=false:=by grind
     have nb':(C.pl i2).nil=false:=by grind
     have eA:A=⟨(C.pl i1).de,o1*(C.pl i1).sz,none⟩:=by grind
     have eB:B=⟨(C.pl i2).de,o2*(C.pl i2).sz,none⟩:=by grind
     subst eA eB;have hbl:(C.pl i1).de≠(C.pl i2).de:=fun h=>hne (hI.sep i1 i2 e1 e2 h1 h2 na' nb' h);have hs1':(C.pl i1).sz≠0:=by rw[hI.jX i1 s1 X4 na'];exact hz1
     have hs2':(C.pl i2).sz≠0:=by rw[hI.jX i2 s2 hs2 nb'];exact hz2
     obtain⟨aqV,el1,agQ,_⟩:=(hI.obj i1 e1 h1 na').rows hs1';obtain⟨aqW,el2,asa,MO⟩:=(hI.obj i2 e2 h2 nb').rows hs2';exact Lib.run_overlaps_apart C.w t tb e hu s hz _ _ n1 ca n2 cb hbl el1 el2 aqV.size aqW.size (by simp[World.shape?,agQ]) (by simp[World.shape?,asa]) (by
      have:0<(C.pl i2).cap*(C.pl i2).sz:=Nat.mul_pos (by omega) (by omega);omega) (by simp[World.frozen?,agQ]) (by simp[World.frozen?,agQ])
  refine⟨.bool false, ?_,.imm _ rfl⟩;have h9:a.eval (.func f)=.func (.func f) #[] #[]:=rfl;simp_all [execOp,resolve,Deferred.ofValue,invoke]
end
end Go.Av
namespace Go.Sh
def ins{α:Type}(eN:Nat)(l:List α)(i:Int)(v:List α):Option (List α):=match v with
 |[x]=>if 0≤i∧i≤l.length∧(l.length+1)*eN≤140737488355328 then some (l.take i.toNat++x::l.drop i.toNat) else none
 |_=>none
theorem Zr{α:Type}{eN:Nat}{l v r:List α}{i:Int}(h:ins eN l i v=some r):∃(x:α) (k:Nat),v=[x]∧i=k∧k≤l.length∧(l.length+1)*eN≤140737488355328∧r=l.take k++x::l.drop k:=by
 unfold ins at h;grind
end Go.Sh
end

section
namespace Go.Sh
theorem lZ{α:Type}{l:List α}{i:Int}{k:Nat}{x x':α}(hi:i=k)(hl:l[k]? =some x):(set l i x')[k]? =some x':=by
 grind [set]
end Go.Sh
namespace Go.Av
open Go
section
variable {P:Program} {W0:bS} {fr:Fr} {H:Heap} {o:Oper} {C:Ctx}
variable {t e:TypeId}{eN:Nat}{x:Operand}
theorem JO{s':Nat}(ho:o.op=.call {callee:=.builtin .cap,args:= #[x],argTypes:= #[t]})(hx:aD fr x=some dy)(ht:oK P t=some (e,s',eN)):b_ P W0 o fr H (J 0) H:=JN ho hx ht
theorem MG{s':Nat}{y:Operand}{k:IntKind}(ho:o.op=.slice t x none (some y) none)(hx:aD fr x=some dy)(hy:aD fr y=some (.imm (.int k 0)))(ht:oK P t=some (e,s',eN)):b_ P W0 o fr H dy H:=
 .cz fun C a _ _ hop=>by
  have e1:=bR (v:=.slice none 0 0) rfl (aQ (hop x (by simp[ho,Op.operands])) hx);have:=ir (C:=C) (fr:=fr) (P:=P) (l:=0) (h:=0) (m:=0) ht ho e1 rfl (by simp[fW,hy]) rfl (by simp) (afk _) (afk _) (afk _) hop C.w;exact⟨.slice none 0 0,by grind,.imm _ rfl⟩
variable {α:Type}
theorem RV{enc:α→AV}{tn ty:TypeId}{s:Nat}{z:Value}{y:Operand}{n:Int}{kn kq:IntKind}{zx:α}{L:List α}(hL:Sh.mk eN n n zx=some L)(ho:o.op=.call {callee:=.builtin .append,args:= #[x,y],argTypes:= #[t,tn]})(hty:o.type=ty)(hx:aD fr x=some dy)(hy:aD fr y=some (.imm (.int kq n)))
  (hT:AM P t e s eN z)(htn:P.underlying tn=some (.int kn))(hza:(AV.Ch z).flat=z.cells.toList.map .imm)(hw:F2 (AV.Ch z).flat (enc zx).flat):b_ P W0 o fr H (.view H.next 0 (L.map enc).length) (H.push s (L.map enc)):=by
 obtain⟨m,k,rfl,hk,_,h1,h2,rfl⟩:=Sh.KA hL
 have key:b_ P W0 o fr H (.view H.next 0 (aeR m (AV.Ch z)).length) (H.push s (aeR m (AV.Ch z))):=.of_run fun C a hI hH hop=>by
  subst hH
  have e1:=bR (v:=.slice none 0 0) rfl (aQ (hop x (by simp[ho,Op.operands,Call.operands])) hx)
  have e2:=bR (v:=.int kq m) rfl (aQ (hop y (by simp[ho,Op.operands,Call.operands])) hy)
  obtain⟨cs,hb⟩:=je (P:=P) ho a
  obtain⟨hu,ti,hti,his,hib⟩:=lF hT.el
  have hzr:=hT.zr
  unfold oL at hzr
  rw[hti] at hzr
  by_cases hm0:m=0
  ·subst hm0
   obtain⟨C',g1,g2,g3,g4,g5⟩:=Dm hI s none
   refine⟨.slice none 0 0,C', ?_,g2,g3,g4,g5⟩
   rw[hb,g1]
   simp[builtin,e1,e2,Builtin.append_,run_underlying hu,run_underlying htn,sizeOf,typeInfo,hti,asInt,asIntOf,IntKind.wrap_i64]
  ·obtain⟨q1,q2,q3,q4⟩:=Oj (C:=C) hT hza m
   obtain⟨C',w1,w2,w3,w4,w5⟩:=Lv hI hT (es:=[]) (ys:=aeR m (AV.Ch z)) (vy:=(Builtin.zeroCells z.cells m).toList) (by simp) q1 q2 q3 q4 [] (grownCap C.w m 0 e) (by simp) (by simp) (fun i j e x h=>by simp at h) (by grind [grownCap_ge])
   have hr:=Lib.run_append_nil_zeros (P:=P) C.w t tn ty e ti z kq kn hu htn hti hzr m (by omega) (by rw[his];exact hT.pos) (by omega) (by grind)
   refine⟨_,C', ?_,w2,w3,by grind,by simpa using w5⟩
   simp_all [builtin]
 have h6:=key.anU (PR hw m) (by have:=hT.pos;omega)
 simp_all
variable {id:Nat}
theorem Gw{s n:Nat}{xo io:Operand}{k:Nat}{i:Int}{ki:IntKind}{es:List AV}{el:AV}(hi:i=k)(hel:es[k]? =some el)(hn:k<n)(ho:o.op=.indexAddr t xo io)(hx:aD fr xo=some (.view id 0 n))(hid:H.get id=some es)(hio:aD fr io=some (.imm (.int ki i)))
  (ht:oK P t=some (e,s,eN))(hs:el.flat.length=s):b_ P W0 o fr H (.ref id k 0) H:=by
 have:=D9 (P:=P) (W0:=W0) (o:=o) (fr:=fr) (H:=H) ho hx hid hio ht hi hn (el:=el) (by grind) hs;grind
theorem aaZ{H:Heap}{g:List (Nat×Nat)}{nw:List Nat}(enc:α→AV)(l:List (List α)){i:Int}{k n:Nat}{y:List α}(hi:i=k)(hl:l[k]? =some y)(x:List α)(hid:H.get id=some (x.map enc))(hg:∀p∈g,p.2≠id)(hn:n=x.length)(hno:∀a,bQ (enc a)):
  rU H g nw ((l.map (mG enc)).set k (.view id 0 n)) ((Sh.set l i x).map (mG enc)):=by
 subst hi hn
 have e:(Sh.set l (k:Int) x).map (mG enc)=(l.map (mG enc)).set k (mG enc x):=by simp_all [Sh.set]
 refine⟨by grind,fun j a a' h1 h2=> ?_⟩
 rw[e] at h2
 by_cases hj:k=j
 ·subst hj
  rw[List.getElem?_set_self (by grind)] at h1 h2
  obtain rfl:=Option.some.inj h1
  obtain rfl:=Option.some.inj h2
  refine⟨.lend hid hg ?_ (fun a ha=> ?_),rfl⟩
  ·grind [aha]
  grind
 ·rw[List.getElem?_set_ne hj] at h1 h2
  rw[h1] at h2
  obtain rfl:=Option.some.inj h2
  obtain⟨q,hq⟩:=List.mem_map.1 (ad7 h1)
  refine⟨.same _ ?_,rfl⟩
  rw[←hq.2]
  simp only[mG,VF,List.mem_map]
  grind
theorem acj{l m:List α}(h:l.length=m.length):Sh.YA l m=some m:=by
 simp[Sh.YA,h.symm]
theorem SL{t':TypeId}(ho:o.op=.binOp .eql t x (.const .nilIface) t')(hx:aD fr x=some (.imm .nilIface))(ht:P.underlying t=some (.interface (P.methodsAt t))):b_ P W0 o fr H (bl true) H:=
 .cz fun C a _ hH hr=>by
  have e1:=bR (v:=.nilIface) rfl (aQ (hr x (by simp[ho,Op.operands])) hx);have e2:a.eval (.const .nilIface)=.nilIface:=rfl;refine⟨.bool true, ?_,.imm _ rfl⟩;simp_all [execOp,eqGuard,run_eql_nil_nil]
theorem Uv{N:Nat}{C:Ctx}{a:Act}{Q:Exit→Act→World→Prop}(ids:List Nat)(fs:Flags){l:List Oper}{frl:List (Nat×AV)}{K:List (Nat×AV)→Heap→Prop}(hm:P.follows .mixedOrders=true)(hB:Lg fs none l.toArray=true)(hN:l.all (jb N)=true)
  (h:Ka P W0 l.toArray fs H ids 0 l frl H K)(hro:W0.ro=none)(hr:Rel W0 N (lk frl) H C a)(hQ:∀f g C' a',Ext C C'→Rel W0 N (lk f) g C' a'→K f g→Q .normal a' C'.w):(Code.region id l.toArray true).wpIn (Fw W0.ro) 0 P Q a C.w:=by
 obtain⟨hE,hR⟩:=Ma hr
 rw[hro,xh]
 refine wpIn_wide.2 (wp_region_any hm ?_)
 have hB':Rf .any l.toArray fs none l.length 0 (Vv l.toArray.size 0)=true:=by assumption
 have key:=I4 (P:=P) (W0:=W0) (ops:=l.toArray) LK.mono h (.inr (fun _ _=>rfl)) (fun j _=>by simp) hB'
 have:=rS (P:=P) (Q:=Q) (fun o ho=>List.all_eq_true.1 hN o (by grind)) _ _ _ _ _ _ hR (fun f g C' a' he hrel hL=>by
  obtain⟨fr',hk,hq⟩:=hL
  exact hQ fr' g C' a' (hE.trans he) ⟨hrel.heap,hrel.inv,hrel.size,hrel.defers,fun t x hx=>hrel.rep t x (hk t x hx)⟩ hq) key
 assumption
end
end Go.Av
end

section
namespace Go.Av
section
variable {α β:Type}
def nJ(enc:α→AV)(e:β→AV→AV)(row:β→List α):Nat→List β→List AV
 |_,[]=>[]
 |M,b::B=>e b (.view M 0 ((row b).map enc).length)::nJ enc e row (M+1) B
structure XW (e:β→AV→AV) (s:Nat):Prop where
 flat:∀b v,(e b v).flat.length=s
 see:∀(H:Heap) (g:List (Nat×Nat)) (nw:List Nat) (b:β) (v v':AV),gi H g nw v v'→gi H g nw (e b v) (e b v')
variable {enc:α→AV} {e:β→AV→AV} {row:β→List α}
@[simp] theorem QF:∀(B:List β) (M:Nat),(nJ enc e row M B).length=B.length
 |[],_=>rfl
 |_::B,M=>by simp[nJ,QF B]
theorem td:∀(B:List β) (M i:Nat),(nJ enc e row M B)[i]? =B[i]?.map fun b=>e b (.view (M+i) 0 ((row b).map enc).length)
 |[],_,i=>by rfl
 |b::B,M,0=>by rfl
 |b::B,M,i+1=>by simp only[nJ,List.getElem?_cons_succ,td B];grind
variable {M:Nat}
theorem CU{B:List β}{i:Nat}{b:β}(h:B[i]? =some b):(nJ enc e row M B)[i]? =some (e b (.view (M+i) 0 ((row b).map enc).length)):=by rw[td,h];rfl
variable {s:Nat}
theorem WB(he:XW e s){B:List β}:∀x∈nJ enc e row M B,x.flat.length=s:=fun x hx=>by
 obtain⟨k,hk⟩:=ack hx;rw[td] at hk;simp only[ae5] at hk;obtain⟨b,_,rfl⟩:=hk;exact he.flat _ _
theorem Cr{H:Heap}{g0:List (Nat×Nat)}{gr:Nat→Option Nat}(he:XW e s){B:List β}{es:List AV}(Sn:g0.all (fun p=>decide (p.1<M))=true)(hl:es.length=B.length)
  (h:∀i b,B[i]? =some b→(∃o,gr i=some o∧es[i]? =some (e b (.view o 0 ((row b).map enc).length)))∨(gr i=none∧es[i]? =some (e b dy)∧row b=[])):rU H (g0++vS gr M 0 B.length) (FU gr M 0 B.length) es (nJ enc e row M B):=
 ⟨by simp[hl],fun k x x' h1 h2=>by
  rw[td] at h2;simp only[ae5] at h2;obtain⟨b,h2,rfl⟩:=h2;have hk:k<B.length:=(List.getElem?_eq_some_iff.1 h2).1;have hlk:lk (g0++vS gr M 0 B.length) (M+k)=gr k:=by
   rw[lC];have:lk g0 (M+k)=none:=by
    cases hc:lk g0 (M+k) with
    |none=>rfl
    |some v=>
     have:=List.all_eq_true.1 Sn _ (iL hc);grind
   simp_all [Ih]
  rcases h k b h2 with⟨o,h3,h4⟩|⟨h3,h4,h5⟩
  ·rw[h1] at h4;cases h4
   exact⟨he.see _ _ _ _ _ _ (.view (hlk.trans h3)),by rw[he.flat,he.flat]⟩
  ·rw[h1] at h4;cases h4
   refine⟨he.see _ _ _ _ _ _ ?_,by rw[he.flat,he.flat]⟩;rw[h5];exact .nil (Cf.2 ⟨k,afR _,by omega,h3,rfl⟩)⟩
variable {sz:Nat}
theorem JD{F:List (Nat×(Nat×List AV))}(he:XW e s){B:List β}{g:List (Nat×Nat)}{nw:List Nat}(hno:∀x,bQ (enc x))(hF:F.all (fun p=>decide (p.1<M))=true:=by rfl)(hg:g.all (fun p=>decide (p.2<M))=true:=by rfl):
  rU (qL F enc sz M (B.map row)) g nw (nJ enc e row M B) (B.map fun b=>e b (mG enc (row b))):=
 ⟨by simp,fun k x x' h1 h2=>by
  rw[td] at h1
  simp only[ae5] at h1
  obtain⟨b,h1,rfl⟩:=h1
  rw[ab_,h1] at h2
  cases h2
  have h3:(B.map row)[k]? =some (row b):=by grind
  refine⟨he.see _ _ _ _ _ _ (.lend (es:=(row b).map enc) (by grind [Heap.get,zd]) (fun p hp=> ?_) (by grind) (fun x hx=> ?_)),by rw[he.flat,he.flat]⟩
  ·grind
  grind⟩
theorem b8.UN{W0:bS}{N:Nat}{fr fr':List (Nat×AV)}{F F':List (Nat×(Nat×List AV))}(g0:List (Nat×Nat)){k oid:Nat}(he:XW e s){B:List β}{b b':β}(B2:List β)(h2:B2=B.set k b')(heb:∀v,e b' v=e b v)(hno:∀x,bQ (enc x))(hl:B[k]? =some b)(ho:lk F oid=some (s,nJ enc e row M B))
  (hfront:∀(H:Heap) (g:List (Nat×Nat)) (nw:List Nat),(∀n,n<M→lk g n=lk g0 n)→(∀n x,n≠oid→lk F n=some x→lk H.bV n=some x)→
   ∀es,lk H.bV oid=some (s,es)→rU H g nw es (nJ enc e row M B2)→jC H g nw (M+B2.length) F'∧Seen H g nw fr fr')
  (hF:F.all (fun p=>decide (p.1<M))=true:=by rfl)(Sn:g0.all (fun p=>decide (p.1<M)&&decide (p.2<M))=true:=by rfl)(z8:g0.all (fun p=>g0.all (fun q=>p.2 !=q.2||p.1==q.1))=true:=by rfl)(hp:W0.p=0:=by rfl):
  b8 W0 N ⟨fr,(((qL F enc sz M (B.map row)).del (M+k)).push sz ((row b').map enc)).set oid ((nJ enc e row M B).set k (e b (.view (M+B.length) 0 ((row b').map enc).length)))⟩ ⟨fr',qL F' enc sz M (B2.map row)⟩:=by
 subst h2
 have hk:k<B.length:=(List.getElem?_eq_some_iff.1 hl).1
 have hoM:=Ai hF ho
 have acP:∀p∈g0,p.1<M∧p.2<M:=fun p hp=>by grind
 have hg0':g0.all (fun p=>decide (p.1<M))=true:=List.all_eq_true.2 fun p hp=>by grind
 have hlk:∀n,lk ((((qL F enc sz M (B.map row)).del (M+k)).push sz ((row b').map enc)).set oid ((nJ enc e row M B).set k (e b (.view (M+B.length) 0 ((row b').map enc).length)))).bV n=if n=oid then some (s,(nJ enc e row M B).set k (e b (.view (M+B.length) 0 ((row b').map enc).length))) else if n=M+B.length then some (sz,(row b').map enc) else if n=M+k then none else lk (F++Ta enc sz M (B.map row)) n:=fun n=>by
  have hs:((((qL F enc sz M (B.map row)).del (M+k)).push sz ((row b').map enc)).sz oid).getD 0=s:=by
   grind [Heap.sz,QB]
  grind [Heap.set,Ah,Heap.push,Heap.del,GW]
 let gr:Nat→Option Nat:=fun i=>some (if i=k then M+B.length else M+i)
 have hsee:=Cr he (row:=row) (H:=(((qL F enc sz M (B.map row)).del (M+k)).push sz ((row b').map enc)).set oid ((nJ enc e row M B).set k (e b (.view (M+B.length) 0 ((row b').map enc).length)))) (g0:=g0) (gr:=gr) (M:=M) (enc:=enc) (B:=B.set k b') (es:=(nJ enc e row M B).set k (e b (.view (M+B.length) 0 ((row b').map enc).length))) hg0' (by simp) (fun i l2 hi=>by
  by_cases hik:k=i
  ·subst hik
   exact .inl ⟨M+B.length,by simp[gr],by simp_all⟩
  ·exact .inl ⟨M+i,by grind,by grind [td]⟩)
 obtain⟨hf1,hf2⟩:=hfront ((((qL F enc sz M (B.map row)).del (M+k)).push sz ((row b').map enc)).set oid ((nJ enc e row M B).set k (e b (.view (M+B.length) 0 ((row b').map enc).length)))) (g0++vS gr M 0 (B.set k b').length) (FU gr M 0 (B.set k b').length) (fun n hn=>by
   rw[lC]
   cases hc:lk g0 n with
   |some v=>rfl
   |none=>
    cases MO:lk (vS gr M 0 (B.set k b').length) n with
    |none=>rfl
    |some v=>
     obtain⟨j,o,_,_,_,h5⟩:=lS.1 (iL MO)
     grind) (fun n x hn hx=>by
   have:=Ai hF hx
   rw[hlk,if_neg hn,if_neg (by omega),if_neg (by omega),C_ this,hx]) _ (by grind) hsee
 refine b8.rows g0 ((B.set k b').map row) gr hno (fun i l2 hi=>.inl ⟨_,rfl, ?_⟩) (fun i j o hi hj h1 h2=> ?_) (fun i o hi h1 p hp'=> ?_) (by grind) (by grind) hg0' z8 hp rfl
 ·by_cases hik:k=i
  ·grind
  ·grind [zd]
 ·grind
 grind

theorem b8.VD{W0:bS}{N:Nat}{fr fr':List (Nat×AV)}{F F':List (Nat×(Nat×List AV))}(g0:List (Nat×Nat)){oid:Nat}(he:XW e s){B:List β}{b:β}(hb:row b=[])(B2:List β)(h2:B2=B++[b])(hno:∀x,bQ (enc x))(ho:lk F oid=some (s,nJ enc e row M B))
  (hfront:∀(H:Heap) (g:List (Nat×Nat)) (nw:List Nat),(∀n,n<M→lk g n=lk g0 n)→(∀n x,n≠oid→lk F n=some x→lk H.bV n=some x)→
   ∀es,lk H.bV (M+B.length)=some (s,es)→rU H g nw es (nJ enc e row M B2)→jC H g nw (M+B2.length) F'∧Seen H g nw fr fr')
  (hF:F.all (fun p=>decide (p.1<M))=true:=by rfl)(Sn:g0.all (fun p=>decide (p.1<M))=true:=by rfl)(hg2:∀p∈g0,p.2<M∨p.2=M+B.length:=by simp)(z8:g0.all (fun p=>g0.all (fun q=>p.2 !=q.2||p.1==q.1))=true:=by simp)(hp:W0.p=0:=by rfl):
  b8 W0 N ⟨fr,(((qL F enc sz M (B.map row)).del oid).push s (nJ enc e row M B++[e b dy]))⟩ ⟨fr',qL F' enc sz M (B2.map row)⟩:=by
 subst h2
 have hoM:=Ai hF ho
 have hlk:∀n,lk ((((qL F enc sz M (B.map row)).del oid).push s (nJ enc e row M B++[e b dy]))).bV n=if n=M+B.length then some (s,nJ enc e row M B++[e b dy]) else if n=oid then none else lk (F++Ta enc sz M (B.map row)) n:=fun n=>by
  grind [Heap.push,Heap.del,Ah,GW]
 let gr:Nat→Option Nat:=fun i=>if i<B.length then some (M+i) else none
 have hsee:=Cr he (row:=row) (H:=(((qL F enc sz M (B.map row)).del oid).push s (nJ enc e row M B++[e b dy]))) (g0:=g0) (gr:=gr) (M:=M) (enc:=enc) (B:=B++[b]) (es:=nJ enc e row M B++[e b dy]) Sn (by simp) (fun i l2 hi=>by
  rw[List.getElem?_append] at hi ⊢
  rw[QF]
  by_cases hik:i<B.length
  ·rw[if_pos hik] at hi ⊢
   rw[td,hi]
   grind
  grind)
 obtain⟨hf1,hf2⟩:=hfront (((qL F enc sz M (B.map row)).del oid).push s (nJ enc e row M B++[e b dy])) (g0++vS gr M 0 (B++[b]).length) (FU gr M 0 (B++[b]).length) (fun n hn=>by
   rw[lC]
   cases hc:lk g0 n with
   |some v=>rfl
   |none=>
    cases MO:lk (vS gr M 0 (B++[b]).length) n with
    |none=>rfl
    |some v=>
     obtain⟨j,o,_,_,_,h5⟩:=lS.1 (iL MO)
     grind) (fun n x hn hx=>by
   have:=Ai hF hx
   rw[hlk,if_neg (by omega),if_neg hn,C_ this,hx]) _ (by grind) hsee
 refine b8.rows g0 ((B++[b]).map row) gr hno (fun i l2 hi=> ?_) (fun i j o hi hj h1 h2=> ?_) (fun i o hi h1 p hp'=> ?_) (by grind) (by grind) Sn z8 hp rfl
 ·by_cases hik:i<B.length
  ·grind [zd]
  grind
 ·grind
 grind
end
section
variable {α β:Type} {enc:α→AV} {e:β→AV→AV} {row:β→List α}
variable {W0:bS}{N M sz s0:Nat}
theorem b8.Nt{fr fr':List (Nat×AV)}{F F':List (Nat×(Nat×List AV))}(g0:List (Nat×Nat)){s:Nat}(he:XW e s0){B:List β}{es es':List AV}{q:Nat}(hq:q=M+B.length)(hno:∀x,bQ (enc x))
  (hfront:∀(H:Heap) (g:List (Nat×Nat)) (nw:List Nat),(∀n,n<M→lk g n=lk g0 n)→(∀n x,lk F n=some x→lk H.bV n=some x)→H.get q=some es'→(∀p∈g,p.2≠q)→rU H g nw (nJ enc e row M B) (nJ enc e row M B)→jC H g nw (M+B.length) F'∧Seen H g nw fr fr')
  (hF:F.all (fun p=>decide (p.1<M))=true:=by rfl)(Sn:g0.all (fun p=>decide (p.1<M)&&decide (p.2<M))=true:=by rfl)(z8:g0.all (fun p=>g0.all (fun q=>p.2 !=q.2||p.1==q.1))=true:=by rfl)(hp:W0.p=0:=by rfl):
  b8 W0 N ⟨fr,((qL F enc sz M (B.map row)).push s es).set q es'⟩ ⟨fr',qL F' enc sz M (B.map row)⟩:=by
 have acP:∀p∈g0,p.1<M∧p.2<M:=fun p hp=>by grind
 have hg0':g0.all (fun p=>decide (p.1<M))=true:=List.all_eq_true.2 fun p hp=>by grind
 have hlk:∀n,n≠M+B.length→lk (((qL F enc sz M (B.map row)).push s es).set (M+B.length) es').bV n=lk (F++Ta enc sz M (B.map row)) n:=fun n hn=>by
  simp_all [Heap.set,Heap.push,Ah]
 let gr:Nat→Option Nat:=fun i=>some (M+i)
 obtain⟨hf1,hf2⟩:=hfront (((qL F enc sz M (B.map row)).push s es).set (M+B.length) es') (g0++vS gr M 0 B.length) (FU gr M 0 B.length) (fun n hn=>by
   rw[lC];cases hc:lk g0 n with
   |some v=>rfl
   |none=>
    cases MO:lk (vS gr M 0 B.length) n with
    |none=>rfl
    |some v=>
     obtain⟨j,o,_,_,_,h5⟩:=lS.1 (iL MO);grind) (fun n x hx=>by
   grind [Ai,C_]) (by simp_all [Heap.tQ]) (fun p hp'=>by
   rcases List.mem_append.1 hp' with k|k
   ·grind
   ·obtain⟨j,o,_,hj,ho,rfl⟩:=lS.1 k
    grind) (Cr he hg0' (by simp) fun i b hi=>.inl ⟨M+i,rfl,by rw[td,hi];rfl⟩)
 refine b8.rows g0 (B.map row) gr hno (fun i l hi=>.inl ⟨M+i,rfl, ?_⟩) (fun i j o _ _ h1 h2=> ?_) (fun i o _ h1 p hp'=> ?_) (by grind) (by grind) hg0' z8 hp rfl
 ·grind [zd]
 ·grind
 grind
theorem QG{b b':β}(hr:row b'=row b):∀{B:List β} {M k:Nat},B[k]? =some b→(nJ enc e row M B).set k (e b' (.view (M+k) 0 ((row b).map enc).length))=nJ enc e row M (B.set k b')
 |[],_,_,h=>by cases h
 |c::B,M,0,h=>by simp[nJ,hr]
 |c::B,M,k+1,h=>by
  simp only[nJ,List.set_cons_succ]
  rw[←QG hr (B:=B) (M:=M+1) (k:=k) (by grind),afe,Nat.add_comm 1 k]
theorem Cp{b b':β}(hr:row b'=row b){B:List β}{k:Nat}(h:B[k]? =some b):(B.set k b').map row=B.map row:=by
 apply ajH;grind
theorem QD{F:List (Nat×(Nat×List AV))}{oid k:Nat}{i:Int}{b:β}{B:List β}(b':β)(hr:row b'=row b)(hi:i=k)(hl:B[k]? =some b):(qL F enc sz M (B.map row)).set oid ((nJ enc e row M B).set k (e b' (.view (M+k) 0 ((row b).map enc).length)))=(qL F enc sz M ((Sh.set B i b').map row)).set oid (nJ enc e row M (Sh.set B i b')):=by
 grind [Sh.set,QG,Cp]
theorem b8.Ri{fr fr':List (Nat×AV)}{F F':List (Nat×(Nat×List AV))}(g0:List (Nat×Nat))(he:XW e s0){B:List β}(hno:∀x,bQ (enc x))
  (hfront:∀(H:Heap) (g:List (Nat×Nat)) (nw:List Nat),(∀n,n<M→lk g n=lk g0 n)→(∀n x,lk F n=some x→lk H.bV n=some x)→rU H g nw (nJ enc e row M B) (nJ enc e row M B)→jC H g nw (M+B.length) F'∧Seen H g nw fr fr')
  (hF:F.all (fun p=>decide (p.1<M))=true:=by rfl)(Sn:g0.all (fun p=>decide (p.1<M)&&decide (p.2<M))=true:=by rfl)(z8:g0.all (fun p=>g0.all (fun q=>p.2 !=q.2||p.1==q.1))=true:=by rfl)(hp:W0.p=0:=by rfl):
  b8 W0 N ⟨fr,qL F enc sz M (B.map row)⟩ ⟨fr',qL F' enc sz M (B.map row)⟩:=by
 have acP:∀p∈g0,p.1<M∧p.2<M:=fun p hp=>by grind
 have hg0':g0.all (fun p=>decide (p.1<M))=true:=List.all_eq_true.2 fun p hp=>by grind
 let gr:Nat→Option Nat:=fun i=>some (M+i)
 obtain⟨hf1,hf2⟩:=hfront (qL F enc sz M (B.map row)) (g0++vS gr M 0 B.length) (FU gr M 0 B.length) (fun n hn=>by
   rw[lC]
   cases hc:lk g0 n with
   |some v=>rfl
   |none=>
    cases MO:lk (vS gr M 0 B.length) n with
    |none=>rfl
    |some v=>
     obtain⟨j,o,_,_,_,h5⟩:=lS.1 (iL MO)
     grind) (fun n x hx=>by
   grind [Ai,C_]) (Cr he hg0' (by simp) fun i b hi=>.inl ⟨M+i,rfl,by rw[td,hi];rfl⟩)
 refine b8.rows g0 (B.map row) gr hno (fun i l hi=>.inl ⟨M+i,rfl,zd hF hi⟩) (fun i j o _ _ h1 h2=> ?_) (fun i o _ h1 p hp'=> ?_) (by grind) (by grind) hg0' z8 hp rfl
 ·grind
 grind
theorem b8.ahY{fr fr':List (Nat×AV)}{F F':List (Nat×(Nat×List AV))}(g0:List (Nat×Nat)){s q0:Nat}(he:XW e s0){B:List β}{es:List AV}(hno:∀x,bQ (enc x))(hq:q0<M)
  (hfront:∀(H:Heap) (g:List (Nat×Nat)) (nw:List Nat),(∀n,n<M→lk g n=lk g0 n)→(∀n x,n≠q0→lk F n=some x→lk H.bV n=some x)→lk H.bV (M+B.length)=some (s,es)→rU H g nw (nJ enc e row M B) (nJ enc e row M B)→jC H g nw (M+B.length) F'∧Seen H g nw fr fr')
  (hF:F.all (fun p=>decide (p.1<M))=true:=by rfl)(Sn:g0.all (fun p=>decide (p.1<M))=true:=by rfl)(hg2:∀p∈g0,p.2<M∨p.2=M+B.length:=by simp)(z8:g0.all (fun p=>g0.all (fun q=>p.2 !=q.2||p.1==q.1))=true:=by simp)(hp:W0.p=0:=by rfl):
  b8 W0 N ⟨fr,((qL F enc sz M (B.map row)).del q0).push s es⟩ ⟨fr',qL F' enc sz M (B.map row)⟩:=by
 have hlm:(B.map row).length=B.length:=ajM ..
 have hlk:∀n,lk (((qL F enc sz M (B.map row)).del q0).push s es).bV n=if n=M+B.length then some (s,es) else if n=q0 then none else lk (F++Ta enc sz M (B.map row)) n:=fun n=>by
  grind [Heap.push,Heap.del,Ah,GW]
 let gr:Nat→Option Nat:=fun i=>some (M+i)
 obtain⟨hf1,hf2⟩:=hfront (((qL F enc sz M (B.map row)).del q0).push s es) (g0++vS gr M 0 B.length) (FU gr M 0 B.length) (fun n hn=>by
   rw[lC]
   cases hc:lk g0 n with
   |some v=>rfl
   |none=>
    cases MO:lk (vS gr M 0 B.length) n with
    |none=>rfl
    |some v=>
     obtain⟨j,o,_,_,_,h5⟩:=lS.1 (iL MO)
     grind) (fun n x hn hx=>by
   have:=Ai hF hx
   rw[hlk,if_neg (by omega),if_neg hn,C_ this,hx]) (by grind) (Cr he Sn (by simp) fun i b hi=>.inl ⟨M+i,rfl,by rw[td,hi];rfl⟩)
 refine b8.rows g0 (B.map row) gr hno (fun i l hi=>.inl ⟨M+i,rfl, ?_⟩) (fun i j o _ _ h1 h2=> ?_) (fun i o hi h1 p hp'=> ?_) (by grind) (by grind) Sn z8 hp rfl
 ·have:=(List.getElem?_eq_some_iff.1 hi).1
  rw[hlk,if_neg (by omega),if_neg (by omega)]
  exact zd hF hi
 ·grind
 grind
end
section
variable {P:Program} {W0:bS} {fr:Fr} {H:Heap} {o:Oper} {α β:Type} {enc:α→AV} {e:β→AV→AV} {row:β→List α}
theorem Ms{en2:β→AV}{t ty el:TypeId}{s eN id n:Nat}{z:Value}{xo yo:Operand}(he:XW e s)(M:Nat)(B B':List β)(b:β)(hL:Sh.app eN B [b]=some B')(hn:n=(B.map en2).length)(hT:AM P t el s eN z)(ho:o.op=.call {callee:=.builtin .append,args:= #[xo,yo],argTypes:= #[t,t]})(hty:o.type=ty)
  (hx:aD fr xo=some (.view id 0 n))(hid:H.get id=some (nJ enc e row M B))(hs:H.sz id=some s)(hy:aD fr yo=some (.clip [e b dy])):b_ P W0 o fr H (.view H.next 0 (B'.map en2).length) ((H.del id).push s (nJ enc e row M B++[e b dy])):=by
 obtain⟨h1,rfl⟩:=Sh.qR hL;have hn':n=(nJ enc e row M B).length:=by rw[hn];simp
 subst hn';have:=DG (P:=P) (W0:=W0) (o:=o) (fr:=fr) (H:=H) hT ho hty hx hid hs hy (ys:=[e b dy]) rfl (WB he) (fun x hx=>by simp at hx;subst hx;exact he.flat _ _) (by grind);grind
theorem sJ{en2:β→AV}{t el:TypeId}{s eN id n:Nat}{xo io:Operand}{k:Nat}{i:Int}{ki:IntKind}{b:β}(he:XW e s)(M:Nat)(B:List β)(hi:i=k)(hl:B[k]? =some b)(hn:n=(B.map en2).length)(ho:o.op=.indexAddr t xo io)(hx:aD fr xo=some (.view id 0 n))(hid:H.get id=some (nJ enc e row M B))(hio:aD fr io=some (.imm (.int ki i)))
  (ht:oK P t=some (el,s,eN)):b_ P W0 o fr H (.ref id k 0) H:=by
 have hk:k<n:=by grind
 exact Gw hi (CU hl) hk ho hx hid hio ht (he.flat _ _)
end
end Go.Av
end

section
namespace Go.Av
open Go.RowKit (Below)
def JS{α:Type}(kv:α→Value)(q:Int×List α):AV:=.fL ((.nilFunc,.int .i64 q.1)::q.2.map fun x=>(kv x,kv x))
@[simp] theorem anP{α:Type}(kv:α→Value)(q:Int×List α):bQ (JS kv q):=.fL _
section
variable {P:Program} {W0:bS} {C:Ctx} {fr:Fr} {a:Act} {H:Heap} {o:Oper} {α:Type} {kv:α→Value}

theorem Qr(hI:Inv W0 C){id:Nat}{q:Int×List α}(hid:C.H.get id=some [JS kv q])(hn:(C.pl id).nil=false):
  (C.pl id).ref=.chan (some (C.pl id).de)∧(C.pl id).cap=2∧∃(n s r:Nat),q.1=n∧C.w.heap[(C.pl id).de]? =some (.chan n (q.2.map kv).toArray false s r false):=by
 obtain⟨_,ob,h1,h2⟩:=Kv hI hid hn;unfold yH at h2;split at h2
 ·exact absurd rfl ((h2.2 _ rfl).2 _ (ad2 ..))
 ·rename_i n buf cl s r tm
  obtain⟨hc,h3,h4,h5⟩:=h2;have h6:=h5 _ rfl;simp only[List.cons.injEq,Prod.mk.injEq,true_and,Value.int.injEq] at h6;obtain⟨h7,h8⟩:=h6;have h9:buf.toList=q.2.map kv:=by
   have:=congrArg (ajN Prod.fst) h8;simpa [Function.comp_def] using this.symm
  refine⟨by simp[Place.ref,hc],hc,n,s,r,h7, ?_⟩;rw[h1,h3,h4,←h9]
 grind

theorem MA(hI:Inv W0 C){id:Nat}{q q':Int×List α}(hid:C.H.get id=some [JS kv q])(hn:(C.pl id).nil=false)(n s r:Nat)(hq:q'.1=n):
  Ext C (C.write id (C.w.putObj (C.pl id).de (.chan n (q'.2.map kv).toArray false s r false)) [JS kv q'])∧Inv W0 (C.write id (C.w.putObj (C.pl id).de (.chan n (q'.2.map kv).toArray false s r false)) [JS kv q']):=by
 obtain⟨_,hc,n0,s0,r0,_,hb⟩:=Qr hI hid hn;refine Oh hI hid hn hb ⟨hc,rfl,rfl,fun l hl=> ?_⟩;simp only[List.cons.injEq,AV.fL.injEq,and_true] at hl;subst hl;simp[hq]

theorem Ou{t e:TypeId}{x:Operand}{i:TypeInfo}{dir:ChanDir}(kv:α→Value)(n:Int)(ho:o.op=.makeChan t x)(ht:P.underlying t=some (.chan dir e))(hi:P.info? e=some i)(hx:aD fr x=some (.imm (.int .i64 n)))(h0:0≤n)(h1:n≤256)(hb:i.bytes≤1000000):
  b_ P W0 o fr H (.mref H.next) (H.push 0 [JS kv (n,[])]):=
 .of_run fun C a hI hH hop=>by
  subst hH;obtain⟨k,rfl⟩:=Int.eq_ofNat_of_zero_le h0;have e1:=bR (v:=.int .i64 k) rfl (aQ (hop x (by simp[ho,Op.operands])) hx);obtain⟨h1',h2⟩:=VE (c:=2) (l:=[(.nilFunc,.int .i64 k)]) (ob:=.chan k #[] false 0 0 false) hI (by decide) ⟨rfl,rfl,rfl,fun l hl=>by grind⟩;refine⟨.chan (some C.w.heap.size),_, ?_,h1',h2,rfl, ?_⟩
  ·have QY:(i.bytes:Int)*k≤281474976710544:=by
    have h3:(i.bytes:Int)≤1000000:=by omega
    have h4:(i.bytes:Int)*k≤1000000*256:=Int.mul_le_mul h3 h1 (by omega) (by omega);omega
   have h63:(k:Int)≤9223372036854775807:=by omega
   have hr:=Conc.run_makeChan (w:=C.w) ht hi .i64 k h63 QY;simp only[execOp,ho,e1];rw[Sem.run_bind,hr];rfl
  ·exact .mref _ _ (Nat.lt_succ_self _) (fun es he=>by
    have e:((C.uG (C.w.alloc (.chan k #[] false 0 0 false))).push ⟨C.w.heap.size,0,1,2,false⟩ [.fL [(.nilFunc,.int .i64 k)]]).pl C.H.next=⟨C.w.heap.size,0,1,2,false⟩:=by
     show(if C.H.next=C.H.next then _ else _)=_;grind
    first
     |(rw[e];exact⟨rfl,rfl⟩)
     |(rw[e'])) rfl

def _root_.Go.Sh.chan{α:Type}(n:Int):Option (Int×List α):=if 0≤n∧n≤256 then some (n,[]) else none
theorem Ug{t e:TypeId}{x:Operand}{dir:ChanDir}(kv:α→Value)(n:Int)(q:Int×List α)(hq:Sh.chan n=some q)(ho:o.op=.makeChan t x)(ht:P.underlying t=some (.chan dir e))(hi:(P.info? e).any (fun i=>decide (i.bytes≤1000000))=true)(hx:aD fr x=some (.imm (.int .i64 n))):
  b_ P W0 o fr H (.mref H.next) (H.push 0 [JS kv q]):=by
 unfold Sh.chan at hq
 split at hq
 ·cases hp:P.info? e with
  |none=>grind
  |some i=>grind [Ou]
 grind

def hpQ(kv:α→Value)(q:Int×List α):Heap:=⟨2,[(0,(1,[.agg [.mref 1]])),(1,(0,[JS kv q]))],[]⟩
theorem Rv(hI:Inv W0 C){q:Int×List α}(hH:C.H=hpQ kv q){v:Value}(hv:c4 C (.ref 0 0 0) v):
  ∃(n s r:Nat),v=.pointer (some ⟨(C.pl 0).de,0,none⟩)∧(C.pl 1).nil=false∧C.w.cell? ⟨(C.pl 0).de,0,none⟩=some (.chan (some (C.pl 1).de))∧q.1=n∧C.w.heap[(C.pl 1).de]? =some (.chan n (q.2.map kv).toArray false s r false):=by
 have g0:C.H.get 0=some [.agg [.mref 1]]:=by rw[hH];rfl
 have g1:C.H.get 1=some [JS kv q]:=by rw[hH];rfl
 match hv with
 |.ref _ _ _ _ _ h1 _=>
 obtain⟨hn,rfl⟩:=h1 _ g0;obtain⟨u,h2,h3⟩:=wK hI g0 hn (i:=0) rfl (j:=0) rfl;simp only[Nat.zero_mul,afg] at h2
 match h3 with
 |.mref _ _ _ h4 _=>
 obtain⟨hn1,rfl⟩:=h4 _ g1;obtain⟨hr,_,n,s,r,hq,hb⟩:=Qr hI g1 hn1;rw[hr] at h2;exact⟨n,s,r,by simp,hn1,h2.1,hq,hb⟩

def _root_.Go.Sh.NV(q:Int×List α)(x:α):Bool×(Int×List α):=if(q.2.length:Int)<q.1 then(true,(q.1,q.2++[x])) else(false,q)
def _root_.Go.Sh.Xh(z:α)(q:Int×List α):(α×Bool)×(Int×List α):=match q.2 with
 |[]=>((z,false),q)
 |x::l=>((x,true),(q.1,l))
theorem WH{f:FuncId}{enc:α→AV}{W:bS}(hc:gO P f)(henc:∀x,(enc x).Xv=some (kv x))
  (hroom:∀(w:World) (bq c cap s r:Nat) (buf:Array Value) (x:α),w.cell? ⟨bq,0,none⟩=some (.chan (some c))→w.heap[c]? =some (.chan cap buf false s r false)→buf.size<cap→
   Calls P f #[.pointer (some ⟨bq,0,none⟩),kv x] w fun e w'=>e=.returned (.bool true)∧Below w.heap.size (w.putObj c (.chan cap (buf.push (kv x)) false (s+1) r false)) w')
  (hfull:∀(w:World) (bq c cap s r:Nat) (buf:Array Value) (x:α),w.cell? ⟨bq,0,none⟩=some (.chan (some c))→w.heap[c]? =some (.chan cap buf false s r false)→cap≤buf.size→
   Calls P f #[.pointer (some ⟨bq,0,none⟩),kv x] w fun e w'=>e=.returned (.bool false)∧Below w.heap.size w w')
  (q:Int×List α)(x:α):Bs P W f [.ref 0 0 0,enc x] (hpQ kv q) (bl (Sh.NV q x).1) (hpQ kv (Sh.NV q x).2) where
 call:=hc
 runs C vals hI hH hd hsz hrep:=by
  obtain⟨n,s,r,h1,h2,h3,h4,h5⟩:=Rv hI hH (hrep 0 _ rfl);have h6:=bR (henc x) (hrep 1 _ rfl);have hv:vals= #[.pointer (some ⟨(C.pl 0).de,0,none⟩),kv x]:=by
   apply ajZ
   ·omega
   ·intro i hi _
    simp only[List.length_cons,List.length_nil] at hsz
    match i with
    |0=>simp_all
    |1=>simp_all
    |i+2=>omega
  rw[hv];have g1:C.H.get 1=some [JS kv q]:=by rw[hH];rfl
  unfold Sh.NV;by_cases hlt:(q.2.length:Int)<q.1
  ·rw[if_pos hlt]
   refine(hroom C.w _ _ _ _ _ _ x h3 h5 (by grind)).mono ?_;rintro e w' ⟨rfl,hB⟩;obtain⟨hE,MM⟩:=MA (q':=(q.1,q.2++[x])) hI g1 h2 n (s+1) r h4;have hB':Below (C.w.putObj (C.pl 1).de (.chan n ((q.2++[x]).map kv).toArray false (s+1) r false)).heap.size (C.w.putObj (C.pl 1).de (.chan n ((q.2++[x]).map kv).toArray false (s+1) r false)) w':=by
    simp_all
   refine⟨_,_,rfl, ?_,hE.mem.trans (dh (C:=C.write 1 _ _) hB').mem,MM.uG hB', ?_,hd,.imm _ rfl⟩
   ·rfl
   ·show C.H.set 1 _=_
    rw[hH];rfl
  ·rw[if_neg hlt]
   refine(hfull C.w _ _ _ _ _ _ x h3 h5 (by grind)).mono ?_;rintro e w' ⟨rfl,hB⟩;exact⟨_,_,rfl,rfl,(dh hB).mem,hI.uG hB,hH,hd,.imm _ rfl⟩
theorem YZ{f:FuncId}{enc:α→AV}{W:bS}(z:α)(hc:gO P f)(hrv:∀(C:Ctx) (x:α),c4 C (enc x) (kv x))
  (hsome:∀(w:World) (bq c cap s r:Nat) (x:α) (l:List α),w.cell? ⟨bq,0,none⟩=some (.chan (some c))→w.heap[c]? =some (.chan cap ((x::l).map kv).toArray false s r false)→
   Calls P f #[.pointer (some ⟨bq,0,none⟩)] w fun e w'=>e=.returned (.tuple #[kv x,.bool true])∧Below w.heap.size (w.putObj c (.chan cap (l.map kv).toArray false s (r+1) false)) w')
  (hnone:∀(w:World) (bq c cap s r:Nat),w.cell? ⟨bq,0,none⟩=some (.chan (some c))→w.heap[c]? =some (.chan cap #[] false s r false)→
   Calls P f #[.pointer (some ⟨bq,0,none⟩)] w fun e w'=>e=.returned (.tuple #[kv z,.bool false])∧Below w.heap.size w w')
  (q:Int×List α):Bs P W f [.ref 0 0 0] (hpQ kv q) (.tuple [enc (Sh.Xh z q).1.1,bl (Sh.Xh z q).1.2]) (hpQ kv (Sh.Xh z q).2) where
 call:=hc
 runs C vals hI hH hd hsz hrep:=by
  obtain⟨n,s,r,h1,h2,h3,h4,h5⟩:=Rv hI hH (hrep 0 _ rfl);have hv:vals= #[.pointer (some ⟨(C.pl 0).de,0,none⟩)]:=by
   apply ajZ
   ·omega
   simp_all
  rw[hv];have g1:C.H.get 1=some [JS kv q]:=by rw[hH];rfl
  have rt:∀(C':Ctx) (x:α) (b:Bool),c4 C' (.tuple [enc x,bl b]) (.tuple #[kv x,.bool b]):=fun C' x b=>.tuple _ _ rfl fun k y hk=>by
   match k with
   |0=>simp at hk;subst hk;simp_all
   |1=>simp at hk;subst hk;exact .imm _ rfl
   |k+2=>simp at hk
  obtain⟨m,l⟩:=q;cases l with
  |nil=>
   refine(hnone C.w _ _ _ _ _ h3 (by simpa using h5)).mono ?_;rintro e w' ⟨rfl,hB⟩;exact⟨_,_,rfl,rfl,(dh hB).mem,hI.uG hB,hH,hd,rt _ _ _⟩
  |cons x l=>
   refine(hsome C.w _ _ _ _ _ x l h3 h5).mono ?_;rintro e w' ⟨rfl,hB⟩;obtain⟨hE,MM⟩:=MA (q':=(m,l)) hI g1 h2 n s (r+1) h4;have hB':Below (C.w.putObj (C.pl 1).de (.chan n (l.map kv).toArray false s (r+1) false)).heap.size (C.w.putObj (C.pl 1).de (.chan n (l.map kv).toArray false s (r+1) false)) w':=by
    simp_all
   refine⟨_,_,rfl, ?_,hE.mem.trans (dh (C:=C.write 1 _ _) hB').mem,MM.uG hB', ?_,hd,rt _ _ _⟩
   ·rfl
   ·show C.H.set 1 _=_
    rw[hH];rfl
end
section
variable {P:Program} {W0:bS} {N:Nat} {C:Ctx} {fr:Fr} {a:Act} {H H0:Heap} {ops:Array Oper} {fs:Flags} {ids:List Nat} {Q:Exit→St→Prop} {frl:List (Nat×AV)} {K:List (Nat×AV)→Heap→Prop} {o:Oper} {rest:List Oper} {k:Nat} {stop:Option Nat}
def AN(P:Program)(W0:bS)(ops:Array Oper)(fs:Flags)(H0:Heap)(ids:List Nat)(stop:Option Nat)(k:Nat)(l:List Oper)(fr:List (Nat×AV))(H:Heap)(K:List (Nat×AV)→Heap→Prop):Prop:=
 sN P W0 ops fs (UB H0 ids) stop (LK K) k l (lk fr) H
theorem AN.nil(h:K frl H):AN P W0 ops fs H0 ids stop k [] frl H K:=sN.nil _ _ _ ⟨frl,fun _ _ h=>h,h⟩
theorem AN.keep(ts:List Nat){l:List Oper}{frx:List (Nat×AV)}(h:pick frl ts=some frx)(h2:AN P W0 ops fs H0 ids stop k l frx H K):AN P W0 ops fs H0 ids stop k l frl H K:=sN.drop (uR.lk (rE h)) h2
theorem AN.step{r:AV}{H1:Heap}(h:gm P W0 ops fs (UB H0 ids) k o r H1 (lk frl) H)(h2:AN P W0 ops fs H0 ids stop (k+1) rest (gP frl o.dst r) H1 K)(hs:(stop==some k)=false:=by rfl):AN P W0 ops fs H0 ids stop k (o::rest) frl H K:=by
 unfold AN at h2;rw[vm] at h2;exact sN.op hs h h2
theorem AN.skip(hw:dO ops (lk frl) o=some false)(h2:AN P W0 ops fs H0 ids stop (k+1) rest (gP frl o.dst (.tuple [])) H K)(hs:(stop==some k)=false:=by rfl):AN P W0 ops fs H0 ids stop k (o::rest) frl H K:=.step (.inr ⟨hw,rfl,rfl⟩) h2 hs
theorem AN.calm{r:AV}(hw:dO ops (lk frl) o=some true)(hg:FQ H0 H ids)(h:∀H',UB H0 ids H'→b_ P W0 o (lk frl) H' r H')(h2:AN P W0 ops fs H0 ids stop (k+1) rest (gP frl o.dst r) H K)(hs:(stop==some k)=false:=by rfl):AN P W0 ops fs H0 ids stop k (o::rest) frl H K:=
 .step (.inl ⟨hw,h H hg.spec,fun _=>rfl,fun _=>h,fun _=>id⟩) h2 hs
theorem IX{r:AV}{H1:Heap}(hw:dO ops (lk frl) o=some true)(hl:fs.kW k=true)(h:b_ P W0 o (lk frl) H r H1)(hg:FQ H0 H1 ids):gm P W0 ops fs (UB H0 ids) k o r H1 (lk frl) H:=
 .inl ⟨hw,h,(fun he=>by grind),(fun he=>by grind [wF]),fun _ _=>hg.spec⟩
theorem AN.kW{r:AV}{H1:Heap}(hw:dO ops (lk frl) o=some true)(hl:fs.kW k=true)(h:b_ P W0 o (lk frl) H r H1)(hg:FQ H0 H1 ids)(h2:AN P W0 ops fs H0 ids stop (k+1) rest (gP frl o.dst r) H1 K)(hs:(stop==some k)=false:=by rfl):AN P W0 ops fs H0 ids stop k (o::rest) frl H K:=
 .step (IX hw hl h hg) h2 hs
theorem AN.last{r:AV}{H1:Heap}(hw:dO ops (lk frl) o=some true)(hl:fs.last k=true)(h:b_ P W0 o (lk frl) H r H1)(h2:K (gP frl o.dst r) H1)(hs:(stop==some k)=false:=by rfl):AN P W0 ops fs H0 ids stop k [o] frl H K:=
 .step (.inl ⟨hw,h,(fun he=>by simp_all [Flags.last,Flags.kW]),(fun he=>by have:=wF he;simp_all [Flags.last,Flags.kW]),(fun he=>by grind)⟩) (.nil h2) hs
def SA(P:Program)(W0:bS)(ops:Array Oper)(fs:Flags)(H0:Heap)(ids:List Nat)(f:Nat)(listed:Array Bool)(fr:List (Nat×AV))(H:Heap)(K:List (Nat×AV)→Heap→Prop):Prop:=
 vT P W0 .any ops fs (UB H0 ids) (LK K) f listed (lk fr) H
def V_(P:Program)(W0:bS)(ops:Array Oper)(fs:Flags)(H0:Heap)(ids:List Nat)(f:Nat)(listed:Array Bool)(fr:List (Nat×AV))(H:Heap)(K:List (Nat×AV)→Heap→Prop)(i:Nat):Prop:=
 Ol P W0 ops fs (UB H0 ids) i (vT P W0 .any ops fs (UB H0 ids) (LK K) f (listed.setIfInBounds i true)) (lk fr) H
def Wa(P:Program)(W0:bS)(ops:Array Oper)(fs:Flags)(H0:Heap)(ids:List Nat)(f:Nat)(listed:Array Bool)(fr:List (Nat×AV))(H:Heap)(K:List (Nat×AV)→Heap→Prop):List Nat→Prop
 |[]=>True
 |i::l=>V_ P W0 ops fs H0 ids f listed fr H K i∧Wa P W0 ops fs H0 ids f listed fr H K l
theorem Wa.spec{f:Nat}{listed:Array Bool}:∀{l:List Nat},Wa P W0 ops fs H0 ids f listed frl H K l→∀i∈l,V_ P W0 ops fs H0 ids f listed frl H K i
 |i::l,h,j,hj=>by
  rcases List.mem_cons.1 hj with rfl|hj
  ·exact h.1
  ·exact Wa.spec h.2 j hj
theorem AN.fork{l:List Oper}(h:SA P W0 ops fs H0 ids l.length (Vv ops.size k) frl H K):AN P W0 ops fs H0 ids stop k l frl H K:=sN.fork h
theorem SA.done{listed:Array Bool}(hr:(Region.ready .any ops listed).isEmpty=true)(h:K frl H):SA P W0 ops fs H0 ids 0 listed frl H K:=⟨by grind,frl,fun _ _ h=>h,h⟩
theorem SA.many{f:Nat}{listed:Array Bool}(i:Nat)(is:List Nat)(hr:Region.ready .any ops listed=i::is)(h:Wa P W0 ops fs H0 ids f listed frl H K (i::is)):SA P W0 ops fs H0 ids (f+1) listed frl H K:=
 ⟨by grind,fun j hj=>by rw[hr] at hj;exact Wa.spec h j hj⟩
theorem V_.kW{f i:Nat}{listed:Array Bool}{r:AV}{H1:Heap}(o:Oper)(ho:ops[i]? =some o)(hw:dO ops (lk frl) o=some true)(hl:fs.kW i=true)(h:b_ P W0 o (lk frl) H r H1)(hg:FQ H0 H1 ids)(h2:SA P W0 ops fs H0 ids f (listed.setIfInBounds i true) (gP frl o.dst r) H1 K):V_ P W0 ops fs H0 ids f listed frl H K i:=by
 refine .of ho (IX hw hl h hg) ?_;grind [SA,vm]
theorem SA.keep(ts:List Nat){f:Nat}{listed:Array Bool}{frx:List (Nat×AV)}(h:pick frl ts=some frx)(h2:SA P W0 ops fs H0 ids f listed frx H K):SA P W0 ops fs H0 ids f listed frl H K:=vT.mono LK.mono _ _ _ _ _ (uR.lk (rE h)) h2
end
theorem Qk{P:Program}{W0:bS}{N:Nat}{Q:Exit→St→Prop}{H:Heap}{frl:List (Nat×AV)}(ids:List Nat)(fs:Flags)(stop:Option Nat){id:Nat}{l:List Oper}(hm:P.follows .mixedOrders=true)(hB:Lg fs stop l.toArray=true)(hN:l.all (jb N)=true)
  (h:AN P W0 l.toArray fs H ids stop 0 l frl H (fun f g=>Q .normal ⟨f,g⟩))(hro:W0.ro=none:=by rfl):iD P W0 N (.region id l.toArray true) ⟨frl,H⟩ Q:=fun C a hr=>by
 obtain⟨hE,hR⟩:=Ma hr;rw[hro,xh];refine wpIn_wide.2 (wp_region_any hm ?_);have hB':Rf .any l.toArray fs stop l.length 0 (Vv l.toArray.size 0)=true:=by assumption
 have key:=I4 (P:=P) (W0:=W0) (ops:=l.toArray) LK.mono h (.inr (fun _ _=>rfl)) (fun j _=>by simp) hB';have:=rS (P:=P) (Q:=Ya W0 N C Q) (fun o ho=>List.all_eq_true.1 hN o (by grind)) _ _ _ _ _ _ hR (fun f g C' a' he hrel hL=>by
  obtain⟨fr',hk,hq⟩:=hL;exact⟨⟨fr',g⟩,C',rfl,(hE.trans he).mem,⟨hrel.heap,hrel.inv,hrel.size,hrel.defers,fun t x hx=>hrel.rep t x (hk t x hx)⟩,hq⟩) key
 assumption
end Go.Av
end

section
namespace Go.Av
theorem Vy{C C':Ctx}(h:Mem C C')(hp:C.nI=C.H.next)(hd:C'.iu=C.iu):Ext C C':=
 have k:=h.pins (by rw[hp];exact afk _)
 ⟨h.below,h.keep,h.own,by rw[←hp,←h.nI];exact k.1,fun id es' hi hg=>k.2 id es' (by rw[hp];exact hi) hg,h.cI,hd,h.nI⟩
theorem Bs.one{P:Program}{W0:World}{f:FuncId}{xs:List AV}{r:AV}{Hout:Heap}(h:Bs P (.pinned W0 0) f xs .empty r Hout)(hn:bQ r):oQ P W0 f xs r where
 call:=h.call
 lT:=hn
 runs C vals hI hH hd hsz hrep:=(h.runs C vals hI hH hd hsz hrep).mono fun e w' ⟨v,C',h1,h2,h3,h4,_,h6,h7⟩=>⟨v,C',h1,h2,Vy h3 (by rw[hI.lU,hH];rfl) (h6.trans hd.symm),h4,h7⟩
end Go.Av
end

section
namespace Go.Av
open Go.Proofs Go.Shelf Go.Lib
theorem agl(x y:Int):decide (compareInt x y<0)=decide (x<y):=by
 unfold compareInt;by_cases h1:x<y
 ·simp[h1]
 ·by_cases h2:y<x <;> simp[h1,h2]
theorem Ub{P:Program}{f g:FuncId}(call:gO P f)(no:∀(p:Option Addr) (cap:Nat) (fv:Value) (w:World),Calls P f #[.slice p 0 cap,fv] w fun e w'=>e=.returned (.tuple #[])∧w'=w)
  (is:∀(m:Nat) (v:Fin (m+1)→Value) (k:Fin (m+1)→Int) (cb:Array Value) (de off cap:Nat) (d:Array (Fin (m+1))) (w:World),OneCell v→(∀args w,(callFunc g args).run P w=.ok (.enter g args) w)→CmpLays1 P g cb v (fun i j=>compareInt (k i) (k j)) de off d.size w→Sort.Holds v w de off d→de<w.heap.size→d.size<4611686018427387904→
   Sort.SWO (ltOf fun i j=>compareInt (k i) (k j))→(∀x y,(ltOf fun i j=>compareInt (k i) (k j)) x y=false→(ltOf fun i j=>compareInt (k i) (k j)) y x=false→x=y)→
   Calls P f #[.slice (some ⟨de,off,none⟩) d.size cap,.func (.func g) #[] cb] w fun e w'=>e=.returned (.tuple #[])∧∃n os,w'=sortWorld v w de off n (d.toList.mergeSort fun x y=> !(ltOf fun i j=>compareInt (k i) (k j)) y x).toArray os)
  (eg:∀args w,(callFunc g args).run P w=.ok (.enter g args) w)
  (cl:∀(b1 o1 b2 o2 c2:Nat) (zs:List Int) (a b:Int) (W:World),zs.length≤9223372036854775807→W.cell? ⟨b1,o1,none⟩=some (.slice (some ⟨b2,o2,none⟩) zs.length c2)→(∀j,j<zs.length→W.cell? ⟨b2,o2+j,none⟩=some (.int .i64 (zs.getD j 0)))→Calls P g #[.int .i64 a,.int .i64 b,.pointer (some ⟨b1,o1,none⟩)] W fun e w'=>e=.returned (.int .i64 (compareInt (idxOf zs a) (idxOf zs b)))∧∃q os',w'=Sort.grow (W.drewN q) os'):I6 P f g where
 call:=call
 no:=fun p cap cb w=>no p cap _ w
 is de off cap m x os bx ox b2 o2 c2 w hk hne hbig Tk X4 hc1 QY hs2 MO hH hblk hsz:=by
  have hlt:∀i j,(ltOf fun i j=>compareInt (idxOf os (x i)) (idxOf os (x j))) i j=decide (idxOf os (x i)<idxOf os (x j)):=fun i j=>agl _ _;have hcell:∀(b o:Nat) (m':Nat) (os':Array Obj) (dk:Array (Fin (m+1))) (y:Value),b≠de→b<w.heap.size→w.cell? ⟨b,o,none⟩=some y→(sortWorld (fun i=>Value.int .i64 (x i)) w de off m' dk os').cell? ⟨b,o,none⟩=some y:=fun b o m' os' dk y hb hbs hx=>by
   rw[←hx];refine World.cell?_of_block (a:=⟨b,o,none⟩) ?_;unfold sortWorld;rw[Sort.heap_grow_old _ _ (by simpa [Sort.putRow,Sort.mapBlock,Sort.ahead] using hbs)];simp[Sort.putRow,Sort.mapBlock,Sort.ahead,aj2,Ne.symm hb]
  have h:=is m (fun i=>Value.int .i64 (x i)) (fun i=>idxOf os (x i)) #[.pointer (some ⟨bx,ox,none⟩)] de off cap (ajI (m+1)).toArray w (fun _=>rfl) eg (fun m' os' dk _ i j=>
   cl bx ox b2 o2 c2 os (x i) (x j) _ hbig (hcell _ _ _ _ _ _ Tk X4 hc1) (fun q hq=>hcell _ _ _ _ _ _ QY hs2 (MO q hq))) hH hblk (by simpa using hsz)
   ⟨fun x=>by rw[hlt];simp,fun x y z a b=>by rw[hlt] at*;simp at*;omega,fun x y z a b=>by rw[hlt] at*;simp at*;omega⟩
   (fun x y a b=>by rw[hlt] at a b;simp at a b;exact hk x y (by omega))
  have hsize:(ajI (m+1)).toArray.size=m+1:=by simp
  rw[hsize] at h;refine h.mono ?_;rintro e w' ⟨rfl,n,os',rfl⟩;refine⟨rfl,n,os',_,ajT _ _, ?_,rfl⟩;have hp:=ajU (le:=fun a b=> !(ltOf fun i j=>compareInt (idxOf os (x i)) (idxOf os (x j))) b a) (fun a b c h1 h2=>by simp only[hlt] at*;simp at*;omega) (fun a b=>by simp only[hlt];simp;omega) (ajI (m+1));exact hp.imp fun{a b} hab=>by simp only[hlt] at hab;simpa using hab
end Go.Av
end

section
namespace Go.Av
open Go.RowKit (Below)
section
variable {P:Program} {W0:bS} {N:Nat} {ops:Array Oper} {o:Oper} {rest:List Oper} {fr:List (Nat×AV)} {H:Heap} {K:List (Nat×AV)→Heap→Prop} {Q:Exit→St→Prop}

def mvA(ops:Array Oper)(fr:Nat→Option AV)(o:Oper):Option AV:=
 match dO ops fr o with
 |some true=>match o.op with
  |.move x=>aD fr x
  |.assign x=>aD fr x
  |.pick c x y=>match aD fr c with
   |some (.imm (.bool t))=>aD fr (if t then x else y)
   |_=>none
  |_=>none
 |_=>none
theorem Rj{f:Nat→Option AV}{r:AV}(h:mvA ops f o=some r):dO ops f o=some true:=by
 unfold mvA at h;split at h
 ·assumption
 ·cases h
theorem ZR{f:Nat→Option AV}{r:AV}(h:mvA ops f o=some r)(H:Heap):b_ P W0 o f H r H:=by
 unfold mvA at h;split at h
 ·split at h
  ·exact od (.inl (by assumption)) h
  ·exact od (.inr (by assumption)) h
  ·split at h
   ·exact Qi (by assumption) (by assumption) h
   ·cases h
  ·cases h
 ·cases h
theorem O{r:AV}(h:mvA ops (lk fr) o=some r)(k:AR P W0 ops rest (gP fr o.dst r) H K):AR P W0 ops (o::rest) fr H K:=E (Rj h) (ZR h H) k
def fpA(ops:Array Oper)(fr:Nat→Option AV)(o:Oper):Option (TypeId×Nat×List AV×Nat):=
 match dO ops fr o with
 |some true=>match o.op with
  |.fieldAddr s x f=>match aD fr x with
   |some (.pp fl j)=>some (s,f,fl,j)
   |_=>none
  |_=>none
 |_=>none
theorem QN{f:Nat→Option AV}{r:TypeId×Nat×List AV×Nat}(h:fpA ops f o=some r):dO ops f o=some true:=by
 unfold fpA at h;split at h
 ·assumption
 ·cases h
variable {g:Bool}
theorem YU{fv:Nat→Option AV}{s:TypeId}{f off n j:Nat}{fl:List AV}(h:fpA ops fv o=some (s,f,fl,j))(h2:MB P s f=some (off,n,g))(hn:0<n)(H:Heap):b_ P W0 o fv H (.pp fl (j+off)) H:=by
 unfold fpA at h;split at h
 ·split at h
  ·split at h
   ·cases h;exact rW (by assumption) (by assumption) h2 hn
   ·cases h
  ·cases h
 ·cases h
theorem aj5{s:TypeId}{f off n j:Nat}{fl:List AV}(h:fpA ops (lk fr) o=some (s,f,fl,j))(h2:MB P s f=some (off,n,g))(k:AR P W0 ops rest (gP fr o.dst (.pp fl (j+off))) H K)(hn:0<n:=by decide):AR P W0 ops (o::rest) fr H K:=E (QN h) (YU h h2 hn H) k
theorem Ho{t:TypeId}{x:Operand}{fl:List AV}{j n:Nat}(r:AV)(hw:dO ops (lk fr) o=some true)(ho:o.op=.load t x)(hx:aD (lk fr) x=some (.pp fl j))(ht:Dw P t=some (n,g))(hr:qF fl j n g=some r)(k:AR P W0 ops rest (gP fr o.dst r) H K):AR P W0 ops (o::rest) fr H K:=E hw (mO ho hx ht hr) k
theorem awI(hw:dO ops (lk fr) o=some false)(k:AR P W0 ops rest (gP fr o.dst (.tuple [])) H K):AR P W0 ops (o::rest) fr H K:=xD hw k
theorem aqO{o2:Oper}(hw:dO ops (lk fr) o=some false)(h2:dO ops (lk (gP fr o.dst (.tuple []))) o2=some false)(k:AR P W0 ops rest (gP (gP fr o.dst (.tuple [])) o2.dst (.tuple [])) H K):AR P W0 ops (o::o2::rest) fr H K:=xD hw (xD h2 k)
theorem aqP{o2 o3:Oper}(hw:dO ops (lk fr) o=some false)(h2:dO ops (lk (gP fr o.dst (.tuple []))) o2=some false)(h3:dO ops (lk (gP (gP fr o.dst (.tuple [])) o2.dst (.tuple []))) o3=some false)(k:AR P W0 ops rest (gP (gP (gP fr o.dst (.tuple [])) o2.dst (.tuple [])) o3.dst (.tuple [])) H K):AR P W0 ops (o::o2::o3::rest) fr H K:=xD hw (xD h2 (xD h3 k))
theorem V(ts:List Nat){l:List Oper}{frx:List (Nat×AV)}(h:pick fr ts=some frx)(k:AR P W0 ops l frx H K):AR P W0 ops l fr H K:=KK ts h k
theorem sr{id:Nat}{l:List Oper}{y:Code}(hN:l.all (jb N)=true)(h:∀K:St→Prop,(∀s,iD P W0 N y s Q→K s)→AR P W0 l.toArray l fr H (fun f g=>mI K Q .normal ⟨f,g⟩)):iD P W0 N (.seq (.region id l.toArray false) y) ⟨fr,H⟩ Q:=cm fun K hK=>iK hN (h K hK)
theorem Nd{K0:St→Prop}{y:Code}{fr':List (Nat×AV)}(hK:∀s,iD P W0 N y s Q→K0 s)(ts:List Nat)(h:pick fr ts=some fr')(k:iD P W0 N y ⟨fr',H⟩ Q):AR P W0 ops [] fr H (fun f g=>mI K0 Q .normal ⟨f,g⟩):=bH (hK _ (iD.IT (U ts h) k))
theorem tf(b:Bool):b=true∨b=false:=by cases b <;> simp
abbrev sm{α:Type}(f:α→AV)(l:List α):AV:=.sl (ajN f l)
end
section
variable {P:Program} {W0:bS} {ops:Array Oper} {fs:Flags} {stop:Option Nat} {k:Nat} {o:Oper} {rest:List Oper} {frl:List (Nat×AV)} {H:Heap} {K:List (Nat×AV)→Heap→Prop}
theorem x_{r:AV}(h:mvA ops (lk frl) o=some r)(h2:BZ P W0 ops fs stop (k+1) rest (gP frl o.dst r) H K)(hs:(stop==some k)=false:=by rfl):BZ P W0 ops fs stop k (o::rest) frl H K:=s4 (Rj h) (fun H'=>ZR h H') h2 hs
theorem aqM{s:TypeId}{f off n j:Nat}{g:Bool}{fl:List AV}(h:fpA ops (lk frl) o=some (s,f,fl,j))(hd:MB P s f=some (off,n,g))(h2:BZ P W0 ops fs stop (k+1) rest (gP frl o.dst (.pp fl (j+off))) H K)(hn:0<n:=by decide)(hs:(stop==some k)=false:=by rfl):BZ P W0 ops fs stop k (o::rest) frl H K:=s4 (QN h) (fun H'=>YU h hd hn H') h2 hs
theorem X8{t:TypeId}{x:Operand}{fl:List AV}{j n:Nat}{g:Bool}(r:AV)(hw:dO ops (lk frl) o=some true)(ho:o.op=.load t x)(hx:aD (lk frl) x=some (.pp fl j))(ht:Dw P t=some (n,g))(hr:qF fl j n g=some r)(h2:BZ P W0 ops fs stop (k+1) rest (gP frl o.dst r) H K)(hs:(stop==some k)=false:=by rfl):BZ P W0 ops fs stop k (o::rest) frl H K:=s4 hw (fun _=>mO ho hx ht hr) h2 hs
theorem aqN(hw:dO ops (lk frl) o=some false)(h2:BZ P W0 ops fs stop (k+1) rest (gP frl o.dst (.tuple [])) H K)(hs:(stop==some k)=false:=by rfl):BZ P W0 ops fs stop k (o::rest) frl H K:=Nc hw h2 hs
theorem Ft(ts:List Nat){l:List Oper}{frx:List (Nat×AV)}(h:pick frl ts=some frx)(h2:BZ P W0 ops fs stop k l frx H K):BZ P W0 ops fs stop k l frl H K:=I5 ts h h2
end
section
variable {P:Program} {W0:World} {N:Nat} {f:FuncId} {fn:Func} {c:Code} {xs:List AV} {r:AV}
end
end Go.Av
namespace Go.Sh
theorem bd{α β:Type}{x:Option α}{f:α→Option β}{o:β}{p:Prop}(h:x.bind f=some o)(k:∀a,x=some a→f a=some o→p):p:=by
 obtain⟨a,h1,h2⟩:=b5 h;exact k a h1 h2
theorem bi{α β:Type}{l:List α}{i:Int}{f:α→Option β}{o:β}{p:Prop}(h:(idx l i).bind f=some o)(k:∀(a:α) (n:Nat),i=n→l[n]? =some a→f a=some o→p):p:=by
 obtain⟨a,h1,h2⟩:=b5 h;obtain⟨n,h3,h4⟩:=jo h1;exact k a n h3 h4 h2
end Go.Sh
namespace Go.Av
def flg:Nat→Nat→List Nat→List Nat→Flags
 |0,_,_,_=>[]
 |n+1,i,a,b=>(if b.contains i then(false,true) else(!a.contains i,false))::flg n (i+1) a b
abbrev fl(n:Nat)(a b:List Nat):Flags:=flg n 0 a b
end Go.Av
namespace Go.Av
variable {H:Heap}{g:List (Nat×Nat)}{x:AV}
theorem gi.sy{nw:List Nat}{y:AV}(h:x=y)(hn:bQ y):gi H g nw x y:=by subst h;exact .same _ hn
variable {ok:AV→Prop}{m:List (Nat×Nat)}
theorem Ren.sy{y:AV}(h:x=y)(hn:ok y):Ren ok m x y:=by subst h;exact .same _ hn
theorem b8.ra{W0:bS}{N:Nat}{st:St}{fr':List (Nat×AV)}{H':Heap}(g:List (Nat×Nat))(nw:List Nat)(hh:jC st.H g nw H'.next H'.bV∧Seen st.H g nw st.fr fr':=by repeat' (first|exact trivial|refine⟨⟨_,rfl, ?_⟩, ?_⟩|refine jC.cons rfl rfl ?_ dt ?_|refine jC.fresh dt dt ?_|refine rU.one ?_ rfl|(refine rU.same ?_;simp;done)|(refine gi.sy rfl ?_;simp;done)|exact gi.ref rfl|exact gi.mref rfl|(refine gi.Td rfl rfl rfl rfl ?_;simp;done)|exact gi.view rfl|(refine gi.nil ?_;simp;done)|(refine gi.jI rfl rfl ?_;simp;done)|exact gi.nilsl|(refine gi.wide _ ?_;simp;done)|(refine gi.Re rfl rfl ?_ ?_ <;> simp;done)|(refine gi.viewL rfl ?_;simp;done)|refine gi.tp ?_|refine gi.cl ?_|refine gi.ag ?_|refine⟨?_, ?_⟩))(hinj:g.all (fun p=>g.all (fun q=>p.2 !=q.2||p.1==q.1))=true:=by exact rfl)(hlt:g.all (fun p=>decide (p.1<H'.next))=true:=by exact rfl)
  (hnw:nw.all (fun n=>(lk g n).isNone&&decide (n<H'.next))=true:=by exact rfl)(hpo:DM W0.p g nw H'.next=true:=by exact rfl)(hlp:H'.ec=st.H.ec:=by exact rfl):b8 W0 N st ⟨fr',H'⟩:=bE g nw hinj hlt hnw hh.1 hh.2 hpo hlp
def inv(m:List (Nat×Nat))(k:Nat):Option Nat:=(m.find? fun p=>p.2==k).map (·.1)
theorem bQ.fl(h:bQ x):∀c∈x.flat,bQ c:=by
 cases h <;> simp_all [AV.flat] <;> first|done|constructor <;> assumption
theorem Hw.mp{α:Type}{enc:α→AV}{l:List α}(h:∀x,bQ (enc x)):Hw bQ m (l.map enc) (l.map enc):=.same fun e he=>by
 obtain⟨y,_,rfl⟩:=List.mem_map.1 he;exact(h y).fl
theorem B0.nw{Hout:Heap}{k s i:Nat}{es' es:List AV}{r:List (Nat×(Nat×List AV))}(_:inv m k=some i)(h1:lk m i=some k)(h2:lk Hout.bV i=some (s,es))(h3:Hw ok m es es')(h4:B0 ok H g m Hout r):B0 ok H g m Hout ((k,(s,es'))::r):=.new i h1 h2 h3 h4
theorem Pass.a{fr fr':List (Nat×AV)}{Hs Hin Hout H':Heap}{nw:List Nat}{p:Nat}{r r':AV}
  (next:Hs.next=H.next:=by exact rfl)(part:Ng H Hs.bV:=by repeat' (first|exact trivial|refine⟨rfl, ?_⟩))
  (hh:jC Hs g nw Hin.next Hin.bV∧Seen Hs g nw fr fr':=by repeat' (first|exact trivial|refine⟨⟨_,rfl, ?_⟩, ?_⟩|refine jC.cons rfl rfl ?_ dt ?_|refine jC.fresh dt dt ?_|refine rU.one ?_ rfl|(refine rU.same ?_;simp;done)|(refine gi.sy rfl ?_;simp;done)|exact gi.ref rfl|exact gi.mref rfl|(refine gi.Td rfl rfl rfl rfl ?_;simp;done)|exact gi.view rfl|(refine gi.nil ?_;simp;done)|(refine gi.jI rfl rfl ?_;simp;done)|exact gi.nilsl|(refine gi.wide _ ?_;simp;done)|(refine gi.Re rfl rfl ?_ ?_ <;> simp;done)|(refine gi.viewL rfl ?_;simp;done)|refine gi.tp ?_|refine gi.cl ?_|refine gi.ag ?_|refine⟨?_, ?_⟩))(hb:B0 ok H g m Hout H'.bV∧Ren ok m r r':=by repeat' (first|exact trivial|refine B0.kept rfl rfl ?_|refine B0.nw rfl rfl rfl ?_ ?_|(refine Hw.mp ?_;simp;done)|(refine Hw.same ?_;simp[AV.flat];done)|refine Hw.one ?_|(refine Ren.sy rfl ?_;simp;done)|exact Ren.any _|exact Ren.ref rfl|exact Ren.mref rfl|exact Ren.view rfl|refine Ren.cl ?_|refine Ren.tp ?_|refine Ren.ag ?_|refine⟨?_, ?_⟩))
  (inj:g.all (fun p=>g.all (fun q=>p.2 !=q.2||p.1==q.1))=true:=by exact rfl)(lt:g.all (fun p=>decide (p.1<Hin.next))=true:=by exact rfl)(TA:nw.all (fun n=>(lk g n).isNone&&decide (n<Hin.next))=true:=by exact rfl)
  (XZ:g.all (fun q=>(lk Hs.bV q.2).isSome)=true:=by exact rfl)(A5:Hin.ec=Hs.ec:=by exact rfl)(Su:decide (p≤Hin.next)=true:=by exact rfl)(map:ZQ p H.next g m=true:=by exact rfl)(next':H'.next=H.next+Hout.next:=by exact rfl)
  (ec:(Hs.ec=[]∧H'.ec=H.ec)∨(Hs.ec=H.ec∧H'.ec=Hout.ec):=by first|exact .inl ⟨rfl,rfl⟩|exact .inr ⟨rfl,rfl⟩)
  (mode:(∀x,ok x→ya x)∨((∀x,ok x→bQ x)∧H.bV.all (fun e=>g.any (fun q=>q.2==e.1)||(lk Hs.bV e.1).isNone)=true):=by exact .inr ⟨fun _ h=>h,rfl⟩):Pass ok fr fr' H Hs Hin Hout H' g m nw p r r':=
 ⟨next,part,inj,lt,TA,XZ,hh.1,hh.2,A5,Su,map,next',hb.1,ec,mode,hb.2⟩
end Go.Av
end

section
namespace Go.Av
open Go
structure Tb where
 sz:List (Nat×(Nat×Bool))
 fd:List (Nat×List (Nat×(Nat×Nat×Bool)))
def Tb.field(T:Tb)(s f:Nat):Option (Nat×Nat×Bool):=match lk T.fd s with
 |some l=>lk l f
 |none=>none
structure Tb.Of (T:Tb) (P:Program):Prop where
 sz:∀t r,lk T.sz t=some r→Dw P t=some r
 fd:∀s f r,T.field s f=some r→MB P s f=some r∧0<r.2.1

theorem Tb.ahk{T:Tb}{P:Program}(h1:T.sz.all (fun p=>decide (Dw P p.1=some p.2))=true)(h2:T.fd.all (fun p=>p.2.all fun q=>decide (MB P p.1 q.1=some q.2∧0<q.2.2.1))=true):T.Of P where
 sz t r h:=of_decide_eq_true (List.all_eq_true.1 h1 _ (iL h))
 fd s f r h:=by
  unfold Tb.field at h;split at h
  ·rename_i l hl
   exact of_decide_eq_true (List.all_eq_true.1 (List.all_eq_true.1 h2 _ (iL hl)) _ (iL h))
  ·cases h
def acf(b:BinOp)(k:IntKind)(m n:Int):Option AV:=
 match b with
 |.lss=>some (bl (decide (m<n)))
 |.leq=>some (bl (decide (m≤n)))
 |.gtr=>some (bl (decide (n<m)))
 |.geq=>some (bl (decide (n≤m)))
 |.eql=>some (bl (decide (m=n)))
 |.neq=>some (bl (decide (m≠n)))
 |.add=>match k with|.i64=>some (J (bM (m+n)))|_=>none
 |.sub=>match k with|.i64=>some (J (bM (m - n)))|.u8=>some (.imm (.int .u8 (IntKind.u8.wrap (m - n))))|_=>none
 |_=>none
def HW(T:Tb)(H:Heap)(f:Nat→Option AV)(o:Oper):Option AV:=
 match o.op with
 |.move x=>aD f x
 |.assign x=>aD f x
 |.pick c x y=>match aD f c with
  |some (.imm (.bool t))=>aD f (if t then x else y)
  |_=>none
 |.fieldAddr s x i=>match aD f x with
  |some (.pp fl j)=>match T.field s i with
   |some (off,_,_)=>some (.pp fl (j+off))
   |none=>none
  |some (.ref id p j)=>match H.get id with
   |some _=>match T.field s i with
    |some (off,_,_)=>some (.ref id p (j+off))
    |none=>none
   |none=>none
  |_=>none
 |.load t x=>match aD f x with
  |some (.pp fl j)=>match lk T.sz t with
   |some (n,g)=>qF fl j n g
   |none=>none
  |some (.ref id i j)=>match H.get id with
   |some es=>match es[i]? with
    |some e=>match lk T.sz t with
     |some (n,g)=>qF e.flat j n g
     |none=>none
    |none=>none
   |none=>none
  |_=>none
 |.binOp b _ x y _=>match aD f x with
  |some (.imm (.int k m))=>match aD f y with
   |some (.imm (.int k' n))=>match k,k' with
    |.i64,.i64=>acf b .i64 m n
    |.u8,.u8=>acf b .u8 m n
    |_,_=>none
   |_=>none
  |_=>none
 |.unOp .not _ x=>match aD f x with
  |some (.imm (.bool b))=>some (bl (!b))
  |_=>none
 |.extract x i=>match aD f x with
  |some (.tuple vs)=>vs[i]?
  |_=>none
 |.nilCheck x=>match aD f x with
  |some (.pp fl j)=>some (.pp fl j)
  |some (.ref id i j)=>match H.get id with
   |some _=>some (.ref id i j)
   |none=>none
  |_=>none
 |_=>none
section
variable {P:Program} {W0:bS} {N:Nat} {ops:Array Oper} {o:Oper} {rest:List Oper} {fr:List (Nat×AV)} {H:Heap} {K:List (Nat×AV)→Heap→Prop} {Q:Exit→St→Prop}
variable {f:Fr}
theorem US{b:BinOp}{t t':TypeId}{x y:Operand}{k:IntKind}{m n:Int}{r:AV}(h:acf b k m n=some r)(ho:o.op=.binOp b t x y t')(hx:aD f x=some (.imm (.int k m)))(hy:aD f y=some (.imm (.int k n))):b_ P W0 o f H r H:=by
 unfold acf at h;split at h
 all_goals first|(cases h;done)|skip
 ·cases h;exact Kt ho hx hy
 ·cases h;exact ab3 ho hx hy
 ·cases h;exact UG ho hx hy
 ·cases h;exact ab2 ho hx hy
 ·cases h;exact Hy ho hx hy
 ·cases h;exact UI ho hx hy
 ·cases k <;> first|(cases h;done)|skip
  cases h;exact oR ho hx hy rfl
 ·cases k <;> first|(cases h;done)|skip
  all_goals (cases h;exact HB ho hx hy rfl)
variable {T:Tb}
theorem HX(hT:T.Of P){r:AV}(h:HW T H f o=some r):b_ P W0 o f H r H:=by
 unfold HW at h;split at h
 ·exact od (.inl (by assumption)) h
 ·exact od (.inr (by assumption)) h
 ·split at h
  ·exact Qi (by assumption) (by assumption) h
  ·cases h
 ·split at h
  ·split at h
   ·cases h
    obtain⟨h1,h2⟩:=hT.fd _ _ _ (by assumption);exact rW (by assumption) (by assumption) h1 h2
   ·cases h
  ·split at h
   ·split at h
    ·cases h
     obtain⟨h1,h2⟩:=hT.fd _ _ _ (by assumption);exact gK (by assumption) (by assumption) (by assumption) h1 h2
    ·cases h
   ·cases h
  ·cases h
 ·split at h
  ·split at h
   ·exact mO (by assumption) (by assumption) (hT.sz _ _ (by assumption)) h
   ·cases h
  ·split at h
   ·split at h
    ·split at h
     ·exact cu (by assumption) (by assumption) (by assumption) (by assumption) (hT.sz _ _ (by assumption)) h
     ·cases h
    ·cases h
   ·cases h
  ·cases h
 ·split at h
  ·split at h
   ·split at h
    ·exact US h (by assumption) (by assumption) (by assumption)
    ·exact US h (by assumption) (by assumption) (by assumption)
    ·cases h
   ·cases h
  ·cases h
 ·split at h
  ·cases h;exact UJ (by assumption) (by assumption)
  ·cases h
 ·split at h
  ·exact qQ (by assumption) (by assumption) h
  ·cases h
 ·split at h
  ·cases h;exact Ke (by assumption) (by assumption)
  ·split at h
   ·cases h;exact og (by assumption) (by assumption) (by assumption)
   ·cases h
  ·cases h
 ·cases h
def mL:List (Nat×AV)→Option (List (Nat×AV))
 |[]=>some []
 |(t,x)::l=>match mL l with
  |some l'=>some ((t,x)::l')
  |none=>none
theorem gR:∀{l l':List (Nat×AV)},mL l=some l'→l'=l
 |[],_,h=>by cases h;rfl
 |(t,x)::l,l',h=>by
  unfold mL at h;split at h
  ·rename_i m hm;cases h;rw[gR hm]
  ·cases h
def goA(T:Tb)(ops:Array Oper)(H:Heap):Nat→List Oper→List (Nat×AV)→Option (List Oper×List (Nat×AV))
 |0,l,fr=>some (l,fr)
 |_+1,[],_=>none
 |n+1,o::l,fr=>match dO ops (lk fr) o with
  |some false=>match mL (gP fr o.dst (.tuple [])) with
   |some f=>goA T ops H n l f
   |none=>none
  |some true=>match HW T H (lk fr) o with
   |some r=>match mL (gP fr o.dst r) with
    |some f=>goA T ops H n l f
    |none=>none
   |none=>none
  |none=>none
theorem ON(hT:T.Of P):∀{n:Nat} {l:List Oper} {fr:List (Nat×AV)} {x:List Oper×List (Nat×AV)},goA T ops H n l fr=some x→AR P W0 ops x.1 x.2 H K→AR P W0 ops l fr H K
 |0,l,fr,x,h,k=>by cases h;exact k
 |_+1,[],fr,x,h,k=>by cases h
 |n+1,o::l,fr,x,h,k=>by
  unfold goA at h;split at h
  ·split at h
   ·rename_i f hf
    have:=ON hT h k;rw[gR hf] at this;exact xD (by assumption) this
   ·cases h
  ·split at h
   ·split at h
    ·rename_i f hf
     have:=ON hT h k;rw[gR hf] at this;exact E (by assumption) (HX hT (by assumption)) this
    ·cases h
   ·cases h
  ·cases h
def goP(T:Tb)(ops:Array Oper)(H:Heap)(n:Nat)(l:List Oper)(fr:List (Nat×AV))(ts:List Nat):Option (List Oper×List (Nat×AV)):=
 match goA T ops H n l fr with
 |some (l',f')=>match pick f' ts with
  |some x=>some (l',x)
  |none=>none
 |none=>none
theorem fF(hT:T.Of P)(n:Nat)(ts:List Nat){l l':List Oper}{frx:List (Nat×AV)}(h:goP T ops H n l fr ts=some (l',frx))(k:AR P W0 ops l' frx H K):AR P W0 ops l fr H K:=by
 unfold goP at h;split at h
 ·rename_i l1 f1 e
  split at h
  ·rename_i x hx
   cases h
   exact ON hT e (KK ts hx k)
  ·cases h
 ·cases h
theorem GO(hT:T.Of P){r:AV}(h:HW T .empty f o=some r)(H':Heap):b_ P W0 o f H' r H':=by
 refine HX hT ?_
 unfold HW at h ⊢
 split at h <;> first|exact h|skip
 all_goals (split at h <;> first|exact h|skip)
 all_goals first|(cases h;done)|skip
 all_goals (split at h <;> first|(rename_i hh;simp[Heap.get,Heap.empty,lk] at hh;done)|(cases h;done))
def goH(T:Tb)(ops:Array Oper)(stop:Option Nat):Nat→Nat→List Oper→List (Nat×AV)→Option (Nat×List Oper×List (Nat×AV))
 |0,k,l,fr=>some (k,l,fr)
 |_+1,_,[],_=>none
 |n+1,k,o::l,fr=>match stop==some k with
  |true=>none
  |false=>match dO ops (lk fr) o with
   |some false=>match mL (gP fr o.dst (.tuple [])) with
    |some f=>goH T ops stop n (k+1) l f
    |none=>none
   |some true=>match HW T .empty (lk fr) o with
    |some r=>match mL (gP fr o.dst r) with
     |some f=>goH T ops stop n (k+1) l f
     |none=>none
    |none=>none
   |none=>none
theorem OO(hT:T.Of P){fs:Flags}{stop:Option Nat}:∀{n k:Nat} {l:List Oper} {fr:List (Nat×AV)} {x:Nat×List Oper×List (Nat×AV)},goH T ops stop n k l fr=some x→BZ P W0 ops fs stop x.1 x.2.1 x.2.2 H K→BZ P W0 ops fs stop k l fr H K
 |0,k,l,fr,x,h,q=>by cases h;exact q
 |_+1,k,[],fr,x,h,q=>by cases h
 |n+1,k,o::l,fr,x,h,q=>by
  unfold goH at h;split at h
  ·cases h
  ·rename_i hs
   split at h
   ·split at h
    ·rename_i f hf
     have:=OO hT (fs:=fs) h q;rw[gR hf] at this;exact Nc (by assumption) this hs
    ·cases h
   ·split at h
    ·rename_i r hr
     split at h
     ·rename_i f hf
      have:=OO hT (fs:=fs) h q;rw[gR hf] at this;exact s4 (by assumption) (GO hT hr) this hs
     ·cases h
    ·cases h
   ·cases h
def alM(T:Tb)(ops:Array Oper)(stop:Option Nat)(n k:Nat)(l:List Oper)(fr:List (Nat×AV))(ts:List Nat):Option (Nat×List Oper×List (Nat×AV)):=
 match goH T ops stop n k l fr with
 |some (k',l',f')=>match pick f' ts with
  |some x=>some (k',l',x)
  |none=>none
 |none=>none
theorem Uz(hT:T.Of P){fs:Flags}{stop:Option Nat}(n:Nat)(ts:List Nat){k k':Nat}{l l':List Oper}{frx:List (Nat×AV)}(h:alM T ops stop n k l fr ts=some (k',l',frx))(q:BZ P W0 ops fs stop k' l' frx H K):BZ P W0 ops fs stop k l fr H K:=by
 unfold alM at h;split at h
 ·split at h
  ·rename_i hx
   cases h
   exact OO hT (by assumption) (I5 ts hx q)
  ·cases h
 ·cases h
theorem iJ(hT:T.Of P){K0:St→Prop}{y:Code}(hK:∀s,iD P W0 N y s Q→K0 s)(n:Nat)(ts:List Nat){l:List Oper}{frx:List (Nat×AV)}(h:goP T ops H n l fr ts=some ([],frx))(k:iD P W0 N y ⟨frx,H⟩ Q):AR P W0 ops l fr H (fun f g=>mI K0 Q .normal ⟨f,g⟩):=by
 unfold goP at h
 split at h
 ·rename_i l1 f1 e
  split at h
  ·rename_i x hx
   cases h
   exact ON hT e (bH (hK _ (iD.IT (U ts hx) k)))
  ·cases h
 ·cases h
theorem jD{N:Nat}{id:Nat}{l:List Oper}(hT:T.Of P)(n:Nat)(ts:List Nat){y:Code}{frx:List (Nat×AV)}(h:goP T l.toArray H n l fr ts=some ([],frx))(k:iD P W0 N y ⟨frx,H⟩ Q)(hN:l.all (jb N)=true:=by rfl):iD P W0 N (.seq (.region id l.toArray false) y) ⟨fr,H⟩ Q:=
 cm fun K hK=>iK hN (iJ hT hK n ts h k)
end
inductive Pa where
 |s (t:Nat) (p:List Nat) (x:AV)
 |c (i:Nat) (p:List Nat) (x:AV)
 |o (i n:Nat) (es:List AV)
structure Mv where
 g:List (Nat×Nat)
 n:Nat
 oc:List Nat
 fz:List Nat
 ld:List Nat
inductive Sg:Type 1 where
 |e (n:Nat)
 |p (ts:List Nat)
 |d
 |h
 |v
 |t
 |c (g m:List (Nat×Nat)) (w oc:List Nat)
 |Y (g m:List (Nat×Nat)) (w oc:List Nat) (a b:List Sg)
 |Y1 (g m:List (Nat×Nat)) (w oc:List Nat)
 |N (g m:List (Nat×Nat)) (w oc:List Nat) (a b:List Sg)
 |N1 (g m:List (Nat×Nat)) (w oc:List Nat)
 |E (a b:List Sg)
 |O (n:Nat)
 |T (ids:List Nat) (fs:Flags) (stop:Option Nat)
 |g (sl:List (Nat×Bool)) (a b:List Sg)
 |r
 |R (fs:Flags)
 |q
 |b
 |k (ts:List Nat)
 |n
 |w (ts:List Nat) (m:Mv)
 |cd (a b:List Sg)
 |ct
 |cf
 |j {α:Type} (ts:List Nat) (m:Mv) (f:α→List Pa) (a b:List Sg)
 |l {σ:Type} (ts:List Nat) (m:Mv) (f:σ→List Pa) (g:List (Nat×Nat)) (w:List Nat) (a:List Sg)
 |X (g:List (Nat×Nat)) (w:List Nat)
 |u {p:Prop} (h:p)
 |z
 |y (n:Nat) (a b:List Sg)
 |i (n:Nat)
 |U (n:Nat)
 |s
 |F (fs:Flags) (i:Nat)
 |W (ts:List Nat) (m:Mv) (f:List Pa) (a b:List Sg)
 |M {σ:Type} (ts:List Nat) (m:Mv) (f:σ→List Pa) (g:List (Nat×Nat)) (w:List Nat) (a:σ→List Sg)
 |B {β:Type} (f:β→List Sg)
 |jqq {α:Type} (ts:List Nat) (m:Mv) (f:α→List Pa) (a:List Sg) (b:α→List Sg)
instance (n:Nat):OfNat Sg n:=⟨.e n⟩
abbrev Sg.G(l:List Nat)(a b:List Sg):Sg:=.g (l.map fun t=>(t,false)) a b
def Sg.jn:Sg→Bool
 |.j .. =>true
 |.jqq .. =>true
 |.W .. =>true
 |.B .. =>true
 |.u .. =>true
 |.q=>true
 |.y .. =>true
 |_=>false
abbrev An:=List Sg
def idn:Nat→Nat→List (Nat×Nat)
 |_,0=>[]
 |k,n+1=>(k,k)::idn (k+1) n
abbrev I(n:Nat):Mv:=⟨idn 0 n,n,[],[],[]⟩
abbrev If(n:Nat)(f:List Nat):Mv:=⟨idn 0 n,n,[],f,[]⟩
abbrev Io(n:Nat)(o:List Nat):Mv:=⟨idn 0 n,n,o,[],[]⟩
abbrev Ii(n:Nat)(o f:List Nat):Mv:=⟨idn 0 n,n,o,f,[]⟩
abbrev Mg(g:List (Nat×Nat))(n:Nat):Mv:=⟨g,n,[],[],[]⟩
abbrev Mo(g:List (Nat×Nat))(n:Nat)(o:List Nat):Mv:=⟨g,n,o,[],[]⟩
abbrev Mf(g:List (Nat×Nat))(n:Nat)(f:List Nat):Mv:=⟨g,n,[],f,[]⟩
abbrev Sg.x(n:Nat):Sg:=.X (idn 0 n) []
abbrev Sg.L{σ:Type}(ts:List Nat)(m:Mv)(f:σ→List Pa)(n:Nat)(a:List Sg):Sg:=.l ts m f (idn 0 n) [] a

def eX(_:An)(P:Program)(W0:bS)(N:Nat)(c:Code)(st:St)(Q:Exit→St→Prop):Prop:=iD P W0 N c st Q
inductive Md where
 |n
 |s (fs:Flags) (stop:Option Nat) (k:Nat)
 |f (fs:Flags) (m:Nat) (L:Array Bool) (i:Nat)
 |c (fs:Flags) (m:Nat) (L:Array Bool) (i:Nat)
def Md.next:Md→Md
 |.n=>.n
 |.s fs stop k=>.s fs stop (k+1)
 |.f fs m L i=>.f fs m (L.setIfInBounds i true) i
 |.c fs m L i=>.f fs m (L.setIfInBounds i true) i
def Md.CB:Md→Bool
 |.n=>true
 |.s _ stop k=> !(stop==some k)
 |.f fs _ _ i=>fs.kW i
 |.c .. =>true
def Md.kW:Md→Bool
 |.n=>true
 |.s fs stop k=>fs.kW k&& !(stop==some k)
 |.f fs _ _ i=>fs.kW i
 |.c .. =>false
def Md.read:Md→Bool
 |.n=>true
 |.s fs stop k=> !fs.calm k&& !(stop==some k)
 |.f fs _ _ i=>fs.kW i
 |.c .. =>false
def Md.plain:Md→Bool
 |.n=>true
 |.s .. =>true
 |_=>false
def fG(_:An)(m:Md)(P:Program)(W0:bS)(ops:Array Oper)(l:List Oper)(fr:List (Nat×AV))(H:Heap)(Q:Exit→St→Prop):Prop:=
 match m with
 |.n=>AR P W0 ops l fr H (fun f g=>Q .normal ⟨f,g⟩)
 |.s fs stop k=>BZ P W0 ops fs stop k l fr H (fun f g=>Q .normal ⟨f,g⟩)
 |.f fs m L i=>match l with
  |[]=>AF P W0 ops fs m L fr H (fun f g=>Q .normal ⟨f,g⟩)
  |[o]=>ops[i]? =some o→AF1 P W0 ops fs m L fr H (fun f g=>Q .normal ⟨f,g⟩) i
  |_=>True
 |.c fs m L i=>match l with
  |[]=>AF P W0 ops fs m L fr H (fun f g=>Q .normal ⟨f,g⟩)
  |[o]=>ops[i]? =some o→((Region.ready .any ops L).contains i&&Region.free .any ops L i&&(fs.calm i&&(Np .any ops fs L i||Nq .any ops fs L i)))=true→AF P W0 ops fs (m+1) L fr H (fun f g=>Q .normal ⟨f,g⟩)
  |_=>True
def oJ(_:An)(Q:Exit→St→Prop)(e:Exit)(st:St):Prop:=Q e st

def Lp(n:Nat):Option Nat:=match n with
 |0=>some 0|1=>some 1|2=>some 2|3=>some 3|4=>some 4|5=>some 5|6=>some 6|7=>some 7|8=>some 8|9=>some 9|10=>some 10
 |n=>some n
theorem Jg{n m:Nat}(h:Lp n=some m):m=n:=by
 unfold Lp at h;split at h <;> exact(Option.some.inj h).symm
def Jh:List (Nat×(Nat×List AV))→Option (List (Nat×(Nat×List AV)))
 |[]=>some []
 |(t,(s,x))::l=>match Lp s with
  |some s'=>match Jh l with
   |some l'=>some ((t,(s',x))::l')
   |none=>none
  |none=>none
theorem NA:∀{l l':List (Nat×(Nat×List AV))},Jh l=some l'→l'=l
 |[],_,h=>by cases h;rfl
 |(t,(s,x))::l,l',h=>by
  unfold Jh at h;split at h
  ·rename_i hs
   split at h
   ·rename_i m hm;cases h;rw[NA hm,Jg hs]
   ·cases h
  ·cases h
def Tc(n:Nat)(q:List (Nat×(Nat×List AV)))(lp:List (Nat×Loop)):Option Heap:=match lp with
 |[]=>some ⟨n,q,[]⟩
 |l=>some ⟨n,q,l⟩
variable {H:Heap}
theorem WD{n:Nat}{q:List (Nat×(Nat×List AV))}{lp:List (Nat×Loop)}(h:Tc n q lp=some H):H=⟨n,q,lp⟩:=by
 unfold Tc at h;split at h <;> exact(Option.some.inj h).symm
def u6(H:Heap):Option Heap:=match H with
 |⟨n,os,lp⟩=>match Lp n with
  |some n'=>match Jh os with
   |some q=>Tc n' q lp
   |none=>none
  |none=>none
variable {H':Heap}
theorem uF(h:u6 H=some H'):H'=H:=by
 obtain⟨n,os,lp⟩:=H;simp only[u6] at h;split at h
 ·rename_i hn
  split at h
  ·rename_i hm;rw[WD h,NA hm,Jg hn]
  ·cases h
 ·cases h
def acZ:List (Nat×Nat)→Nat→Option Nat
 |[],_=>none
 |(n,o)::l,k=>match o==k with
  |true=>some n
  |false=>acZ l k
def Da(f:AV→Option AV):List AV→Option (List AV)
 |[]=>some []
 |x::r=>match f x with
  |some y=>match Da f r with
   |some q=>some (y::q)
   |none=>none
  |none=>none
def cvA(H:Heap)(m:Mv):Nat→AV→Option AV
 |0,_=>none
 |n+1,x=>match x with
  |.view o off k=>match m.ld.contains o with
   |true=>match lk H.bV o with
    |some (_,es)=>some (.sl es)
    |none=>none
   |false=>match acZ m.g o with|some i=>some (.view i off k)|none=>none
  |.ref o i j=>match m.fz.contains o with
   |true=>match lk H.bV o with
    |some (_,es)=>match es[i]? with
     |some e=>match Da (cvA H m n) e.flat with
      |some q=>some (.pp q j)
      |none=>none
     |none=>none
    |none=>none
   |false=>match acZ m.g o with|some n=>some (.ref n i j)|none=>none
  |.mref o=>match acZ m.g o with|some n=>some (.mref n)|none=>none
  |.agg cs=>match Da (cvA H m n) cs with|some q=>some (.agg q)|none=>none
  |.tuple cs=>match Da (cvA H m n) cs with|some q=>some (.tuple q)|none=>none
  |.fH f cs=>match Da (cvA H m n) cs with|some q=>some (.fH f q)|none=>none
  |.ifc t x=>match cvA H m n x with|some y=>some (.ifc t y)|none=>none
  |.imm v=>some (.imm v)
  |.sl es=>some (.sl es)
  |.clip es=>some (.clip es)
  |.pp fl j=>some (.pp fl j)
  |.fL l=>some (.fL l)
  |.any=>some .any
def cvF(H:Heap)(m:Mv):List (Nat×AV)→Option (List (Nat×AV))
 |[]=>some []
 |(t,x)::r=>match cvA H m 8 x with
  |some y=>match cvF H m r with
   |some q=>some ((t,y)::q)
   |none=>none
  |none=>none
def cvO(H:Heap)(m:Mv):List (Nat×Nat)→Option (List (Nat×(Nat×List AV)))
 |[]=>some []
 |(n,o)::r=>match lk H.bV o with
  |some (s,es)=>match(match m.oc.contains n with|true=>Da (cvA H m 8) es|false=>some es) with
   |some es'=>match cvO H m r with
    |some q=>some ((n,(s,es'))::q)
    |none=>none
   |none=>none
  |none=>none
def T6(i:Nat)(f:AV→Option AV):List AV→Option (List AV)
 |[]=>none
 |x::l=>match i with
  |0=>match f x with
   |some y=>some (y::l)
   |none=>none
  |i+1=>match T6 i f l with
   |some q=>some (x::q)
   |none=>none
def Pw:List Nat→AV→AV→Option AV
 |[],v,_=>some v
 |i::p,v,x=>match x with
  |.agg cs=>match T6 i (Pw p v) cs with|some q=>some (.agg q)|none=>none
  |.tuple cs=>match T6 i (Pw p v) cs with|some q=>some (.tuple q)|none=>none
  |.fH f cs=>match T6 i (Pw p v) cs with|some q=>some (.fH f q)|none=>none
  |.ifc t x=>match Pw p v x with|some q=>some (.ifc t q)|none=>none
  |.sl cs=>match T6 i (Pw p v) cs with|some q=>some (.sl q)|none=>none
  |.clip cs=>match T6 i (Pw p v) cs with|some q=>some (.clip q)|none=>none
  |.pp cs j=>match p with
   |[]=>some (.pp v.flat j)
   |k::p'=>match T6 k (Pw p' v) cs with|some q=>some (.pp q j)|none=>none
  |_=>none
def paS:List Pa→List (Nat×AV)→List (Nat×(Nat×List AV))→Option (List (Nat×AV)×List (Nat×(Nat×List AV)))
 |[],f,o=>some (f,o)
 |p::l,f,o=>match p with
  |.s t [] x=>match mL (up f t x) with
   |some f'=>paS l f' o
   |none=>none
  |.s t (i::q) x=>match lk f t with
   |some y=>match Pw (i::q) x y with
    |some z=>match mL (up f t z) with
     |some f'=>paS l f' o
     |none=>none
    |none=>none
   |none=>none
  |.c i q x=>match lk o i with
   |some (s,[y])=>match Pw q x y with
    |some z=>match Jh (up o i (s,[z])) with
     |some o'=>paS l f o'
     |none=>none
    |none=>none
   |_=>none
  |.o i s es=>match Jh (up o i (s,es)) with
   |some o'=>paS l f o'
   |none=>none
def E0(ts:List Nat)(m:Mv)(st:St)(pa:List Pa):Option St:=
 match st with
 |⟨fr,⟨k,os,lp⟩⟩=>match pick fr ts with
  |some f=>match cvF ⟨k,os,lp⟩ m f with
   |some f1=>match cvO ⟨k,os,lp⟩ m m.g with
    |some o1=>match paS pa f1 o1 with
     |some (f2,o2)=>match m with
      |⟨_,n,_,_,_⟩=>some ⟨f2,⟨n,o2,lp⟩⟩
     |none=>none
    |none=>none
   |none=>none
  |none=>none
structure Tw where
 tb:Tb
 el:List (Nat×(Nat×Nat×Nat))
 et:List (Nat×(Nat×Nat×Nat×Value))
 zr:List (Nat×Value)
 bd:List (Nat×(List (Nat×Nat)×List Value))
 un:List (Nat×TypeDesc)
 ar:List (Nat×(Nat×Nat))
structure Tw.Of (T:Tw) (P:Program):Prop where
 tb:T.tb.Of P
 el:∀t r,lk T.el t=some r→oK P t=some r
 et:∀t e s b z,lk T.et t=some (e,s,b,z)→AM P t e s b z
 zr:∀t z,lk T.zr t=some z→oL P t=some z
 bd:∀t z,lk T.bd t=some z→zC P t=some z
 un:∀t z,lk T.un t=some z→P.underlying t=some z
 ar:∀t z,lk T.ar t=some z→Hi P t=some z
def Ww:List (Nat×Operand)→Nat→Option (List Operand)
 |[],_=>some []
 |(i,x)::l,n=>match i==n with
  |true=>match Ww l (n+1) with
   |some q=>some (x::q)
   |none=>none
  |false=>none
theorem OB:∀{l:List (Nat×Operand)} {n:Nat} {q:List Operand},Ww l n=some q→l=(q.zipIdx n).map fun p=>(p.2,p.1)
 |[],_,_,h=>by cases h;rfl
 |(i,x)::l,n,q,h=>by
  unfold Ww at h;split at h
  ·rename_i hi
   split at h
   ·rename_i q' hq
    cases h
    simp only[List.zipIdx_cons,ac7];rw[←OB hq];simp at hi;rw[hi]
   ·cases h
  ·cases h
def Nh(_:List (Nat×Nat))(_:List Nat)(W0:bS)(N:Nat)(s s':St):Prop:=b8 W0 N s s'
variable {g:List (Nat×Nat)}{nw:List Nat}
theorem gi.bT{b:Bool}(h:b=true):gi H g nw (bl b) (bl true):=by subst h;exact .same _ (by simp)
theorem gi.bF{b:Bool}(h:b=false):gi H g nw (bl b) (bl false):=by subst h;exact .same _ (by simp)
theorem wka{W0:bS}{N:Nat}{st:St}{fr':List (Nat×AV)}(hh:jC st.H g nw H'.next H'.bV∧Seen st.H g nw st.fr fr':=by repeat' (first|exact trivial|refine⟨⟨_,rfl, ?_⟩, ?_⟩|refine jC.cons rfl rfl ?_ dt ?_|refine jC.fresh dt dt ?_|refine rU.one ?_ rfl|(refine rU.same ?_;simp;done)|(refine gi.sy rfl ?_;simp;done)|exact gi.ref rfl|exact gi.mref rfl|exact gi.bT (by assumption)|exact gi.bF (by assumption)|(refine gi.Td rfl rfl rfl rfl ?_;simp;done)|exact gi.view rfl|(refine gi.nil ?_;simp;done)|(refine gi.jI rfl rfl ?_;simp;done)|exact gi.nilsl|(refine gi.wide _ ?_;simp;done)|(refine gi.Re rfl rfl ?_ ?_ <;> first|(simp;done)|(simp;omega))|(refine gi.viewL rfl ?_;simp;done)|(refine gi.viewL rfl ?_;simp;omega)|refine gi.tp ?_|refine gi.cl ?_|refine gi.ag ?_|refine⟨?_, ?_⟩))(hinj:g.all (fun p=>g.all (fun q=>p.2 !=q.2||p.1==q.1))=true:=by exact rfl)(hlt:g.all (fun p=>decide (p.1<H'.next))=true:=by exact rfl)
  (hnw:nw.all (fun n=>(lk g n).isNone&&decide (n<H'.next))=true:=by exact rfl)(hpo:DM W0.p g nw H'.next=true:=by exact rfl)(hlp:H'.ec=st.H.ec:=by exact rfl):Nh g nw W0 N st ⟨fr',H'⟩:=bE g nw hinj hlt hnw hh.1 hh.2 hpo hlp
theorem au6{W0:bS}{N:Nat}{st:St}{fr':List (Nat×AV)}(h:pick st.fr (fr'.map Prod.fst)=some fr')(hH:st.H=H'):Nh g nw W0 N st ⟨fr',H'⟩:=hH▸U _ h
def u5:List AV→Option (List AV)
 |[]=>some []
 |x::l=>match u5 l with
  |some q=>some (x::q)
  |none=>none
theorem uE:∀{l q:List AV},u5 l=some q→q=l
 |[],_,h=>by cases h;rfl
 |x::l,q,h=>by
  unfold u5 at h;split at h
  ·rename_i m hm;cases h;rw[uE hm]
  ·cases h
def sO(x:AV):Option AV:=match x with
 |.agg cs=>match u5 cs with
  |some q=>some (.agg q)
  |none=>none
 |.pp cs j=>match u5 cs with
  |some q=>some (.pp q j)
  |none=>none
 |.tuple cs=>match u5 cs with
  |some q=>some (.tuple q)
  |none=>none
 |y=>some y
theorem oq{x y:AV}(h:sO x=some y):y=x:=by
 unfold sO at h;split at h
 ·split at h
  ·rename_i e;cases h;rw[uE e]
  ·cases h
 ·split at h
  ·rename_i e;cases h;rw[uE e]
  ·cases h
 ·split at h
  ·rename_i e;cases h;rw[uE e]
  ·cases h
 ·cases h;rfl
section
variable {P:Program} {W0:bS} {N:Nat} {ops:Array Oper} {o:Oper} {rest l:List Oper} {fr frx:List (Nat×AV)} {H H1 H2:Heap} {K:List (Nat×AV)→Heap→Prop} {Q:Exit→St→Prop} {st:St} {a b:An} {x y c:Code} {id n:Nat} {ts:List Nat} {T:Tb} {m:Md} {mv:Mv} {r1 r2:AV}
variable {ρ:Type} {r:ρ} {β:Type} {g:List (Nat×Nat)} {w:List Nat} {K0:St→Prop}

theorem arU(k:∀K:St→Prop,(∀s,iD P W0 N y s Q→K s)→eX a P W0 N x st (mI K Q)):eX (.q::a) P W0 N (.seq x y) st Q:=cm k
theorem amh{g0:Sg}(hs:g0.jn=false)(k:∀K:St→Prop,(∀s,iD P W0 N y s Q→K s)→eX (g0::a) P W0 N x st (mI K Q)):eX (g0::a) P W0 N (.seq x y) st Q:=cm k
theorem alW(k:eX a P W0 N c st (yU id Q)):eX a P W0 N (.block id c) st Q:=p5 k
theorem ami{ops:List Oper}(hN:ops.all (jb N)=true)(k:fG a .n P W0 ops.toArray ops fr H Q):eX a P W0 N (.region id ops.toArray false) ⟨fr,H⟩ Q:=iK hN k
variable {fs:Flags}
theorem arH{ops:List Oper}(hm:P.follows .mixedOrders=true)(hB:Lg fs none ops.toArray=true)(hN:ops.all (jb N)=true)(hro:W0.ro=none)(k:fG a (.s fs none 0) P W0 ops.toArray ops fr H Q):eX (.R fs::a) P W0 N (.region id ops.toArray true) ⟨fr,H⟩ Q:=HC fs hm hB hN k hro
theorem arD{i:Nat}{ops:List Oper}(hm:P.follows .mixedOrders=true)(hB:Lg fs (some i) ops.toArray=true)(hN:ops.all (jb N)=true)(hro:W0.ro=none)(k:fG a (.s fs (some i) 0) P W0 ops.toArray ops fr H Q):eX (.F fs i::a) P W0 N (.region id ops.toArray true) ⟨fr,H⟩ Q:=HD fs (some i) hm hB hN k hro
theorem arV{i k:Nat}(q:fG a (.f fs l.length (Vv ops.size k) 0) P W0 ops [] fr H Q):fG (.s::a) (.s fs (some i) k) P W0 ops l fr H Q:=BZ.fork q
theorem arM{n i j:Nat}{L:Array Bool}(ho:ops[i]? =some o)(hc:((Region.ready .any ops L).contains i&&Region.free .any ops L i&&(fs.calm i&&(Np .any ops fs L i||Nq .any ops fs L i)))=true)(k:fG a (.c fs n L i) P W0 ops [o] fr H Q):fG (.i i::a) (.f fs (n+1) L j) P W0 ops [] fr H Q:=k ho hc
theorem arx{n i j:Nat}{L:Array Bool}(hr:Region.ready .any ops L=[i])(ho:ops[i]? =some o)(k:fG a (.f fs n L i) P W0 ops [o] fr H Q):fG (.k [i]::a) (.f fs (n+1) L j) P W0 ops [] fr H Q:=AF.many i [] hr ⟨k ho,trivial⟩
theorem ary{n i i' j:Nat}{o':Oper}{L:Array Bool}(hr:Region.ready .any ops L=[i,i'])(ho:ops[i]? =some o)(ho':ops[i']? =some o')(k:fG a (.f fs n L i) P W0 ops [o] fr H Q)(k':fG b (.f fs n L i') P W0 ops [o'] fr H Q):fG [.k [i,i'],.y 0 a b] (.f fs (n+1) L j) P W0 ops [] fr H Q:=AF.many i [i'] hr ⟨k ho,k' ho',trivial⟩
theorem arz{n i i' i2 j:Nat}{o' o2:Oper}{b':An}{L:Array Bool}(hr:Region.ready .any ops L=[i,i',i2])(ho:ops[i]? =some o)(ho':ops[i']? =some o')(ho2:ops[i2]? =some o2)(k:fG a (.f fs n L i) P W0 ops [o] fr H Q)(k':fG b (.f fs n L i') P W0 ops [o'] fr H Q)(k2:fG b' (.f fs n L i2) P W0 ops [o2] fr H Q):fG [.k [i,i',i2],.y 0 a [.y 0 b b']] (.f fs (n+1) L j) P W0 ops [] fr H Q:=AF.many i [i',i2] hr ⟨k ho,k' ho',k2 ho2,trivial⟩
theorem arR{i:Nat}{L:Array Bool}(hr:(Region.ready .any ops L).isEmpty=true)(k:oJ a Q .normal ⟨fr,H⟩):fG (.n::a) (.f fs 0 L i) P W0 ops [] fr H Q:=AF.done hr k
theorem amf{n i:Nat}{L:Array Bool}(h:pick fr ts=some frx)(k:fG a (.f fs n L i) P W0 ops [] frx H Q):fG (.p ts::a) (.f fs n L i) P W0 ops [] fr H Q:=AF.keep ts h k
def goB(T:Tb)(ops:Array Oper)(H:Heap):Nat→List Oper→List (Nat×AV)→Option (List Oper×List (Nat×AV))
 |0,l,fr=>some (l,fr)
 |_+1,[],_=>none
 |n+1,o::l,fr=>match dO ops (lk fr) o with
  |some false=>match mL (gP fr o.dst (.tuple [])) with
   |some f=>goB T ops H n l f
   |none=>none
  |some true=>match HW T H (lk fr) o with
   |some r=>match sO r with
    |some r'=>match mL (gP fr o.dst r') with
     |some f=>goB T ops H n l f
     |none=>none
    |none=>none
   |none=>none
  |none=>none
theorem Tg{T:Tb}(hT:T.Of P):∀{n:Nat} {l:List Oper} {fr:List (Nat×AV)} {x:List Oper×List (Nat×AV)},goB T ops H n l fr=some x→AR P W0 ops x.1 x.2 H K→AR P W0 ops l fr H K
 |0,l,fr,x,h,k=>by cases h;exact k
 |_+1,[],fr,x,h,k=>by cases h
 |n+1,o::l,fr,x,h,k=>by
  unfold goB at h;split at h
  ·split at h
   ·rename_i f hf
    have:=Tg hT h k;rw[gR hf] at this;exact xD (by assumption) this
   ·cases h
  ·split at h
   ·split at h
    ·rename_i hv
     split at h
     ·rename_i f hf
      have:=Tg hT h k;rw[gR hf,oq hv] at this;exact E (by assumption) (HX hT (by assumption)) this
     ·cases h
    ·cases h
   ·cases h
  ·cases h
theorem arK(hT:T.Of P){l':List Oper}(h:goB T ops H n l fr=some (l',frx))(k:fG a .n P W0 ops l' frx H Q):fG (.e n::a) .n P W0 ops l fr H Q:=Tg hT h k
theorem al5(hT:T.Of P){stop:Option Nat}{i i':Nat}{l':List Oper}(h:goH T ops stop n i l fr=some (i',l',frx))(k:fG a (.s fs stop i') P W0 ops l' frx H Q):fG (.e n::a) (.s fs stop i) P W0 ops l fr H Q:=OO hT h k
theorem arS(h:pick fr ts=some frx)(k:fG a m P W0 ops l frx H Q)(hm:m.plain=true):fG (.p ts::a) m P W0 ops l fr H Q:=by
 cases m with
 |n=>exact KK ts h k
 |s=>exact I5 ts h k
 |_=>cases hm
theorem e9(hw:dO ops (lk fr) o=some true)(h:∀H',b_ P W0 o (lk fr) H' r1 H')(hv:sO r1=some r2)(k:fG a m.next P W0 ops rest (gP fr o.dst r2) H Q)(hm:m.CB=true:=by rfl):fG (.d::a) m P W0 ops (o::rest) fr H Q:=by
 rw[oq hv] at k;cases m with
 |n=>exact E hw (h H) k
 |s=>exact s4 hw h k (by simpa [Md.CB] using hm)
 |f=>cases rest with
  |nil=>exact fun ho=>bI o ho hw hm (h H) k
  |cons=>trivial
 |c=>cases rest with
  |nil=>exact fun ho hc=>AF.CB _ ho hc hw h k
  |cons=>trivial
theorem lG(hw:dO ops (lk fr) o=some true)(hl:m.kW=true)(h:b_ P W0 o (lk fr) H r1 H1)(hH:u6 H1=some H2)(hv:sO r1=some r2)(k:fG a m.next P W0 ops rest (gP fr o.dst r2) H2 Q):fG (.h::a) m P W0 ops (o::rest) fr H Q:=by
 rw[oq hv] at k;rw[uF hH] at k;cases m with
 |n=>exact E hw h k
 |s=>simp only[Md.kW,aiq,ajh] at hl;exact wA hw hl.1 h k hl.2
 |f=>cases rest with
  |nil=>exact fun ho=>bI o ho hw hl h k
  |cons=>trivial
 |c=>cases hl
theorem FV(hw:dO ops (lk fr) o=some true)(hl:m.read=true)(h:b_ P W0 o (lk fr) H r1 H)(hv:sO r1=some r2)(k:fG a m.next P W0 ops rest (gP fr o.dst r2) H Q):fG (.v::a) m P W0 ops (o::rest) fr H Q:=by
 rw[oq hv] at k;cases m with
 |n=>exact E hw h k
 |s=>simp only[Md.read,aiq,ajh] at hl;exact nT hw hl.1 h k hl.2
 |f=>cases rest with
  |nil=>exact fun ho=>bI o ho hw hl h k
  |cons=>trivial
 |c=>cases hl
theorem al4(hT:T.Of P){n i:Nat}{L:Array Bool}(hw:dO ops (lk fr) o=some true)(hl:fs.kW i=true)(h:HW T H (lk fr) o=some r1)(hv:sO r1=some r2)(hf:mL (gP fr o.dst r2)=some frx)(k:fG a (.f fs n (L.setIfInBounds i true) i) P W0 ops [] frx H Q):fG (.e 1::a) (.f fs n L i) P W0 ops [o] fr H Q:=by
 rw[oq hv] at hf
 rw[gR hf] at k
 exact fun ho=>bI o ho hw hl (HX hT h) k
theorem al3(hT:T.Of P){n i:Nat}{L:Array Bool}(hw:dO ops (lk fr) o=some true)(h:HW T .empty (lk fr) o=some r1)(hv:sO r1=some r2)(hf:mL (gP fr o.dst r2)=some frx)(k:fG a (.f fs n (L.setIfInBounds i true) i) P W0 ops [] frx H Q):fG (.e 1::a) (.c fs n L i) P W0 ops [o] fr H Q:=by
 rw[oq hv] at hf;rw[gR hf] at k;exact fun ho hc=>AF.CB i ho hc hw (GO hT h) k
theorem agF(k:oJ a Q .normal ⟨fr,H⟩)(hm:m.plain=true):fG a m P W0 ops [] fr H Q:=by
 cases m with
 |n=>exact bH k
 |s=>exact D5 k
 |_=>cases hm
theorem go_skip(k:oJ a Q .normal st):eX a P W0 N .skip st Q:=fU k
theorem Y9{i:Nat}(k:oJ a Q .normal st):eX a P W0 N (.label i) st Q:=Wr k
theorem acA(k:oJ a Q (.exit id) st):eX a P W0 N (.exit id) st Q:=zA k
theorem go_ret(k:oJ a Q .ret st):eX a P W0 N .ret st Q:=fJ k
theorem arO(hK:∀s,iD P W0 N y s Q→K0 s)(h:pick fr ts=some frx)(k:eX a P W0 N y ⟨frx,H⟩ Q):oJ (.k ts::a) (mI K0 Q) .normal ⟨fr,H⟩:=hK _ (iD.IT (U ts h) k)
theorem arQ(hK:∀s,iD P W0 N y s Q→K0 s)(k:eX a P W0 N y st Q):oJ (.n::a) (mI K0 Q) .normal st:=hK _ k
theorem arX{s':St}(hK:∀s,iD P W0 N y s Q→K0 s)(h:E0 ts mv st []=some s')(hw:Nh mv.g [] W0 N st s')(k:eX a P W0 N y s' Q):oJ (.w ts mv::a) (mI K0 Q) .normal st:=hK _ (iD.IT hw k)
variable {cc:Operand}
theorem al0{t:Bool}{p q:Option β}{v:β}(hc:aD (lk fr) cc=some (bl t))(h:(if t=true then p else q)=some v)(k1:p=some v→eX a P W0 N x ⟨fr,H⟩ Q)(k2:q=some v→eX b P W0 N y ⟨fr,H⟩ Q):eX [.cd a b] P W0 N (.cond cc x y) ⟨fr,H⟩ Q:=
 mP hc (fun e=>k1 (by simpa [e] using h)) (fun e=>k2 (by simpa [e] using h))
theorem al2(hc:aD (lk fr) cc=some (bl true))(k:eX a P W0 N x ⟨fr,H⟩ Q):eX (.ct::a) P W0 N (.cond cc x y) ⟨fr,H⟩ Q:=KZ hc k
theorem al1(hc:aD (lk fr) cc=some (bl false))(k:eX a P W0 N y ⟨fr,H⟩ Q):eX (.cf::a) P W0 N (.cond cc x y) ⟨fr,H⟩ Q:=KY hc k
theorem arN{α:Type}{f:α→List Pa}{S:α→St}{F:α→Option ρ}{e0:Option ρ}(h:e0=some r)(hS:∀p,E0 ts mv st (f p)=some (S p))(hx:∀K:St→Prop,(∀p s,F p=some r→b8 W0 N s (S p)→K s)→eX a P W0 N x st (mI K Q))(hJ:∀p,F p=some r→eX b P W0 N y (S p) Q):eX [.j ts mv f a b] P W0 N (.seq x y) st Q:=
 gB S (fun p=>F p=some r) hJ hx
theorem al7{f:Unit→List Pa}{S:Unit→St}{F e0:Option ρ}(h:e0=some r)(hS:∀p,E0 ts mv st (f p)=some (S p))(hx:∀K:St→Prop,(∀s,F=some r→b8 W0 N s (S ())→K s)→eX a P W0 N x st (mI K Q))(hJ:F=some r→eX b P W0 N y (S ()) Q):eX [.j ts mv f a b] P W0 N (.seq x y) st Q:=
 gB S (fun _=>F=some r) (fun _ h=>hJ h) (fun K hK=>hx K fun s h=>hK () s h)
theorem al8{α β:Type}{f:α×β→List Pa}{S:α×β→St}{F:α→β→Option ρ}{e0:Option ρ}(h:e0=some r)(hS:∀p,E0 ts mv st (f p)=some (S p))(hx:∀K:St→Prop,(∀p q s,F p q=some r→b8 W0 N s (S (p,q))→K s)→eX a P W0 N x st (mI K Q))(hJ:∀p q,F p q=some r→eX b P W0 N y (S (p,q)) Q):eX [.j ts mv f a b] P W0 N (.seq x y) st Q:=
 gB S (fun p=>F p.1 p.2=some r) (fun p=>hJ p.1 p.2) (fun K hK=>hx K fun p q s=>hK (p,q) s)
theorem agG{α β:Type}{f:α×β→List Pa}{S:α×β→St}{F:α→β→Option ρ}{e0:Option ρ}(h:e0=some r)(hS:∀p,E0 ts mv st (f p)=some (S p))(hx:∀K:St→Prop,(∀p q s,F p q=some r→b8 W0 N s (S (p,q))→K s)→eX a P W0 N x st (mI K Q))(hJ:∀p q,F p q=some r→eX b P W0 N y (S (p,q)) Q):eX [.y 2 [] [.j ts mv f a b]] P W0 N (.seq x y) st Q:=
 gB S (fun p=>F p.1 p.2=some r) (fun p=>hJ p.1 p.2) (fun K hK=>hx K fun p q s=>hK (p,q) s)
theorem al9{α β γ:Type}{f:α×β×γ→List Pa}{S:α×β×γ→St}{F:α→β→γ→Option ρ}{e0:Option ρ}(h:e0=some r)(hS:∀p,E0 ts mv st (f p)=some (S p))(hx:∀K:St→Prop,(∀p q t s,F p q t=some r→b8 W0 N s (S (p,q,t))→K s)→eX a P W0 N x st (mI K Q))(hJ:∀p q t,F p q t=some r→eX b P W0 N y (S (p,q,t)) Q):eX [.j ts mv f a b] P W0 N (.seq x y) st Q:=
 gB S (fun p=>F p.1 p.2.1 p.2.2=some r) (fun p=>hJ p.1 p.2.1 p.2.2) (fun K hK=>hx K fun p q t s=>hK (p,q,t) s)
theorem ama{α β γ δ ε:Type}{f:α×β×γ×δ×ε→List Pa}{S:α×β×γ×δ×ε→St}{F:α→β→γ→δ→ε→Option ρ}{e0:Option ρ}(h:e0=some r)(hS:∀p,E0 ts mv st (f p)=some (S p))(hx:∀K:St→Prop,(∀p q t u v s,F p q t u v=some r→b8 W0 N s (S (p,q,t,u,v))→K s)→eX a P W0 N x st (mI K Q))(hJ:∀p q t u v,F p q t u v=some r→eX b P W0 N y (S (p,q,t,u,v)) Q):eX [.j ts mv f a b] P W0 N (.seq x y) st Q:=
 gB S (fun p=>F p.1 p.2.1 p.2.2.1 p.2.2.2.1 p.2.2.2.2=some r) (fun p=>hJ p.1 p.2.1 p.2.2.1 p.2.2.2.1 p.2.2.2.2) (fun K hK=>hx K fun p q t u v s=>hK (p,q,t,u,v) s)
theorem al_{α β γ δ:Type}{f:α×β×γ×δ→List Pa}{S:α×β×γ×δ→St}{F:α→β→γ→δ→Option ρ}{e0:Option ρ}(h:e0=some r)(hS:∀p,E0 ts mv st (f p)=some (S p))(hx:∀K:St→Prop,(∀p q t u s,F p q t u=some r→b8 W0 N s (S (p,q,t,u))→K s)→eX a P W0 N x st (mI K Q))(hJ:∀p q t u,F p q t u=some r→eX b P W0 N y (S (p,q,t,u)) Q):eX [.j ts mv f a b] P W0 N (.seq x y) st Q:=
 gB S (fun p=>F p.1 p.2.1 p.2.2.1 p.2.2.2=some r) (fun p=>hJ p.1 p.2.1 p.2.2.1 p.2.2.2) (fun K hK=>hx K fun p q t u s=>hK (p,q,t,u) s)
theorem arP{σ:Type}{f:σ→List Pa}{S:σ→St}{bd:σ→Option (σ⊕ρ)}{s0:σ}(h:Sh.loop bd s0=some r)(hS:∀p,E0 ts mv st (f p)=some (S p))(hw:Nh g w W0 N st (S s0))(k:∀p o,bd p=some o→(∀x,o=.inr x→x=r)→eX a P W0 N c (S p) (mI (fun s1=>∃s',o=.inl s'∧b8 W0 N s1 (S s')) Q)):eX [.l ts mv f g w a] P W0 N (.loop c) st Q:=
 B5 bd S h hw k
theorem arE{α:Type}{f:α→List Pa}{S:α→St}{F:α→Option ρ}{e0:Option ρ}{b:α→An}(h:e0=some r)(hS:∀p,E0 ts mv st (f p)=some (S p))(hx:∀K:St→Prop,(∀p s,F p=some r→b8 W0 N s (S p)→K s)→eX a P W0 N x st (mI K Q))(hJ:∀p,F p=some r→eX (b p) P W0 N y (S p) Q):eX [.jqq ts mv f a b] P W0 N (.seq x y) st Q:=
 gB S (fun p=>F p=some r) hJ hx
theorem alQ{α β:Type}{f:α×β→List Pa}{S:α×β→St}{F:α→β→Option ρ}{e0:Option ρ}{b:α×β→An}(h:e0=some r)(hS:∀p,E0 ts mv st (f p)=some (S p))(hx:∀K:St→Prop,(∀p q s,F p q=some r→b8 W0 N s (S (p,q))→K s)→eX a P W0 N x st (mI K Q))(hJ:∀p q,F p q=some r→eX (b (p,q)) P W0 N y (S (p,q)) Q):eX [.jqq ts mv f a b] P W0 N (.seq x y) st Q:=
 gB S (fun p=>F p.1 p.2=some r) (fun p=>hJ p.1 p.2) (fun K hK=>hx K fun p q s=>hK (p,q) s)
theorem alR{α β γ:Type}{f:α×β×γ→List Pa}{S:α×β×γ→St}{F:α→β→γ→Option ρ}{e0:Option ρ}{b:α×β×γ→An}(h:e0=some r)(hS:∀p,E0 ts mv st (f p)=some (S p))(hx:∀K:St→Prop,(∀p q t s,F p q t=some r→b8 W0 N s (S (p,q,t))→K s)→eX a P W0 N x st (mI K Q))(hJ:∀p q t,F p q t=some r→eX (b (p,q,t)) P W0 N y (S (p,q,t)) Q):eX [.jqq ts mv f a b] P W0 N (.seq x y) st Q:=
 gB S (fun p=>F p.1 p.2.1 p.2.2=some r) (fun p=>hJ p.1 p.2.1 p.2.2) (fun K hK=>hx K fun p q t s=>hK (p,q,t) s)
theorem asF{α:Type}{f:α→List Pa}{b:α→An}(k:eX [.jqq ts mv f a b] P W0 N c st Q):eX [.jqq ts mv f a b] P W0 N c st Q:=k
theorem am7{α β:Type}{f:α×β→List Pa}{b:α×β→An}(k:eX [.jqq ts mv f a b] P W0 N c st Q):eX [.jqq ts mv f a b] P W0 N c st Q:=k
theorem am8{α β γ:Type}{f:α×β×γ→List Pa}{b:α×β×γ→An}(k:eX [.jqq ts mv f a b] P W0 N c st Q):eX [.jqq ts mv f a b] P W0 N c st Q:=k
theorem arF{σ:Type}{f:σ→List Pa}{S:σ→St}{bd:σ→Option (σ⊕ρ)}{s0:σ}{a:σ→An}(h:Sh.loop bd s0=some r)(hS:∀p,E0 ts mv st (f p)=some (S p))(hw:Nh g w W0 N st (S s0))(k:∀p o,bd p=some o→(∀x,o=.inr x→x=r)→eX (a p) P W0 N c (S p) (mI (fun s1=>∃s',o=.inl s'∧b8 W0 N s1 (S s')) Q)):eX [.M ts mv f g w a] P W0 N (.loop c) st Q:=
 B5 bd S h hw k
theorem Y6{f:β→An}(x:β)(k:eX (f x) P W0 N c st Q):eX [.B f] P W0 N c st Q:=k
theorem am2{f:β→An}(k:eX [.B f] P W0 N c st Q):eX [.B f] P W0 N c st Q:=k
theorem arJ{s1:St}{f:List Pa}(h:E0 ts mv st f=some s1)(hx:∀K:St→Prop,(∀s,b8 W0 N s s1→K s)→eX a P W0 N x st (mI K Q))(hy:eX b P W0 N y s1 Q):eX [.W ts mv f a b] P W0 N (.seq x y) st Q:=
 gB (ι:=Unit) (fun _=>s1) (fun _=>True) (fun _ _=>hy) (fun K hK=>hx K fun s h=>hK () s trivial h)
theorem asM{f:List Pa}(k:eX [.W ts mv f a b] P W0 N c st Q):eX [.W ts mv f a b] P W0 N c st Q:=k
theorem ald{s1:St}(hK:∀s,b8 W0 N s s1→K0 s)(hw:Nh g w W0 N st s1):oJ [.X g w] (mI K0 Q) .normal st:=hK st hw
theorem asG{σ:Type}{f:σ→List Pa}{a:σ→An}(k:eX [.M ts mv f g w a] P W0 N c st Q):eX [.M ts mv f g w a] P W0 N c st Q:=k
theorem arB{f:β→An}(x:β)(k:fG (f x) m P W0 ops l fr H Q):fG [.B f] m P W0 ops l fr H Q:=k
theorem asD{f:β→An}(k:fG [.B f] m P W0 ops l fr H Q):fG [.B f] m P W0 ops l fr H Q:=k
theorem S9{σ:Type}{S:σ→St}{x:σ}{o1:σ⊕ρ}(h:Sh.next x=some o1)(hw:Nh g w W0 N st (S x)):oJ [.X g w] (mI (fun s1=>∃s',o1=.inl s'∧b8 W0 N s1 (S s')) Q) .normal st:=⟨x,Sh.Iq h,hw⟩
theorem alg{i:Nat}(k:oJ a Q (.exit i) st):oJ a (mI K0 Q) (.exit i) st:=k
theorem ale{i:Nat}(k:oJ a Q .normal st):oJ a (yU i Q) (.exit i) st:=by simpa [oJ,yU] using k
theorem alf{i j:Nat}(h:(i==j)=false)(k:oJ a Q (.exit i) st):oJ a (yU j Q) (.exit i) st:=by simp at h;simpa [oJ,yU,h] using k
theorem ae7{j:Nat}(k:oJ a Q .normal st):oJ a (yU j Q) .normal st:=k
theorem agw(k:oJ a Q .ret st):oJ a (mI K0 Q) .ret st:=k
theorem agu{j:Nat}(k:oJ a Q .ret st):oJ a (yU j Q) .ret st:=k
theorem S5{F:Option ρ}{s1:St}(hK:∀s,F=some r→b8 W0 N s s1→K0 s)(h:F=some r)(hw:Nh g w W0 N st s1):oJ [.X g w] (mI K0 Q) .normal st:=hK st h hw
theorem YK{α:Type}{F:α→Option ρ}{S:α→St}{p:α}(hK:∀p s,F p=some r→b8 W0 N s (S p)→K0 s)(h:F p=some r)(hw:Nh g w W0 N st (S p)):oJ [.X g w] (mI K0 Q) .normal st:=hK p st h hw
theorem S6{α β:Type}{F:α→β→Option ρ}{S:α→β→St}{p:α}{q:β}(hK:∀p q s,F p q=some r→b8 W0 N s (S p q)→K0 s)(h:F p q=some r)(hw:Nh g w W0 N st (S p q)):oJ [.X g w] (mI K0 Q) .normal st:=hK p q st h hw
theorem S7{α β γ:Type}{F:α→β→γ→Option ρ}{S:α→β→γ→St}{p:α}{q:β}{t:γ}(hK:∀p q t s,F p q t=some r→b8 W0 N s (S p q t)→K0 s)(h:F p q t=some r)(hw:Nh g w W0 N st (S p q t)):oJ [.X g w] (mI K0 Q) .normal st:=hK p q t st h hw
theorem S8{α β γ δ:Type}{F:α→β→γ→δ→Option ρ}{S:α→β→γ→δ→St}{p:α}{q:β}{t:γ}{u:δ}(hK:∀p q t u s,F p q t u=some r→b8 W0 N s (S p q t u)→K0 s)(h:F p q t u=some r)(hw:Nh g w W0 N st (S p q t u)):oJ [.X g w] (mI K0 Q) .normal st:=hK p q t u st h hw
theorem YL{α β γ δ ε:Type}{F:α→β→γ→δ→ε→Option ρ}{S:α→β→γ→δ→ε→St}{p:α}{q:β}{t:γ}{u:δ}{v:ε}(hK:∀p q t u v s,F p q t u v=some r→b8 W0 N s (S p q t u v)→K0 s)(h:F p q t u v=some r)(hw:Nh g w W0 N st (S p q t u v)):oJ [.X g w] (mI K0 Q) .normal st:=hK p q t u v st h hw
theorem Li{rs:List ResultVar}{B:bS}{s':St}{q:AV}{e:Exit}(he:e=.normal∨e=.ret)(hq:Cm P rs st=some q)(hw:Nh g w B 1 ⟨[(0,q)],st.H⟩ s'):oJ [.X g w] (fun e s=>(e=.normal∨e=.ret)∧∃q,Cm P rs s=some q∧b8 B 1 ⟨[(0,q)],s.H⟩ s') e st:=⟨he,q,hq,hw⟩
def M1(b:Bool):List (Nat×Bool)→List (Nat×AV)→List (Nat×AV)
 |[],f=>f
 |(t,n)::l,f=>match n with
  |true=>match b with
   |true=>M1 b l (up f t (bl false))
   |false=>M1 b l (up f t (bl true))
  |false=>match b with
   |true=>M1 b l (up f t (bl true))
   |false=>M1 b l (up f t (bl false))
theorem Xu(b n:Bool)(t:Nat)(l:List (Nat×Bool))(f:List (Nat×AV)):M1 b ((t,n)::l) f=M1 b l (up f t (bl (b !=n))):=by cases b <;> cases n <;> rfl
def OA(b:Bool)(f:List (Nat×AV)):List (Nat×Bool)→Prop
 |[]=>True
 |(t,n)::l=>lk f t=some (match n with|true=>bl (!b)|false=>bl b)∧OA b f l
theorem Mj{b:Bool}{f:List (Nat×AV)}:∀{sl:List (Nat×Bool)} {f':List (Nat×AV)},OA b f sl→(∀t x,lk f' t=some x→lk f t=some x)→∀t x,lk (M1 b sl f') t=some x→lk f t=some x
 |[],_,_,h,t,x,hx=>h t x hx
 |(s,n)::l,f',hb,h,t,x,hx=>by
  rw[Xu] at hx;refine Mj (f':=up f' s (bl (b !=n))) hb.2 (fun t2 x2 Zo=> ?_) t x hx;rw[Ah] at Zo;by_cases e:t2=s
  ·rw[if_pos e] at Zo
   rw[e,hb.1];rw[←Zo];cases n <;> cases b <;> rfl
  ·rw[if_neg e] at Zo
   exact h t2 x2 Zo
theorem arL(hm:m.plain=true){b0:Bool}{sl:List (Nat×Bool)}{ft ff:List (Nat×AV)}{p q:Option β}{v:β}(h:(if b0=true then p else q)=some v)(hb:OA b0 fr sl)(h1:mL (M1 true sl fr)=some ft)(h2:mL (M1 false sl fr)=some ff)(k1:b0=true→p=some v→fG a m P W0 ops l ft H Q)(k2:b0=false→q=some v→fG b m P W0 ops l ff H Q):fG [.g sl a b] m P W0 ops l fr H Q:=by
 have hd:∀c f,b0=c→f=M1 c sl fr→∀a,fG a m P W0 ops l f H Q→fG [.g sl a b] m P W0 ops l fr H Q:=by
  intro c f hc hf a hk;subst hf;subst hc;have hk':=Mj hb (fun t x h=>h);cases m with
  |n=>
   obtain⟨f1,H1,r1,r2⟩:=hk;exact⟨f1,H1,.drop hk' r1,r2⟩
  |s=>exact sN.drop hk' hk
  |_=>cases hm
 cases hb0:b0 with
 |true=>subst hb0;exact hd true ft rfl (gR h1) a (k1 rfl (by simpa using h))
 |false=>subst hb0;exact hd false ff rfl (gR h2) b (k2 rfl (by simpa using h))
theorem anr{s s':St}(k:Nh g w W0 N s s'):Nh g w W0 N s s':=k
theorem asC(k:eX a P W0 N c st Q):eX a P W0 N c st Q:=k
theorem asJ(k:fG a m P W0 ops l fr H Q):fG a m P W0 ops l fr H Q:=k
theorem am3{e:Exit}(k:oJ a Q e st):oJ a Q e st:=k
theorem am5{rs:List ResultVar}{B:bS}{s':St}{e:Exit}(k:oJ a (fun e s=>(e=.normal∨e=.ret)∧∃q,Cm P rs s=some q∧b8 B 1 ⟨[(0,q)],s.H⟩ s') e st):oJ a (fun e s=>(e=.normal∨e=.ret)∧∃q,Cm P rs s=some q∧b8 B 1 ⟨[(0,q)],s.H⟩ s') e st:=k
theorem asX(k:eX (.q::a) P W0 N c st Q):eX (.q::a) P W0 N c st Q:=k
theorem anf(k:eX (.ct::a) P W0 N c st Q):eX (.ct::a) P W0 N c st Q:=k
theorem ane(k:eX (.cf::a) P W0 N c st Q):eX (.cf::a) P W0 N c st Q:=k
theorem asE{i:Nat}(k:eX (.F fs i::a) P W0 N c st Q):eX (.F fs i::a) P W0 N c st Q:=k
theorem asY(k:fG (.s::a) m P W0 ops l fr H Q):fG (.s::a) m P W0 ops l fr H Q:=k
theorem asS(k:fG (.i n::a) m P W0 ops l fr H Q):fG (.i n::a) m P W0 ops l fr H Q:=k
theorem asV(k:fG (.n::a) m P W0 ops l fr H Q):fG (.n::a) m P W0 ops l fr H Q:=k
theorem asz{i:Nat}(k:fG (.k [i]::a) m P W0 ops l fr H Q):fG (.k [i]::a) m P W0 ops l fr H Q:=k
theorem asA{i j:Nat}(k:fG (.k [i,j]::a) m P W0 ops l fr H Q):fG (.k [i,j]::a) m P W0 ops l fr H Q:=k
theorem asB{i j i':Nat}(k:fG (.k [i,j,i']::a) m P W0 ops l fr H Q):fG (.k [i,j,i']::a) m P W0 ops l fr H Q:=k
theorem anq(k:eX a P W0 N (.seq x y) st Q):eX a P W0 N (.seq x y) st Q:=k
theorem anb(k:eX a P W0 N (.block id c) st Q):eX a P W0 N (.block id c) st Q:=k
theorem anp{ops:Array Oper}(k:eX a P W0 N (.region id ops false) st Q):eX a P W0 N (.region id ops false) st Q:=k
theorem ang(k:eX (.R fs::a) P W0 N c st Q):eX (.R fs::a) P W0 N c st Q:=k
theorem anc(k:eX [.cd a b] P W0 N c st Q):eX [.cd a b] P W0 N c st Q:=k
theorem asT{α:Type}{f:α→List Pa}(k:eX [.j ts mv f a b] P W0 N c st Q):eX [.j ts mv f a b] P W0 N c st Q:=k
theorem ani{f:Unit→List Pa}(k:eX [.j ts mv f a b] P W0 N c st Q):eX [.j ts mv f a b] P W0 N c st Q:=k
theorem anj{α β:Type}{f:α×β→List Pa}(k:eX [.j ts mv f a b] P W0 N c st Q):eX [.j ts mv f a b] P W0 N c st Q:=k
theorem ag4{α β:Type}{f:α×β→List Pa}(k:eX [.y 2 [] [.j ts mv f a b]] P W0 N c st Q):eX [.y 2 [] [.j ts mv f a b]] P W0 N c st Q:=k
theorem ank{α β γ:Type}{f:α×β×γ→List Pa}(k:eX [.j ts mv f a b] P W0 N c st Q):eX [.j ts mv f a b] P W0 N c st Q:=k
theorem anl{α β γ δ:Type}{f:α×β×γ×δ→List Pa}(k:eX [.j ts mv f a b] P W0 N c st Q):eX [.j ts mv f a b] P W0 N c st Q:=k
theorem anm{α β γ δ ε:Type}{f:α×β×γ×δ×ε→List Pa}(k:eX [.j ts mv f a b] P W0 N c st Q):eX [.j ts mv f a b] P W0 N c st Q:=k
theorem asU{σ:Type}{f:σ→List Pa}(k:eX [.l ts mv f g w a] P W0 N c st Q):eX [.l ts mv f g w a] P W0 N c st Q:=k
theorem ac4(k:eX a P W0 N .skip st Q):eX a P W0 N .skip st Q:=k
theorem ag3(k:eX a P W0 N .ret st Q):eX a P W0 N .ret st Q:=k
theorem ac0(k:eX a P W0 N (.exit id) st Q):eX a P W0 N (.exit id) st Q:=k
theorem Zt{i:Nat}(k:eX a P W0 N (.label i) st Q):eX a P W0 N (.label i) st Q:=k
theorem asP(k:fG (.e n::a) m P W0 ops l fr H Q):fG (.e n::a) m P W0 ops l fr H Q:=k
theorem asW(k:fG (.p ts::a) m P W0 ops l fr H Q):fG (.p ts::a) m P W0 ops l fr H Q:=k
theorem asO(k:fG (.d::a) m P W0 ops l fr H Q):fG (.d::a) m P W0 ops l fr H Q:=k
theorem asR(k:fG (.h::a) m P W0 ops l fr H Q):fG (.h::a) m P W0 ops l fr H Q:=k
theorem as0(k:fG (.v::a) m P W0 ops l fr H Q):fG (.v::a) m P W0 ops l fr H Q:=k
theorem asQ{sl:List (Nat×Bool)}(k:fG [.g sl a b] m P W0 ops l fr H Q):fG [.g sl a b] m P W0 ops l fr H Q:=k
theorem ag1(k:fG a m P W0 ops [] fr H Q):fG a m P W0 ops [] fr H Q:=k
theorem am6(k:oJ (.k ts::a) Q .normal st):oJ (.k ts::a) Q .normal st:=k
theorem ag0(k:oJ (.n::a) Q .normal st):oJ (.n::a) Q .normal st:=k
theorem afu(k:oJ (.w ts mv::a) Q .normal st):oJ (.w ts mv::a) Q .normal st:=k
theorem LG{i:FuncId}{ar:Array Operand}{ts':Array TypeId}(ho:o.op=.call {callee:=.value (.func i),args:=ar,argTypes:=ts'})(k:fG a m P W0 ops (o::rest) fr H Q):fG a m P W0 ops (o::rest) fr H Q:=k
theorem Vl{ar:Array Operand}{ts':Array TypeId}(ho:o.op=.call {callee:=.builtin .len,args:=ar,argTypes:=ts'})(k:fG a m P W0 ops (o::rest) fr H Q):fG a m P W0 ops (o::rest) fr H Q:=k
theorem ac1{ar:Array Operand}{ts':Array TypeId}(ho:o.op=.call {callee:=.builtin .append,args:=ar,argTypes:=ts'})(k:fG a m P W0 ops (o::rest) fr H Q):fG a m P W0 ops (o::rest) fr H Q:=k
variable {t:TypeId}
theorem LH{x y:Operand}(ho:o.op=.indexAddr t x y)(k:fG a m P W0 ops (o::rest) fr H Q):fG a m P W0 ops (o::rest) fr H Q:=k
theorem ac2{b:BinOp}{t2:TypeId}{x y:Operand}(ho:o.op=.binOp b t x y t2)(k:fG a m P W0 ops (o::rest) fr H Q):fG a m P W0 ops (o::rest) fr H Q:=k
theorem Zv{k:Nat}{q:Array (Nat×Operand)}(ho:o.op=.buildSlice t k q)(k:fG a m P W0 ops (o::rest) fr H Q):fG a m P W0 ops (o::rest) fr H Q:=k
theorem ag2{q:Array (Nat×Operand)}(ho:o.op=.build t q)(k:fG a m P W0 ops (o::rest) fr H Q):fG a m P W0 ops (o::rest) fr H Q:=k
theorem Zw{u:TypeId}{x:Operand}(ho:o.op=.convert t u x)(k:fG a m P W0 ops (o::rest) fr H Q):fG a m P W0 ops (o::rest) fr H Q:=k
theorem Vk{x:Operand}(ho:o.op=.box t x)(k:fG a m P W0 ops (o::rest) fr H Q):fG a m P W0 ops (o::rest) fr H Q:=k
theorem Zu(ho:o.op=.alloc t)(k:fG a m P W0 ops (o::rest) fr H Q):fG a m P W0 ops (o::rest) fr H Q:=k
theorem vk{x y:Operand}(ho:o.op=.store t x y)(k:fG a m P W0 ops (o::rest) fr H Q):fG a m P W0 ops (o::rest) fr H Q:=k
theorem Zx{x:Operand}(ho:o.op=.load t x)(k:fG a m P W0 ops (o::rest) fr H Q):fG a m P W0 ops (o::rest) fr H Q:=k
theorem To{x:Operand}{y z q:Option Operand}(ho:o.op=.slice t x y z q)(k:fG a m P W0 ops (o::rest) fr H Q):fG a m P W0 ops (o::rest) fr H Q:=k
theorem Zy{x y:Operand}(ho:o.op=.makeSlice t x y)(k:fG a m P W0 ops (o::rest) fr H Q):fG a m P W0 ops (o::rest) fr H Q:=k
theorem ac3{ar:Array Operand}{ts':Array TypeId}(ho:o.op=.call {callee:=.builtin .copy,args:=ar,argTypes:=ts'})(k:fG a m P W0 ops (o::rest) fr H Q):fG a m P W0 ops (o::rest) fr H Q:=k
end
end Go.Av
end
