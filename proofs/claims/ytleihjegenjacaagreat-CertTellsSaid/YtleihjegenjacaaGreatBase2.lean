/- What a proof sees of a run, and the rules by which it goes through a text. -/
import Derived.Test.YtleihjegenjacaaGreatBase1
import Derived.Laws.StructEq
import Derived.Laws.BytesString
import Derived.Sort.Grow
import Derived.Lib.SlicesCompact
import Derived.Lib.Slices
import Derived.RecoverIn
import Derived.Shelf.SlSortCmp.NoneTotal
import Derived.Carry
import Derived.ProofKit
import Derived.OpenShut
import Derived.Lib.LaidTab
set_option linter.unusedSimpArgs false
set_option linter.unusedVariables false
section
/- Strings, and integers of few bits. -/
namespace Go.Sh
def KU(k:IntKind)(a b:Int):Int:=k.wrap ((BitVec.ofInt k.bits a|||BitVec.ofInt k.bits b).toNat:Int)
def Tc(k:IntKind)(a b:Int):Int:=k.wrap ((BitVec.ofInt k.bits a&&&BitVec.ofInt k.bits b).toNat:Int)
def WA(k:IntKind)(a n:Int):Option Int:=if n<0 then none else some (k.wrap (a*2 ^ (Min.min n.toNat k.bits)))
def Tw(k:IntKind)(a n:Int):Option Int:=if n<0 then none else some (a.fdiv (2 ^ (Min.min n.toNat k.bits)))
def str(l:List Int):List UInt8:=l.map fun n=>UInt8.ofNat n.toNat
def cat(a b:List UInt8):Option (List UInt8):=if(a.length:Int)+b.length≤9223372036854775807 then some (a++b) else none
end Go.Sh
namespace Go.Av
open Go
abbrev eP(s:List UInt8):AV:=.imm (.string ⟨s.toArray⟩)
section
variable {P:Program} {W0:dK} {fr:Fr} {H:bg} {o:Oper}

theorem MA{t t':TypeId}{x y:Operand}{k:IntKind}{a b:Int}(ho:o.op=.binOp .or t x y t')(hx:bz fr x=some (.imm (.int k a)))(hy:bz fr y=some (.imm (.int k b))):fV P W0 o fr H (.imm (.int k (Sh.KU k a b))) H:=
 ur ho hx hy (fun w=>by simp only[binOp,ne_eq,not_true_eq_false,if_false,Op.intBits];rfl) rfl
theorem UK{t t':TypeId}{x y:Operand}{k:IntKind}{a b:Int}(ho:o.op=.binOp .and t x y t')(hx:bz fr x=some (.imm (.int k a)))(hy:bz fr y=some (.imm (.int k b))):fV P W0 o fr H (.imm (.int k (Sh.Tc k a b))) H:=
 ur ho hx hy (fun w=>by simp only[binOp,ne_eq,not_true_eq_false,if_false,Op.intBits];rfl) rfl
theorem afn{t t':TypeId}{x y:Operand}{k k':IntKind}{a n r:Int}(h:Sh.WA k a n=some r)(ho:o.op=.binOp .shl t x y t')(hx:bz fr x=some (.imm (.int k a)))(hy:bz fr y=some (.imm (.int k' n))):fV P W0 o fr H (.imm (.int k r)) H:=
 LQ ho hx hy (fun w=>by
  unfold Sh.WA at h
  split at h
  ·cases h
  ·rename_i hn
   cases h
   simp only[binOp,Op.shift,hn,if_false]
   rfl) rfl
theorem X3{t t':TypeId}{x y:Operand}{k k':IntKind}{a n r:Int}(h:Sh.Tw k a n=some r)(ho:o.op=.binOp .shr t x y t')(hx:bz fr x=some (.imm (.int k a)))(hy:bz fr y=some (.imm (.int k' n))):fV P W0 o fr H (.imm (.int k r)) H:=
 LQ ho hx hy (fun w=>by
  unfold Sh.Tw at h
  split at h
  ·cases h
  ·rename_i hn
   cases h
   simp only[binOp,Op.shift,hn,if_false]
   rfl) rfl

theorem Oh(a b:List UInt8):((⟨a.toArray⟩:ByteArray).toList==(⟨b.toArray⟩:ByteArray).toList)=decide (a=b):=by
 rw[ByteArray.toList_eq,ByteArray.toList_eq]
 by_cases h:a=b <;> simp[h]
theorem DV(s:List UInt8):(⟨s.toArray⟩:ByteArray).size=s.length:=by show s.toArray.size=_;simp
theorem zb{C:Ctx}{s:List UInt8}{v:Value}(h:dR C (eP s) v):v=.string ⟨s.toArray⟩:=fc (v:=.string ⟨s.toArray⟩) rfl h

theorem P8{t t':TypeId}{x y:Operand}{a b:List UInt8}(ho:o.op=.binOp .eql t x y t')(hx:bz fr x=some (eP a))(hy:bz fr y=some (eP b)):fV P W0 o fr H (bl (decide (a=b))) H:=
 .e8 fun C e _ _ hr=>by
  have e1:=zb (bN (hr x (by simp[ho,Op.operands])) hx)
  have e2:=zb (bN (hr y (by simp[ho,Op.operands])) hy)
  refine⟨.bool (decide (a=b)), ?_,.imm _ rfl⟩
  have hg:(eqGuard .eql t x y (.string ⟨a.toArray⟩) (.string ⟨b.toArray⟩)).run P C.w=.ok () C.w:=by
   unfold eqGuard
   split <;> rfl
  simp only[execOp,ho,e1,e2,Sem.run_bind,hg,Result.andThen_ok,binOp,Op.stringOp,Oh]
  rfl
theorem X4{t t':TypeId}{x y:Operand}{a b:List UInt8}(ho:o.op=.binOp .neq t x y t')(hx:bz fr x=some (eP a))(hy:bz fr y=some (eP b)):fV P W0 o fr H (bl (!decide (a=b))) H:=
 .e8 fun C e _ _ hr=>by
  have e1:=zb (bN (hr x (by simp[ho,Op.operands])) hx)
  have e2:=zb (bN (hr y (by simp[ho,Op.operands])) hy)
  refine⟨.bool (!decide (a=b)), ?_,.imm _ rfl⟩
  have hg:(eqGuard .neq t x y (.string ⟨a.toArray⟩) (.string ⟨b.toArray⟩)).run P C.w=.ok () C.w:=by
   unfold eqGuard
   split <;> rfl
  simp only[execOp,ho,e1,e2,Sem.run_bind,hg,Result.andThen_ok,binOp,Op.stringOp,Oh]
  rfl
theorem Mt{t t':TypeId}{x y:Operand}{a b r:List UInt8}(h:Sh.cat a b=some r)(ho:o.op=.binOp .add t x y t')(hx:bz fr x=some (eP a))(hy:bz fr y=some (eP b)):fV P W0 o fr H (eP r) H:=
 .e8 fun C e _ _ hr=>by
  have e1:=zb (bN (hr x (by simp[ho,Op.operands])) hx)
  have e2:=zb (bN (hr y (by simp[ho,Op.operands])) hy)
  unfold Sh.cat at h
  split at h
  ·rename_i hl
   cases h
   refine⟨.string ⟨(a++b).toArray⟩, ?_,.imm _ rfl⟩
   have hg:(eqGuard .add t x y (.string ⟨a.toArray⟩) (.string ⟨b.toArray⟩)).run P C.w=.ok () C.w:=by
    unfold eqGuard
    rfl
   have hsz:¬(((⟨a.toArray⟩:ByteArray).size+(⟨b.toArray⟩:ByteArray).size:Nat):Int)>IntKind.i64.max:=by
    rw[DV,DV]
    have:IntKind.i64.max=9223372036854775807:=rfl
    omega
   simp only[execOp,ho,e1,e2,Sem.run_bind,hg,Result.andThen_ok,binOp,Op.stringOp,hsz,if_false]
   show Result.ok _ _=Result.ok _ _
   congr 2
  ·cases h
theorem Bz{t:TypeId}{x:Operand}{s:List UInt8}(ho:o.op=.call {callee:=.builtin .len,args:= #[x],argTypes:= #[t]})(hx:bz fr x=some (eP s))(hu:P.underlying t=some .string):fV P W0 o fr H (J (Sh.len s)) H:=
 .e8 fun C a _ _ hr=>by
  have e1:=zb (bN (hr x (by simp[ho,Op.operands,Call.operands])) hx)
  obtain⟨cs,hb⟩:=vB (P:=P) ho a
  refine⟨.int .i64 (Sh.len s), ?_,.imm _ rfl⟩
  rw[hb]
  simp[builtin,Builtin.len_,e1,run_underlying hu,goInt,Sh.len,DV]
theorem vI{t:TypeId}{x y:Operand}{ki:IntKind}{s:List UInt8}{i:Int}{b:UInt8}(h:Sh.idx s i=some b)(ho:o.op=.index t x y)(hx:bz fr x=some (eP s))(hy:bz fr y=some (.imm (.int ki i)))(hu:P.underlying t=some .string):fV P W0 o fr H (kA .u8 (b.toNat:Int)) H:=
 .e8 fun C a _ _ hr=>by
  have e1:=zb (bN (hr x (by simp[ho,Op.operands])) hx)
  have e2:=fc (v:=.int ki i) rfl (bN (hr y (by simp[ho,Op.operands])) hy)
  refine⟨.int .u8 b.toNat, ?_,.imm _ rfl⟩
  unfold Sh.idx at h
  split at h
  ·rename_i h0
   have hb:(⟨s.toArray⟩:ByteArray)[i.toNat]? =some b:=by
    obtain⟨hlt,hv⟩:=List.getElem?_eq_some_iff.1 h
    rw[getElem?_pos (⟨s.toArray⟩:ByteArray) i.toNat (by rw[DV];exact hlt)]
    rw[←hv];rfl
   simp[execOp,ho,e1,e2,Instr.index,asIntOf,run_underlying hu,h0,hb]
  ·cases h
theorem PX(s:List UInt8)(l h:Nat):(⟨s.toArray⟩:ByteArray).extract l h=⟨((s.drop l).take (h - l)).toArray⟩:=by
 apply ByteArray.ext
 simp[ByteArray.data_extract]
theorem Uc{t:TypeId}{x y:Operand}{ki:IntKind}{s r:List UInt8}{i:Int}(h:Sh.sub s i (Sh.len s)=some r)(ho:o.op=.slice t x (some y) none none)(hx:bz fr x=some (eP s))(hy:bz fr y=some (.imm (.int ki i)))(hu:P.underlying t=some .string):fV P W0 o fr H (eP r) H:=
 .e8 fun C a _ _ hr=>by
  have e1:=zb (bN (hr x (by simp[ho,Op.operands])) hx)
  have e2:=fc (v:=.int ki i) rfl (bN (hr y (by simp[ho,Op.operands])) hy)
  obtain⟨m,k,rfl,hk,h1,h2,rfl⟩:=Sh.Kw h
  have hks:k=s.length:=by simp only[Sh.len] at hk;omega
  subst hks
  refine⟨.string ⟨((s.drop m).take (s.length - m)).toArray⟩, ?_,.imm _ rfl⟩
  simp[execOp,ho,e1,e2,Instr.sliceAt,Instr.slice,Instr.sliceBounds,Instr.sliceBound,asIntOf,run_underlying hu,DV,PX]
  intro h;omega
theorem fold_push(l:List Int):∀s:ByteArray,(l.foldl (fun r n=>r.push (UInt8.ofNat n.toNat)) s)=⟨s.data++(Sh.str l).toArray⟩:=by
 induction l with
 |nil=>intro s;apply ByteArray.ext;simp[Sh.str]
 |cons n l ih=>
  intro s
  rw[List.foldl_cons,ih]
  apply ByteArray.ext
  simp[Sh.str,ByteArray.push]
theorem FP{src dst e:TypeId}{x:Operand}{ax:AV}{l:List Int}(ho:o.op=.convert src dst x)(hx:bz fr x=some ax)(hl:ax.elems H=some (l.map (kA .u8)))(hs:P.underlying src=some (.slice e))(he:P.underlying e=some (.int .u8))(hd:P.underlying dst=some .string):fV P W0 o fr H (eP (Sh.str l)) H:=
 .e8 fun C a hI hH hr=>by
  subst hH
  obtain⟨ad,cap,e1,e2,e3⟩:=zm hI (bN (hr x (by simp[ho,Op.operands])) hx) hl
  refine⟨.string ⟨(Sh.str l).toArray⟩, ?_,.imm _ rfl⟩
  have key:(Conv.bytesToString (.slice ad (l.map (kA .u8)).length cap)).run P C.w=.ok (.string ⟨(Sh.str l).toArray⟩) C.w:=by
   have fin:∀(b:Addr),ad=some b→(loadCells b (l.map (kA .u8)).length).run P C.w=.ok (l.map (Value.int .u8)).toArray C.w→(Conv.bytesToString (.slice ad (l.map (kA .u8)).length cap)).run P C.w=.ok (.string ⟨(Sh.str l).toArray⟩) C.w:=by
    rintro b rfl h
    rw[run_bytesToString C.w b _ cap l h,fold_push]
    simp
   by_cases hne:l=[]
   ·subst hne
    cases ad with
    |none=>rfl
    |some b=>exact fin b rfl (by simpa using run_loadCells_list (P:=P) (w:=C.w) b [] (fun j v h=>by simp at h))
   ·obtain⟨b,off,h1,vs,h2,h3,h4⟩:=Reads.cells (s:=1) e3 (by simpa using hne) (by intro y hy;obtain⟨n,_,rfl⟩:=List.mem_map.1 hy;rfl)
    refine fin _ h1 ?_
    have hvs:vs=l.map (Value.int .u8):=by
     apply List.ext_getElem?
     intro i
     by_cases hi:i<l.length
     ·have h5:(l.map (kA .u8))[i]? =some (kA .u8 l[i]):=by simp[hi]
      obtain⟨v,h6,h7⟩:=h4 i 0 _ _ h5 rfl
      rw[Nat.mul_one,Nat.add_zero] at h6
      rw[h6,fc (v:=.int .u8 l[i]) rfl h7]
      simp[hi]
     ·rw[List.getElem?_eq_none (by rw[h2];simpa using hi),List.getElem?_eq_none (by simpa using hi)]
    have:=run_loadCells_list (P:=P) (w:=C.w) ⟨b,off,none⟩ vs (fun j v hj=>(h3 j v hj).1)
    rw[hvs] at this
    simpa using this
  simp only[execOp,ho,e1,Sem.run_bind,run_convert_bytes_string C.w src dst e ad _ cap hs he hd,key,Result.andThen_ok]
  rfl
end
end Go.Av
end

section
/- A struct with a table of numbers behind its first cell. -/
namespace Go.Sh
def lim(n:Nat)(i:Int):Option Nat:=if 0≤i∧i<n then some i.toNat else none
def KB{α:Type}(l:List α)(k:Nat):Option α:=l[k]?
def Ud{α:Type}(l:List α)(k:Nat)(x:α):Option (List α):=if k<l.length then some (l.set k x) else none
theorem Pe{n:Nat}{i:Int}{k:Nat}(h:lim n i=some k):i=k∧k<n:=by
 unfold lim at h
 split at h
 ·simp only[Option.some.injEq] at h;omega
 ·cases h
theorem Ue{α:Type}{l L:List α}{k:Nat}{x:α}(h:Ud l k x=some L):k<l.length∧L=l.set k x:=by
 unfold Ud at h
 split at h
 ·cases h;exact⟨by assumption,rfl⟩
 ·cases h
end Go.Sh
namespace Go.Av
open Go
abbrev dU(hd:AV)(L:List Int):AV:=.agg (hd::L.map J)
section
variable {P:Program} {W0:dK} {fr:Fr} {H:bg} {o:Oper}

theorem sM{t:TypeId}{N s:Nat}{x i:Operand}{id p j:Nat}{es:List AV}{kd:IntKind}{n:Int}{m:Nat}(h:Sh.lim N n=some m)(ho:o.op=.indexAddr t x i)(hx:bz fr x=some (.ref id p j))(hid:H.get id=some es)(hi:bz fr i=some (.imm (.int kd n)))
  (ht:vm P t=some (N,s)):fV P W0 o fr H (.ref id p (j+m*s)) H:=
 Gc ho hx hid hi ht (Sh.Pe h).1 (Sh.Pe h).2
theorem FT{t:TypeId}{xo:Operand}{id j k:Nat}{hd:AV}{L:List Int}{x:Int}(h:Sh.KB L k=some x)(hj:j=1+k)(ho:o.op=.load t xo)(hx:bz fr xo=some (.ref id 0 j))(hid:H.get id=some [dU hd L])(ht:zf P t=some (1,false)):fV P W0 o fr H (J x) H:=
 aR ho hx hid (i:=0) (e:=dU hd L) rfl ht (by
  subst hj
  unfold Sh.KB at h
  simp[wq,AV.flat,Nat.add_comm 1 k,h])
theorem P_{t:TypeId}{xo yo:Operand}{id j k:Nat}{hd:AV}{L L':List Int}{x:Int}(h:Sh.Ud L k x=some L')(hj:j=1+k)(ho:o.op=.store t xo yo)(hx:bz fr xo=some (.ref id 0 j))(hy:bz fr yo=some (J x))(hid:H.get id=some [dU hd L])(ht:zf P t=some (1,false)):
  fV P W0 o fr H .any (H.set id [dU hd L']):=by
 obtain⟨hk,rfl⟩:=Sh.Ue h
 subst hj
 have:=a_ (P:=P) (W0:=W0) (o:=o) (fr:=fr) (H:=H) (e:=dU hd L) (e':=dU hd (L.set k x)) (i:=0) ho hx hy rfl hid rfl ht rfl (by simp[AV.flat];omega) (by
  simp only[AV.flat,Nat.add_comm 1 k,List.take_succ_cons,List.cons_append,List.drop_succ_cons,List.cons.injEq,true_and]
  rw[←List.map_take,←List.map_drop]
  have:L.set k x=L.take k++[x]++L.drop (k+1):=by
   rw[List.set_eq_take_append_cons_drop,if_pos hk];simp
  rw[this];simp)
 exact this
theorem P7{t:TypeId}{N:Nat}{xo:Operand}{hd:AV}(ho:o.op=.build t #[(0,xo)])(hx:bz fr xo=some (.agg [hd]))(ht:ML P t=some ([(0,1),(1,N)],.slice none 0 0::List.replicate N (.int .i64 0))):fV P W0 o fr H (dU hd (List.replicate N 0)) H:=by
 refine cm (xs:=[(0,.agg [hd])]) ho ht (by simp[Value.oneCell']) (by simp[hx]) ?_
 simp[L3,AV.flat,AV.dH]
end
end Go.Av
end

section
/- Sorting numbers, and leaving out what comes twice: by what is known of the library's functions. -/
namespace Go.Av
open Go.RowKit (Below)

structure UH (P:Program) (f:FuncId):Prop where
 call:mw P f
 no:∀(p:Option Addr) (cap:Nat) (w:World),Calls P f #[.slice p 0 cap] w fun e w'=>e=.returned (.tuple #[])∧w'=w
 is:∀(fW off cap:Nat) (zs:List Int) (w:World),Sort.Holds (Value.int .i64) w fW off zs.toArray→fW<w.heap.size→zs.length<4611686018427387904→
  Calls P f #[.slice (some ⟨fW,off,none⟩) zs.length cap] w fun e w'=>
   e=.returned (.tuple #[])∧∃n os,w'=Sort.grow (Sort.putRow (Value.int .i64) (Sort.ahead w n) fW off (zs.mergeSort fun x y=>decide (x≤y)).toArray) os

def Sh.put(x:Int):List Int→List Int
 |[]=>[x]
 |y::l=>if x≤y then x::y::l else y::Sh.put x l
def Sh.sK:List Int→List Int
 |[]=>[]
 |x::l=>Sh.put x (Sh.sK l)
theorem Sh.Ke(x:Int):∀l:List Int,(Sh.put x l).Perm (x::l)
 |[]=>.refl _
 |y::l=>by
  unfold Sh.put
  split
  ·exact .refl _
  ·exact((Sh.Ke x l).cons y).trans (.swap x y l)
theorem Sh.rP:∀l:List Int,(Sh.sK l).Perm l
 |[]=>.refl _
 |x::l=>(Sh.Ke x _).trans ((Sh.rP l).cons x)
theorem Sh.Kf(x:Int):∀l:List Int,l.Pairwise (· ≤ ·)→(Sh.put x l).Pairwise (· ≤ ·)
 |[],_=>by simp[Sh.put]
 |y::l,h=>by
  unfold Sh.put
  rw[List.pairwise_cons] at h
  split
  ·rename_i hxy
   rw[List.pairwise_cons,List.pairwise_cons]
   refine⟨fun z hz=> ?_,h⟩
   rcases List.mem_cons.1 hz with rfl|hz
   ·exact hxy
   ·exact Int.le_trans hxy (h.1 z hz)
  ·rename_i hxy
   rw[List.pairwise_cons]
   refine⟨fun z hz=> ?_,Sh.Kf x l h.2⟩
   rcases List.mem_cons.1 ((Sh.Ke x l).mem_iff.1 hz) with rfl|hz
   ·omega
   ·exact h.1 z hz
theorem Sh.y8:∀l:List Int,(Sh.sK l).Pairwise (· ≤ ·)
 |[]=>.nil
 |x::l=>Sh.Kf x _ (Sh.y8 l)
theorem Sh.Ce:∀{a b:List Int},a.Perm b→a.Pairwise (· ≤ ·)→b.Pairwise (· ≤ ·)→a=b
 |[],b,h,_,_=>(List.nil_perm.1 h).symm
 |x::a,[],h,_,_=>absurd h.symm (by simp)
 |x::a,y::b,h,ha,hb=>by
  have ha':=List.pairwise_cons.1 ha
  have hb':=List.pairwise_cons.1 hb
  have hxy:x=y:=by
   have h1:y≤x:=by
    rcases List.mem_cons.1 (h.mem_iff.1 (List.mem_cons_self ..)) with e|e
    ·omega
    ·exact hb'.1 x e
   have h2:x≤y:=by
    rcases List.mem_cons.1 (h.mem_iff.2 (List.mem_cons_self ..)) with e|e
    ·omega
    ·exact ha'.1 y e
   omega
  subst hxy
  rw[Sh.Ce (List.perm_cons x|>.1 h) ha'.2 hb'.2]
theorem Sh.WB(l:List Int):Sh.sK l=l.mergeSort fun x y=>decide (x≤y):=by
 have h:=List.pairwise_mergeSort (le:=fun x y:Int=>decide (x≤y)) (fun a b c h1 h2=>by simp at h1 h2 ⊢;omega) (fun a b=>by simp;omega) l
 exact Sh.Ce ((Sh.rP l).trans (List.mergeSort_perm l _).symm) (Sh.y8 l) (h.imp fun{a b} hab=>by simpa using hab)
def Sh.sort(l:List Int):Option (List Int):=if l.length<4611686018427387904 then some (Sh.sK l) else none
theorem Sh.Mr{l L:List Int}(h:Sh.sort l=some L):l.length<4611686018427387904∧L=l.mergeSort fun x y=>decide (x≤y):=by
 unfold Sh.sort at h
 split at h
 ·cases h;exact⟨by assumption,Sh.WB l⟩
 ·cases h
theorem Sh.X0{l L:List Int}(h:Sh.sort l=some L):L.length=l.length:=by rw[(Sh.Mr h).2];simp
section
variable {P:Program} {W0:dK} {C:Ctx} {fr:Fr} {a:Act} {H:bg} {o:Oper} {N:Nat}

theorem Kv(hI:Inv W0 C){id:Nat}(hid:C.H.get id=some []):Ext C {C with H:=C.H.set id []}∧Inv W0 {C with H:=C.H.set id []}:=by
 have hg:∀k e,(C.H.set id []).get k=some e→C.H.get k=some e:=fun k e h=>by
  rw[bg.Ef] at h
  split at h
  ·rename_i hk;subst hk;cases h;exact hid
  ·exact h
 have ho':∀b,Ctx.own {C with H:=C.H.set id []} b→C.own b:=by
  rintro b (⟨k,e,h1,h2,h3⟩|h)
  ·exact .inl ⟨k,e,hg k e h1,h2,h3⟩
  ·exact .inr h
 have hE:Ext C {C with H:=C.H.set id []}:=⟨.refl _ _,fun _ _ _=>rfl,fun b _ h=>ho' b h,Nat.le_refl _,fun k e _ h=>⟨⟨e,hg k e h⟩,rfl⟩,rfl,rfl,rfl⟩
 exact⟨hE,{
  fresh:=fun k e h=>hI.fresh k e (hg k e h)
  nil:=fun k e h=>hI.nil k e (hg k e h)
  obj:=fun k e h hn=>(hI.obj k e (hg k e h) hn).ext hE rfl
  sep:=fun p q ep eq hp hq=>hI.sep p q ep eq (hg _ _ hp) (hg _ _ hq)
  dW:=fun k e h=>hI.dW k e (hg k e h)
  tB:=fun k s' h=>hI.tB k s' (by rw[←bg.X2 C.H id [] [] hid k];exact h)
  fU:=hI.fU
  gC:=hI.gC
  size:=hI.size
  lK:=fun b h=>⟨(hI.lK b h).1,fun hh=>(hI.lK b h).2 (ho' b hh)⟩
  gl:=hI.gl
  kq:=hI.kq
  D_:=hI.D_
  ET:=hI.ET
  gT:=hI.gT
  uh:=hI.uh
  iU:=hI.iU
  gh:=W0.st C _ hE.mem hI.iU hI.gh}⟩

theorem Tv(hI:Inv W0 C){id:Nat}{l:List Int}(hid:C.H.get id=some (l.map J))(hn:(C.pl id).nil=false)(hs:(C.pl id).sz=1):
  Sort.Holds (Value.int .i64) C.w (C.pl id).fW 0 l.toArray:=by
 intro j hj
 have hj':j<l.length:=by simpa using hj
 obtain⟨arr,el,harr,_⟩:=(hI.obj id _ hid hn).rows (by rw[hs];simp)
 obtain⟨v,h1,h2⟩:=A_ hI hid hn (i:=j) (j:=0) (e:=J l[j]) (x:=J l[j]) (by simp[hj']) rfl
 refine⟨?_,by simp[World.frozen?,harr]⟩
 have hv:v=.int .i64 l[j]:=fc rfl h2
 rw[hs] at h1
 have h3:=h1.1
 rw[Nat.mul_one,Nat.add_zero] at h3
 rw[Nat.zero_add,h3,hv]
 simp[hj']

theorem Xn(hI:Inv W0 C){id:Nat}{l L:List Int}(hid:C.H.get id=some (l.map J))(hn:(C.pl id).nil=false)(hs:(C.pl id).sz=1)(hl:L.length=l.length)(n:Nat)(os:Array Obj):
  ∃C',C'.w=Sort.grow (Sort.putRow (Value.int .i64) (Sort.ahead C.w n) (C.pl id).fW 0 L.toArray) os∧Ext C C'∧Inv W0 C'∧C'.H=C.H.set id (L.map J)∧C'.pl=C.pl:=by
 have hO:=hI.obj id _ hid hn
 obtain⟨arr,el,harr,hcap⟩:=hO.rows (by rw[hs];simp)
 have hlen:l.length≤arr.size:=by
  have h1:=hO.n;have h2:=hO.cap
  rw[hs] at hcap;simp at h1;omega
 have hone:∀v∈arr,v.oneCell'=true:=fun v hv=>by
  obtain⟨k,hk⟩:=Array.getElem?_of_mem hv
  exact hO.one k v (by rw[lG harr];exact hk)
 obtain⟨hE,hI'⟩:=zg hI hid hn harr (Sort.putCells (Value.int .i64) 0 L.toArray arr) (by simp[Sort.putCells]) (L.map J) (by simp[hl]) (fun v hv=>by
  obtain⟨k,hk⟩:=Array.getElem?_of_mem hv
  simp only[Sort.putCells,Array.getElem?_mapIdx,Option.map_eq_some_iff] at hk
  obtain⟨u,hu,rfl⟩:=hk
  split
  ·rfl
  ·exact hone u (Array.mem_of_getElem? hu)) (fun i e h=>by
   simp only[List.getElem?_map,Option.map_eq_some_iff] at h
   obtain⟨z,_,rfl⟩:=h
   rw[hs];rfl) (fun i j e x v h1 h2 h3=>by
   simp only[List.getElem?_map,Option.map_eq_some_iff] at h1
   obtain⟨z,hz,rfl⟩:=h1
   have hj:j=0∧x=J z:=by
    cases j with
    |zero=>simp[AV.flat] at h2;exact⟨rfl,h2.symm⟩
    |succ j=>simp[AV.flat] at h2
   obtain⟨rfl,rfl⟩:=hj
   rw[hs,Nat.mul_one,Nat.add_zero] at h3
   simp only[Sort.putCells,Array.getElem?_mapIdx,Option.map_eq_some_iff] at h3
   obtain⟨u,hu,rfl⟩:=h3
   have hi:i<L.length:=(List.getElem?_eq_some_iff.1 hz).1
   have e2:L.toArray[i - 0]! =z:=by
    have:L[i]=z:=by have:=List.getElem?_eq_getElem hi;rw[hz] at this;exact(Option.some.inj this).symm
    simp[hi,this]
   rw[if_pos ⟨Nat.zero_le _,by simpa using hi⟩,e2]
   exact .imm _ rfl)
 have hw:C.w.setRow (C.pl id).fW (Sort.putCells (Value.int .i64) 0 L.toArray arr)=Sort.putRow (Value.int .i64) C.w (C.pl id).fW 0 L.toArray:=by
  unfold Sort.putRow Sort.mapBlock World.setRow
  congr 1
  apply Array.ext_getElem?
  intro k
  simp only[Array.getElem?_modify]
  split
  ·rename_i hk;subst hk;rw[harr];rfl
  ·rfl
 rw[hw] at hE hI'
 have hB:Below (Sort.putRow (Value.int .i64) C.w (C.pl id).fW 0 L.toArray).heap.size (Sort.putRow (Value.int .i64) C.w (C.pl id).fW 0 L.toArray) (Sort.grow (Sort.putRow (Value.int .i64) (Sort.ahead C.w n) (C.pl id).fW 0 L.toArray) os):=
  ⟨rfl,rfl,rfl,by rw[Sort.size_grow];exact Nat.le_add_right _ _,fun k hk=>Sort.heap_grow_old (Sort.putRow (Value.int .i64) (Sort.ahead C.w n) (C.pl id).fW 0 L.toArray) os hk⟩
 refine⟨(C.write id (Sort.putRow (Value.int .i64) C.w (C.pl id).fW 0 L.toArray) (L.map J)).zk (Sort.grow (Sort.putRow (Value.int .i64) (Sort.ahead C.w n) (C.pl id).fW 0 L.toArray) os),rfl,hE.trans (gY hB),hI'.zk hB,rfl,rfl⟩

theorem LX{id n:Nat}{x:Operand}{es:List AV}(hI:Inv W0 C)(hx:bz fr x=some (.view id 0 n))(hop:yW C fr a x)(hid:C.H.get id=some es)(hn:n=es.length)(hs:C.H.sz id=some 1):
  (es=[]∧∃p cap,a.eval x=.slice p 0 cap)∨((C.pl id).nil=false∧(C.pl id).sz=1∧∃cap,es.length≤cap∧cap≤(C.pl id).cap∧a.eval x=.slice (some ⟨(C.pl id).fW,0,none⟩) es.length cap):=by
 have hr:=bN hop hx
 subst hn
 generalize hux:a.eval x=ux at hr
 match hr with
 |.view _ _ _ _ h1 h2 h3=>
 have h6:=h2 es hid
 unfold tM at h6
 split at h6
 ·rename_i hnil
  obtain⟨_,hl,ad,rfl⟩:=h6
  have:es=[]:=List.eq_nil_of_length_eq_zero hl
  subst this
  exact .inl ⟨rfl,_,_,rfl⟩
 ·rename_i hnil
  have hnil':(C.pl id).nil=false:=by simpa using hnil
  obtain⟨A,cap,rfl,g1,g2,g3,g4⟩:=h6
  have hsz:=hI.tB id 1 hs hnil'
  rcases g4 with g4|rfl
  ·subst g4
   have:es=[]:=List.eq_nil_of_length_eq_zero (by omega)
   subst this
   exact .inl ⟨rfl,_,_,rfl⟩
  ·refine .inr ⟨hnil',hsz,cap,g3,by omega, ?_⟩
   simp

theorem UL{f:FuncId}{tys:Array TypeId}{xo:Operand}{id n:Nat}(hf:UH P f)(l L:List Int)(hL:Sh.sort l=some L)(hn:n=(l.map J).length)(ho:o.op=.call {callee:=.value (.func f),args:= #[xo],argTypes:=tys})(hx:bz fr xo=some (.view id 0 n))(hid:H.get id=some (l.map J))(hs:H.sz id=some 1):
  fV P W0 o fr H (.tuple []) (H.set id (L.map J)):=by
 intro C a hI hH hop K Q hK
 subst hH
 obtain⟨hlt,rfl⟩:=Sh.Mr hL
 unfold Oper.wp
 rw[wA ho hf.call,Oper.upon_enter]
 have hea:(#[xo].map a.eval)= #[a.eval xo]:=by simp
 rw[hea]
 rcases LX hI hx (hop xo (by simp[ho,Op.operands,Call.operands])) hid hn hs with⟨h0,p,cap,he⟩|⟨h1,h2,cap,_,_,he⟩
 ·have hl0:l=[]:=List.map_eq_nil_iff.1 h0
  subst hl0
  rw[he]
  refine(hf.no p cap C.w).mono ?_
  rintro e w' ⟨rfl,rfl⟩
  have hset:=Kv hI hid
  exact hK _ {C with H:=C.H.set id []} hset.1 hset.2 (by simp) (.tuple [] #[] rfl (fun k x h=>by simp at h))
 ·rw[he]
  have hh:=Tv hI hid h1 h2
  have hc:=hf.is (C.pl id).fW 0 cap l C.w hh (hI.lt hid h1) hlt
  rw[List.length_map]
  refine hc.mono ?_
  rintro e w' ⟨rfl,n,os,rfl⟩
  obtain⟨C',q1,q2,q3,q4,_⟩:=Xn hI hid h1 h2 (L:=l.mergeSort fun x y=>decide (x≤y)) (by simp) n os
  rw[←q1]
  exact hK _ C' q2 q3 q4 (.tuple [] #[] rfl (fun k x h=>by simp at h))

end
end Go.Av
end

section
/- Rows of numbers are sorted by their first ones, where they lie: by what is known of the library's function. -/
namespace Go.Av
open Go.RowKit (Below)

@[simp] theorem agf(p q:Prop)(R:AV→Prop):(∀e:AV,p∧bl false=e∨q∧bl true=e→R e)↔(p→R (bl false))∧(q→R (bl true)):=⟨fun h=>⟨fun hp=>h _ (.inl ⟨hp,rfl⟩),fun hq=>h _ (.inr ⟨hq,rfl⟩)⟩,fun⟨h1,h2⟩ e h=>by rcases h with⟨hp,rfl⟩|⟨hq,rfl⟩;exact h1 hp;exact h2 hq⟩
def Sh.first(l:List Int):Int:=l.headD 0
section
variable {P:Program} {W0:dK} {C:Ctx} {fr:Fr} {a:Act} {H:bg} {o:Oper} {N:Nat}

theorem Xp(hI:Inv W0 C){id m:Nat}{es es':List AV}(hid:C.H.get id=some es)(hn:(C.pl id).nil=false)(hs:(C.pl id).sz=1)(v:Fin (m+1)→Value)(d:List (Fin (m+1)))(hd:d.length=es.length)(hl:es'.length=es.length)
  (h1:∀i,(v i).oneCell'=true)(hf:∀e∈es',e.flat=[e])(hv:∀(i:Nat) (j:Fin (m+1)) (e:AV),d[i]? =some j→es'[i]? =some e→dR C e (v j))(n:Nat)(os:Array Obj):
  ∃C',C'.w=Sort.grow (Sort.putRow v (Sort.ahead C.w n) (C.pl id).fW 0 d.toArray) os∧Ext C C'∧Inv W0 C'∧C'.H=C.H.set id es'∧C'.pl=C.pl:=by
 have hO:=hI.obj id _ hid hn
 obtain⟨arr,el,harr,hcap⟩:=hO.rows (by rw[hs];simp)
 have hlen:es.length≤arr.size:=by
  have h1:=hO.n;have h2:=hO.cap
  rw[hs] at hcap;omega
 have hone:∀u∈arr,u.oneCell'=true:=fun u hu=>by
  obtain⟨k,hk⟩:=Array.getElem?_of_mem hu
  exact hO.one k u (by rw[lG harr];exact hk)
 obtain⟨hE,hI'⟩:=zg hI hid hn harr (Sort.putCells v 0 d.toArray arr) (by simp[Sort.putCells]) es' hl (fun u hu=>by
  obtain⟨k,hk⟩:=Array.getElem?_of_mem hu
  simp only[Sort.putCells,Array.getElem?_mapIdx,Option.map_eq_some_iff] at hk
  obtain⟨x,hx,rfl⟩:=hk
  split
  ·exact h1 _
  ·exact hone x (Array.mem_of_getElem? hx)) (fun i e h=>by
   rw[hs,hf e (List.mem_of_getElem? h)];rfl) (fun i j e x u g1 g2 g3=>by
   rw[hf e (List.mem_of_getElem? g1)] at g2
   have hj:j=0∧x=e:=by
    cases j with
    |zero=>simp at g2;exact⟨rfl,g2.symm⟩
    |succ j=>simp at g2
   obtain⟨rfl,rfl⟩:=hj
   rw[hs,Nat.mul_one] at g3
   replace g3:(Sort.putCells v 0 d.toArray arr)[i]? =some u:=g3
   simp only[Sort.putCells,Array.getElem?_mapIdx,Option.map_eq_some_iff] at g3
   obtain⟨y,hy,rfl⟩:=g3
   have hi:i<d.length:=by rw[hd,←hl];exact(List.getElem?_eq_some_iff.1 g1).1
   have e2:d.toArray[i - 0]! =d[i]:=by simp[hi]
   rw[if_pos ⟨Nat.zero_le _,by simpa using hi⟩,e2]
   exact hv i d[i] x (List.getElem?_eq_getElem hi) g1)
 have hw:C.w.setRow (C.pl id).fW (Sort.putCells v 0 d.toArray arr)=Sort.putRow v C.w (C.pl id).fW 0 d.toArray:=by
  unfold Sort.putRow Sort.mapBlock World.setRow
  congr 1
  apply Array.ext_getElem?
  intro k
  simp only[Array.getElem?_modify]
  split
  ·rename_i hk;subst hk;rw[harr];rfl
  ·rfl
 rw[hw] at hE hI'
 have hB:Below (Sort.putRow v C.w (C.pl id).fW 0 d.toArray).heap.size (Sort.putRow v C.w (C.pl id).fW 0 d.toArray) (Sort.grow (Sort.putRow v (Sort.ahead C.w n) (C.pl id).fW 0 d.toArray) os):=
  ⟨rfl,rfl,rfl,by rw[Sort.size_grow];exact Nat.le_add_right _ _,fun k hk=>Sort.heap_grow_old (Sort.putRow v (Sort.ahead C.w n) (C.pl id).fW 0 d.toArray) os hk⟩
 refine⟨(C.write id (Sort.putRow v C.w (C.pl id).fW 0 d.toArray) es').zk (Sort.grow (Sort.putRow v (Sort.ahead C.w n) (C.pl id).fW 0 d.toArray) os),rfl,hE.trans (gY hB),hI'.zk hB,rfl,rfl⟩

end
end Go.Av
end

section
/- Numbers are sorted by where they stand in a row, where they lie: by what is known of the library's function. -/
namespace Go.Av
open Go.RowKit (Below)

structure Hg (P:Program) (f g:FuncId):Prop where
 call:mw P f
 no:∀(p:Option Addr) (cap:Nat) (cb:Array Value) (w:World),Calls P f #[.slice p 0 cap,.func (.func g) #[] cb] w fun e w'=>e=.returned (.tuple #[])∧w'=w
 is:∀(fW off cap m:Nat) (x:Fin (m+1)→Int) (os:List Int) (bx ox b2 o2 c2:Nat) (w:World),(∀i j,Lib.idxOf os (x i)=Lib.idxOf os (x j)→i=j)→os≠[]→os.length≤9223372036854775807→
  bx≠fW→bx<w.heap.size→w.cell? ⟨bx,ox,none⟩=some (.slice (some ⟨b2,o2,none⟩) os.length c2)→b2≠fW→b2<w.heap.size→(∀j,j<os.length→w.cell? ⟨b2,o2+j,none⟩=some (.int .i64 (os.getD j 0)))→
  Sort.Holds (fun i=>.int .i64 (x i)) w fW off (List.finRange (m+1)).toArray→fW<w.heap.size→m+1<4611686018427387904→
  Calls P f #[.slice (some ⟨fW,off,none⟩) (m+1) cap,.func (.func g) #[] #[.pointer (some ⟨bx,ox,none⟩)]] w fun e w'=>
   e=.returned (.tuple #[])∧∃n os',∃d:List (Fin (m+1)),d.Perm (List.finRange (m+1))∧d.Pairwise (fun a b=>Lib.idxOf os (x a)≤Lib.idxOf os (x b))∧w'=Sort.grow (Sort.putRow (fun i=>.int .i64 (x i)) (Sort.ahead w n) fW off d.toArray) os'

def Sh.ix(os:List Int)(x:Int):Int:=Lib.idxOf os x
def Sh.Rp(os:List Int)(x:Int):List Int→List Int
 |[]=>[x]
 |y::l=>if Sh.ix os x≤Sh.ix os y then x::y::l else y::Sh.Rp os x l
def Sh.AI(os:List Int):List Int→List Int
 |[]=>[]
 |x::l=>Sh.Rp os x (Sh.AI os l)
def Sh.Cd(os l:List Int):Option (List Int):=if l.length<4611686018427387904∧os≠[]∧os.length≤9223372036854775807∧(l.map (Sh.ix os)).Nodup then some (Sh.AI os l) else none
theorem Sh.HF(os:List Int)(x:Int):∀l:List Int,(Sh.Rp os x l).Perm (x::l)
 |[]=>.refl _
 |y::l=>by
  unfold Sh.Rp
  split
  ·exact .refl _
  ·exact((Sh.HF os x l).cons y).trans (.swap x y l)
theorem Sh.xD(os:List Int):∀l:List Int,(Sh.AI os l).Perm l
 |[]=>.refl _
 |x::l=>(Sh.HF os x _).trans ((Sh.xD os l).cons x)
theorem Sh.Ih(os:List Int)(x:Int):∀l:List Int,l.Pairwise (fun a b=>Sh.ix os a≤Sh.ix os b)→(Sh.Rp os x l).Pairwise (fun a b=>Sh.ix os a≤Sh.ix os b)
 |[],_=>by simp[Sh.Rp]
 |y::l,h=>by
  unfold Sh.Rp
  rw[List.pairwise_cons] at h
  split
  ·rename_i hxy
   rw[List.pairwise_cons,List.pairwise_cons]
   refine⟨fun z hz=> ?_,h⟩
   rcases List.mem_cons.1 hz with rfl|hz
   ·exact hxy
   ·exact Int.le_trans hxy (h.1 z hz)
  ·rename_i hxy
   rw[List.pairwise_cons]
   refine⟨fun z hz=> ?_,Sh.Ih os x l h.2⟩
   rcases List.mem_cons.1 ((Sh.HF os x l).mem_iff.1 hz) with rfl|hz
   ·omega
   ·exact h.1 z hz
theorem Sh.Ci(os:List Int):∀l:List Int,(Sh.AI os l).Pairwise (fun a b=>Sh.ix os a≤Sh.ix os b)
 |[]=>.nil
 |x::l=>Sh.Ih os x _ (Sh.Ci os l)
theorem Sh.HT(os:List Int):∀{a b:List Int},a.Perm b→(a.map (Sh.ix os)).Nodup→a.Pairwise (fun x y=>Sh.ix os x≤Sh.ix os y)→b.Pairwise (fun x y=>Sh.ix os x≤Sh.ix os y)→a=b
 |[],b,h,_,_,_=>(List.nil_perm.1 h).symm
 |x::a,[],h,_,_,_=>absurd h.symm (by simp)
 |x::a,y::b,h,hn,ha,hb=>by
  have ha':=List.pairwise_cons.1 ha
  have hb':=List.pairwise_cons.1 hb
  simp only[List.map_cons,List.nodup_cons] at hn
  have hxy:x=y:=by
   rcases List.mem_cons.1 (h.mem_iff.1 (List.mem_cons_self ..)) with e|e
   ·exact e
   ·have h1:=hb'.1 x e
    rcases List.mem_cons.1 (h.mem_iff.2 (List.mem_cons_self (a:=y) (l:=b))) with e2|e2
    ·exact e2.symm
    ·have h2:=ha'.1 y e2
     have:Sh.ix os x=Sh.ix os y:=by omega
     exact absurd (List.mem_map.2 ⟨y,e2,this.symm⟩) hn.1
  subst hxy
  rw[Sh.HT os (List.perm_cons x|>.1 h) hn.2 ha'.2 hb'.2]
theorem Sh.GZ{os l L:List Int}(h:Sh.Cd os l=some L):(l.length<4611686018427387904∧os≠[]∧os.length≤9223372036854775807∧(l.map (Sh.ix os)).Nodup)∧L=Sh.AI os l:=by
 unfold Sh.Cd at h
 split at h
 ·cases h;exact⟨by assumption,rfl⟩
 ·cases h
theorem Sh.PW{os l L:List Int}(h:Sh.Cd os l=some L):L.length=l.length:=by rw[(Sh.GZ h).2];exact(Sh.xD os l).length_eq

section
variable {P:Program} {W0:dK} {C:Ctx} {fr:Fr} {a:Act} {H:bg} {o:Oper} {N:Nat}

theorem MF{f g:FuncId}{tys:Array TypeId}{xo yo:Operand}{id n:Nat}(hf:Hg P f g)(os l L:List Int)(hL:Sh.Cd os l=some L)(hn:n=(l.map J).length)
  (ho:o.op=.call {callee:=.value (.func f),args:= #[xo,yo],argTypes:=tys})(hx:bz fr xo=some (.view id 0 n))(hy:bz fr yo=some (.bS (.func g) [.pp [.sl (os.map J)] 0]))(hid:H.get id=some (l.map J))(hs:H.sz id=some 1):
  fV P W0 o fr H (.tuple []) (H.set id (L.map J)):=by
 intro C a hI hH hop K Q hK
 subst hH
 obtain⟨⟨hlt,hne,hbig,hnd⟩,rfl⟩:=Sh.GZ hL
 unfold Oper.wp
 rw[wA ho hf.call,Oper.upon_enter]
 have hea:(#[xo,yo].map a.eval)= #[a.eval xo,a.eval yo]:=by simp
 have hfy:∃bx ox b2 o2 c2,a.eval yo=.func (.func g) #[] #[.pointer (some ⟨bx,ox,none⟩)]∧bx<C.w.heap.size∧¬C.bad bx∧C.w.cell? ⟨bx,ox,none⟩=some (.slice (some ⟨b2,o2,none⟩) os.length c2)∧b2<C.w.heap.size∧¬C.bad b2∧∀j,j<os.length→C.w.cell? ⟨b2,o2+j,none⟩=some (.int .i64 (os.getD j 0)):=by
  have h:=bN (hop yo (by simp[ho,Op.operands,Call.operands])) hy
  generalize a.eval yo=u at h
  match h with
  |.bS _ _ vs h1 h2=>
   have hp:=h2 0 _ rfl
   have hvs:vs= #[vs.getD 0 undef]:=by
    apply Array.ext
    ·simpa using h1
    ·intro k hk uR
     have:k=0:=by simp at uR;omega
     subst this
     simp[Array.getD,hk]
   generalize vs.getD 0 undef=pv at hp hvs
   match hp with
   |.pp _ _ b off c hb hbad Si Tm=>
    have c1:=Si 0 _ rfl
    have c2:=Tm 0 _ rfl
    generalize hcv:c 0=cv at c1 c2
    have fin:∀(b2 o2 sz cap:Nat) (cc:Nat→Nat→Value),cv=.slice (some ⟨b2,o2,none⟩) (os.map J).length cap→b2<C.w.heap.size→¬C.bad b2→(∀(i:Nat) (e:AV),(os.map J)[i]? =some e→e.flat.length=sz)→
      (∀(i j:Nat) (e x:AV),(os.map J)[i]? =some e→e.flat[j]? =some x→Holds C.w b2 (o2+i*sz+j) (cc i j))→(∀(i j:Nat) (e x:AV),(os.map J)[i]? =some e→e.flat[j]? =some x→dR C x (cc i j))→∃bx ox b2 o2 c2,Value.func (.func g) #[] vs=.func (.func g) #[] #[.pointer (some ⟨bx,ox,none⟩)]∧bx<C.w.heap.size∧¬C.bad bx∧C.w.cell? ⟨bx,ox,none⟩=some (.slice (some ⟨b2,o2,none⟩) os.length c2)∧b2<C.w.heap.size∧¬C.bad b2∧∀j,j<os.length→C.w.cell? ⟨b2,o2+j,none⟩=some (.int .i64 (os.getD j 0)):=by
     intro b2 o2 sz cap cc e1 e2 e3 e4 e5 e6
     refine⟨b,off+0,b2,o2,cap,by rw[hvs],hb,hbad,by rw[c1.1,e1,List.length_map],e2,e3,fun j hj=> ?_⟩
     have hsz:sz=1:=by
      have:(os.map J)[0]? =some (J (os[0]'(by omega))):=by simp[List.getElem?_eq_getElem (show 0<os.length by omega)]
      have:=e4 0 _ this
      simpa [AV.flat] using this.symm
     subst hsz
     have YA:(os.map J)[j]? =some (J os[j]):=by simp[hj]
     have h3:=e5 j 0 _ _ YA rfl
     have h4:=e6 j 0 _ _ YA rfl
     rw[Nat.mul_one,Nat.add_zero] at h3
     rw[h3.1,fc (v:=.int .i64 os[j]) rfl h4]
     simp[List.getD,hj]
    cases os with
    |nil=>exact absurd rfl hne
    |cons z zs=>
     match c2 with
     |.sl _ b2 o2 sz cap cc e2 e3 _ e4 e5 e6=>exact fin b2 o2 sz cap cc rfl e2 e3 e4 e5 e6
 obtain⟨bx,ox,b2,o2,c2,hfy,k1,k2,k3,k4,k5,k6⟩:=hfy
 rw[hea,hfy]
 rcases LX hI hx (hop xo (by simp[ho,Op.operands,Call.operands])) hid hn hs with⟨h0,p,cap,he⟩|⟨h1,h2,cap,_,_,he⟩
 ·have hl0:l=[]:=List.map_eq_nil_iff.1 h0
  subst hl0
  rw[he]
  refine(hf.no p cap _ C.w).mono ?_
  rintro e w' ⟨rfl,rfl⟩
  have hset:=Kv hI hid
  exact hK _ {C with H:=C.H.set id []} hset.1 hset.2 (by simp[Sh.AI]) (.tuple [] #[] rfl (fun k x h=>by simp at h))
 ·by_cases hl0:l=[]
  ·subst hl0
   rw[he]
   refine(hf.no _ cap _ C.w).mono ?_
   rintro e w' ⟨rfl,rfl⟩
   have hset:=Kv hI hid
   exact hK _ {C with H:=C.H.set id []} hset.1 hset.2 (by simp[Sh.AI]) (.tuple [] #[] rfl (fun k x h=>by simp at h))
  obtain⟨m,hm⟩:∃m,l.length=m+1:=⟨l.length - 1,by have:=List.length_pos_iff.2 hl0;omega⟩
  let x:Fin (m+1)→Int:=fun i=>l[i.1]'(by omega)
  have hcell:∀i:Fin (m+1),Holds C.w (C.pl id).fW i.1 (.int .i64 (x i)):=fun i=>by
   have hi:i.1<l.length:=by omega
   obtain⟨u,g1,g2⟩:=A_ hI hid h1 (i:=i.1) (j:=0) (e:=J l[i.1]) (x:=J l[i.1]) (by simp[hi]) rfl
   rw[h2,Nat.mul_one,Nat.add_zero] at g1
   rw[fc (v:=.int .i64 l[i.1]) rfl g2] at g1
   exact g1
  have hk:∀i j,Lib.idxOf os (x i)=Lib.idxOf os (x j)→i=j:=fun i j h=>by
   have hp:=List.pairwise_iff_getElem.1 hnd
   rcases Nat.lt_trichotomy i.1 j.1 with h3|h3|h3
   ·exact(hp i.1 j.1 (by simp;omega) (by simp;omega) h3 (by simp only[List.getElem_map];exact h)).elim
   ·exact Fin.ext h3
   ·exact(hp j.1 i.1 (by simp;omega) (by simp;omega) h3 (by simp only[List.getElem_map];exact h.symm)).elim
  obtain⟨arr,el,harr,_⟩:=(hI.obj id _ hid h1).rows (by rw[h2];simp)
  have hown:∀b,¬C.bad b→b≠(C.pl id).fW:=fun b hb e=>hb (.inl (.inl ⟨id,_,hid,h1,e.symm⟩))
  have hc:=hf.is (C.pl id).fW 0 cap m x os bx ox b2 o2 c2 C.w hk hne hbig (hown bx k2) k1 k3 (hown b2 k5) k4 k6 (fun j hj=>by
   have hj':j<m+1:=by simpa using hj
   refine⟨?_,by simp[World.frozen?,harr]⟩
   have:=(hcell ⟨j,hj'⟩).1
   rw[Nat.zero_add,this]
   simp[hj']) (hI.lt hid h1) (by omega)
  rw[he,List.length_map,hm]
  refine hc.mono ?_
  rintro e w' ⟨rfl,n',os',d,hp,hsd,rfl⟩
  have hdl:d.length=m+1:=by rw[hp.length_eq];simp
  have hL2:d.map x=Sh.AI os l:=by
   refine Sh.HT os ?_ ?_ ?_ (Sh.Ci os l)
   ·refine(hp.map _).trans (List.Perm.trans (.of_eq ?_) (Sh.xD os l).symm)
    apply List.ext_getElem
    ·simp[hm]
    ·intro i h3 h4;simp[x]
   ·rw[List.map_map]
    refine List.Pairwise.map _ (fun a b h=> ?_) (hp.nodup_iff.2 (List.nodup_finRange _))
    exact fun e=>h (hk _ _ e)
   ·exact List.pairwise_map.2 hsd
  obtain⟨C',q1,q2,q3,q4,_⟩:=Xp hI hid h1 h2 (fun i=>Value.int .i64 (x i)) d (es':=(Sh.AI os l).map J) (by rw[hdl,List.length_map,hm]) (by simp[(Sh.xD os l).length_eq]) (fun i=>rfl) (fun e he=>by
   obtain⟨r,_,rfl⟩:=List.mem_map.1 he;rfl) (fun i j e g1 g2=>by
   rw[←hL2,List.map_map,List.getElem?_map,g1] at g2
   simp only[Option.map_some,Option.some.injEq] at g2
   rw[←g2];exact .imm _ rfl) n' os'
  rw[←q1]
  exact hK _ C' q2 q3 q4 (.tuple [] #[] rfl (fun k x h=>by simp at h))
end
end Go.Av
end

section
/- A call that hands back one new object, whatever the heap is. -/
namespace Go.Av
section
variable {P:Program} {W0:dK} {fr:Fr} {H:bg} {o:Oper}
end
end Go.Av
end

section
/- Calls that panic, and what takes the panic back. -/
namespace Go.Av
open Go.RowKit (Below)

def Fi(ch:List PanicEntry):Prop:=∃t v,ch=[{v:=.iface t v,recovered:=false}]

def YL(P:Program)(W0:dK)(o:Oper)(fr:Fr)(H:bg)(H':bg):Prop:=
 ∀(C:Ctx) (a:Act),Inv W0 C→C.H=H→(∀x∈o.op.operands,yW C fr a x)→
  ∀(K:Act→World→Prop) (Q:Exit→Act→World→Prop),
   (∀ch C',Fi ch→Ext C C'→Inv W0 C'→C'.H=H'→Q (.panic ch) a C'.w)→o.wp P a C.w K Q

structure N4 (P:Program) (B:dK) (f:FuncId) (xs:List AV) (Hin:bg) (Hout:bg):Prop where
 call:mw P f
 runs:∀(C:Ctx) (vals:Array Value),Inv B C→C.H=Hin→C.kq=[]→vals.size=xs.length→(∀(k:Nat) (x:AV),xs[k]? =some x→dR C x (vals.getD k undef))→
  Calls P f vals C.w (fun e w'=>∃ch C',e=.panicked ch∧Fi ch∧C'.w=w'∧Mem C C'∧Inv B C'∧C'.H=Hout∧C'.kq=[])

section
variable {P:Program} {W0:dK} {C:Ctx} {fr:Fr} {a:Act} {H:bg} {o:Oper} {N:Nat} {ops:Array Oper} {Q:Exit→St→Prop}

theorem Jm{x:Operand}{t:TypeId}{ax:AV}(ho:o.op=.panic x)(hx:bz fr x=some (.ifc t ax)):YL P W0 o fr H H:=by
 intro C a hI hH hop K Q hQ
 have hr:=bN (hop x (by simp[ho,Op.operands])) hx
 generalize hu:a.eval x=ux at hr
 cases hr
 rename_i v hv
 unfold Oper.wp
 have:(execOp a.eval o).run P C.w=.halt (.panic (.iface t v)) C.w:=by
  simp only[execOp,ho,hu]
  simp[go_sem,Instr.panic]
 rw[this,Oper.upon_panic]
 exact hQ _ C ⟨_,_,rfl⟩ (.refl C) hI hH

theorem zy{ok:AV→Prop}{f:FuncId}{args:Array Operand}{tys:Array TypeId}{ys xs:List AV}{r r':AV}{Hs Hin Hout H':bg}{g m:List (Nat×Nat)}{nw:List Nat}{p:Nat}(ho:o.op=.call {callee:=.value (.func f),args:=args,argTypes:=tys})(hys:args.toList.mapM (bz fr)=some ys)
  (hf:N4 P (.pinned W0.w p) f xs Hin Hout)(h:Pass ok (cQ 0 ys) (cQ 0 xs) H Hs Hin Hout H' g m nw p r r')(hl:xs.length=ys.length):YL P W0 o fr H H':=by
 intro C a hI hH hop K Q hQ
 unfold Oper.wp
 rw[wA ho hf.call,Oper.upon_enter]
 have Ld:=Dd (Oi ho hop) hys
 have h1:=h.aej hI hH Ld.1 Ld.2
 have h2:Inv (.pinned W0.w p) (C.sub Hs Hin g p):=h1.inv.XM (W0:=W0) rfl rfl (of_decide_eq_true h.ple) rfl trivial
 refine(hf.runs (C.sub Hs Hin g p) _ h2 rfl rfl (by rw[hl];exact Ld.1) (fun k x hx=>za (Bp h1 k x hx))).mono ?_
 rintro e w' ⟨ch,C2,rfl,hch,rfl,hM,F0,Tl,L8⟩
 obtain⟨q1,q2,_⟩:=h.Xb (B1:=.pinned W0.w p) hI hH rfl hM F0 Tl L8
 exact hQ ch (C.back C2 H') hch q1 q2 rfl

theorem NN{l1:List Oper}{rest:List Oper}{fr':Fr}{H' Hp:bg}(h:F6 P W0 ops l1 fr H fr' H')(hN:∀o∈l1,n4 N o=true)(hd:∀c,o.op≠.defer c)(hw:iP ops fr' o=some true)(hp:YL P W0 o fr' H' Hp):
  ∀(C:Ctx) (a:Act) (Q:Exit→Act→World→Prop),Rel W0 N fr H C a→
  (∀ch C' a',Fi ch→Mem C C'→Rel W0 N fr' Hp C' a'→Q (.panic ch) a' C'.w)→wpListIn (Fw W0.ro) 0 P ops Q (l1++o::rest) a C.w:=by
 induction h with
 |nil fr H=>
  intro C a Q hr hQ
  show wpListIn (Fw W0.ro) 0 P ops Q (o::rest) a C.w
  unfold wpListIn
  rw[nZ hr.rep hw]
  simp only[if_true]
  refine vk hd (hp C a hr.inv hr.heap (fun x _ t _ av hav=>hr.rep t av hav) _ _ (fun ch C' hch hE hi hH=> ?_))
  exact hQ ch C' a hch hE.mem ⟨hH,hi,hr.size,by rw[hE.kq];exact hr.defers,fun t x hx=>(hr.rep t x hx).ext hE⟩
 |skip Sm _ ih=>
  intro C a Q hr hQ
  rw[List.cons_append]
  unfold wpListIn
  rw[nZ hr.rep Sm]
  simp only[Bool.false_eq_true,if_false]
  exact⟨fun _ _=>trivial,ih (fun o ho=>hN o (List.mem_cons_of_mem _ ho)) hw hp C _ Q (hr.put (.refl C) hr.inv hr.heap GP (n4.lt (hN _ (List.mem_cons_self ..)))) hQ⟩
 |op Sm hop _ ih=>
  intro C a Q hr hQ
  rw[List.cons_append]
  unfold wpListIn
  rw[nZ hr.rep Sm]
  simp only[if_true]
  refine vk (n4.WV (hN _ (List.mem_cons_self ..))) (hop C a hr.inv hr.heap (fun x _ t _ av hav=>hr.rep t av hav) _ _ (fun v C' he hi hH hv=> ?_))
  exact ih (fun o ho=>hN o (List.mem_cons_of_mem _ ho)) hw hp C' _ Q (hr.put he hi hH hv (n4.lt (hN _ (List.mem_cons_self ..)))) (fun ch C2 a2 hch h2=>hQ ch C2 a2 hch (he.mem.trans h2))
 |opI Sm hop _ ih=>
  intro C a Q hr hQ
  rw[List.cons_append]
  unfold wpListIn
  rw[nZ hr.rep Sm]
  simp only[if_true]
  refine hop C a hr.inv hr.heap (fun x _ t _ av hav=>hr.rep t av hav) _ _ (fun v C' he hi hH hv=> ?_)
  exact ih (fun o ho=>hN o (List.mem_cons_of_mem _ ho)) hw hp C' _ Q (hr.put he hi hH hv (n4.lt (hN _ (List.mem_cons_self ..)))) (fun ch C2 a2 hch h2=>hQ ch C2 a2 hch (he.mem.trans h2))
 |drop hk _ ih=>
  intro C a Q hr hQ
  exact ih hN hw hp C a Q ⟨hr.heap,hr.inv,hr.size,hr.defers,fun t x hx=>hr.rep t x (hk t x hx)⟩ hQ

theorem zA{id:Nat}{frl:List (Nat×AV)}(k:Nat){l:List Oper}{Hp:bg}(hk:l[k]? =some o)(hN:(l.take k).all (n4 N)=true)(hd:(match o.op with|.defer _=>false|_=>true)=true)
  (h:AR P W0 l.toArray (l.take k) frl H (fun f g=>iP l.toArray (lk f) o=some true∧YL P W0 o (lk f) g Hp∧∀ch,Fi ch→Q (.panic ch) ⟨f,Hp⟩)):sN P W0 N (.region id l.toArray false) ⟨frl,H⟩ Q:=fun C a hr=>by
 obtain⟨fr',H',h1,h2,h3,hQ⟩:=h
 have e:l=l.take k++o::l.drop (k+1):=by
  obtain⟨hlt,he⟩:=List.getElem?_eq_some_iff.1 hk
  rw[←he,List.getElem_cons_drop,List.take_append_drop]
 refine wpIn_region_lit ?_
 have:=NN (rest:=l.drop (k+1)) h1 (fun o ho=>List.all_eq_true.1 hN o ho) (fun c hc=>by rw[hc] at hd;cases hd) h2 h3 C a (UG W0 N C Q) hr (fun ch C' a' hch hm hrel=>⟨⟨fr',Hp⟩,C',rfl,hm,hrel,hQ ch hch⟩)
 rw[←e] at this
 exact this

theorem BS{B:dK}{f:FuncId}{fn:Func}{c:Code}{xs:List AV}{Hin Hr:bg}(hro:B.ro=none)(hf:P.funcs[f]? =some fn)(hb:fn.body=some c)(hname:(fn.name== "runtime.NumGoroutine")=false)(hN:fn.ntmps=N)(hxN:xs.length≤N)
  (h:sN P B N c ⟨cQ 0 xs,Hin⟩ (fun e s=>(∃ch,e=.panic ch∧Fi ch)∧aU B N s ⟨[],Hr⟩))(hdx:B.dx=[]:=by rfl):N4 P B f xs Hin Hr where
 call:=oP hf hname hb
 runs C vals hI hH hd hsz hrep:=by
  refine(callsIn_wide (n:=0)).1 (callsIn_of_wp_marks hf hb trivial ?_)
  have hrel:=HJ (W0:=B) hI hH hd hN hxN hsz hrep hdx
  have key:=h C _ hrel
  rw[hro,Eb] at key
  refine wpIn_mono key fun e a' w' ⟨s,C',g1,g2,g3,⟨ch,g4,g5⟩,g6⟩=> ?_
  subst g1 g4
  obtain⟨C3,q1,q2,q3⟩:=g6 C' a' g3
  show LeavesInM Fence.wide 0 P fn a'.tmps _ a'.defers (.panicking ch) C'.w
  rw[←q1,q3.defers,hdx]
  refine drain (W0:=B) (u:=.panicking ch) (by simp) (ds:=[]) (Q:=fun C2=>Inv B C2∧C2.H=Hr∧Mem C C2) (fun C2 hq L8=> ?_) C3.kq C3 rfl q3.inv q3.heap (fun C2 h1 h2 h3 h4 h5 h6=>⟨h4,h1.trans q3.heap,(g2.trans q2).trans h3⟩)
  exact⟨ch,C2,rfl,g5,rfl,hq.2.2,hq.1,hq.2.1,L8⟩


@[reducible] def dK.off(W:World)(p:Nat)(ds:List Deferred):dK:=⟨W,p,none,fun _=>True,fun _ _ _ _ _=>trivial,ds⟩

theorem Inv.off{W:World}{B:dK}(hI:Inv B C)(hB:B.w=W)(p:Nat)(ds:List Deferred)(hle:p≤C.H.next):Inv (.off W p ds) {C with tK:=p} where
 fresh:=hI.fresh
 nil:=hI.nil
 obj id es h hn:=by
  have hO:=hI.obj id es h hn
  exact⟨hO.n,hO.cap,hO.fW,hO.one,hO.flat,fun i j e x v h1 h2 h3=>(hO.cell i j e x v h1 h2 h3).sub rfl (Nat.le_refl _) (fun id es _ h=>⟨es,h⟩) (fun _ _=>rfl) (fun b h=>h)⟩
 sep:=hI.sep
 dW:=hI.dW
 tB:=hI.tB
 fU:=hI.fU
 gC b h:=by subst hB;exact hI.gC b h
 size:=by subst hB;exact hI.size
 lK b h:=by subst hB;exact hI.lK b h
 gl:=hI.gl
 kq:=hI.kq
 D_:=hI.D_
 ET _ h:=by cases h
 gT:=hI.gT
 uh:=rfl
 iU:=hle
 gh:=trivial

theorem Inv.dx{W:World}{p:Nat}{ds ds':List Deferred}(h:Inv (.off W p ds) C):Inv (.off W p ds') C:=
 ⟨h.fresh,h.nil,h.obj,h.sep,h.dW,h.tB,h.fU,h.gC,h.size,h.lK,h.gl,h.kq,h.D_,h.ET,h.gT,h.uh,h.iU,h.gh⟩
theorem Inv.on{W:World}{p:Nat}{ds:List Deferred}(h:Inv (.off W p ds) C):Inv (.of W) {C with tK:=0}:=
 have k:=h.off (W:=W) rfl 0 [] (Nat.zero_le _)
 ⟨k.fresh,k.nil,k.obj,k.sep,k.dW,k.tB,k.fU,k.gC,k.size,k.lK,k.gl,k.kq,k.D_,k.ET,k.gT,k.uh,k.iU,k.gh⟩

theorem Mem.amT{C C':Ctx}{q:Nat}(h:Mem {C with tK:=q} C')(h0:C.tK=0):Mem C {C' with tK:=0}:=
 ⟨h.below,h.keep,h.own,h.dW,h0.symm,fun _=>⟨Nat.zero_le _,fun k es' hk _=>by rw[h0] at hk;exact absurd hk (Nat.not_lt_zero _)⟩⟩

theorem BD{l:List Oper}{fr':Fr}{H':bg}(h:F6 P W0 ops l fr H fr' H')(hN:∀o∈l,n4 N o=true):∀(C:Ctx) (a:Act) (Q:Exit→Act→World→Prop),Rel W0 N fr H C a→
  (∀C' a',Ext C C'→Rel W0 N fr' H' C' a'→Q .normal a' C'.w)→wpListIn (Fw W0.ro) 0 P ops Q l a C.w:=by
 induction h with
 |nil fr H=>intro C a Q hr hQ;exact hQ C a (.refl C) hr
 |skip hw _ ih=>
  intro C a Q hr hQ
  unfold wpListIn
  rw[nZ hr.rep hw]
  simp only[Bool.false_eq_true,if_false]
  exact⟨fun _ _=>trivial,ih (fun o ho=>hN o (List.mem_cons_of_mem _ ho)) C _ Q (hr.put (.refl C) hr.inv hr.heap GP (n4.lt (hN _ (List.mem_cons_self ..)))) hQ⟩
 |op hw hop _ ih=>
  intro C a Q hr hQ
  unfold wpListIn
  rw[nZ hr.rep hw]
  simp only[if_true]
  refine vk (n4.WV (hN _ (List.mem_cons_self ..))) (hop C a hr.inv hr.heap (fun x _ t _ av hav=>hr.rep t av hav) _ _ (fun v C' he hi hH hv=> ?_))
  exact ih (fun o ho=>hN o (List.mem_cons_of_mem _ ho)) C' _ Q (hr.put he hi hH hv (n4.lt (hN _ (List.mem_cons_self ..)))) (fun C2 a2 h2=>hQ C2 a2 (he.trans h2))
 |opI hw hop _ ih=>
  intro C a Q hr hQ
  unfold wpListIn
  rw[nZ hr.rep hw]
  simp only[if_true]
  refine hop C a hr.inv hr.heap (fun x _ t _ av hav=>hr.rep t av hav) _ _ (fun v C' he hi hH hv=> ?_)
  exact ih (fun o ho=>hN o (List.mem_cons_of_mem _ ho)) C' _ Q (hr.put he hi hH hv (n4.lt (hN _ (List.mem_cons_self ..)))) (fun C2 a2 h2=>hQ C2 a2 (he.trans h2))
 |drop hk _ ih=>
  intro C a Q hr hQ
  exact ih hN C a Q ⟨hr.heap,hr.inv,hr.size,hr.defers,fun t x hx=>hr.rep t x (hk t x hx)⟩ hQ

abbrev va(b0 b1 b2:AV):bg:=⟨3,[(0,(1,[b0])),(1,(1,[b1])),(2,(1,[b2]))],[]⟩
abbrev GM:List (Nat×AV):=[(2,.ref 0 0 0),(3,.ref 1 0 0),(4,.ref 2 0 0)]

structure RY (P:Program) (W:World) (g:FuncId) (c0 c1 c2:AV):Prop where
 call:mw P g
 idle:∀(v0 v1 v2:Value) (w:World),CallsDIn Fence.wide 0 P g #[v0,v1,v2] .returning w fun e u' w'=>(∃v,e=.returned v)∧u'=.returning∧w'=w
 pan:∀(ch:List PanicEntry) (C:Ctx) (v0 v1 v2:Value) (i j:Int) (t:Bool),Fi ch→Inv (.off W 3 []) C→C.H=va (J i) (J j) (bl t)→C.kq=[]→dR C (.ref 0 0 0) v0→dR C (.ref 1 0 0) v1→dR C (.ref 2 0 0) v2→
  CallsDIn Fence.wide 0 P g #[v0,v1,v2] (.panicking ch) C.w fun e u' w'=>(∃v,e=.returned v)∧settle u'=.returning∧∃C',C'.w=w'∧Ext C C'∧Inv (.off W 3 []) C'∧C'.H=va c0 c1 c2

theorem Te{o2:Oper}{g t6:Nat}{w:World}{a:Act}(ho2:o2.op=.defer {callee:=.value (.tmp t6),args:= #[],argTypes:= #[]}){caps:Array Value}(h6:a.tmps.getD t6 undef=.func (.func g) #[] caps):
  (execOp a.eval o2).run P w=.ok (.defer {target:=.fn (.func g) caps,args:= #[]}) w:=by
 have h6':a.eval (.tmp t6)=.func (.func g) #[] caps:=by simpa [Act.eval] using h6
 simp only[execOp,ho2,resolve,h6',Deferred.ofValue]
 simp[go_sem]

set_option maxHeartbeats 1000000 in
theorem OA{W:World}{f g t6:Nat}{fn:Func}{rest:Code}{i0 i1:Nat}{l0:List Oper}{o1 o2:Oper}{xs:List AV}{r z0 z1 z2 c0 c1 c2:AV}{frx:List (Nat×AV)}
  (hf:P.funcs[f]? =some fn)(hb:fn.body=some (.seq (.region i0 l0.toArray false) (.seq (.region i1 [o1,o2].toArray false) rest)))(hname:(fn.name== "runtime.NumGoroutine")=false)(hN:fn.ntmps=N)(hxN:xs.length≤N)
  (ho1:o1.op=.makeFunc (.func g) #[] #[.tmp 2,.tmp 3,.tmp 4])(Y_:o1.guard=none)(hd1:o1.dst=some t6)(ht6:t6<N)(ht6':lk frx t6=none)
  (ho2:o2.op=.defer {callee:=.value (.tmp t6),args:= #[],argTypes:= #[]})(hg2:o2.guard=none)(L8:o2.dst=none)
  (hl0:l0.all (n4 N)=true)(h0:AR P (.of W) l0.toArray l0 (cQ 0 xs) .empty (fun f K=>xN f frx∧K=va z0 z1 z2))
  (tj:lk frx 2=some (.ref 0 0 0))(Na:lk frx 3=some (.ref 1 0 0))(hx4:lk frx 4=some (.ref 2 0 0))
  (h1:∀ds,sN P (.off W 3 ds) N rest ⟨frx,va z0 z1 z2⟩ (fun e s=>
   ((e=.normal∨e=.ret)∧∃b0 b1 b2,aU (.off W 3 ds) N s ⟨GM,va b0 b1 b2⟩∧HK P fn.results.toList ⟨GM,va b0 b1 b2⟩=some r)∨
   ((∃ch,e=.panic ch∧Fi ch)∧(∃i j t,aU (.off W 3 ds) N s ⟨GM,va (J i) (J j) (bl t)⟩)∧HK P fn.results.toList ⟨GM,va c0 c1 c2⟩=some r)))
  (hR:RY P W g c0 c1 c2)(hn:b6 r):Ey P W f xs r where
 call:=oP hf hname hb
 B0:=hn
 runs C vals hI hH hd hsz hrep:=by
  refine(callsIn_wide (n:=0)).1 (callsIn_of_wp_marks hf hb trivial ?_)
  have hrel:=HJ (W0:=.of W) hI hH hd hN hxN hsz hrep rfl
  obtain⟨f0,K0,h0,hk0,rfl⟩:=h0
  refine wpIn_seq (wpIn_region_lit (BD h0 (fun o ho=>List.all_eq_true.1 hl0 o ho) C _ _ hrel fun C1' a1 e1 k0=> ?_))
  have m1:Mem C C1':=e1.mem
  have hd1':C1'.kq=[]:=e1.kq.trans hd
  have k3:Rel (.of W) N (lk frx) (va z0 z1 z2) C1' a1:=⟨k0.heap,k0.inv,k0.size,k0.defers,fun t x hx=>k0.rep t x (hk0.lk t x hx)⟩
  -- what is put off
  have r2:=k3.rep 2 _ tj
  have r3:=k3.rep 3 _ Na
  have r4:=k3.rep 4 _ hx4
  have aq5:C1'.tK=0:=k3.inv.uh
  have hHx:C1'.H=va z0 z1 z2:=k3.heap
  generalize hv2:a1.tmps.getD 2 undef=v2 at r2
  generalize hv3:a1.tmps.getD 3 undef=v3 at r3
  generalize hv4:a1.tmps.getD 4 undef=v4 at r4
  have ari:(execOp a1.eval o1).run P C1'.w=.ok (.value (.func (.func g) #[] #[v2,v3,v4])) C1'.w:=by
   have e2:a1.tmps[2]?.getD undef=v2:=by simpa using hv2
   have e3:a1.tmps[3]?.getD undef=v3:=by simpa using hv3
   have e4:a1.tmps[4]?.getD undef=v4:=by simpa using hv4
   have hmf:∀(fn:Fn) (first cap:Array Value) (w:World),(Instr.makeFunc fn first cap).run P w=.ok (.func fn first cap) w:=fun _ _ _ _=>rfl
   simp only[execOp,ho1]
   simp[go_sem,e2,e3,e4,hmf]
  generalize hdd:({target:=.fn (.func g) #[v2,v3,v4],args:= #[]}:Deferred)=d
  generalize ha2:a1.put o1.dst (.func (.func g) #[] #[v2,v3,v4])=a2
  have d6:a2.tmps.getD t6 undef=.func (.func g) #[] #[v2,v3,v4]:=by
   rw[←ha2,hd1]
   simp[Act.put,k3.size,ht6]
  have acF:∀(tmps:Array Value) (C4:Ctx) (H4:bg),Rel (.off W 3 []) N (lk GM) H4 C4 {tmps:=tmps,defers:=[]}→C4.kq=[]→Mem {C1' with tK:=3} C4→HK P fn.results.toList ⟨GM,H4⟩=some r→H4.gl=[]→
    ∃v,(results fn tmps).run P C4.w=.ok v C4.w∧∃v' C',Ending.returned v=.returned v'∧C'.w=C4.w∧Ext C C'∧Inv (.of W) C'∧dR C' r v':=by
   intro tmps C4 H4 hq hd4 hm hres hl
   obtain⟨v,g7,g8⟩:=Ik (st:=⟨GM,H4⟩) hq hres
   have g9:=Nz hq.inv.on (by exact hd4) (za g8)
   obtain⟨C5,q1,q2,q3⟩:=(kE (W0:=.of W) (N:=1) (st:=⟨[(0,r)],C4.H⟩) (fr':=[(0,r)]) (H':=.empty) [] [] rfl rfl rfl trivial ⟨⟨r,rfl,.same r hn⟩,trivial⟩ rfl (by rw[hq.heap];exact hl.symm)) {C4 with tK:=0} _ g9
   have m2:Mem C C5:=(m1.trans (hm.amT aq5)).trans q2
   refine⟨v,g7,v,C5,rfl,q1, ?_,q3.inv,q3.rep 0 r rfl⟩
   refine⟨m2.below,m2.keep,m2.own,by rw[hH];exact Nat.zero_le _,fun id es hi _=> ?_,m2.dW,(xE q3).trans hd.symm,m2.tK⟩
   rw[hH] at hi;exact absurd hi (Nat.not_lt_zero _)
  have alK:Rel (.off W 3 [d]) N (lk frx) (va z0 z1 z2) {C1' with tK:=3} ({a2 with defers:=d::a2.defers}.put o2.dst undef):=by
   rw[L8]
   have F0:=k3.inv.off (W:=W) rfl 3 [d] (by rw[hHx];exact Nat.le_refl 3)
   refine⟨hHx,F0, ?_, ?_,fun t x hx=> ?_⟩
   ·rw[←ha2,hd1];simp[Act.put,k3.size]
   ·have h5:a2.defers=[]:=by rw[←ha2,hd1];simp[Act.put,k3.defers,hd1']
    show d::a2.defers=_
    rw[h5,hd1'];rfl
   ·have hne:t≠t6:=fun h=>by rw[h,ht6'] at hx;cases hx
    have e0:a2.tmps.getD t undef=a1.tmps.getD t undef:=by
     rw[←ha2,hd1]
     simp only[Act.put,Array.getD_eq_getD_getElem?]
     rw[Array.getElem?_setIfInBounds_ne (Ne.symm hne)]
    show dR _ x (a2.tmps.getD t undef)
    rw[e0]
    exact za (k3.rep t x hx)
  refine wpIn_seq (wpIn_region_lit (wpListIn_plain Y_ fun K hK=> ?_))
  refine vk (fun c hc=>by rw[ho1] at hc;cases hc) ?_
  unfold Oper.wp
  rw[ari,Oper.upon_value,ha2]
  refine hK _ _ (wpListIn_plain hg2 fun K2 b7=>⟨fun _ _=>trivial, ?_⟩)
  have hs:o2.semAt Fence.wide.round a2.eval=execOp a2.eval o2:=rfl
  rw[hs,Te ho2 d6,Oper.uponIn_defer,hdd]
  refine b7 _ _ ?_
  have key:=h1 [d] _ _ alK
  refine wpIn_mono key fun e a3 w3 ⟨s,C2,q1,q2,q3,q4⟩=> ?_
  subst q1
  have rr2:dR {C1' with tK:=3} (.ref 0 0 0) v2:=za r2
  have rr3:dR {C1' with tK:=3} (.ref 1 0 0) v3:=za r3
  have rr4:dR {C1' with tK:=3} (.ref 2 0 0) v4:=za r4
  have hle:Ctx.tK {C1' with tK:=3}≤bg.next (Ctx.H {C1' with tK:=3}):=by rw[hHx];exact Nat.le_refl 3
  have inv:∀w,(invoke d.target d.args).run P w=.ok (.enter g #[v2,v3,v4]) w:=fun w=>by
   rw[←hdd]
   exact hR.call _ w
  rcases q4 with⟨hne,b0,b1,b2,hw,hres⟩|⟨⟨ch,rfl,hch⟩,⟨i,j,t,hw⟩,hres⟩
  ·obtain⟨C3,p1,p2,p3⟩:=hw C2 a3 q3
   have main:LeavesInM Fence.wide 0 P fn a3.tmps (fun e w'=>∃v C',e=.returned v∧C'.w=w'∧Ext C C'∧Inv (.of W) C'∧dR C' r v) a3.defers .returning C2.w:=by
    rw[←p1,p3.defers]
    refine drain (u:=.returning) (by simp) (W0:=.off W 3 [d]) (Q:=fun C4=>Rel (.off W 3 []) N (lk GM) (va b0 b1 b2) C4 {tmps:=a3.tmps,defers:=[]}∧Mem {C1' with tK:=3} C4) (fun C4 hq hd4=> ?_) C3.kq C3 rfl p3.inv p3.heap
     (fun C4 h1 h2 h3 h4 h5 h6=>⟨⟨h1.trans p3.heap,h4.dx,p3.size,by simp[h5],fun t x hx=>h6 x _ (p3.rep t x hx)⟩,(q2.trans p2).trans h3⟩)
    refine⟨by simp,.inr ⟨(fun h=>by cases h),.func g, #[v2,v3,v4],g, #[v2,v3,v4],by rw[←hdd],inv _,fun _ _=>trivial,(hR.idle v2 v3 v4 C4.w).mono ?_⟩⟩
    rintro e u' w' ⟨⟨v,rfl⟩,rfl,rfl⟩
    exact acF a3.tmps C4 _ hq.1 hd4 hq.2 hres rfl
   rcases hne with rfl|rfl
   ·exact main
   ·exact main
  ·obtain⟨C3,p1,p2,p3⟩:=hw C2 a3 q3
   show LeavesInM Fence.wide 0 P fn a3.tmps _ a3.defers (.panicking ch) C2.w
   rw[←p1,p3.defers]
   refine drain (u:=.panicking ch) (by simp) (W0:=.off W 3 [d]) (Q:=fun C4=>Rel (.off W 3 []) N (lk GM) (va (J i) (J j) (bl t)) C4 {tmps:=a3.tmps,defers:=[]}∧Mem {C1' with tK:=3} C4) (fun C4 hq hd4=> ?_) C3.kq C3 rfl p3.inv p3.heap
     (fun C4 h1 h2 h3 h4 h5 h6=>⟨⟨h1.trans p3.heap,h4.dx,p3.size,by simp[h5],fun t x hx=>h6 x _ (p3.rep t x hx)⟩,(q2.trans p2).trans h3⟩)
   refine⟨by simp,.inr ⟨(fun h=>by cases h),.func g, #[v2,v3,v4],g, #[v2,v3,v4],by rw[←hdd],inv _,fun _ _=>trivial,
    (hR.pan ch C4 v2 v3 v4 i j t hch hq.1.inv hq.1.heap hd4 (rr2.mem hq.2 hle (.ref 0 0 0 (show(0:Nat)<3 by decide))) (rr3.mem hq.2 hle (.ref 1 0 0 (show(1:Nat)<3 by decide))) (rr4.mem hq.2 hle (.ref 2 0 0 (show(2:Nat)<3 by decide)))).mono ?_⟩⟩
   rintro e u' w' ⟨⟨v,rfl⟩,hu,C5,rfl,hE,hI5,hH5⟩
   show LeavesInM Fence.wide 0 P fn a3.tmps _ [] (settle u') C5.w
   rw[hu]
   exact acF a3.tmps C5 _ ⟨hH5,hI5,hq.1.size,by rw[hE.kq,hd4];rfl,fun t x hx=>(hq.1.rep t x hx).ext hE⟩ (hE.kq.trans hd4) (hq.2.trans hE.mem) hres rfl
end
end Go.Av
end

section
/- Short forms of what walks say often. -/
namespace Go.Av
open Go.RowKit (Below)
section
variable {P:Program} {W0:dK} {N:Nat} {ops:Array Oper} {o:Oper} {rest:List Oper} {fr:List (Nat×AV)} {H:bg} {K:List (Nat×AV)→bg→Prop} {Q:Exit→St→Prop}

def mvA(ops:Array Oper)(fr:Nat→Option AV)(o:Oper):Option AV:=
 match iP ops fr o with
 |some true=>match o.op with
  |.move x=>bz fr x
  |.assign x=>bz fr x
  |.pick c x y=>match bz fr c with
   |some (.imm (.bool t))=>bz fr (if t then x else y)
   |_=>none
  |_=>none
 |_=>none
theorem Pf{f:Nat→Option AV}{r:AV}(h:mvA ops f o=some r):iP ops f o=some true:=by
 unfold mvA at h
 split at h
 ·assumption
 ·cases h
theorem WQ{f:Nat→Option AV}{r:AV}(h:mvA ops f o=some r)(H:bg):fV P W0 o f H r H:=by
 unfold mvA at h
 split at h
 ·split at h
  ·exact tX (.inl (by assumption)) h
  ·exact tX (.inr (by assumption)) h
  ·split at h
   ·exact N9 (by assumption) (by assumption) h
   ·cases h
  ·cases h
 ·cases h
theorem O{r:AV}(h:mvA ops (lk fr) o=some r)(k:AR P W0 ops rest (s9 fr o.dst r) H K):AR P W0 ops (o::rest) fr H K:=E (Pf h) (WQ h H) k
def fpA(ops:Array Oper)(fr:Nat→Option AV)(o:Oper):Option (TypeId×Nat×List AV×Nat):=
 match iP ops fr o with
 |some true=>match o.op with
  |.fieldAddr s x f=>match bz fr x with
   |some (.pp fl j)=>some (s,f,fl,j)
   |_=>none
  |_=>none
 |_=>none
theorem Oy{f:Nat→Option AV}{r:TypeId×Nat×List AV×Nat}(h:fpA ops f o=some r):iP ops f o=some true:=by
 unfold fpA at h
 split at h
 ·assumption
 ·cases h
theorem U3{fv:Nat→Option AV}{s:TypeId}{f off n j:Nat}{g:Bool}{fl:List AV}(h:fpA ops fv o=some (s,f,fl,j))(h2:Cz P s f=some (off,n,g))(hn:0<n)(H:bg):fV P W0 o fv H (.pp fl (j+off)) H:=by
 unfold fpA at h
 split at h
 ·split at h
  ·split at h
   ·cases h;exact Ga (by assumption) (by assumption) h2 hn
   ·cases h
  ·cases h
 ·cases h
theorem jc{s:TypeId}{f off n j:Nat}{g:Bool}{fl:List AV}(h:fpA ops (lk fr) o=some (s,f,fl,j))(h2:Cz P s f=some (off,n,g))(k:AR P W0 ops rest (s9 fr o.dst (.pp fl (j+off))) H K)(hn:0<n:=by decide):AR P W0 ops (o::rest) fr H K:=E (Oy h) (U3 h h2 hn H) k
theorem bD{t:TypeId}{x:Operand}{fl:List AV}{j n:Nat}{g:Bool}(r:AV)(hw:iP ops (lk fr) o=some true)(ho:o.op=.load t x)(hx:bz (lk fr) x=some (.pp fl j))(ht:zf P t=some (n,g))(hr:wq fl j n g=some r)(k:AR P W0 ops rest (s9 fr o.dst r) H K):AR P W0 ops (o::rest) fr H K:=E hw (Db ho hx ht hr) k
theorem UE(hw:iP ops (lk fr) o=some false)(k:AR P W0 ops rest (s9 fr o.dst (.tuple [])) H K):AR P W0 ops (o::rest) fr H K:=zu hw k
theorem aop{o2:Oper}(hw:iP ops (lk fr) o=some false)(h2:iP ops (lk (s9 fr o.dst (.tuple []))) o2=some false)(k:AR P W0 ops rest (s9 (s9 fr o.dst (.tuple [])) o2.dst (.tuple [])) H K):AR P W0 ops (o::o2::rest) fr H K:=zu hw (zu h2 k)
theorem aoq{o2 o3:Oper}(hw:iP ops (lk fr) o=some false)(h2:iP ops (lk (s9 fr o.dst (.tuple []))) o2=some false)(h3:iP ops (lk (s9 (s9 fr o.dst (.tuple [])) o2.dst (.tuple []))) o3=some false)(k:AR P W0 ops rest (s9 (s9 (s9 fr o.dst (.tuple [])) o2.dst (.tuple [])) o3.dst (.tuple [])) H K):AR P W0 ops (o::o2::o3::rest) fr H K:=zu hw (zu h2 (zu h3 k))
theorem V(ts:List Nat){l:List Oper}{frx:List (Nat×AV)}(h:pick fr ts=some frx)(k:AR P W0 ops l frx H K):AR P W0 ops l fr H K:=N1 ts h k
theorem sr{id:Nat}{l:List Oper}{y:Code}(hN:l.all (n4 N)=true)(h:∀K:St→Prop,(∀s,sN P W0 N y s Q→K s)→AR P W0 l.toArray l fr H (fun f g=>It K Q .normal ⟨f,g⟩)):sN P W0 N (.seq (.region id l.toArray false) y) ⟨fr,H⟩ Q:=az fun K hK=>aW hN (h K hK)
theorem mu{K0:St→Prop}{y:Code}{fr':List (Nat×AV)}(hK:∀s,sN P W0 N y s Q→K0 s)(ts:List Nat)(h:pick fr ts=some fr')(k:sN P W0 N y ⟨fr',H⟩ Q):AR P W0 ops [] fr H (fun f g=>It K0 Q .normal ⟨f,g⟩):=ah (hK _ (sN.Yh (U ts h) k))
abbrev sm{α:Type}(f:α→AV)(l:List α):AV:=.sl (List.map f l)
end
section
variable {P:Program} {W0:dK} {ops:Array Oper} {fs:Flags} {stop:Option Nat} {k:Nat} {o:Oper} {rest:List Oper} {frl:List (Nat×AV)} {H:bg} {K:List (Nat×AV)→bg→Prop}
theorem bt{r:AV}(h:mvA ops (lk frl) o=some r)(h2:Cj P W0 ops fs stop (k+1) rest (s9 frl o.dst r) H K)(hs:(stop==some k)=false:=by rfl):Cj P W0 ops fs stop k (o::rest) frl H K:=aJ (Pf h) (fun H'=>WQ h H') h2 hs
theorem qz{s:TypeId}{f off n j:Nat}{g:Bool}{fl:List AV}(h:fpA ops (lk frl) o=some (s,f,fl,j))(hd:Cz P s f=some (off,n,g))(h2:Cj P W0 ops fs stop (k+1) rest (s9 frl o.dst (.pp fl (j+off))) H K)(hn:0<n:=by decide)(hs:(stop==some k)=false:=by rfl):Cj P W0 ops fs stop k (o::rest) frl H K:=aJ (Oy h) (fun H'=>U3 h hd hn H') h2 hs
theorem bQ{t:TypeId}{x:Operand}{fl:List AV}{j n:Nat}{g:Bool}(r:AV)(hw:iP ops (lk frl) o=some true)(ho:o.op=.load t x)(hx:bz (lk frl) x=some (.pp fl j))(ht:zf P t=some (n,g))(hr:wq fl j n g=some r)(h2:Cj P W0 ops fs stop (k+1) rest (s9 frl o.dst r) H K)(hs:(stop==some k)=false:=by rfl):Cj P W0 ops fs stop k (o::rest) frl H K:=aJ hw (fun _=>Db ho hx ht hr) h2 hs
theorem acX(hw:iP ops (lk frl) o=some false)(h2:Cj P W0 ops fs stop (k+1) rest (s9 frl o.dst (.tuple [])) H K)(hs:(stop==some k)=false:=by rfl):Cj P W0 ops fs stop k (o::rest) frl H K:=LM hw h2 hs
theorem bP(ts:List Nat){l:List Oper}{frx:List (Nat×AV)}(h:pick frl ts=some frx)(h2:Cj P W0 ops fs stop k l frx H K):Cj P W0 ops fs stop k l frl H K:=LL ts h h2
end
section
variable {P:Program} {W0:World} {N:Nat} {f:FuncId} {fn:Func} {c:Code} {xs:List AV} {r:AV}
theorem kn{Hr:bg}(hf:P.funcs[f]? =some fn)(hN:fn.ntmps=N)(h:sN P (.of W0) N c ⟨cQ 0 xs,.empty⟩ (fun e s=>(e=.normal∨e=.ret)∧∃q,HK P fn.results.toList s=some q∧aU (.of W0) 1 ⟨[(0,q)],s.H⟩ ⟨[(0,r)],Hr⟩))
  (hb:fn.body=some c:=by rfl)(hname:(fn.name== "runtime.NumGoroutine")=false:=by kernel_rfl)(hxN:xs.length≤N:=by simp):N3 P W0 f xs r Hr:=OB hf hb hname hN hxN h
theorem cB(hf:P.funcs[f]? =some fn)(hN:fn.ntmps=N)(h:sN P (.of W0) N c ⟨cQ 0 xs,.empty⟩ (fun e s=>(e=.normal∨e=.ret)∧∃q,HK P fn.results.toList s=some q∧aU (.of W0) 1 ⟨[(0,q)],s.H⟩ ⟨[(0,r)],.empty⟩))
  (hb:fn.body=some c:=by rfl)(hname:(fn.name== "runtime.NumGoroutine")=false:=by kernel_rfl)(hxN:xs.length≤N:=by simp)(hn:b6 r:=by simp):Ey P W0 f xs r:=Ey.two (kn hf hN h hb hname hxN) hn
theorem sJ{B:dK}{Hin Hr:bg}(hf:P.funcs[f]? =some fn)(hN:fn.ntmps=N)(h:sN P B N c ⟨cQ 0 xs,Hin⟩ (fun e s=>(e=.normal∨e=.ret)∧∃q,HK P fn.results.toList s=some q∧aU B 1 ⟨[(0,q)],s.H⟩ ⟨[(0,r)],Hr⟩))
  (hb:fn.body=some c:=by rfl)(hname:(fn.name== "runtime.NumGoroutine")=false:=by kernel_rfl)(hxN:xs.length≤N:=by simp)(hro:B.ro=none:=by rfl)(hdx:B.dx=[]:=by rfl):S3 P B f xs Hin r Hr:=OC hro hf hb hname hN hxN h hdx
end
end Go.Av
namespace Go.Sh
theorem bd{α β:Type}{x:Option α}{f:α→Option β}{o:β}{p:Prop}(h:x.bind f=some o)(k:∀a,x=some a→f a=some o→p):p:=by
 obtain⟨a,h1,h2⟩:=Fk h
 exact k a h1 h2
theorem bi{α β:Type}{l:List α}{i:Int}{f:α→Option β}{o:β}{p:Prop}(h:(idx l i).bind f=some o)(k:∀(a:α) (n:Nat),i=n→l[n]? =some a→f a=some o→p):p:=by
 obtain⟨a,h1,h2⟩:=Fk h
 obtain⟨n,h3,h4⟩:=OZ h1
 exact k a n h3 h4 h2
end Go.Sh
namespace Go.Av
theorem rk{P:Program}{W0:World}{rs:List ResultVar}{st:St}{q:AV}(hq:HK P rs st=some q:=by rfl)(hn:b6 q:=by simp)(hlp:st.H.gl=[]:=by rfl):(Exit.ret=.normal∨Exit.ret=.ret)∧∃q',HK P rs st=some q'∧aU (.of W0) 1 ⟨[(0,q')],st.H⟩ ⟨[(0,q)],.empty⟩:=
 ⟨.inr rfl,q,hq,kE [] [] rfl rfl rfl trivial ⟨⟨q,rfl,.same q hn⟩,trivial⟩ rfl hlp.symm⟩
def flg:Nat→Nat→List Nat→List Nat→Flags
 |0,_,_,_=>[]
 |n+1,i,a,b=>(if b.contains i then(false,true) else(!a.contains i,false))::flg n (i+1) a b
abbrev fl(n:Nat)(a b:List Nat):Flags:=flg n 0 a b
end Go.Av
namespace Go.Av
theorem tD.sy{H:bg}{g:List (Nat×Nat)}{nw:List Nat}{x y:AV}(h:x=y)(hn:b6 y):tD H g nw x y:=by subst h;exact .same _ hn
theorem Ren.sy{ok:AV→Prop}{m:List (Nat×Nat)}{x y:AV}(h:x=y)(hn:ok y):Ren ok m x y:=by subst h;exact .same _ hn
theorem aU.ra{W0:dK}{N:Nat}{st:St}{fr':List (Nat×AV)}{H':bg}(g:List (Nat×Nat))(nw:List Nat)(hh:sH st.H g nw H'.next H'.dY∧Seen st.H g nw st.fr fr':=by repeat' (first|exact trivial|refine⟨⟨_,rfl, ?_⟩, ?_⟩|refine sH.cons rfl rfl ?_ dt ?_|refine sH.fresh dt dt ?_|refine A4.one ?_ rfl|(refine A4.same ?_;simp;done)|(refine tD.sy rfl ?_;simp;done)|exact tD.ref rfl|(refine tD.ag5 rfl rfl rfl rfl ?_;simp;done)|exact tD.view rfl|(refine tD.nil ?_;simp;done)|(refine tD.Ek rfl rfl ?_;simp;done)|exact tD.nilsl|(refine tD.wide _ ?_;simp;done)|(refine tD.Sv rfl rfl ?_ ?_ <;> simp;done)|(refine tD.viewL rfl ?_;simp;done)|refine tD.tp ?_|refine tD.cl ?_|refine tD.ag ?_|refine⟨?_, ?_⟩))(hinj:g.all (fun p=>g.all (fun q=>p.2 !=q.2||p.1==q.1))=true:=by exact rfl)(hlt:g.all (fun p=>decide (p.1<H'.next))=true:=by exact rfl)
  (hnw:nw.all (fun n=>(lk g n).isNone&&decide (n<H'.next))=true:=by exact rfl)(hpo:Cr W0.p g nw H'.next=true:=by exact rfl)(hlp:H'.gl=st.H.gl:=by exact rfl):aU W0 N st ⟨fr',H'⟩:=kE g nw hinj hlt hnw hh.1 hh.2 hpo hlp
theorem aU.eo{W0:dK}{N:Nat}{st:St}{fr':List (Nat×AV)}(h:aU W0 N st ⟨fr',.empty⟩:=by exact aU.ra [] []):aU W0 N st ⟨fr',.empty⟩:=h
def inv(m:List (Nat×Nat))(k:Nat):Option Nat:=(m.find? fun p=>p.2==k).map (·.1)
theorem Cv.nw{ok:AV→Prop}{H:bg}{g m:List (Nat×Nat)}{Hout:bg}{k s i:Nat}{es' es:List AV}{r:List (Nat×(Nat×List AV))}(_:inv m k=some i)(h1:lk m i=some k)(h2:lk Hout.dY i=some (s,es))(h3:Jl ok m es es')(h4:Cv ok H g m Hout r):Cv ok H g m Hout ((k,(s,es'))::r):=.new i h1 h2 h3 h4
theorem Pass.a{ok:AV→Prop}{fr fr':List (Nat×AV)}{H Hs Hin Hout H':bg}{g m:List (Nat×Nat)}{nw:List Nat}{p:Nat}{r r':AV}
  (next:Hs.next=H.next:=by exact rfl)(part:LN H Hs.dY:=by repeat' (first|exact trivial|refine⟨rfl, ?_⟩))
  (hh:sH Hs g nw Hin.next Hin.dY∧Seen Hs g nw fr fr':=by repeat' (first|exact trivial|refine⟨⟨_,rfl, ?_⟩, ?_⟩|refine sH.cons rfl rfl ?_ dt ?_|refine sH.fresh dt dt ?_|refine A4.one ?_ rfl|(refine A4.same ?_;simp;done)|(refine tD.sy rfl ?_;simp;done)|exact tD.ref rfl|(refine tD.ag5 rfl rfl rfl rfl ?_;simp;done)|exact tD.view rfl|(refine tD.nil ?_;simp;done)|(refine tD.Ek rfl rfl ?_;simp;done)|exact tD.nilsl|(refine tD.wide _ ?_;simp;done)|(refine tD.Sv rfl rfl ?_ ?_ <;> simp;done)|(refine tD.viewL rfl ?_;simp;done)|refine tD.tp ?_|refine tD.cl ?_|refine tD.ag ?_|refine⟨?_, ?_⟩))(hb:Cv ok H g m Hout H'.dY∧Ren ok m r r':=by repeat' (first|exact trivial|refine Cv.kept rfl rfl ?_|refine Cv.nw rfl rfl rfl ?_ ?_|(refine Jl.same ?_;simp[AV.flat];done)|refine Jl.one ?_|(refine Ren.sy rfl ?_;simp;done)|exact Ren.any _|exact Ren.ref rfl|exact Ren.view rfl|refine Ren.cl ?_|refine Ren.tp ?_|refine Ren.ag ?_|refine⟨?_, ?_⟩))
  (inj:g.all (fun p=>g.all (fun q=>p.2 !=q.2||p.1==q.1))=true:=by exact rfl)(lt:g.all (fun p=>decide (p.1<Hin.next))=true:=by exact rfl)(nwf:nw.all (fun n=>(lk g n).isNone&&decide (n<Hin.next))=true:=by exact rfl)
  (gin:g.all (fun q=>(lk Hs.dY q.2).isSome)=true:=by exact rfl)(O1:Hin.gl=Hs.gl:=by exact rfl)(ple:decide (p≤Hin.next)=true:=by exact rfl)(map:WN p H.next g m=true:=by exact rfl)(next':H'.next=H.next+Hout.next:=by exact rfl)
  (gl:(Hs.gl=[]∧H'.gl=H.gl)∨(Hs.gl=H.gl∧H'.gl=Hout.gl):=by first|exact .inl ⟨rfl,rfl⟩|exact .inr ⟨rfl,rfl⟩)
  (mode:(∀x,ok x→G6 x)∨((∀x,ok x→b6 x)∧H.dY.all (fun e=>g.any (fun q=>q.2==e.1)||(lk Hs.dY e.1).isNone)=true):=by exact .inr ⟨fun _ h=>h,rfl⟩):Pass ok fr fr' H Hs Hin Hout H' g m nw p r r':=
 ⟨next,part,inj,lt,nwf,gin,hh.1,hh.2,O1,ple,map,next',hb.1,gl,mode,hb.2⟩
end Go.Av
end

section
/- Operations that only compute, as many as stand side by side, at one stroke. -/
namespace Go.Av
open Go

structure Tb where
 sz:List (Nat×(Nat×Bool))
 fd:List (Nat×List (Nat×(Nat×Nat×Bool)))
def Tb.field(T:Tb)(s f:Nat):Option (Nat×Nat×Bool):=match lk T.fd s with
 |some l=>lk l f
 |none=>none
structure Tb.Of (T:Tb) (P:Program):Prop where
 sz:∀t r,lk T.sz t=some r→zf P t=some r
 fd:∀s f r,T.field s f=some r→Cz P s f=some r∧0<r.2.1

theorem Tb.aex{T:Tb}{P:Program}(h1:T.sz.all (fun p=>decide (zf P p.1=some p.2))=true)(h2:T.fd.all (fun p=>p.2.all fun q=>decide (Cz P p.1 q.1=some q.2∧0<q.2.2.1))=true):T.Of P where
 sz t r h:=of_decide_eq_true (List.all_eq_true.1 h1 _ (lW h))
 fd s f r h:=by
  unfold Tb.field at h
  split at h
  ·rename_i l hl
   exact of_decide_eq_true (List.all_eq_true.1 (List.all_eq_true.1 h2 _ (lW hl)) _ (lW h))
  ·cases h
def YX(b:BinOp)(k:IntKind)(m n:Int):Option AV:=
 match b with
 |.lss=>some (bl (decide (m<n)))
 |.leq=>some (bl (decide (m≤n)))
 |.gtr=>some (bl (decide (n<m)))
 |.geq=>some (bl (decide (n≤m)))
 |.eql=>some (bl (decide (m=n)))
 |.neq=>some (bl (decide (m≠n)))
 |.add=>match k with|.i64=>some (J (dz (m+n)))|_=>none
 |.sub=>match k with|.i64=>some (J (dz (m - n)))|_=>none
 |_=>none
def LW(T:Tb)(H:bg)(f:Nat→Option AV)(o:Oper):Option AV:=
 match o.op with
 |.move x=>bz f x
 |.assign x=>bz f x
 |.pick c x y=>match bz f c with
  |some (.imm (.bool t))=>bz f (if t then x else y)
  |_=>none
 |.fieldAddr s x i=>match bz f x with
  |some (.pp fl j)=>match T.field s i with
   |some (off,_,_)=>some (.pp fl (j+off))
   |none=>none
  |some (.ref id p j)=>match H.get id with
   |some _=>match T.field s i with
    |some (off,_,_)=>some (.ref id p (j+off))
    |none=>none
   |none=>none
  |_=>none
 |.load t x=>match bz f x with
  |some (.pp fl j)=>match lk T.sz t with
   |some (n,g)=>wq fl j n g
   |none=>none
  |some (.ref id i j)=>match H.get id with
   |some es=>match es[i]? with
    |some e=>match lk T.sz t with
     |some (n,g)=>wq e.flat j n g
     |none=>none
    |none=>none
   |none=>none
  |_=>none
 |.binOp b _ x y _=>match bz f x with
  |some (.imm (.int k m))=>match bz f y with
   |some (.imm (.int k' n))=>match k,k' with
    |.i64,.i64=>YX b .i64 m n
    |.u8,.u8=>YX b .u8 m n
    |_,_=>none
   |_=>none
  |_=>none
 |.unOp .not _ x=>match bz f x with
  |some (.imm (.bool b))=>some (bl (!b))
  |_=>none
 |.extract x i=>match bz f x with
  |some (.tuple vs)=>vs[i]?
  |_=>none
 |_=>none
section
variable {P:Program} {W0:dK} {N:Nat} {ops:Array Oper} {o:Oper} {rest:List Oper} {fr:List (Nat×AV)} {H:bg} {K:List (Nat×AV)→bg→Prop} {Q:Exit→St→Prop}
theorem R9{T:Tb}{f:Fr}{b:BinOp}{t t':TypeId}{x y:Operand}{k:IntKind}{m n:Int}{r:AV}(h:YX b k m n=some r)(ho:o.op=.binOp b t x y t')(hx:bz f x=some (.imm (.int k m)))(hy:bz f y=some (.imm (.int k n))):fV P W0 o f H r H:=by
 unfold YX at h
 split at h
 all_goals first|(cases h;done)|skip
 ·cases h;exact dD ho hx hy
 ·cases h;exact MD ho hx hy
 ·cases h;exact Gb ho hx hy
 ·cases h;exact D2 ho hx hy
 ·cases h;exact F_ ho hx hy
 ·cases h;exact IU ho hx hy
 ·cases k <;> first|(cases h;done)|skip
  cases h;exact bA ho hx hy rfl
 ·cases k <;> first|(cases h;done)|skip
  cases h;exact yY ho hx hy rfl
theorem Oo{T:Tb}(hT:T.Of P){f:Fr}{r:AV}(h:LW T H f o=some r):fV P W0 o f H r H:=by
 unfold LW at h
 split at h
 ·exact tX (.inl (by assumption)) h
 ·exact tX (.inr (by assumption)) h
 ·split at h
  ·exact N9 (by assumption) (by assumption) h
  ·cases h
 ·split at h
  ·split at h
   ·cases h
    obtain⟨h1,h2⟩:=hT.fd _ _ _ (by assumption)
    exact Ga (by assumption) (by assumption) h1 h2
   ·cases h
  ·split at h
   ·split at h
    ·cases h
     obtain⟨h1,h2⟩:=hT.fd _ _ _ (by assumption)
     exact bG (by assumption) (by assumption) (by assumption) h1 h2
    ·cases h
   ·cases h
  ·cases h
 ·split at h
  ·split at h
   ·exact Db (by assumption) (by assumption) (hT.sz _ _ (by assumption)) h
   ·cases h
  ·split at h
   ·split at h
    ·split at h
     ·exact aR (by assumption) (by assumption) (by assumption) (by assumption) (hT.sz _ _ (by assumption)) h
     ·cases h
    ·cases h
   ·cases h
  ·cases h
 ·split at h
  ·split at h
   ·split at h
    ·exact R9 (T:=T) h (by assumption) (by assumption) (by assumption)
    ·exact R9 (T:=T) h (by assumption) (by assumption) (by assumption)
    ·cases h
   ·cases h
  ·cases h
 ·split at h
  ·cases h;exact jP (by assumption) (by assumption)
  ·cases h
 ·split at h
  ·exact gn (by assumption) (by assumption) h
  ·cases h
 ·cases h
def Fs:List (Nat×AV)→Option (List (Nat×AV))
 |[]=>some []
 |(t,x)::l=>match Fs l with
  |some l'=>some ((t,x)::l')
  |none=>none
theorem A9:∀{l l':List (Nat×AV)},Fs l=some l'→l'=l
 |[],_,h=>by cases h;rfl
 |(t,x)::l,l',h=>by
  unfold Fs at h
  split at h
  ·rename_i m hm;cases h;rw[A9 hm]
  ·cases h
def goA(T:Tb)(ops:Array Oper)(H:bg):Nat→List Oper→List (Nat×AV)→Option (List Oper×List (Nat×AV))
 |0,l,fr=>some (l,fr)
 |_+1,[],_=>none
 |n+1,o::l,fr=>match iP ops (lk fr) o with
  |some false=>match Fs (s9 fr o.dst (.tuple [])) with
   |some f=>goA T ops H n l f
   |none=>none
  |some true=>match LW T H (lk fr) o with
   |some r=>match Fs (s9 fr o.dst r) with
    |some f=>goA T ops H n l f
    |none=>none
   |none=>none
  |none=>none
theorem M1{T:Tb}(hT:T.Of P):∀{n:Nat} {l:List Oper} {fr:List (Nat×AV)} {x:List Oper×List (Nat×AV)},goA T ops H n l fr=some x→AR P W0 ops x.1 x.2 H K→AR P W0 ops l fr H K
 |0,l,fr,x,h,k=>by cases h;exact k
 |_+1,[],fr,x,h,k=>by cases h
 |n+1,o::l,fr,x,h,k=>by
  unfold goA at h
  split at h
  ·split at h
   ·rename_i f hf
    have:=M1 hT h k
    rw[A9 hf] at this
    exact zu (by assumption) this
   ·cases h
  ·split at h
   ·split at h
    ·rename_i f hf
     have:=M1 hT h k
     rw[A9 hf] at this
     exact E (by assumption) (Oo hT (by assumption)) this
    ·cases h
   ·cases h
  ·cases h
def goP(T:Tb)(ops:Array Oper)(H:bg)(n:Nat)(l:List Oper)(fr:List (Nat×AV))(ts:List Nat):Option (List Oper×List (Nat×AV)):=
 match goA T ops H n l fr with
 |some (l',f')=>match pick f' ts with
  |some x=>some (l',x)
  |none=>none
 |none=>none
theorem aB{T:Tb}(hT:T.Of P)(n:Nat)(ts:List Nat){l l':List Oper}{frx:List (Nat×AV)}(h:goP T ops H n l fr ts=some (l',frx))(k:AR P W0 ops l' frx H K):AR P W0 ops l fr H K:=by
 unfold goP at h
 split at h
 ·rename_i l1 f1 e
  split at h
  ·rename_i x hx
   cases h
   exact M1 hT e (N1 ts hx k)
  ·cases h
 ·cases h
theorem QH{T:Tb}(hT:T.Of P){f:Fr}{r:AV}(h:LW T .empty f o=some r)(H':bg):fV P W0 o f H' r H':=by
 refine Oo hT ?_
 unfold LW at h ⊢
 split at h <;> first|exact h|skip
 all_goals (split at h <;> first|exact h|skip)
 all_goals first|(cases h;done)|skip
 all_goals (split at h <;> first|(rename_i hh;simp[bg.get,bg.empty,lk] at hh;done)|(cases h;done))
def goH(T:Tb)(ops:Array Oper)(stop:Option Nat):Nat→Nat→List Oper→List (Nat×AV)→Option (Nat×List Oper×List (Nat×AV))
 |0,k,l,fr=>some (k,l,fr)
 |_+1,_,[],_=>none
 |n+1,k,o::l,fr=>match stop==some k with
  |true=>none
  |false=>match iP ops (lk fr) o with
   |some false=>match Fs (s9 fr o.dst (.tuple [])) with
    |some f=>goH T ops stop n (k+1) l f
    |none=>none
   |some true=>match LW T .empty (lk fr) o with
    |some r=>match Fs (s9 fr o.dst r) with
     |some f=>goH T ops stop n (k+1) l f
     |none=>none
    |none=>none
   |none=>none
theorem QN{T:Tb}(hT:T.Of P){fs:Flags}{stop:Option Nat}:∀{n k:Nat} {l:List Oper} {fr:List (Nat×AV)} {x:Nat×List Oper×List (Nat×AV)},goH T ops stop n k l fr=some x→Cj P W0 ops fs stop x.1 x.2.1 x.2.2 H K→Cj P W0 ops fs stop k l fr H K
 |0,k,l,fr,x,h,q=>by cases h;exact q
 |_+1,k,[],fr,x,h,q=>by cases h
 |n+1,k,o::l,fr,x,h,q=>by
  unfold goH at h
  split at h
  ·cases h
  ·rename_i hs
   split at h
   ·split at h
    ·rename_i f hf
     have:=QN hT (fs:=fs) h q
     rw[A9 hf] at this
     exact LM (by assumption) this hs
    ·cases h
   ·split at h
    ·rename_i r hr
     split at h
     ·rename_i f hf
      have:=QN hT (fs:=fs) h q
      rw[A9 hf] at this
      exact aJ (by assumption) (QH hT hr) this hs
     ·cases h
    ·cases h
   ·cases h
def ag8(T:Tb)(ops:Array Oper)(stop:Option Nat)(n k:Nat)(l:List Oper)(fr:List (Nat×AV))(ts:List Nat):Option (Nat×List Oper×List (Nat×AV)):=
 match goH T ops stop n k l fr with
 |some (k',l',f')=>match pick f' ts with
  |some x=>some (k',l',x)
  |none=>none
 |none=>none
theorem aS{T:Tb}(hT:T.Of P){fs:Flags}{stop:Option Nat}(n:Nat)(ts:List Nat){k k':Nat}{l l':List Oper}{frx:List (Nat×AV)}(h:ag8 T ops stop n k l fr ts=some (k',l',frx))(q:Cj P W0 ops fs stop k' l' frx H K):Cj P W0 ops fs stop k l fr H K:=by
 unfold ag8 at h
 split at h
 ·split at h
  ·rename_i hx
   cases h
   exact QN hT (by assumption) (LL ts hx q)
  ·cases h
 ·cases h
theorem aG{T:Tb}(hT:T.Of P){K0:St→Prop}{y:Code}(hK:∀s,sN P W0 N y s Q→K0 s)(n:Nat)(ts:List Nat){l:List Oper}{frx:List (Nat×AV)}(h:goP T ops H n l fr ts=some ([],frx))(k:sN P W0 N y ⟨frx,H⟩ Q):AR P W0 ops l fr H (fun f g=>It K0 Q .normal ⟨f,g⟩):=by
 unfold goP at h
 split at h
 ·rename_i l1 f1 e
  split at h
  ·rename_i x hx
   cases h
   exact M1 hT e (ah (hK _ (sN.Yh (U ts hx) k)))
  ·cases h
 ·cases h
theorem aM{N:Nat}{id:Nat}{l:List Oper}{T:Tb}(hT:T.Of P)(n:Nat)(ts:List Nat){y:Code}{frx:List (Nat×AV)}(h:goP T l.toArray H n l fr ts=some ([],frx))(k:sN P W0 N y ⟨frx,H⟩ Q)(hN:l.all (n4 N)=true:=by rfl):sN P W0 N (.seq (.region id l.toArray false) y) ⟨fr,H⟩ Q:=
 az fun K hK=>aW hN (aG hT hK n ts h k)
end
end Go.Av
end

section
/- Numbers sorted by where they stand in a row: what the library's function does, in the words of the walks. -/
namespace Go.Av
open Go.Proofs Go.Shelf Go.Lib

theorem ac5(x y:Int):decide (compareInt x y<0)=decide (x<y):=by
 unfold compareInt
 by_cases h1:x<y
 ·simp[h1]
 ·by_cases h2:y<x <;> simp[h1,h2]
theorem RJ{P:Program}{f g:FuncId}(call:mw P f)(no:∀(p:Option Addr) (cap:Nat) (fv:Value) (w:World),Calls P f #[.slice p 0 cap,fv] w fun e w'=>e=.returned (.tuple #[])∧w'=w)
  (is:∀(m:Nat) (v:Fin (m+1)→Value) (k:Fin (m+1)→Int) (cb:Array Value) (fW off cap:Nat) (d:Array (Fin (m+1))) (w:World),OneCell v→(∀args w,(callFunc g args).run P w=.ok (.enter g args) w)→CmpLays1 P g cb v (fun i j=>compareInt (k i) (k j)) fW off d.size w→Sort.Holds v w fW off d→fW<w.heap.size→d.size<4611686018427387904→
   Sort.SWO (ltOf fun i j=>compareInt (k i) (k j))→(∀x y,(ltOf fun i j=>compareInt (k i) (k j)) x y=false→(ltOf fun i j=>compareInt (k i) (k j)) y x=false→x=y)→
   Calls P f #[.slice (some ⟨fW,off,none⟩) d.size cap,.func (.func g) #[] cb] w fun e w'=>e=.returned (.tuple #[])∧∃n os,w'=sortWorld v w fW off n (d.toList.mergeSort fun x y=> !(ltOf fun i j=>compareInt (k i) (k j)) y x).toArray os)
  (eg:∀args w,(callFunc g args).run P w=.ok (.enter g args) w)
  (cl:∀(b1 o1 b2 o2 c2:Nat) (zs:List Int) (a b:Int) (W:World),zs.length≤9223372036854775807→W.cell? ⟨b1,o1,none⟩=some (.slice (some ⟨b2,o2,none⟩) zs.length c2)→(∀j,j<zs.length→W.cell? ⟨b2,o2+j,none⟩=some (.int .i64 (zs.getD j 0)))→Calls P g #[.int .i64 a,.int .i64 b,.pointer (some ⟨b1,o1,none⟩)] W fun e w'=>e=.returned (.int .i64 (compareInt (idxOf zs a) (idxOf zs b)))∧∃q os',w'=Sort.grow (W.drewN q) os'):Hg P f g where
 call:=call
 no:=fun p cap cb w=>no p cap _ w
 is fW off cap m x os bx ox b2 o2 c2 w hk hne hbig hb1 hs1 Si Uw hs2 Tm hH hblk hsz:=by
  have hlt:∀i j,(ltOf fun i j=>compareInt (idxOf os (x i)) (idxOf os (x j))) i j=decide (idxOf os (x i)<idxOf os (x j)):=fun i j=>ac5 _ _
  have hcell:∀(b o:Nat) (m':Nat) (os':Array Obj) (dk:Array (Fin (m+1))) (y:Value),b≠fW→b<w.heap.size→w.cell? ⟨b,o,none⟩=some y→(sortWorld (fun i=>Value.int .i64 (x i)) w fW off m' dk os').cell? ⟨b,o,none⟩=some y:=fun b o m' os' dk y hb hbs hx=>by
   rw[←hx]
   refine World.cell?_of_block (a:=⟨b,o,none⟩) ?_
   unfold sortWorld
   rw[Sort.heap_grow_old _ _ (by simpa [Sort.putRow,Sort.mapBlock,Sort.ahead] using hbs)]
   simp[Sort.putRow,Sort.mapBlock,Sort.ahead,Array.getElem?_modify,Ne.symm hb]
  have h:=is m (fun i=>Value.int .i64 (x i)) (fun i=>idxOf os (x i)) #[.pointer (some ⟨bx,ox,none⟩)] fW off cap (List.finRange (m+1)).toArray w (fun _=>rfl) eg (fun m' os' dk _ i j=>
   cl bx ox b2 o2 c2 os (x i) (x j) _ hbig (hcell _ _ _ _ _ _ hb1 hs1 Si) (fun q hq=>hcell _ _ _ _ _ _ Uw hs2 (Tm q hq))) hH hblk (by simpa using hsz)
   ⟨fun x=>by rw[hlt];simp,fun x y z a b=>by rw[hlt] at*;simp at*;omega,fun x y z a b=>by rw[hlt] at*;simp at*;omega⟩
   (fun x y a b=>by rw[hlt] at a b;simp at a b;exact hk x y (by omega))
  have hsize:(List.finRange (m+1)).toArray.size=m+1:=by simp
  rw[hsize] at h
  refine h.mono ?_
  rintro e w' ⟨rfl,n,os',rfl⟩
  refine⟨rfl,n,os',_,List.mergeSort_perm _ _, ?_,rfl⟩
  have hp:=List.pairwise_mergeSort (le:=fun a b=> !(ltOf fun i j=>compareInt (idxOf os (x i)) (idxOf os (x j))) b a) (fun a b c h1 h2=>by simp only[hlt] at*;simp at*;omega) (fun a b=>by simp only[hlt];simp;omega) (List.finRange (m+1))
  exact hp.imp fun{a b} hab=>by simp only[hlt] at hab;simpa using hab
end Go.Av
end

section
/- From the reading of a claim's arguments to what the proof sees of them; and from what a law's function does to what its row asks. -/
namespace Go.Av
open Go.RowKit (Below)

mutual
def xh{H:Type}:DataW H→AV
 |.lit (.bool b)=>.imm (.bool b)
 |.lit (.int k n)=>.imm (.int k n)
 |.lit (.string bs)=>.imm (.string ⟨bs.toArray⟩)
 |.nil=>.sl []
 |.slice es _=>.sl (R6 es)
 |.agg ps=>.agg (qL ps)
 |_=>.any
def R6{H:Type}:List (DataW H)→List AV
 |[]=>[]
 |d::r=>xh d::R6 r
def qL{H:Type}:List (DataW H)→List AV
 |[]=>[]
 |d::r=>(xh d).flat++qL r
end

theorem LR{H:Type}(l:List (DataW H)):R6 l=l.map xh:=by
 induction l with
 |nil=>rfl
 |cons d r ih=>simp[R6,ih]

def uz(P:Program):Nat→TypeId→Bool
 |0,_=>false
 |n+1,t=>
  match P.underlying t with
  |some .bool|some (.int _)|some .string=>true
  |some (.slice e)=>P.cellsOf e !=0&&uz P n e
  |some (.struct fs)=>fs.toList.all (fun f=>uz P n f.type)&&(fs.toList.foldl (fun(acc:Option Nat) f=>acc.bind fun a=>if f.offset==a then some (a+P.cellsOf f.type) else none) (some 0))==some (P.cellsOf t)
  |some (.array m e)=>uz P n e&&m*P.cellsOf e==P.cellsOf t
  |_=>false

theorem flat_agg(cs:List AV):(AV.agg cs).flat=cs:=rfl

structure F9 (C:Ctx) (cs:List Value) (x:AV):Prop where
 len:x.flat.length=cs.length
 one:∀c∈cs,c.oneCell'=true
 rep:∀(k:Nat) (y:AV),x.flat[k]? =some y→∃c,cs[k]? =some c∧dR C y c

theorem mapM_some{α β:Type}(f:α→Option β):∀(l:List α) (ys:List β),l.mapM f=some ys→ys.length=l.length∧∀(k:Nat) (x:α),l[k]? =some x→∃y,ys[k]? =some y∧f x=some y:=by
 intro l
 induction l with
 |nil=>intro ys h;simp only[List.mapM_nil,Option.pure_def,Option.some.injEq] at h;subst h;exact⟨rfl,fun k x hk=>by simp at hk⟩
 |cons y l ih=>
  intro ys h
  rw[List.mapM_cons] at h
  simp only[Option.bind_eq_bind,Option.bind_eq_some_iff,Option.pure_def,Option.some.injEq] at h
  obtain⟨z,hz,zs,hzs,rfl⟩:=h
  obtain⟨h1,h2⟩:=ih zs hzs
  refine⟨by simp[h1],fun k x hk=> ?_⟩
  cases k with
  |zero=>simp at hk;subst hk;exact⟨z,rfl,hz⟩
  |succ k=>simp at hk;simpa using h2 k x hk

theorem ye{C:Ctx}{c:Value}{x:AV}(h1:c.oneCell'=true)(hr:dR C x c):F9 C [c] x:=by
 have hf:=B8 hr h1
 refine⟨by rw[hf];rfl,fun c' hc=>by simp at hc;subst hc;exact h1,fun k y hk=> ?_⟩
 rw[hf] at hk
 cases k with
 |zero=>simp at hk;subst hk;exact⟨c,rfl,hr⟩
 |succ k=>simp at hk

section
variable {H:Type} {enc:TypeId×Value→H} {P:Program} {w:World} {spare:Nat→Bool} {held:Bool} {C:Ctx}

theorem Kn{ι:Type}(ty:ι→TypeId)(off:ι→Nat)(fuel:Nat)(cs:List Value):
  ∀(l:List ι) (acc:Nat) (xs:List (DataW H×List MemPlace)),(∀x∈l,∀(seg:List Value) (y:DataW H×List MemPlace),DataW.trod enc P w 0 spare held fuel (ty x) seg=some y→seg.length=P.cellsOf (ty x)→F9 C seg (xh y.1))→(∀(i:Nat) (x:ι),l[i]? =some x→off x=acc+((l.take i).map fun y=>P.cellsOf (ty y)).sum)→acc+(l.map fun y=>P.cellsOf (ty y)).sum=cs.length→
   l.mapM (fun x=>DataW.trod enc P w 0 spare held fuel (ty x) ((cs.drop (off x)).take (P.cellsOf (ty x))))=some xs→F9 C (cs.drop acc) (.agg (qL (xs.map (·.1)))):=by
 intro l
 induction l with
 |nil=>
  intro acc xs _ _ hlen h
  simp only[List.mapM_nil,Option.pure_def,Option.some.injEq] at h;subst h
  have:cs.drop acc=[]:=List.drop_eq_nil_of_le (by simp at hlen;omega)
  rw[this]
  exact⟨rfl,fun c hc=>(by cases hc),fun k y hk=>(by simp[qL,AV.flat] at hk)⟩
 |cons x l ihl=>
  intro acc xs ih hoff hlen h
  rw[List.mapM_cons] at h
  simp only[Option.bind_eq_bind,Option.bind_eq_some_iff,Option.pure_def,Option.some.injEq] at h
  obtain⟨z,hz,zs,hzs,rfl⟩:=h
  have h0:off x=acc:=by have:=hoff 0 x rfl;simpa using this
  simp only[List.map_cons,List.sum_cons] at hlen
  rw[h0] at hz
  have hseg:((cs.drop acc).take (P.cellsOf (ty x))).length=P.cellsOf (ty x):=by simp;omega
  have r1:=ih x (List.mem_cons_self ..) _ z hz hseg
  have r2:=ihl (acc+P.cellsOf (ty x)) zs (fun y hy=>ih y (List.mem_cons_of_mem _ hy)) (fun i y hy=>by
   have:=hoff (i+1) y (by simpa using hy)
   rw[this];simp only[List.take_succ_cons,List.map_cons,List.sum_cons];omega) (by omega) hzs
  have hsplit:cs.drop acc=(cs.drop acc).take (P.cellsOf (ty x))++cs.drop (acc+P.cellsOf (ty x)):=by
   rw[←List.drop_drop];exact(List.take_append_drop _ _).symm
  rw[hsplit]
  have l1:=r1.len
  have l2:=r2.len
  simp only[flat_agg] at l2
  refine⟨by simp only[flat_agg,List.map_cons,qL,List.length_append,l1,l2],fun c hc=> ?_,fun k y hk=> ?_⟩
  ·rcases List.mem_append.1 hc with h|h
   ·exact r1.one c h
   ·exact r2.one c h
  ·simp only[flat_agg,List.map_cons,qL] at hk
   by_cases hlt:k<(xh z.1).flat.length
   ·rw[List.getElem?_append_left hlt] at hk
    obtain⟨c,g1,g2⟩:=r1.rep k y hk
    exact⟨c,by rw[List.getElem?_append_left (by omega)];exact g1,g2⟩
   ·rw[List.getElem?_append_right (by omega)] at hk
    obtain⟨c,g1,g2⟩:=r2.rep _ y hk
    exact⟨c,by rw[List.getElem?_append_right (by omega),←l1];exact g1,g2⟩

theorem MZ(P:Program):∀(fs:List Field) (a tot:Nat),fs.foldl (fun(acc:Option Nat) f=>acc.bind fun a=>if f.offset==a then some (a+P.cellsOf f.type) else none) (some a)=some tot→
  (∀(i:Nat) (x:Field),fs[i]? =some x→x.offset=a+((fs.take i).map fun y=>P.cellsOf y.type).sum)∧a+(fs.map fun y=>P.cellsOf y.type).sum=tot:=by
 intro fs
 induction fs with
 |nil=>intro a tot h;simp only[List.foldl_nil,Option.some.injEq] at h;subst h;exact⟨fun i x h=>by simp at h,by simp⟩
 |cons f fs ih=>
  intro a tot h
  simp only[List.foldl_cons,Option.bind_some] at h
  by_cases hf:f.offset==a
  ·rw[if_pos hf] at h
   obtain⟨h1,h2⟩:=ih _ _ h
   have hf':f.offset=a:=by simpa using hf
   refine⟨fun i x hx=> ?_,by simp only[List.map_cons,List.sum_cons];omega⟩
   cases i with
   |zero=>simp at hx;subst hx;simpa using hf'
   |succ i=>
    simp only[List.getElem?_cons_succ] at hx
    rw[h1 i x hx]
    simp only[List.take_succ_cons,List.map_cons,List.sum_cons];omega
  ·rw[if_neg hf] at h
   have:∀(l:List Field),l.foldl (fun(acc:Option Nat) f=>acc.bind fun a=>if f.offset==a then some (a+P.cellsOf f.type) else none) none=none:=by
    intro l;induction l with
    |nil=>rfl
    |cons _ _ ih=>simpa using ih
   rw[this] at h;cases h

theorem Aa{fuel:Nat}{t e:TypeId}{cs:List Value}{d:DataW H}{ps:List MemPlace}(hu:P.underlying t=some (.slice e))(h:DataW.trod enc P w 0 spare held (fuel+1) t cs=some (d,ps)):
  (cs=[.slice none 0 0]∧d=.nil)∨∃a len cap elems rest,cs=[.slice (some a) len cap]∧d=.slice (elems.map (·.1)) rest∧len≤cap∧cap≤maxLen∧
   (List.range len).mapM (fun i=>(w.cells? 0 (a.add (i*P.cellsOf e)) (P.cellsOf e)).bind (DataW.trod enc P w 0 spare held fuel e))=some elems:=by
 rcases cs with _|⟨c,_|⟨c',cs⟩⟩
 ·simp[DataW.trod,hu] at h
 ·cases c <;> try (simp[DataW.trod,hu] at h;done)
  rename_i a len cap
  cases a with
  |none=>
   cases len <;> cases cap <;> simp[DataW.trod,hu] at h
   exact .inl ⟨rfl,h.1.symm⟩
  |some a=>
   simp only[DataW.trod,hu] at h
   split at h
   ·rename_i hc
    simp only[Option.bind_eq_some_iff,Option.map_eq_some_iff,Prod.mk.injEq] at h
    obtain⟨elems,h1,rest,h2,rfl,_⟩:=h
    exact .inr ⟨a,len,cap,elems,_,rfl,rfl,hc.2.1,hc.2.2,h1⟩
   ·cases h
 ·simp[DataW.trod,hu] at h

theorem A2{fuel:Nat}{t:TypeId}{cs:List Value}{d:DataW H}{ps:List MemPlace}(hu:P.underlying t=some .bool)(h:DataW.trod enc P w 0 spare held (fuel+1) t cs=some (d,ps)):∃b,cs=[.bool b]∧d=.lit (.bool b):=by
 rcases cs with _|⟨c,_|⟨c',cs⟩⟩
 ·simp[DataW.trod,hu] at h
 ·cases c <;> try (simp[DataW.trod,hu] at h;done)
  rename_i b
  simp only[DataW.trod,hu,Option.some.injEq,Prod.mk.injEq] at h
  exact⟨b,rfl,h.1.symm⟩
 ·simp[DataW.trod,hu] at h

theorem Ch{fuel:Nat}{t:TypeId}{k:IntKind}{cs:List Value}{d:DataW H}{ps:List MemPlace}(hu:P.underlying t=some (.int k))(h:DataW.trod enc P w 0 spare held (fuel+1) t cs=some (d,ps)):∃n,cs=[.int k n]∧d=.lit (.int k n)∧(Lit.int k n).wf=true:=by
 rcases cs with _|⟨c,_|⟨c',cs⟩⟩
 ·simp[DataW.trod,hu] at h
 ·cases c <;> try (simp[DataW.trod,hu] at h;done)
  rename_i k' n
  simp only[DataW.trod,hu] at h
  split at h
  ·rename_i hk
   obtain⟨rfl,hwf⟩:=hk
   simp only[Option.some.injEq,Prod.mk.injEq] at h
   exact⟨n,rfl,h.1.symm,hwf⟩
  ·cases h
 ·simp[DataW.trod,hu] at h

theorem yG{fuel:Nat}{t:TypeId}{cs:List Value}{d:DataW H}{ps:List MemPlace}(hu:P.underlying t=some .string)(h:DataW.trod enc P w 0 spare held (fuel+1) t cs=some (d,ps)):∃s,cs=[.string s]∧d=.lit (.string s.data.toList):=by
 rcases cs with _|⟨c,_|⟨c',cs⟩⟩
 ·simp[DataW.trod,hu] at h
 ·cases c <;> try (simp[DataW.trod,hu] at h;done)
  rename_i s
  simp only[DataW.trod,hu] at h
  split at h
  ·simp only[Option.some.injEq,Prod.mk.injEq] at h
   exact⟨s,rfl,h.1.symm⟩
  ·cases h
 ·simp[DataW.trod,hu] at h

theorem yH{fuel:Nat}{t:TypeId}{fs:Array Field}{cs:List Value}{d:DataW H}{ps:List MemPlace}(hu:P.underlying t=some (.struct fs))(h:DataW.trod enc P w 0 spare held (fuel+1) t cs=some (d,ps)):
  ∃xs,cs.length=P.cellsOf t∧d=.agg (xs.map (·.1))∧fs.toList.mapM (fun f=>DataW.trod enc P w 0 spare held fuel f.type ((cs.drop f.offset).take (P.cellsOf f.type)))=some xs:=by
 have key:(if cs.length=P.cellsOf t then(fs.toList.mapM fun f=>DataW.trod enc P w 0 spare held fuel f.type ((cs.drop f.offset).take (P.cellsOf f.type))).map fun xs=>((.agg (xs.map (·.1)):DataW H),xs.flatMap (·.2)) else none)=some (d,ps):=by
  rcases cs with _|⟨c,_|⟨c',cs⟩⟩
  ·simpa only[DataW.trod,hu] using h
  ·cases c <;> simpa only[DataW.trod,hu] using h
  ·simpa only[DataW.trod,hu] using h
 split at key
 ·rename_i hl
  obtain⟨xs,h1,h2⟩:=Option.map_eq_some_iff.1 key
  simp only[Prod.mk.injEq] at h2
  exact⟨xs,hl,h2.1.symm,h1⟩
 ·cases key

theorem DX{fuel:Nat}{t e:TypeId}{m:Nat}{cs:List Value}{d:DataW H}{ps:List MemPlace}(hu:P.underlying t=some (.array m e))(h:DataW.trod enc P w 0 spare held (fuel+1) t cs=some (d,ps)):
  ∃xs,cs.length=P.cellsOf t∧d=.agg (xs.map (·.1))∧(List.range m).mapM (fun i=>DataW.trod enc P w 0 spare held fuel e ((cs.drop (i*P.cellsOf e)).take (P.cellsOf e)))=some xs:=by
 have key:(if cs.length=P.cellsOf t then((List.range m).mapM fun i=>DataW.trod enc P w 0 spare held fuel e ((cs.drop (i*P.cellsOf e)).take (P.cellsOf e))).map fun xs=>((.agg (xs.map (·.1)):DataW H),xs.flatMap (·.2)) else none)=some (d,ps):=by
  rcases cs with _|⟨c,_|⟨c',cs⟩⟩
  ·simpa only[DataW.trod,hu] using h
  ·cases c <;> simpa only[DataW.trod,hu] using h
  ·simpa only[DataW.trod,hu] using h
 split at key
 ·rename_i hl
  obtain⟨xs,h1,h2⟩:=Option.map_eq_some_iff.1 key
  simp only[Prod.mk.injEq] at h2
  exact⟨xs,hl,h2.1.symm,h1⟩
 ·cases key

theorem Fm{a:Addr}{n:Nat}{seg:List Value}(h:w.cells? 0 a n=some seg):seg.length=n∧∀(j:Nat) (c:Value),seg[j]? =some c→w.cell? (a.add j)=some c:=by
 unfold World.cells? at h
 rw[if_pos (Nat.zero_le _)] at h
 obtain⟨h1,h2⟩:=mapM_some _ _ _ h
 refine⟨by simpa using h1,fun j c hc=> ?_⟩
 have hj:j<n:=by have:=(List.getElem?_eq_some_iff.1 hc).1;rw[h1] at this;simpa using this
 obtain⟨y,g1,g2⟩:=h2 j j (by simp[hj])
 rw[g1] at hc;cases hc;exact g2

theorem Lp(hw:C.w=w)(hbad:∀b,¬C.bad b):∀(fuel n:Nat) (t:TypeId) (cs:List Value) (d:DataW H) (ps:List MemPlace),uz P n t=true→
  DataW.trod enc P w 0 spare held fuel t cs=some (d,ps)→F9 C cs (xh d):=by
 intro fuel
 induction fuel with
 |zero=>intro n t cs d ps _ h;simp[DataW.trod] at h
 |succ fuel ih=>
  intro n t cs d ps hp h
  cases n with
  |zero=>simp[uz] at hp
  |succ n=>
  unfold uz at hp
  split at hp
  ·rename_i hu
   obtain⟨b,rfl,rfl⟩:=A2 hu h
   exact ye rfl (.imm _ rfl)
  ·rename_i k hu
   obtain⟨q,rfl,rfl,_⟩:=Ch hu h
   exact ye rfl (.imm _ rfl)
  ·rename_i hu
   obtain⟨q,rfl,rfl⟩:=yG hu h
   refine ye (c:=.string q) rfl ?_
   have:(⟨q.data.toList.toArray⟩:ByteArray)=q:=by cases q;simp
   simp only[xh,this]
   exact .imm _ rfl
  · -- slice
   rename_i e hu
   simp only[Bool.and_eq_true,bne_iff_ne,ne_eq] at hp
   obtain⟨hs0,hpe⟩:=hp
   rcases Aa hu h with⟨rfl,rfl⟩|⟨a,len,cap,elems,rest,rfl,rfl,hlc,_,hm⟩
   ·exact ye rfl (.slNil _ _)
   ·obtain⟨l1,l2⟩:=mapM_some _ _ _ hm
    simp only[List.length_range] at l1
    refine ye rfl ?_
    simp only[xh,LR,List.map_map]
    subst l1
    by_cases h0:elems=[]
    ·subst h0;exact .slNil _ _
    ·have hpos:0<elems.length:=List.length_pos_iff.2 h0
     obtain⟨b,off,sp⟩:=a
     -- each element's cells
     have hel:∀i,i<elems.length→∃seg z,elems[i]? =some z∧w.cells? 0 ((⟨b,off,sp⟩:Addr).add (i*P.cellsOf e)) (P.cellsOf e)=some seg∧F9 C seg (xh z.1):=fun i hi=>by
      obtain⟨z,g1,g2⟩:=l2 i i (by simp[hi])
      obtain⟨seg,g3,g4⟩:=Option.bind_eq_some_iff.1 g2
      exact⟨seg,z,g1,g3,ih n e seg z.1 z.2 hpe g4⟩
     have hsp:sp=none:=by
      obtain⟨seg,z,_,g2,_⟩:=hel 0 hpos
      obtain⟨q1,q2⟩:=Fm g2
      have hs:0<seg.length:=by omega
      have:=q2 0 _ (List.getElem?_eq_getElem hs)
      rw[Nat.zero_mul] at this
      cases sp with
      |none=>rfl
      |some x=>simp[Addr.add,World.cell?] at this;split at this <;> simp at this
     subst hsp
     have cell:∀(i j:Nat) (q x:AV),(elems.map (xh∘(·.1)))[i]? =some q→q.flat[j]? =some x→∃v,Holds C.w b (off+i*P.cellsOf e+j) v∧dR C x v:=fun i j q x hq hx=>by
      have hi:i<elems.length:=by have:=(List.getElem?_eq_some_iff.1 hq).1;simpa using this
      obtain⟨seg,z,g1,g2,g3⟩:=hel i hi
      simp only[List.getElem?_map,g1,Option.map_some,Function.comp,Option.some.injEq] at hq
      subst hq
      obtain⟨c,g4,g5⟩:=g3.rep j x hx
      have:=(Fm g2).2 j c g4
      rw[vR,vR] at this
      exact⟨c,⟨by rw[hw];exact this,g3.one c (List.mem_of_getElem? g4)⟩,g5⟩
     have hfl:∀(i:Nat) (q:AV),(elems.map (xh∘(·.1)))[i]? =some q→q.flat.length=P.cellsOf e:=fun i q hq=>by
      have hi:i<elems.length:=by have:=(List.getElem?_eq_some_iff.1 hq).1;simpa using this
      obtain⟨seg,z,g1,g2,g3⟩:=hel i hi
      simp only[List.getElem?_map,g1,Option.map_some,Function.comp,Option.some.injEq] at hq
      subst hq
      rw[g3.len];exact(Fm g2).1
     have hb:b<C.w.heap.size:=by
      obtain⟨seg,z,g1,g2,g3⟩:=hel 0 hpos
      have hs:0<(xh z.1).flat.length:=by
       rw[hfl 0 _ (by simp[g1])];omega
      obtain⟨v,g4,_⟩:=cell 0 0 _ _ (by simp[g1]) (List.getElem?_eq_getElem hs)
      have:=g4.1
      unfold World.cell? at this
      split at this
      ·rename_i h9;exact(Array.getElem?_eq_some_iff.1 h9).1
      ·cases this
     have hlen:(elems.map (xh∘(·.1))).length=elems.length:=by simp
     have:=dR.sl (C:=C) (elems.map (xh∘(·.1))) b off (P.cellsOf e) cap (fun i j=>(C.w.cell? ⟨b,off+i*P.cellsOf e+j,none⟩).getD undef) hb (hbad b) (by rw[hlen];exact hlc) hfl
      (fun i j q x hq hx=>by
       obtain⟨v,g1,g2⟩:=cell i j q x hq hx
       rw[g1.1];exact g1)
      (fun i j q x hq hx=>by
       obtain⟨v,g1,g2⟩:=cell i j q x hq hx
       rw[g1.1];exact g2)
     rw[hlen] at this
     exact this
  · -- struct
   rename_i fs hu
   rw[Bool.and_eq_true,List.all_eq_true] at hp
   obtain⟨hpf,hct⟩:=hp
   rw[beq_iff_eq] at hct
   obtain⟨xs,hl,rfl,hm⟩:=yH hu h
   obtain⟨c1,c2⟩:=MZ P fs.toList 0 _ hct
   have:=Kn (C:=C) (P:=P) (w:=w) (enc:=enc) (spare:=spare) (held:=held) (fun f:Field=>f.type) (fun f=>f.offset) fuel cs
    fs.toList 0 xs (fun x hx seg y hy _=>ih n x.type seg y.1 y.2 (hpf x hx) hy) c1 (by rw[hl];exact c2) hm
   simpa [xh] using this
  · -- array
   rename_i m e hu
   simp only[Bool.and_eq_true,beq_iff_eq] at hp
   obtain⟨hpe,hct⟩:=hp
   obtain⟨xs,hl,rfl,hm⟩:=DX hu h
   have hsum:∀(l:List Nat),(l.map fun _=>P.cellsOf e).sum=l.length*P.cellsOf e:=by
    intro l;induction l with
    |nil=>simp
    |cons _ l ih=>simp[ih,Nat.add_mul,Nat.add_comm]
   have:=Kn (C:=C) (P:=P) (w:=w) (enc:=enc) (spare:=spare) (held:=held) (fun _:Nat=>e) (fun i=>i*P.cellsOf e) fuel cs
    (List.range m) 0 xs (fun x _ seg y hy _=>ih n e seg y.1 y.2 hpe hy)
    (fun i x hx=>by
     have hi:i<m:=by have:=(List.getElem?_eq_some_iff.1 hx).1;simpa using this
     have hx':x=i:=by simp[hi] at hx;exact hx.symm
     subst hx'
     rw[hsum];simp;rw[Nat.min_eq_left (by omega)]) (by rw[hsum,hl];simpa using hct) hm
   simpa [xh] using this
  ·cases hp
end
end Go.Av
end

section
/- From what a law's function does to what its row asks. -/
namespace Go.Av
open Go.RowKit (Below)

section
variable {H:Type} {enc:TypeId×Value→H} {P:Program}

theorem Fe(hl:laidOutB P=true){W W':World}(hb:Below W.heap.size W W'):∀{ts:List TypeId} {vs:List Value} {ds:List (DataW H)} {ps:List MemPlace},(∀t∈ts,P.readableRec t=true∧t<P.types.size)→
  DataW.TrodAll enc P W 0 (fun _=>true) true ts vs ds ps→(∀x∈ps,x.block<W.heap.size)→DataW.TrodAll enc P W' 0 (fun b=>decide (b<W.heap.size)) true ts vs ds ps
 |[],[],[],ps,_,h,_=>h
 |t::ts,v::vs,d::ds,ps,hr,h,hlt=>by
  obtain⟨p,q,h1,h2,rfl⟩:=h
  obtain⟨r1,r2⟩:=hr t (List.mem_cons_self ..)
  exact⟨p,q,RowKit.Below.trod hl r1 r2 h1 hb (fun x hx=>hlt x (List.mem_append_left _ hx)),Fe hl hb (fun t ht=>hr t (List.mem_cons_of_mem _ ht)) h2 (fun x hx=>hlt x (List.mem_append_right _ hx)),rfl⟩

theorem WK{fn:Func}{s:ChangeSpec}{W W':World}{args:Array Value}{ds gs:List (DataW H)}{before:List MemPlace}{tb:TypeId}(hW:DataW.Whole enc P fn.params.toList s.vars false W args.toList ds gs before)
  (hv:s.vars=[])(hfn:s.fn H (ds++gs)=⟨[.lit (.bool true)],ds,[]⟩)(hres:fn.resultTypes= #[tb])(hb:P.underlying tb=some .bool)(hl:laidOutB P=true)(hr:∀t∈fn.params.toList,P.readableRec t=true∧t<P.types.size)
  (hbel:Below W.heap.size W W'):s.post enc P fn false true false false W args (.bool true) W':=by
 have hlt:=fun p hp=>hW.lt p hp
 have hW':=hW
 obtain⟨p,q,h1,h2,rfl,h3,h4⟩:=hW
 refine⟨ds,gs,p++q,[],p,[],hW', ?_, ?_, ?_,hbel.frame _,fun h=>by cases h⟩
 ·rw[hfn,hres]
  show DataW.TrodAll enc P W' _ _ _ [tb] [.bool true] [.lit (.bool true)] []
  exact⟨[],[],RowKit.shut_bool hb true,rfl,rfl⟩
 ·rw[hfn]
  exact Fe hl hbel hr h1 (fun x hx=>hlt x (List.mem_append_left _ hx))
 ·rw[hfn,hv];rfl

def Ctx.start(W:World):Ctx:={w:=W,H:=.empty,pl:=fun _=>⟨0,0,0,0,false⟩,dW:=fun _=>False,kq:=[],tK:=0}

theorem Et(W:World)(b:Nat):¬(Ctx.start W).own b:=GH rfl rfl b

theorem Ua(W:World):Inv (.of W) (Ctx.start W) where
 fresh id es h:=by simp[Ctx.start,bg.empty,bg.get,lk] at h
 nil id es h:=by simp[Ctx.start,bg.empty,bg.get,lk] at h
 obj id es h:=by simp[Ctx.start,bg.empty,bg.get,lk] at h
 sep i1 i2 e1 e2 h:=by simp[Ctx.start,bg.empty,bg.get,lk] at h
 dW id es h:=by simp[Ctx.start,bg.empty,bg.get,lk] at h
 tB id s h:=by simp[Ctx.start,bg.empty,bg.sz,lk] at h
 fU _ h:=h.elim
 gC _ h:=h.elim
 size:=Nat.le_refl _
 lK b _:=⟨rfl,Et W b⟩
 gl l r h:=by simp[Ctx.start,bg.empty,lk] at h
 kq d h:=by simp[Ctx.start] at h
 D_:=.nil
 ET:=fun _ _=>rfl
 gT b h:=absurd (.inr h) (Et W b)
 uh:=rfl
 iU:=Nat.zero_le _
 gh:=trivial

theorem T_(W:World)(b:Nat):¬(Ctx.start W).bad b:=by
 rintro(h|h)
 ·exact Et W b h
 ·exact h

theorem Lj{W:World}{base:Nat}{t:TypeId}{v:Value}{n:Nat}(hp:uz P n t=true)(h:Value.okWide P W .any base t v):v.oneCell'=true∨∃cs,v=.agg cs∧((∃fs,P.underlying t=some (.struct fs))∨∃m e,P.underlying t=some (.array m e)):=by
 cases n with
 |zero=>simp[uz] at hp
 |succ n=>
  unfold uz at hp
  split at hp <;> rename_i hu
  ·left;cases v <;> first|rfl|(simp[Value.okWide,Cell.okWide,Cell.ok,hu] at h)
  ·left;cases v <;> first|rfl|(simp[Value.okWide,Cell.okWide,Cell.ok,hu] at h)
  ·left;cases v <;> first|rfl|(simp[Value.okWide,Cell.okWide,Cell.ok,hu] at h)
  ·left;cases v <;> first|rfl|(simp[Value.okWide,Cell.okWide,Cell.ok,hu] at h)
  ·right
   simp only[Value.okWide,hu] at h
   obtain⟨cs,rfl,_⟩:=h
   exact⟨cs,rfl,.inl ⟨_,hu⟩⟩
  ·right
   simp only[Value.okWide,hu] at h
   obtain⟨cs,rfl,_⟩:=h
   exact⟨cs,rfl,.inr ⟨_,_,hu⟩⟩
  ·cases hp

theorem YT{W:World}{base:Nat}{t:TypeId}{v:Value}{d:DataW H}{ps:List MemPlace}(n:Nat)(hp:uz P n t=true)(h:DataW.Trod enc P W 0 (fun _=>true) true t v d ps)(hform:Value.okWide P W .any base t v):dR (Ctx.start W) (xh d) v:=by
 obtain⟨fuel,hf⟩:=h
 have hr:=Lp (C:=Ctx.start W) rfl (T_ W) fuel n t v.cells.toList d ps hp hf
 rcases Lj hp hform with h1|⟨cs,rfl,hu⟩
 ·rw[cells_one h1] at hr hf
  obtain⟨c,g1,g2⟩:=hr.rep 0 ((xh d).flat.getD 0 .any) (by
   have:=hr.len
   simp only[List.length_cons,List.length_nil] at this
   rw[List.getD_eq_getElem?_getD]
   cases hq:(xh d).flat with
   |nil=>rw[hq] at this;simp at this
   |cons _ _=>rfl)
  simp only[List.getElem?_cons_zero,Option.some.injEq] at g1
  subst g1
  -- the datum is no aggregate
  have hd:(xh d).flat=[xh d]:=by
   cases fuel with
   |zero=>simp[DataW.trod] at hf
   |succ fuel=>
    cases n with
    |zero=>simp[uz] at hp
    |succ n=>
     unfold uz at hp
     split at hp
     ·rename_i hu;obtain⟨b,_,rfl⟩:=A2 hu hf;rfl
     ·rename_i k hu;obtain⟨q,_,rfl,_⟩:=Ch hu hf;rfl
     ·rename_i hu;obtain⟨q,_,rfl⟩:=yG hu hf;rfl
     ·rename_i e hu
      rcases Aa hu hf with⟨_,rfl⟩|⟨_,_,_,_,_,_,rfl,_⟩ <;> rfl
     ·rename_i fs hu
      simp only[Value.okWide,hu] at hform
      obtain⟨cs,rfl,_⟩:=hform
      simp[Value.oneCell'] at h1
     ·rename_i m e hu
      simp only[Value.okWide,hu] at hform
      obtain⟨cs,rfl,_⟩:=hform
      simp[Value.oneCell'] at h1
     ·cases hp
  rw[hd] at g2
  exact g2
 ·have hagg:∃l,xh d=.agg l:=by
   cases fuel with
   |zero=>simp[DataW.trod] at hf
   |succ fuel=>
    rcases hu with⟨fs,hu⟩|⟨m,e,hu⟩
    ·obtain⟨xs,_,rfl,_⟩:=yH hu hf;exact⟨_,rfl⟩
    ·obtain⟨xs,_,rfl,_⟩:=DX hu hf;exact⟨_,rfl⟩
  obtain⟨l,hl⟩:=hagg
  rw[hl] at hr ⊢
  have hlen:=hr.len
  simp only[flat_agg,Value.cells,Array.length_toList] at hlen
  refine .agg l cs hlen.symm (fun k u hk=>hr.one u (by simp[Value.cells];exact Array.mem_of_getElem? hk)) (fun k x hx=> ?_)
  obtain⟨c,g1,g2⟩:=hr.rep k x hx
  have g1':cs[k]? =some c:=by simpa [Value.cells] using g1
  have hlt:=(Array.getElem?_eq_some_iff.1 g1').1
  have:cs.getD k undef=c:=by have:=p8 hlt;rw[g1'] at this;exact(Option.some.inj this).symm
  rw[this];exact g2


def S2(P:Program)(t:TypeId){α:Type}(f:α→AV)(ok:α→Prop):Prop:=
 ∀{H:Type} (enc:TypeId×Value→H) (w:World) (spare:Nat→Bool) (held:Bool) (fuel:Nat) (cs:List Value) (d:DataW H) (ps:List MemPlace),DataW.trod enc P w 0 spare held fuel t cs=some (d,ps)→∃x,ok x∧xh d=f x

theorem u0{t:TypeId}(hu:P.underlying t=some (.int .i64)):S2 P t J (fun n=> -9223372036854775808≤n∧n≤9223372036854775807):=by
 intro H enc w spare held fuel cs d ps h
 cases fuel with
 |zero=>simp[DataW.trod] at h
 |succ fuel=>
  obtain⟨n,_,rfl,hwf⟩:=Ch hu h
  simp[Lit.wf,IntKind.min,IntKind.max,IntKind.signed,IntKind.bits] at hwf
  exact⟨n,by omega,rfl⟩

theorem UW{t:TypeId}(hu:P.underlying t=some .bool):S2 P t bl (fun _=>True):=by
 intro H enc w spare held fuel cs d ps h
 cases fuel with
 |zero=>simp[DataW.trod] at h
 |succ fuel=>
  obtain⟨n,_,rfl⟩:=A2 hu h
  exact⟨n,trivial,rfl⟩

theorem vq{t e:TypeId}{α:Type}{f:α→AV}{ok:α→Prop}(hu:P.underlying t=some (.slice e))(he:S2 P e f ok):S2 P t (fun l:List α=>AV.sl (l.map f)) (fun l=>(∀x∈l,ok x)∧l.length≤9223372036854775807):=by
 intro H enc w spare held fuel cs d ps h
 cases fuel with
 |zero=>simp[DataW.trod] at h
 |succ fuel=>
  rcases Aa hu h with⟨_,rfl⟩|⟨a,len,cap,elems,rest,_,rfl,hlc,hmx,hm⟩
  ·exact⟨[],by simp,rfl⟩
  ·obtain⟨l1,l2⟩:=mapM_some _ _ _ hm
   have key:∀(es:List (DataW H×List MemPlace)),(∀z∈es,∃x,ok x∧xh z.1=f x)→∃l:List α,(∀x∈l,ok x)∧l.length=es.length∧(es.map (·.1)).map xh=l.map f:=by
    intro es
    induction es with
    |nil=>intro _;exact⟨[],by simp,rfl,rfl⟩
    |cons z es ih=>
     intro hz
     obtain⟨x,g1,g2⟩:=hz z (List.mem_cons_self ..)
     obtain⟨l,g3,g4,g5⟩:=ih (fun y hy=>hz y (List.mem_cons_of_mem _ hy))
     refine⟨x::l, ?_,by simp[g4],by simp only[List.map_cons,g2,g5]⟩
     intro y hy
     rcases List.mem_cons.1 hy with rfl|hy
     ·exact g1
     ·exact g3 y hy
   obtain⟨l,g1,g2,g3⟩:=key elems (fun z hz=>by
    obtain⟨k,hk⟩:=List.getElem?_of_mem hz
    have hlt:=(List.getElem?_eq_some_iff.1 hk).1
    rw[l1] at hlt
    have hlt':k<len:=by simpa using hlt
    obtain⟨y,q1,q2⟩:=l2 k k (by simp[hlt'])
    rw[hk] at q1;cases q1
    obtain⟨seg,_,q4⟩:=Option.bind_eq_some_iff.1 q2
    exact he enc w spare held fuel seg z.1 z.2 q4)
   refine⟨l,⟨g1, ?_⟩, ?_⟩
   ·rw[g2,l1]
    have:cap≤9223372036854775807:=hmx
    simp;omega
   ·simp only[xh,LR,g3]

theorem BP{t:TypeId}{fs:Array Field}(hu:P.underlying t=some (.struct fs)){H:Type}{enc:TypeId×Value→H}{w:World}{spare:Nat→Bool}{held:Bool}{fuel:Nat}{cs:List Value}{d:DataW H}{ps:List MemPlace}(h:DataW.trod enc P w 0 spare held fuel t cs=some (d,ps)):
  ∃fuel' xs,xh d=.agg (qL (xs.map (·.1)))∧fs.toList.mapM (fun f=>DataW.trod enc P w 0 spare held fuel' f.type ((cs.drop f.offset).take (P.cellsOf f.type)))=some xs:=by
 cases fuel with
 |zero=>simp[DataW.trod] at h
 |succ fuel=>
  obtain⟨xs,_,rfl,hm⟩:=yH hu h
  exact⟨fuel,xs,rfl,hm⟩

theorem TB{f:FuncId}{fn:Func}{s:ChangeSpec}{W:World}{args:Array Value}{ds gs:List (DataW H)}{before:List MemPlace}{tb:TypeId}{xs:List AV}(hf:Ey P W f xs (bl true))(hsz:args.size=xs.length)
  (hrep:∀(k:Nat) (x:AV),xs[k]? =some x→dR (Ctx.start W) x (args.getD k undef))(hW:DataW.Whole enc P fn.params.toList s.vars false W args.toList ds gs before)
  (hv:s.vars=[])(hfn:s.fn H (ds++gs)=⟨[.lit (.bool true)],ds,[]⟩)(hres:fn.resultTypes= #[tb])(hb:P.underlying tb=some .bool)(hl:laidOutB P=true)(hr:∀t∈fn.params.toList,P.readableRec t=true∧t<P.types.size):
  Calls P f args W fun e W'=>∃v,e=.returned v∧s.post enc P fn false true false false W args v W':=by
 refine(hf.runs (Ctx.start W) args (Ua W) rfl rfl hsz hrep).mono ?_
 rintro e W' ⟨v,C',rfl,rfl,hE,_,hv'⟩
 obtain rfl:=fc (v:=.bool true) rfl hv'
 exact⟨_,rfl,WK hW hv hfn hres hb hl hr (y6 hE (Et W))⟩

end
end Go.Av
end

section
/- From a row's argument to what a proof sees of it. -/
namespace Go.Av
open Go.ChangeShapes Go.WideShapes Go.ChangeAt Go.RowKit
variable {P:Program} {H:Type} {enc:TypeId×Value→H}

theorem MG{W:World}{base:Nat}{t:TypeId}{v:Value}{d:DataW H}{ps:List MemPlace}{α:Type}{f:α→AV}{ok:α→Prop}(n:Nat)(hp:uz P n t=true)(hd:S2 P t f ok)(h:DataW.Trod enc P W 0 (fun _=>true) true t v d ps)(hform:Value.okWide P W .any base t v):∃x,ok x∧dR (Ctx.start W) (f x) v:=by
 have h1:=YT n hp h hform
 obtain⟨fuel,hf⟩:=h
 obtain⟨x,h2,h3⟩:=hd enc W _ _ fuel _ d ps hf
 exact⟨x,h2,h3▸h1⟩

theorem TL{fn:Func}(h:(fn.params.toList.all fun t=>P.readableRec t&&decide (t<P.types.size))=true):∀t∈fn.params.toList,P.readableRec t=true∧t<P.types.size:=fun t ht=>by
 have:=List.all_eq_true.1 h t ht
 simpa using this

theorem amO{C:Ctx}{x0 x1 x2:AV}{v0 v1 v2:Value}(h0:dR C x0 v0)(h1:dR C x1 v1)(h2:dR C x2 v2):∀(k:Nat) (x:AV),[x0,x1,x2][k]? =some x→dR C x (#[v0,v1,v2].getD k undef):=fun k x h=>by
 match k with
 |0=>cases h;exact h0
 |1=>cases h;exact h1
 |2=>cases h;exact h2
 |k+3=>cases h
end Go.Av
end

section
/- How a string among the arguments is read. -/
namespace Go.Av
open Go.ChangeShapes Go.WideShapes Go.ChangeAt Go.RowKit
variable {P:Program}
theorem Y1{t:TypeId}(hu:P.underlying t=some .string):S2 P t (fun s:List UInt8=>eP s) (fun _=>True):=by
 intro H enc w spare held fuel cs d ps h
 cases fuel with
 |zero=>simp[DataW.trod] at h
 |succ fuel=>
  obtain⟨s,_,rfl⟩:=yG hu h
  exact⟨s.data.toList,trivial,rfl⟩
end Go.Av
end

namespace Go.Av
theorem aT{P:Program}{W0:dK}{N:Nat}{st:St}{Q:Exit→St→Prop}{c:Operand}{x y:Code}{t:Bool}{α:Type}{A B o:α}(hc:bz (lk st.fr) c=some (.imm (.bool t)))(h:(if t=true then A else B)=o)(ht:A=o→sN P W0 N x st Q)(hf:B=o→sN P W0 N y st Q):sN P W0 N (.cond c x y) st Q:=
 zz hc (fun e=>ht (Sh.cg h e)) (fun e=>hf (Sh.b_ h e))
theorem D{α:Type}{a b:α}(h:some a=some b):a=b:=Option.some.inj h
theorem b9{α β:Type}{a:α}{f:α→Option β}:(some a).bind f=f a:=rfl
theorem iC:(false=true)=False:=Bool.false_eq_true
theorem Z.{u}{α:Sort u}{a:α}:a=a:=rfl
theorem Y{P:Program}{W0:dK}{N:Nat}{c:Code}{st st':St}{Q:Exit→St→Prop}(hw:aU W0 N st st')(h:sN P W0 N c st' Q):sN P W0 N c st Q:=sN.Yh hw h
end Go.Av
