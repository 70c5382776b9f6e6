/- What a proof sees of a run, and the rules by which it goes through a text. -/
import Derived.Test.YtleihjegenjacaaGreatBase1
import Derived.Laws.StructEq
import Derived.Laws.BytesString
import Derived.Sort.Grow
import Derived.Lib.SlicesCompact
import Derived.Lib.Slices
import Derived.RecoverIn
import Derived.Shelf.SlSortCmp.NoneTotal
import Derived.Carry
import Derived.ProofKit
import Derived.OpenShut
import Derived.Lib.LaidTab
set_option linter.unusedSimpArgs false
set_option linter.unusedVariables false
section
/- Strings, and integers of few bits. -/
namespace Go.Sh
def Kr(k:IntKind)(a b:Int):Int:=k.wrap ((BitVec.ofInt k.bits a|||BitVec.ofInt k.bits b).toNat:Int)
def VV(k:IntKind)(a b:Int):Int:=k.wrap ((BitVec.ofInt k.bits a&&&BitVec.ofInt k.bits b).toNat:Int)
def ZQ(k:IntKind)(a n:Int):Option Int:=if n<0 then none else some (k.wrap (a*2 ^ (Min.min n.toNat k.bits)))
def Wo(k:IntKind)(a n:Int):Option Int:=if n<0 then none else some (a.fdiv (2 ^ (Min.min n.toNat k.bits)))
def str(l:List Int):List UInt8:=l.map fun n=>UInt8.ofNat n.toNat
end Go.Sh
namespace Go.Av
open Go
abbrev jE(s:List UInt8):AV:=.imm (.string ⟨s.toArray⟩)
section
variable {P:Program} {W0:eo} {fr:Fr} {H:bu} {o:Oper}

theorem Kg{t t':TypeId}{x y:Operand}{k:IntKind}{a b:Int}(ho:o.op=.binOp .or t x y t')(hx:bH fr x=some (.imm (.int k a)))(hy:bH fr y=some (.imm (.int k b))):fO P W0 o fr H (.imm (.int k (Sh.Kr k a b))) H:=
 sk ho hx hy (fun w=>by simp only[binOp,ne_eq,not_true_eq_false,if_false,Op.intBits];rfl) rfl
theorem Sa{t t':TypeId}{x y:Operand}{k:IntKind}{a b:Int}(ho:o.op=.binOp .and t x y t')(hx:bH fr x=some (.imm (.int k a)))(hy:bH fr y=some (.imm (.int k b))):fO P W0 o fr H (.imm (.int k (Sh.VV k a b))) H:=
 sk ho hx hy (fun w=>by simp only[binOp,ne_eq,not_true_eq_false,if_false,Op.intBits];rfl) rfl
theorem aaB{t t':TypeId}{x y:Operand}{k k':IntKind}{a n r:Int}(h:Sh.ZQ k a n=some r)(ho:o.op=.binOp .shl t x y t')(hx:bH fr x=some (.imm (.int k a)))(hy:bH fr y=some (.imm (.int k' n))):fO P W0 o fr H (.imm (.int k r)) H:=
 JD ho hx hy (fun w=>by
  unfold Sh.ZQ at h
  split at h
  ·cases h
  ·rename_i hn
   cases h
   simp only[binOp,Op.shift,hn,if_false]
   rfl) rfl
theorem U8{t t':TypeId}{x y:Operand}{k k':IntKind}{a n r:Int}(h:Sh.Wo k a n=some r)(ho:o.op=.binOp .shr t x y t')(hx:bH fr x=some (.imm (.int k a)))(hy:bH fr y=some (.imm (.int k' n))):fO P W0 o fr H (.imm (.int k r)) H:=
 JD ho hx hy (fun w=>by
  unfold Sh.Wo at h
  split at h
  ·cases h
  ·rename_i hn
   cases h
   simp only[binOp,Op.shift,hn,if_false]
   rfl) rfl

theorem LQ(a b:List UInt8):((⟨a.toArray⟩:ByteArray).toList==(⟨b.toArray⟩:ByteArray).toList)=decide (a=b):=by
 rw[ByteArray.toList_eq,ByteArray.toList_eq]
 by_cases h:a=b <;> simp[h]
theorem II(s:List UInt8):(⟨s.toArray⟩:ByteArray).size=s.length:=by show s.toArray.size=_;simp
theorem An{C:Ctx}{s:List UInt8}{v:Value}(h:eB C (jE s) v):v=.string ⟨s.toArray⟩:=fq (v:=.string ⟨s.toArray⟩) rfl h

theorem U7{t t':TypeId}{x y:Operand}{a b:List UInt8}(ho:o.op=.binOp .eql t x y t')(hx:bH fr x=some (jE a))(hy:bH fr y=some (jE b)):fO P W0 o fr H (bl (decide (a=b))) H:=
 .fo fun C e _ _ hr=>by
  have e1:=An (bV (hr x (by simp[ho,Op.operands])) hx)
  have e2:=An (bV (hr y (by simp[ho,Op.operands])) hy)
  refine⟨.bool (decide (a=b)), ?_,.imm _ rfl⟩
  have hg:(eqGuard .eql t x y (.string ⟨a.toArray⟩) (.string ⟨b.toArray⟩)).run P C.w=.ok () C.w:=by
   unfold eqGuard
   split <;> rfl
  simp only[execOp,ho,e1,e2,Sem.run_bind,hg,Result.andThen_ok,binOp,Op.stringOp,LQ]
  rfl
theorem U9{t t':TypeId}{x y:Operand}{a b:List UInt8}(ho:o.op=.binOp .neq t x y t')(hx:bH fr x=some (jE a))(hy:bH fr y=some (jE b)):fO P W0 o fr H (bl (!decide (a=b))) H:=
 .fo fun C e _ _ hr=>by
  have e1:=An (bV (hr x (by simp[ho,Op.operands])) hx)
  have e2:=An (bV (hr y (by simp[ho,Op.operands])) hy)
  refine⟨.bool (!decide (a=b)), ?_,.imm _ rfl⟩
  have hg:(eqGuard .neq t x y (.string ⟨a.toArray⟩) (.string ⟨b.toArray⟩)).run P C.w=.ok () C.w:=by
   unfold eqGuard
   split <;> rfl
  simp only[execOp,ho,e1,e2,Sem.run_bind,hg,Result.andThen_ok,binOp,Op.stringOp,LQ]
  rfl
theorem RB{t:TypeId}{x:Operand}{s:List UInt8}(ho:o.op=.call {callee:=.builtin .len,args:= #[x],argTypes:= #[t]})(hx:bH fr x=some (jE s))(hu:P.underlying t=some .string):fO P W0 o fr H (J (Sh.len s)) H:=
 .fo fun C a _ _ hr=>by
  have e1:=An (bV (hr x (by simp[ho,Op.operands,Call.operands])) hx)
  obtain⟨cs,hb⟩:=tH (P:=P) ho a
  refine⟨.int .i64 (Sh.len s), ?_,.imm _ rfl⟩
  rw[hb]
  simp[builtin,Builtin.len_,e1,run_underlying hu,goInt,Sh.len,II]
theorem Cy{t:TypeId}{x y:Operand}{ki:IntKind}{s:List UInt8}{i:Int}{b:UInt8}(h:Sh.idx s i=some b)(ho:o.op=.index t x y)(hx:bH fr x=some (jE s))(hy:bH fr y=some (.imm (.int ki i)))(hu:P.underlying t=some .string):fO P W0 o fr H (kA .u8 (b.toNat:Int)) H:=
 .fo fun C a _ _ hr=>by
  have e1:=An (bV (hr x (by simp[ho,Op.operands])) hx)
  have e2:=fq (v:=.int ki i) rfl (bV (hr y (by simp[ho,Op.operands])) hy)
  refine⟨.int .u8 b.toNat, ?_,.imm _ rfl⟩
  unfold Sh.idx at h
  split at h
  ·rename_i h0
   have hb:(⟨s.toArray⟩:ByteArray)[i.toNat]? =some b:=by
    obtain⟨hlt,hv⟩:=List.getElem?_eq_some_iff.1 h
    rw[getElem?_pos (⟨s.toArray⟩:ByteArray) i.toNat (by rw[II];exact hlt)]
    rw[←hv];rfl
   simp[execOp,ho,e1,e2,Instr.index,asIntOf,run_underlying hu,h0,hb]
  ·cases h
theorem NR(s:List UInt8)(l h:Nat):(⟨s.toArray⟩:ByteArray).extract l h=⟨((s.drop l).take (h - l)).toArray⟩:=by
 apply ByteArray.ext
 simp[ByteArray.data_extract]
theorem RC{t:TypeId}{x y:Operand}{ki:IntKind}{s r:List UInt8}{i:Int}(h:Sh.sub s i (Sh.len s)=some r)(ho:o.op=.slice t x (some y) none none)(hx:bH fr x=some (jE s))(hy:bH fr y=some (.imm (.int ki i)))(hu:P.underlying t=some .string):fO P W0 o fr H (jE r) H:=
 .fo fun C a _ _ hr=>by
  have e1:=An (bV (hr x (by simp[ho,Op.operands])) hx)
  have e2:=fq (v:=.int ki i) rfl (bV (hr y (by simp[ho,Op.operands])) hy)
  obtain⟨m,k,rfl,hk,h1,h2,rfl⟩:=Sh.IJ h
  have hks:k=s.length:=by simp only[Sh.len] at hk;omega
  subst hks
  refine⟨.string ⟨((s.drop m).take (s.length - m)).toArray⟩, ?_,.imm _ rfl⟩
  simp[execOp,ho,e1,e2,Instr.sliceAt,Instr.slice,Instr.sliceBounds,Instr.sliceBound,asIntOf,run_underlying hu,II,NR]
  intro h;omega
theorem fold_push(l:List Int):∀s:ByteArray,(l.foldl (fun r n=>r.push (UInt8.ofNat n.toNat)) s)=⟨s.data++(Sh.str l).toArray⟩:=by
 induction l with
 |nil=>intro s;apply ByteArray.ext;simp[Sh.str]
 |cons n l ih=>
  intro s
  rw[List.foldl_cons,ih]
  apply ByteArray.ext
  simp[Sh.str,ByteArray.push]
theorem Pp{src dst e:TypeId}{x:Operand}{ax:AV}{l:List Int}(ho:o.op=.convert src dst x)(hx:bH fr x=some ax)(hl:ax.elems H=some (l.map (kA .u8)))(hs:P.underlying src=some (.slice e))(he:P.underlying e=some (.int .u8))(hd:P.underlying dst=some .string):fO P W0 o fr H (jE (Sh.str l)) H:=
 .fo fun C a hI hH hr=>by
  subst hH
  obtain⟨ad,cap,e1,e2,e3⟩:=wF hI (bV (hr x (by simp[ho,Op.operands])) hx) hl
  refine⟨.string ⟨(Sh.str l).toArray⟩, ?_,.imm _ rfl⟩
  have key:(Conv.bytesToString (.slice ad (l.map (kA .u8)).length cap)).run P C.w=.ok (.string ⟨(Sh.str l).toArray⟩) C.w:=by
   have fin:∀(b:Addr),ad=some b→(loadCells b (l.map (kA .u8)).length).run P C.w=.ok (l.map (Value.int .u8)).toArray C.w→(Conv.bytesToString (.slice ad (l.map (kA .u8)).length cap)).run P C.w=.ok (.string ⟨(Sh.str l).toArray⟩) C.w:=by
    rintro b rfl h
    rw[run_bytesToString C.w b _ cap l h,fold_push]
    simp
   by_cases hne:l=[]
   ·subst hne
    cases ad with
    |none=>rfl
    |some b=>exact fin b rfl (by simpa using run_loadCells_list (P:=P) (w:=C.w) b [] (fun j v h=>by simp at h))
   ·obtain⟨b,off,h1,vs,h2,h3,h4⟩:=Reads.cells (s:=1) e3 (by simpa using hne) (by intro y hy;obtain⟨n,_,rfl⟩:=List.mem_map.1 hy;rfl)
    refine fin _ h1 ?_
    have hvs:vs=l.map (Value.int .u8):=by
     apply List.ext_getElem?
     intro i
     by_cases hi:i<l.length
     ·have h5:(l.map (kA .u8))[i]? =some (kA .u8 l[i]):=by simp[hi]
      obtain⟨v,h6,h7⟩:=h4 i 0 _ _ h5 rfl
      rw[Nat.mul_one,Nat.add_zero] at h6
      rw[h6,fq (v:=.int .u8 l[i]) rfl h7]
      simp[hi]
     ·rw[List.getElem?_eq_none (by rw[h2];simpa using hi),List.getElem?_eq_none (by simpa using hi)]
    have:=run_loadCells_list (P:=P) (w:=C.w) ⟨b,off,none⟩ vs (fun j v hj=>(h3 j v hj).1)
    rw[hvs] at this
    simpa using this
  simp only[execOp,ho,e1,Sem.run_bind,run_convert_bytes_string C.w src dst e ad _ cap hs he hd,key,Result.andThen_ok]
  rfl
end
end Go.Av
end

section
/- A struct with a table of numbers behind its first cell. -/
namespace Go.Sh
def lim(n:Nat)(i:Int):Option Nat:=if 0≤i∧i<n then some i.toNat else none
def IP{α:Type}(l:List α)(k:Nat):Option α:=l[k]?
def RD{α:Type}(l:List α)(k:Nat)(x:α):Option (List α):=if k<l.length then some (l.set k x) else none
theorem Nf{n:Nat}{i:Int}{k:Nat}(h:lim n i=some k):i=k∧k<n:=by
 unfold lim at h
 split at h
 ·simp only[Option.some.injEq] at h;omega
 ·cases h
theorem RE{α:Type}{l L:List α}{k:Nat}{x:α}(h:RD l k x=some L):k<l.length∧L=l.set k x:=by
 unfold RD at h
 split at h
 ·cases h;exact⟨by assumption,rfl⟩
 ·cases h
end Go.Sh
namespace Go.Av
open Go
abbrev dU(hd:AV)(L:List Int):AV:=.agg (hd::L.map J)
section
variable {P:Program} {W0:eo} {fr:Fr} {H:bu} {o:Oper}

theorem qh{t:TypeId}{N s:Nat}{x i:Operand}{id p j:Nat}{es:List AV}{kd:IntKind}{n:Int}{m:Nat}(h:Sh.lim N n=some m)(ho:o.op=.indexAddr t x i)(hx:bH fr x=some (.ref id p j))(hid:H.get id=some es)(hi:bH fr i=some (.imm (.int kd n)))
  (ht:tv P t=some (N,s)):fO P W0 o fr H (.ref id p (j+m*s)) H:=
 Eu ho hx hid hi ht (Sh.Nf h).1 (Sh.Nf h).2
theorem Ej{t:TypeId}{xo:Operand}{id j k:Nat}{hd:AV}{L:List Int}{x:Int}(h:Sh.IP L k=some x)(hj:j=1+k)(ho:o.op=.load t xo)(hx:bH fr xo=some (.ref id 0 j))(hid:H.get id=some [dU hd L])(ht:xx P t=some (1,false)):fO P W0 o fr H (J x) H:=
 aJ ho hx hid (i:=0) (e:=dU hd L) rfl ht (by
  subst hj
  unfold Sh.IP at h
  simp[vB,AV.flat,Nat.add_comm 1 k,h])
theorem NW{t:TypeId}{xo yo:Operand}{id j k:Nat}{hd:AV}{L L':List Int}{x:Int}(h:Sh.RD L k x=some L')(hj:j=1+k)(ho:o.op=.store t xo yo)(hx:bH fr xo=some (.ref id 0 j))(hy:bH fr yo=some (J x))(hid:H.get id=some [dU hd L])(ht:xx P t=some (1,false)):
  fO P W0 o fr H .any (H.set id [dU hd L']):=by
 obtain⟨hk,rfl⟩:=Sh.RE h
 subst hj
 have:=aY (P:=P) (W0:=W0) (o:=o) (fr:=fr) (H:=H) (e:=dU hd L) (e':=dU hd (L.set k x)) (i:=0) ho hx hy rfl hid rfl ht rfl (by simp[AV.flat];omega) (by
  simp only[AV.flat,Nat.add_comm 1 k,List.take_succ_cons,List.cons_append,List.drop_succ_cons,List.cons.injEq,true_and]
  rw[←List.map_take,←List.map_drop]
  have:L.set k x=L.take k++[x]++L.drop (k+1):=by
   rw[List.set_eq_take_append_cons_drop,if_pos hk];simp
  rw[this];simp)
 exact this
theorem NU{t:TypeId}{N:Nat}{xo:Operand}{hd:AV}(ho:o.op=.build t #[(0,xo)])(hx:bH fr xo=some (.agg [hd]))(ht:Kq P t=some ([(0,1),(1,N)],.slice none 0 0::List.replicate N (.int .i64 0))):fO P W0 o fr H (dU hd (List.replicate N 0)) H:=by
 refine cA (xs:=[(0,.agg [hd])]) ho ht (by simp[Value.oneCell']) (by simp[hx]) ?_
 simp[JL,AV.flat,AV.eY]
end
end Go.Av
end

section
/- Sorting numbers, and leaving out what comes twice: by what is known of the library's functions. -/
namespace Go.Av
open Go.RowKit (Below)

structure R_ (P:Program) (f:FuncId):Prop where
 call:lE P f
 no:∀(p:Option Addr) (cap:Nat) (w:World),Calls P f #[.slice p 0 cap] w fun e w'=>e=.returned (.tuple #[])∧w'=w
 is:∀(gf off cap:Nat) (zs:List Int) (w:World),Sort.Holds (Value.int .i64) w gf off zs.toArray→gf<w.heap.size→zs.length<4611686018427387904→
  Calls P f #[.slice (some ⟨gf,off,none⟩) zs.length cap] w fun e w'=>
   e=.returned (.tuple #[])∧∃n os,w'=Sort.grow (Sort.putRow (Value.int .i64) (Sort.ahead w n) gf off (zs.mergeSort fun x y=>decide (x≤y)).toArray) os

def Sh.put(x:Int):List Int→List Int
 |[]=>[x]
 |y::l=>if x≤y then x::y::l else y::Sh.put x l
def Sh.Cg:List Int→List Int
 |[]=>[]
 |x::l=>Sh.put x (Sh.Cg l)
theorem Sh.Iq(x:Int):∀l:List Int,(Sh.put x l).Perm (x::l)
 |[]=>.refl _
 |y::l=>by
  unfold Sh.put
  split
  ·exact .refl _
  ·exact((Sh.Iq x l).cons y).trans (.swap x y l)
theorem Sh.ta:∀l:List Int,(Sh.Cg l).Perm l
 |[]=>.refl _
 |x::l=>(Sh.Iq x _).trans ((Sh.ta l).cons x)
theorem Sh.Ir(x:Int):∀l:List Int,l.Pairwise (· ≤ ·)→(Sh.put x l).Pairwise (· ≤ ·)
 |[],_=>by simp[Sh.put]
 |y::l,h=>by
  unfold Sh.put
  rw[List.pairwise_cons] at h
  split
  ·rename_i hxy
   rw[List.pairwise_cons,List.pairwise_cons]
   refine⟨fun z hz=> ?_,h⟩
   rcases List.mem_cons.1 hz with rfl|hz
   ·exact hxy
   ·exact Int.le_trans hxy (h.1 z hz)
  ·rename_i hxy
   rw[List.pairwise_cons]
   refine⟨fun z hz=> ?_,Sh.Ir x l h.2⟩
   rcases List.mem_cons.1 ((Sh.Iq x l).mem_iff.1 hz) with rfl|hz
   ·omega
   ·exact h.1 z hz
theorem Sh.z8:∀l:List Int,(Sh.Cg l).Pairwise (· ≤ ·)
 |[]=>.nil
 |x::l=>Sh.Ir x _ (Sh.z8 l)
theorem Sh.Ee:∀{a b:List Int},a.Perm b→a.Pairwise (· ≤ ·)→b.Pairwise (· ≤ ·)→a=b
 |[],b,h,_,_=>(List.nil_perm.1 h).symm
 |x::a,[],h,_,_=>absurd h.symm (by simp)
 |x::a,y::b,h,ha,hb=>by
  have ha':=List.pairwise_cons.1 ha
  have hb':=List.pairwise_cons.1 hb
  have hxy:x=y:=by
   have h1:y≤x:=by
    rcases List.mem_cons.1 (h.mem_iff.1 (List.mem_cons_self ..)) with e|e
    ·omega
    ·exact hb'.1 x e
   have h2:x≤y:=by
    rcases List.mem_cons.1 (h.mem_iff.2 (List.mem_cons_self ..)) with e|e
    ·omega
    ·exact ha'.1 y e
   omega
  subst hxy
  rw[Sh.Ee (List.perm_cons x|>.1 h) ha'.2 hb'.2]
theorem Sh.TV(l:List Int):Sh.Cg l=l.mergeSort fun x y=>decide (x≤y):=by
 have h:=List.pairwise_mergeSort (le:=fun x y:Int=>decide (x≤y)) (fun a b c h1 h2=>by simp at h1 h2 ⊢;omega) (fun a b=>by simp;omega) l
 exact Sh.Ee ((Sh.ta l).trans (List.mergeSort_perm l _).symm) (Sh.z8 l) (h.imp fun{a b} hab=>by simpa using hab)
def Sh.sort(l:List Int):Option (List Int):=if l.length<4611686018427387904 then some (Sh.Cg l) else none
theorem Sh.J7{l L:List Int}(h:Sh.sort l=some L):l.length<4611686018427387904∧L=l.mergeSort fun x y=>decide (x≤y):=by
 unfold Sh.sort at h
 split at h
 ·cases h;exact⟨by assumption,Sh.TV l⟩
 ·cases h
theorem Sh.U4{l L:List Int}(h:Sh.sort l=some L):L.length=l.length:=by rw[(Sh.J7 h).2];simp
section
variable {P:Program} {W0:eo} {C:Ctx} {fr:Fr} {a:Act} {H:bu} {o:Oper} {N:Nat}

theorem IG(hI:Inv W0 C){id:Nat}(hid:C.H.get id=some []):Ext C {C with H:=C.H.set id []}∧Inv W0 {C with H:=C.H.set id []}:=by
 have hg:∀k e,(C.H.set id []).get k=some e→C.H.get k=some e:=fun k e h=>by
  rw[bu.CS] at h
  split at h
  ·rename_i hk;subst hk;cases h;exact hid
  ·exact h
 have ho':∀b,Ctx.own {C with H:=C.H.set id []} b→C.own b:=by
  rintro b (⟨k,e,h1,h2,h3⟩|h)
  ·exact .inl ⟨k,e,hg k e h1,h2,h3⟩
  ·exact .inr h
 have hE:Ext C {C with H:=C.H.set id []}:=⟨.refl _ _,fun _ _ _=>rfl,fun b _ h=>ho' b h,Nat.le_refl _,fun k e _ h=>⟨⟨e,hg k e h⟩,rfl⟩,rfl,rfl,rfl⟩
 exact⟨hE,{
  fresh:=fun k e h=>hI.fresh k e (hg k e h)
  nil:=fun k e h=>hI.nil k e (hg k e h)
  obj:=fun k e h hn=>(hI.obj k e (hg k e h) hn).ext hE rfl
  sep:=fun p q ep eq hp hq=>hI.sep p q ep eq (hg _ _ hp) (hg _ _ hq)
  eC:=fun k e h=>hI.eC k e (hg k e h)
  qH:=fun k s' h=>hI.qH k s' (by rw[←bu.U6 C.H id [] [] hid k];exact h)
  f_:=hI.f_
  gA:=hI.gA
  size:=hI.size
  kK:=fun b h=>⟨(hI.kK b h).1,fun hh=>(hI.kK b h).2 (ho' b hh)⟩
  d_:=hI.d_
  jX:=hI.jX
  CN:=hI.CN
  Dt:=hI.Dt
  gQ:=hI.gQ
  rX:=hI.rX
  iN:=hI.iN
  gh:=W0.st C _ hE.mem hI.iN hI.gh}⟩

theorem QY(hI:Inv W0 C){id:Nat}{l:List Int}(hid:C.H.get id=some (l.map J))(hn:(C.pl id).nil=false)(hs:(C.pl id).sz=1):
  Sort.Holds (Value.int .i64) C.w (C.pl id).gf 0 l.toArray:=by
 intro j hj
 have hj':j<l.length:=by simpa using hj
 obtain⟨arr,el,harr,_⟩:=(hI.obj id _ hid hn).rows (by rw[hs];simp)
 obtain⟨v,h1,h2⟩:=yY hI hid hn (i:=j) (j:=0) (e:=J l[j]) (x:=J l[j]) (by simp[hj']) rfl
 refine⟨?_,by simp[World.frozen?,harr]⟩
 have hv:v=.int .i64 l[j]:=fq rfl h2
 rw[hs] at h1
 have h3:=h1.1
 rw[Nat.mul_one,Nat.add_zero] at h3
 rw[Nat.zero_add,h3,hv]
 simp[hj']

theorem Ux(hI:Inv W0 C){id:Nat}{l L:List Int}(hid:C.H.get id=some (l.map J))(hn:(C.pl id).nil=false)(hs:(C.pl id).sz=1)(hl:L.length=l.length)(n:Nat)(os:Array Obj):
  ∃C',C'.w=Sort.grow (Sort.putRow (Value.int .i64) (Sort.ahead C.w n) (C.pl id).gf 0 L.toArray) os∧Ext C C'∧Inv W0 C'∧C'.H=C.H.set id (L.map J)∧C'.pl=C.pl:=by
 have hO:=hI.obj id _ hid hn
 obtain⟨arr,el,harr,hcap⟩:=hO.rows (by rw[hs];simp)
 have hlen:l.length≤arr.size:=by
  have h1:=hO.n;have h2:=hO.cap
  rw[hs] at hcap;simp at h1;omega
 have hone:∀v∈arr,v.oneCell'=true:=fun v hv=>by
  obtain⟨k,hk⟩:=Array.getElem?_of_mem hv
  exact hO.one k v (by rw[kH harr];exact hk)
 obtain⟨hE,hI'⟩:=wB hI hid hn harr (Sort.putCells (Value.int .i64) 0 L.toArray arr) (by simp[Sort.putCells]) (L.map J) (by simp[hl]) (fun v hv=>by
  obtain⟨k,hk⟩:=Array.getElem?_of_mem hv
  simp only[Sort.putCells,Array.getElem?_mapIdx,Option.map_eq_some_iff] at hk
  obtain⟨u,hu,rfl⟩:=hk
  split
  ·rfl
  ·exact hone u (Array.mem_of_getElem? hu)) (fun i e h=>by
   simp only[List.getElem?_map,Option.map_eq_some_iff] at h
   obtain⟨z,_,rfl⟩:=h
   rw[hs];rfl) (fun i j e x v h1 h2 h3=>by
   simp only[List.getElem?_map,Option.map_eq_some_iff] at h1
   obtain⟨z,hz,rfl⟩:=h1
   have hj:j=0∧x=J z:=by
    cases j with
    |zero=>simp[AV.flat] at h2;exact⟨rfl,h2.symm⟩
    |succ j=>simp[AV.flat] at h2
   obtain⟨rfl,rfl⟩:=hj
   rw[hs,Nat.mul_one,Nat.add_zero] at h3
   simp only[Sort.putCells,Array.getElem?_mapIdx,Option.map_eq_some_iff] at h3
   obtain⟨u,hu,rfl⟩:=h3
   have hi:i<L.length:=(List.getElem?_eq_some_iff.1 hz).1
   have e2:L.toArray[i - 0]! =z:=by
    have:L[i]=z:=by have:=List.getElem?_eq_getElem hi;rw[hz] at this;exact(Option.some.inj this).symm
    simp[hi,this]
   rw[if_pos ⟨Nat.zero_le _,by simpa using hi⟩,e2]
   exact .imm _ rfl)
 have hw:C.w.setRow (C.pl id).gf (Sort.putCells (Value.int .i64) 0 L.toArray arr)=Sort.putRow (Value.int .i64) C.w (C.pl id).gf 0 L.toArray:=by
  unfold Sort.putRow Sort.mapBlock World.setRow
  congr 1
  apply Array.ext_getElem?
  intro k
  simp only[Array.getElem?_modify]
  split
  ·rename_i hk;subst hk;rw[harr];rfl
  ·rfl
 rw[hw] at hE hI'
 have hB:Below (Sort.putRow (Value.int .i64) C.w (C.pl id).gf 0 L.toArray).heap.size (Sort.putRow (Value.int .i64) C.w (C.pl id).gf 0 L.toArray) (Sort.grow (Sort.putRow (Value.int .i64) (Sort.ahead C.w n) (C.pl id).gf 0 L.toArray) os):=
  ⟨rfl,rfl,rfl,by rw[Sort.size_grow];exact Nat.le_add_right _ _,fun k hk=>Sort.heap_grow_old (Sort.putRow (Value.int .i64) (Sort.ahead C.w n) (C.pl id).gf 0 L.toArray) os hk⟩
 refine⟨(C.write id (Sort.putRow (Value.int .i64) C.w (C.pl id).gf 0 L.toArray) (L.map J)).xB (Sort.grow (Sort.putRow (Value.int .i64) (Sort.ahead C.w n) (C.pl id).gf 0 L.toArray) os),rfl,hE.trans (gY hB),hI'.xB hB,rfl,rfl⟩

theorem JI{id n:Nat}{x:Operand}{es:List AV}(hI:Inv W0 C)(hx:bH fr x=some (.view id 0 n))(hop:wh C fr a x)(hid:C.H.get id=some es)(hn:n=es.length)(hs:C.H.sz id=some 1):
  (es=[]∧∃p cap,a.eval x=.slice p 0 cap)∨((C.pl id).nil=false∧(C.pl id).sz=1∧∃cap,es.length≤cap∧cap≤(C.pl id).cap∧a.eval x=.slice (some ⟨(C.pl id).gf,0,none⟩) es.length cap):=by
 have hr:=bV hop hx
 subst hn
 generalize hux:a.eval x=ux at hr
 match hr with
 |.view _ _ _ _ h1 h2 h3=>
 have h6:=h2 es hid
 unfold sj at h6
 split at h6
 ·rename_i hnil
  obtain⟨_,hl,ad,rfl⟩:=h6
  have:es=[]:=List.eq_nil_of_length_eq_zero hl
  subst this
  exact .inl ⟨rfl,_,_,rfl⟩
 ·rename_i hnil
  have hnil':(C.pl id).nil=false:=by simpa using hnil
  obtain⟨A,cap,rfl,g1,g2,g3,g4⟩:=h6
  have hsz:=hI.qH id 1 hs hnil'
  rcases g4 with g4|rfl
  ·subst g4
   have:es=[]:=List.eq_nil_of_length_eq_zero (by omega)
   subst this
   exact .inl ⟨rfl,_,_,rfl⟩
  ·refine .inr ⟨hnil',hsz,cap,g3,by omega, ?_⟩
   simp

theorem Sc{f:FuncId}{tys:Array TypeId}{xo:Operand}{id n:Nat}(hf:R_ P f)(l L:List Int)(hL:Sh.sort l=some L)(hn:n=(l.map J).length)(ho:o.op=.call {callee:=.value (.func f),args:= #[xo],argTypes:=tys})(hx:bH fr xo=some (.view id 0 n))(hid:H.get id=some (l.map J))(hs:H.sz id=some 1):
  fO P W0 o fr H (.tuple []) (H.set id (L.map J)):=by
 intro C a hI hH hop K Q hK
 subst hH
 obtain⟨hlt,rfl⟩:=Sh.J7 hL
 unfold Oper.wp
 rw[um ho hf.call,Oper.upon_enter]
 have hea:(#[xo].map a.eval)= #[a.eval xo]:=by simp
 rw[hea]
 rcases JI hI hx (hop xo (by simp[ho,Op.operands,Call.operands])) hid hn hs with⟨h0,p,cap,he⟩|⟨h1,h2,cap,_,_,he⟩
 ·have XG:l=[]:=List.map_eq_nil_iff.1 h0
  subst XG
  rw[he]
  refine(hf.no p cap C.w).mono ?_
  rintro e w' ⟨rfl,rfl⟩
  have hset:=IG hI hid
  exact hK _ {C with H:=C.H.set id []} hset.1 hset.2 (by simp) (.tuple [] #[] rfl (fun k x h=>by simp at h))
 ·rw[he]
  have hh:=QY hI hid h1 h2
  have hc:=hf.is (C.pl id).gf 0 cap l C.w hh (hI.lt hid h1) hlt
  rw[List.length_map]
  refine hc.mono ?_
  rintro e w' ⟨rfl,n,os,rfl⟩
  obtain⟨C',q1,q2,q3,q4,_⟩:=Ux hI hid h1 h2 (L:=l.mergeSort fun x y=>decide (x≤y)) (by simp) n os
  rw[←q1]
  exact hK _ C' q2 q3 q4 (.tuple [] #[] rfl (fun k x h=>by simp at h))

end
end Go.Av
end

section
/- Rows of numbers are sorted by their first ones, where they lie: by what is known of the library's function. -/
namespace Go.Av
open Go.RowKit (Below)

@[simp] theorem abc(p q:Prop)(R:AV→Prop):(∀e:AV,p∧bl false=e∨q∧bl true=e→R e)↔(p→R (bl false))∧(q→R (bl true)):=⟨fun h=>⟨fun hp=>h _ (.inl ⟨hp,rfl⟩),fun hq=>h _ (.inr ⟨hq,rfl⟩)⟩,fun⟨h1,h2⟩ e h=>by rcases h with⟨hp,rfl⟩|⟨hq,rfl⟩;exact h1 hp;exact h2 hq⟩
def Sh.first(l:List Int):Int:=l.headD 0
section
variable {P:Program} {W0:eo} {C:Ctx} {fr:Fr} {a:Act} {H:bu} {o:Oper} {N:Nat}

theorem Uz(hI:Inv W0 C){id m:Nat}{es es':List AV}(hid:C.H.get id=some es)(hn:(C.pl id).nil=false)(hs:(C.pl id).sz=1)(v:Fin (m+1)→Value)(d:List (Fin (m+1)))(hd:d.length=es.length)(hl:es'.length=es.length)
  (h1:∀i,(v i).oneCell'=true)(hf:∀e∈es',e.flat=[e])(hv:∀(i:Nat) (j:Fin (m+1)) (e:AV),d[i]? =some j→es'[i]? =some e→eB C e (v j))(n:Nat)(os:Array Obj):
  ∃C',C'.w=Sort.grow (Sort.putRow v (Sort.ahead C.w n) (C.pl id).gf 0 d.toArray) os∧Ext C C'∧Inv W0 C'∧C'.H=C.H.set id es'∧C'.pl=C.pl:=by
 have hO:=hI.obj id _ hid hn
 obtain⟨arr,el,harr,hcap⟩:=hO.rows (by rw[hs];simp)
 have hlen:es.length≤arr.size:=by
  have h1:=hO.n;have h2:=hO.cap
  rw[hs] at hcap;omega
 have hone:∀u∈arr,u.oneCell'=true:=fun u hu=>by
  obtain⟨k,hk⟩:=Array.getElem?_of_mem hu
  exact hO.one k u (by rw[kH harr];exact hk)
 obtain⟨hE,hI'⟩:=wB hI hid hn harr (Sort.putCells v 0 d.toArray arr) (by simp[Sort.putCells]) es' hl (fun u hu=>by
  obtain⟨k,hk⟩:=Array.getElem?_of_mem hu
  simp only[Sort.putCells,Array.getElem?_mapIdx,Option.map_eq_some_iff] at hk
  obtain⟨x,hx,rfl⟩:=hk
  split
  ·exact h1 _
  ·exact hone x (Array.mem_of_getElem? hx)) (fun i e h=>by
   rw[hs,hf e (List.mem_of_getElem? h)];rfl) (fun i j e x u g1 g2 g3=>by
   rw[hf e (List.mem_of_getElem? g1)] at g2
   have hj:j=0∧x=e:=by
    cases j with
    |zero=>simp at g2;exact⟨rfl,g2.symm⟩
    |succ j=>simp at g2
   obtain⟨rfl,rfl⟩:=hj
   rw[hs,Nat.mul_one] at g3
   replace g3:(Sort.putCells v 0 d.toArray arr)[i]? =some u:=g3
   simp only[Sort.putCells,Array.getElem?_mapIdx,Option.map_eq_some_iff] at g3
   obtain⟨y,hy,rfl⟩:=g3
   have hi:i<d.length:=by rw[hd,←hl];exact(List.getElem?_eq_some_iff.1 g1).1
   have e2:d.toArray[i - 0]! =d[i]:=by simp[hi]
   rw[if_pos ⟨Nat.zero_le _,by simpa using hi⟩,e2]
   exact hv i d[i] x (List.getElem?_eq_getElem hi) g1)
 have hw:C.w.setRow (C.pl id).gf (Sort.putCells v 0 d.toArray arr)=Sort.putRow v C.w (C.pl id).gf 0 d.toArray:=by
  unfold Sort.putRow Sort.mapBlock World.setRow
  congr 1
  apply Array.ext_getElem?
  intro k
  simp only[Array.getElem?_modify]
  split
  ·rename_i hk;subst hk;rw[harr];rfl
  ·rfl
 rw[hw] at hE hI'
 have hB:Below (Sort.putRow v C.w (C.pl id).gf 0 d.toArray).heap.size (Sort.putRow v C.w (C.pl id).gf 0 d.toArray) (Sort.grow (Sort.putRow v (Sort.ahead C.w n) (C.pl id).gf 0 d.toArray) os):=
  ⟨rfl,rfl,rfl,by rw[Sort.size_grow];exact Nat.le_add_right _ _,fun k hk=>Sort.heap_grow_old (Sort.putRow v (Sort.ahead C.w n) (C.pl id).gf 0 d.toArray) os hk⟩
 refine⟨(C.write id (Sort.putRow v C.w (C.pl id).gf 0 d.toArray) es').xB (Sort.grow (Sort.putRow v (Sort.ahead C.w n) (C.pl id).gf 0 d.toArray) os),rfl,hE.trans (gY hB),hI'.xB hB,rfl,rfl⟩

end
end Go.Av
end

section
/- Numbers are sorted by where they stand in a row, where they lie: by what is known of the library's function. -/
namespace Go.Av
open Go.RowKit (Below)

structure Fy (P:Program) (f g:FuncId):Prop where
 call:lE P f
 no:∀(p:Option Addr) (cap:Nat) (cb:Array Value) (w:World),Calls P f #[.slice p 0 cap,.func (.func g) #[] cb] w fun e w'=>e=.returned (.tuple #[])∧w'=w
 is:∀(gf off cap m:Nat) (x:Fin (m+1)→Int) (os:List Int) (bx ox b2 o2 c2:Nat) (w:World),(∀i j,Lib.idxOf os (x i)=Lib.idxOf os (x j)→i=j)→os≠[]→os.length≤9223372036854775807→
  bx≠gf→bx<w.heap.size→w.cell? ⟨bx,ox,none⟩=some (.slice (some ⟨b2,o2,none⟩) os.length c2)→b2≠gf→b2<w.heap.size→(∀j,j<os.length→w.cell? ⟨b2,o2+j,none⟩=some (.int .i64 (os.getD j 0)))→
  Sort.Holds (fun i=>.int .i64 (x i)) w gf off (List.finRange (m+1)).toArray→gf<w.heap.size→m+1<4611686018427387904→
  Calls P f #[.slice (some ⟨gf,off,none⟩) (m+1) cap,.func (.func g) #[] #[.pointer (some ⟨bx,ox,none⟩)]] w fun e w'=>
   e=.returned (.tuple #[])∧∃n os',∃d:List (Fin (m+1)),d.Perm (List.finRange (m+1))∧d.Pairwise (fun a b=>Lib.idxOf os (x a)≤Lib.idxOf os (x b))∧w'=Sort.grow (Sort.putRow (fun i=>.int .i64 (x i)) (Sort.ahead w n) gf off d.toArray) os'

def Sh.ix(os:List Int)(x:Int):Int:=Lib.idxOf os x
def Sh.O8(os:List Int)(x:Int):List Int→List Int
 |[]=>[x]
 |y::l=>if Sh.ix os x≤Sh.ix os y then x::y::l else y::Sh.O8 os x l
def Sh.ye(os:List Int):List Int→List Int
 |[]=>[]
 |x::l=>Sh.O8 os x (Sh.ye os l)
def Sh.Fh(os l:List Int):Option (List Int):=if l.length<4611686018427387904∧os≠[]∧os.length≤9223372036854775807∧(l.map (Sh.ix os)).Nodup then some (Sh.ye os l) else none
theorem Sh.FP(os:List Int)(x:Int):∀l:List Int,(Sh.O8 os x l).Perm (x::l)
 |[]=>.refl _
 |y::l=>by
  unfold Sh.O8
  split
  ·exact .refl _
  ·exact((Sh.FP os x l).cons y).trans (.swap x y l)
theorem Sh.vc(os:List Int):∀l:List Int,(Sh.ye os l).Perm l
 |[]=>.refl _
 |x::l=>(Sh.FP os x _).trans ((Sh.vc os l).cons x)
theorem Sh.Gf(os:List Int)(x:Int):∀l:List Int,l.Pairwise (fun a b=>Sh.ix os a≤Sh.ix os b)→(Sh.O8 os x l).Pairwise (fun a b=>Sh.ix os a≤Sh.ix os b)
 |[],_=>by simp[Sh.O8]
 |y::l,h=>by
  unfold Sh.O8
  rw[List.pairwise_cons] at h
  split
  ·rename_i hxy
   rw[List.pairwise_cons,List.pairwise_cons]
   refine⟨fun z hz=> ?_,h⟩
   rcases List.mem_cons.1 hz with rfl|hz
   ·exact hxy
   ·exact Int.le_trans hxy (h.1 z hz)
  ·rename_i hxy
   rw[List.pairwise_cons]
   refine⟨fun z hz=> ?_,Sh.Gf os x l h.2⟩
   rcases List.mem_cons.1 ((Sh.FP os x l).mem_iff.1 hz) with rfl|hz
   ·omega
   ·exact h.1 z hz
theorem Sh.Az(os:List Int):∀l:List Int,(Sh.ye os l).Pairwise (fun a b=>Sh.ix os a≤Sh.ix os b)
 |[]=>.nil
 |x::l=>Sh.Gf os x _ (Sh.Az os l)
theorem Sh.Ke(os:List Int):∀{a b:List Int},a.Perm b→(a.map (Sh.ix os)).Nodup→a.Pairwise (fun x y=>Sh.ix os x≤Sh.ix os y)→b.Pairwise (fun x y=>Sh.ix os x≤Sh.ix os y)→a=b
 |[],b,h,_,_,_=>(List.nil_perm.1 h).symm
 |x::a,[],h,_,_,_=>absurd h.symm (by simp)
 |x::a,y::b,h,hn,ha,hb=>by
  have ha':=List.pairwise_cons.1 ha
  have hb':=List.pairwise_cons.1 hb
  simp only[List.map_cons,List.nodup_cons] at hn
  have hxy:x=y:=by
   rcases List.mem_cons.1 (h.mem_iff.1 (List.mem_cons_self ..)) with e|e
   ·exact e
   ·have h1:=hb'.1 x e
    rcases List.mem_cons.1 (h.mem_iff.2 (List.mem_cons_self (a:=y) (l:=b))) with e2|e2
    ·exact e2.symm
    ·have h2:=ha'.1 y e2
     have:Sh.ix os x=Sh.ix os y:=by omega
     exact absurd (List.mem_map.2 ⟨y,e2,this.symm⟩) hn.1
  subst hxy
  rw[Sh.Ke os (List.perm_cons x|>.1 h) hn.2 ha'.2 hb'.2]
theorem Sh.Fi{os l L:List Int}(h:Sh.Fh os l=some L):(l.length<4611686018427387904∧os≠[]∧os.length≤9223372036854775807∧(l.map (Sh.ix os)).Nodup)∧L=Sh.ye os l:=by
 unfold Sh.Fh at h
 split at h
 ·cases h;exact⟨by assumption,rfl⟩
 ·cases h
theorem Sh.NQ{os l L:List Int}(h:Sh.Fh os l=some L):L.length=l.length:=by rw[(Sh.Fi h).2];exact(Sh.vc os l).length_eq

section
variable {P:Program} {W0:eo} {C:Ctx} {fr:Fr} {a:Act} {H:bu} {o:Oper} {N:Nat}

theorem Km{f g:FuncId}{tys:Array TypeId}{xo yo:Operand}{id n:Nat}(hf:Fy P f g)(os l L:List Int)(hL:Sh.Fh os l=some L)(hn:n=(l.map J).length)
  (ho:o.op=.call {callee:=.value (.func f),args:= #[xo,yo],argTypes:=tys})(hx:bH fr xo=some (.view id 0 n))(hy:bH fr yo=some (.bI (.func g) [.pp [.sl (os.map J)] 0]))(hid:H.get id=some (l.map J))(hs:H.sz id=some 1):
  fO P W0 o fr H (.tuple []) (H.set id (L.map J)):=by
 intro C a hI hH hop K Q hK
 subst hH
 obtain⟨⟨hlt,hne,hbig,hnd⟩,rfl⟩:=Sh.Fi hL
 unfold Oper.wp
 rw[um ho hf.call,Oper.upon_enter]
 have hea:(#[xo,yo].map a.eval)= #[a.eval xo,a.eval yo]:=by simp
 have hfy:∃bx ox b2 o2 c2,a.eval yo=.func (.func g) #[] #[.pointer (some ⟨bx,ox,none⟩)]∧bx<C.w.heap.size∧¬C.bad bx∧C.w.cell? ⟨bx,ox,none⟩=some (.slice (some ⟨b2,o2,none⟩) os.length c2)∧b2<C.w.heap.size∧¬C.bad b2∧∀j,j<os.length→C.w.cell? ⟨b2,o2+j,none⟩=some (.int .i64 (os.getD j 0)):=by
  have h:=bV (hop yo (by simp[ho,Op.operands,Call.operands])) hy
  generalize a.eval yo=u at h
  match h with
  |.bI _ _ vs h1 h2=>
   have hp:=h2 0 _ rfl
   have hvs:vs= #[vs.getD 0 undef]:=by
    apply Array.ext
    ·simpa using h1
    ·intro k hk zN
     have:k=0:=by simp at zN;omega
     subst this
     simp[Array.getD,hk]
   generalize vs.getD 0 undef=pv at hp hvs
   match hp with
   |.pp _ _ b off c hb hbad PM QN=>
    have c1:=PM 0 _ rfl
    have c2:=QN 0 _ rfl
    generalize hcv:c 0=cv at c1 c2
    have fin:∀(b2 o2 sz cap:Nat) (cc:Nat→Nat→Value),cv=.slice (some ⟨b2,o2,none⟩) (os.map J).length cap→b2<C.w.heap.size→¬C.bad b2→(∀(i:Nat) (e:AV),(os.map J)[i]? =some e→e.flat.length=sz)→
      (∀(i j:Nat) (e x:AV),(os.map J)[i]? =some e→e.flat[j]? =some x→Holds C.w b2 (o2+i*sz+j) (cc i j))→(∀(i j:Nat) (e x:AV),(os.map J)[i]? =some e→e.flat[j]? =some x→eB C x (cc i j))→∃bx ox b2 o2 c2,Value.func (.func g) #[] vs=.func (.func g) #[] #[.pointer (some ⟨bx,ox,none⟩)]∧bx<C.w.heap.size∧¬C.bad bx∧C.w.cell? ⟨bx,ox,none⟩=some (.slice (some ⟨b2,o2,none⟩) os.length c2)∧b2<C.w.heap.size∧¬C.bad b2∧∀j,j<os.length→C.w.cell? ⟨b2,o2+j,none⟩=some (.int .i64 (os.getD j 0)):=by
     intro b2 o2 sz cap cc e1 e2 e3 e4 e5 e6
     refine⟨b,off+0,b2,o2,cap,by rw[hvs],hb,hbad,by rw[c1.1,e1,List.length_map],e2,e3,fun j hj=> ?_⟩
     have hsz:sz=1:=by
      have:(os.map J)[0]? =some (J (os[0]'(by omega))):=by simp[List.getElem?_eq_getElem (show 0<os.length by omega)]
      have:=e4 0 _ this
      simpa [AV.flat] using this.symm
     subst hsz
     have hj1:(os.map J)[j]? =some (J os[j]):=by simp[hj]
     have h3:=e5 j 0 _ _ hj1 rfl
     have h4:=e6 j 0 _ _ hj1 rfl
     rw[Nat.mul_one,Nat.add_zero] at h3
     rw[h3.1,fq (v:=.int .i64 os[j]) rfl h4]
     simp[List.getD,hj]
    cases os with
    |nil=>exact absurd rfl hne
    |cons z zs=>
     match c2 with
     |.sl _ b2 o2 sz cap cc e2 e3 _ e4 e5 e6=>exact fin b2 o2 sz cap cc rfl e2 e3 e4 e5 e6
 obtain⟨bx,ox,b2,o2,c2,hfy,k1,k2,k3,k4,k5,k6⟩:=hfy
 rw[hea,hfy]
 rcases JI hI hx (hop xo (by simp[ho,Op.operands,Call.operands])) hid hn hs with⟨h0,p,cap,he⟩|⟨h1,h2,cap,_,_,he⟩
 ·have XG:l=[]:=List.map_eq_nil_iff.1 h0
  subst XG
  rw[he]
  refine(hf.no p cap _ C.w).mono ?_
  rintro e w' ⟨rfl,rfl⟩
  have hset:=IG hI hid
  exact hK _ {C with H:=C.H.set id []} hset.1 hset.2 (by simp[Sh.ye]) (.tuple [] #[] rfl (fun k x h=>by simp at h))
 ·by_cases XG:l=[]
  ·subst XG
   rw[he]
   refine(hf.no _ cap _ C.w).mono ?_
   rintro e w' ⟨rfl,rfl⟩
   have hset:=IG hI hid
   exact hK _ {C with H:=C.H.set id []} hset.1 hset.2 (by simp[Sh.ye]) (.tuple [] #[] rfl (fun k x h=>by simp at h))
  obtain⟨m,hm⟩:∃m,l.length=m+1:=⟨l.length - 1,by have:=List.length_pos_iff.2 XG;omega⟩
  let x:Fin (m+1)→Int:=fun i=>l[i.1]'(by omega)
  have hcell:∀i:Fin (m+1),Holds C.w (C.pl id).gf i.1 (.int .i64 (x i)):=fun i=>by
   have hi:i.1<l.length:=by omega
   obtain⟨u,g1,g2⟩:=yY hI hid h1 (i:=i.1) (j:=0) (e:=J l[i.1]) (x:=J l[i.1]) (by simp[hi]) rfl
   rw[h2,Nat.mul_one,Nat.add_zero] at g1
   rw[fq (v:=.int .i64 l[i.1]) rfl g2] at g1
   exact g1
  have hk:∀i j,Lib.idxOf os (x i)=Lib.idxOf os (x j)→i=j:=fun i j h=>by
   have hp:=List.pairwise_iff_getElem.1 hnd
   rcases Nat.lt_trichotomy i.1 j.1 with h3|h3|h3
   ·exact(hp i.1 j.1 (by simp;omega) (by simp;omega) h3 (by simp only[List.getElem_map];exact h)).elim
   ·exact Fin.ext h3
   ·exact(hp j.1 i.1 (by simp;omega) (by simp;omega) h3 (by simp only[List.getElem_map];exact h.symm)).elim
  obtain⟨arr,el,harr,_⟩:=(hI.obj id _ hid h1).rows (by rw[h2];simp)
  have hown:∀b,¬C.bad b→b≠(C.pl id).gf:=fun b hb e=>hb (.inl (.inl ⟨id,_,hid,h1,e.symm⟩))
  have hc:=hf.is (C.pl id).gf 0 cap m x os bx ox b2 o2 c2 C.w hk hne hbig (hown bx k2) k1 k3 (hown b2 k5) k4 k6 (fun j hj=>by
   have hj':j<m+1:=by simpa using hj
   refine⟨?_,by simp[World.frozen?,harr]⟩
   have:=(hcell ⟨j,hj'⟩).1
   rw[Nat.zero_add,this]
   simp[hj']) (hI.lt hid h1) (by omega)
  rw[he,List.length_map,hm]
  refine hc.mono ?_
  rintro e w' ⟨rfl,n',os',d,hp,hsd,rfl⟩
  have hdl:d.length=m+1:=by rw[hp.length_eq];simp
  have hL2:d.map x=Sh.ye os l:=by
   refine Sh.Ke os ?_ ?_ ?_ (Sh.Az os l)
   ·refine(hp.map _).trans (List.Perm.trans (.of_eq ?_) (Sh.vc os l).symm)
    apply List.ext_getElem
    ·simp[hm]
    ·intro i h3 h4;simp[x]
   ·rw[List.map_map]
    refine List.Pairwise.map _ (fun a b h=> ?_) (hp.nodup_iff.2 (List.nodup_finRange _))
    exact fun e=>h (hk _ _ e)
   ·exact List.pairwise_map.2 hsd
  obtain⟨C',q1,q2,q3,q4,_⟩:=Uz hI hid h1 h2 (fun i=>Value.int .i64 (x i)) d (es':=(Sh.ye os l).map J) (by rw[hdl,List.length_map,hm]) (by simp[(Sh.vc os l).length_eq]) (fun i=>rfl) (fun e he=>by
   obtain⟨r,_,rfl⟩:=List.mem_map.1 he;rfl) (fun i j e g1 g2=>by
   rw[←hL2,List.map_map,List.getElem?_map,g1] at g2
   simp only[Option.map_some,Option.some.injEq] at g2
   rw[←g2];exact .imm _ rfl) n' os'
  rw[←q1]
  exact hK _ C' q2 q3 q4 (.tuple [] #[] rfl (fun k x h=>by simp at h))
end
end Go.Av
end

section
/- A call that hands back one new object, whatever the heap is. -/
namespace Go.Av
section
variable {P:Program} {W0:eo} {fr:Fr} {H:bu} {o:Oper}
end
end Go.Av
end

section
/- Calls that panic, and what takes the panic back. -/
namespace Go.Av
open Go.RowKit (Below)

def DL(ch:List PanicEntry):Prop:=∃t v,ch=[{v:=.iface t v,recovered:=false}]

def VK(P:Program)(W0:eo)(o:Oper)(fr:Fr)(H:bu)(H':bu):Prop:=
 ∀(C:Ctx) (a:Act),Inv W0 C→C.H=H→(∀x∈o.op.operands,wh C fr a x)→
  ∀(K:Act→World→Prop) (Q:Exit→Act→World→Prop),
   (∀ch C',DL ch→Ext C C'→Inv W0 C'→C'.H=H'→Q (.panic ch) a C'.w)→o.wp P a C.w K Q

structure LB (P:Program) (B:eo) (f:FuncId) (xs:List AV) (Hin:bu) (Hout:bu):Prop where
 call:lE P f
 runs:∀(C:Ctx) (vals:Array Value),Inv B C→C.H=Hin→C.jX=[]→vals.size=xs.length→(∀(k:Nat) (x:AV),xs[k]? =some x→eB C x (vals.getD k undef))→
  Calls P f vals C.w (fun e w'=>∃ch C',e=.panicked ch∧DL ch∧C'.w=w'∧Mem C C'∧Inv B C'∧C'.H=Hout∧C'.jX=[])

section
variable {P:Program} {W0:eo} {C:Ctx} {fr:Fr} {a:Act} {H:bu} {o:Oper} {N:Nat} {ops:Array Oper} {Q:Exit→St→Prop}

theorem G4{x:Operand}{t:TypeId}{ax:AV}(ho:o.op=.panic x)(hx:bH fr x=some (.ifc t ax)):VK P W0 o fr H H:=by
 intro C a hI hH hop K Q hQ
 have hr:=bV (hop x (by simp[ho,Op.operands])) hx
 generalize hu:a.eval x=ux at hr
 cases hr
 rename_i v hv
 unfold Oper.wp
 have:(execOp a.eval o).run P C.w=.halt (.panic (.iface t v)) C.w:=by
  simp only[execOp,ho,hu]
  simp[go_sem,Instr.panic]
 rw[this,Oper.upon_panic]
 exact hQ _ C ⟨_,_,rfl⟩ (.refl C) hI hH

theorem wK{ok:AV→Prop}{f:FuncId}{args:Array Operand}{tys:Array TypeId}{ys xs:List AV}{r r':AV}{Hs Hin Hout H':bu}{g m:List (Nat×Nat)}{nw:List Nat}{p:Nat}(ho:o.op=.call {callee:=.value (.func f),args:=args,argTypes:=tys})(hys:args.toList.mapM (bH fr)=some ys)
  (hf:LB P (.pinned W0.w p) f xs Hin Hout)(h:Pass ok (dB 0 ys) (dB 0 xs) H Hs Hin Hout H' g m nw p r r')(hl:xs.length=ys.length):VK P W0 o fr H H':=by
 intro C a hI hH hop K Q hQ
 unfold Oper.wp
 rw[um ho hf.call,Oper.upon_enter]
 have Jf:=Bw (LR ho hop) hys
 have h1:=h.ZO hI hH Jf.1 Jf.2
 have h2:Inv (.pinned W0.w p) (C.sub Hs Hin g p):=h1.inv.UT (W0:=W0) rfl rfl (of_decide_eq_true h.pM) rfl trivial
 refine(hf.runs (C.sub Hs Hin g p) _ h2 rfl rfl (by rw[hl];exact Jf.1) (fun k x hx=>wu (zi h1 k x hx))).mono ?_
 rintro e w' ⟨ch,C2,rfl,hch,rfl,hM,Eo,QM,EO⟩
 obtain⟨q1,q2,_⟩:=h.Um (B1:=.pinned W0.w p) hI hH rfl hM Eo QM EO
 exact hQ ch (C.back C2 H') hch q1 q2 rfl

theorem Lm{l1:List Oper}{rest:List Oper}{fr':Fr}{H' Hp:bu}(h:Ep P W0 ops l1 fr H fr' H')(hN:∀o∈l1,nE N o=true)(hd:∀c,o.op≠.defer c)(hw:jW ops fr' o=some true)(hp:VK P W0 o fr' H' Hp):
  ∀(C:Ctx) (a:Act) (Q:Exit→Act→World→Prop),Rel W0 N fr H C a→
  (∀ch C' a',DL ch→Mem C C'→Rel W0 N fr' Hp C' a'→Q (.panic ch) a' C'.w)→wpListIn (Fw W0.ro) 0 P ops Q (l1++o::rest) a C.w:=by
 induction h with
 |nil fr H=>
  intro C a Q hr hQ
  show wpListIn (Fw W0.ro) 0 P ops Q (o::rest) a C.w
  unfold wpListIn
  rw[mH hr.rep hw]
  simp only[if_true]
  refine tu hd (hp C a hr.inv hr.heap (fun x _ t _ av hav=>hr.rep t av hav) _ _ (fun ch C' hch hE hi hH=> ?_))
  exact hQ ch C' a hch hE.mem ⟨hH,hi,hr.size,by rw[hE.jX];exact hr.defers,fun t x hx=>(hr.rep t x hx).ext hE⟩
 |skip PT _ ih=>
  intro C a Q hr hQ
  rw[List.cons_append]
  unfold wpListIn
  rw[mH hr.rep PT]
  simp only[Bool.false_eq_true,if_false]
  exact⟨fun _ _=>trivial,ih (fun o ho=>hN o (List.mem_cons_of_mem _ ho)) hw hp C _ Q (hr.put (.refl C) hr.inv hr.heap E8 (nE.lt (hN _ (List.mem_cons_self ..)))) hQ⟩
 |op PT hop _ ih=>
  intro C a Q hr hQ
  rw[List.cons_append]
  unfold wpListIn
  rw[mH hr.rep PT]
  simp only[if_true]
  refine tu (nE.Ua (hN _ (List.mem_cons_self ..))) (hop C a hr.inv hr.heap (fun x _ t _ av hav=>hr.rep t av hav) _ _ (fun v C' he hi hH hv=> ?_))
  exact ih (fun o ho=>hN o (List.mem_cons_of_mem _ ho)) hw hp C' _ Q (hr.put he hi hH hv (nE.lt (hN _ (List.mem_cons_self ..)))) (fun ch C2 a2 hch h2=>hQ ch C2 a2 hch (he.mem.trans h2))
 |opI PT hop _ ih=>
  intro C a Q hr hQ
  rw[List.cons_append]
  unfold wpListIn
  rw[mH hr.rep PT]
  simp only[if_true]
  refine hop C a hr.inv hr.heap (fun x _ t _ av hav=>hr.rep t av hav) _ _ (fun v C' he hi hH hv=> ?_)
  exact ih (fun o ho=>hN o (List.mem_cons_of_mem _ ho)) hw hp C' _ Q (hr.put he hi hH hv (nE.lt (hN _ (List.mem_cons_self ..)))) (fun ch C2 a2 hch h2=>hQ ch C2 a2 hch (he.mem.trans h2))
 |drop hk _ ih=>
  intro C a Q hr hQ
  exact ih hN hw hp C a Q ⟨hr.heap,hr.inv,hr.size,hr.defers,fun t x hx=>hr.rep t x (hk t x hx)⟩ hQ

theorem wM{id:Nat}{frl:List (Nat×AV)}(k:Nat){l:List Oper}{Hp:bu}(hk:l[k]? =some o)(hN:(l.take k).all (nE N)=true)(hd:(match o.op with|.defer _=>false|_=>true)=true)
  (h:AR P W0 l.toArray (l.take k) frl H (fun f g=>jW l.toArray (lk f) o=some true∧VK P W0 o (lk f) g Hp∧∀ch,DL ch→Q (.panic ch) ⟨f,Hp⟩)):ec P W0 N (.region id l.toArray false) ⟨frl,H⟩ Q:=fun C a hr=>by
 obtain⟨fr',H',h1,h2,h3,hQ⟩:=h
 have e:l=l.take k++o::l.drop (k+1):=by
  obtain⟨hlt,he⟩:=List.getElem?_eq_some_iff.1 hk
  rw[←he,List.getElem_cons_drop,List.take_append_drop]
 refine wpIn_region_lit ?_
 have:=Lm (rest:=l.drop (k+1)) h1 (fun o ho=>List.all_eq_true.1 hN o ho) (fun c hc=>by rw[hc] at hd;cases hd) h2 h3 C a (VL W0 N C Q) hr (fun ch C' a' hch hm hrel=>⟨⟨fr',Hp⟩,C',rfl,hm,hrel,hQ ch hch⟩)
 rw[←e] at this
 exact this

theorem zM{B:eo}{f:FuncId}{fn:Func}{c:Code}{xs:List AV}{Hin Hr:bu}(hro:B.ro=none)(hf:P.funcs[f]? =some fn)(hb:fn.body=some c)(hname:(fn.name== "runtime.NumGoroutine")=false)(hN:fn.ntmps=N)(hxN:xs.length≤N)
  (h:ec P B N c ⟨dB 0 xs,Hin⟩ (fun e s=>(∃ch,e=.panic ch∧DL ch)∧bq B N s ⟨[],Hr⟩))(hdx:B.dx=[]:=by rfl):LB P B f xs Hin Hr where
 call:=nj hf hname hb
 runs C vals hI hH hd hsz hrep:=by
  refine(callsIn_wide (n:=0)).1 (callsIn_of_wp_marks hf hb trivial ?_)
  have hrel:=FU (W0:=B) hI hH hd hN hxN hsz hrep hdx
  have key:=h C _ hrel
  rw[hro,EF] at key
  refine wpIn_mono key fun e a' w' ⟨s,C',g1,g2,g3,⟨ch,g4,g5⟩,g6⟩=> ?_
  subst g1 g4
  obtain⟨C3,q1,q2,q3⟩:=g6 C' a' g3
  show LeavesInM Fence.wide 0 P fn a'.tmps _ a'.defers (.panicking ch) C'.w
  rw[←q1,q3.defers,hdx]
  refine drain (W0:=B) (u:=.panicking ch) (by simp) (ds:=[]) (Q:=fun C2=>Inv B C2∧C2.H=Hr∧Mem C C2) (fun C2 hq EO=> ?_) C3.jX C3 rfl q3.inv q3.heap (fun C2 h1 h2 h3 h4 h5 h6=>⟨h4,h1.trans q3.heap,(g2.trans q2).trans h3⟩)
  exact⟨ch,C2,rfl,g5,rfl,hq.2.2,hq.1,hq.2.1,EO⟩


@[reducible] def eo.off(W:World)(p:Nat)(ds:List Deferred):eo:=⟨W,p,none,fun _=>True,fun _ _ _ _ _=>trivial,ds⟩

theorem Inv.off{W:World}{B:eo}(hI:Inv B C)(hB:B.w=W)(p:Nat)(ds:List Deferred)(hle:p≤C.H.next):Inv (.off W p ds) {C with qU:=p} where
 fresh:=hI.fresh
 nil:=hI.nil
 obj id es h hn:=by
  have hO:=hI.obj id es h hn
  exact⟨hO.n,hO.cap,hO.gf,hO.one,hO.flat,fun i j e x v h1 h2 h3=>(hO.cell i j e x v h1 h2 h3).sub rfl (Nat.le_refl _) (fun id es _ h=>⟨es,h⟩) (fun _ _=>rfl) (fun b h=>h)⟩
 sep:=hI.sep
 eC:=hI.eC
 qH:=hI.qH
 f_:=hI.f_
 gA b h:=by subst hB;exact hI.gA b h
 size:=by subst hB;exact hI.size
 kK b h:=by subst hB;exact hI.kK b h
 d_:=hI.d_
 jX:=hI.jX
 CN:=hI.CN
 Dt _ h:=by cases h
 gQ:=hI.gQ
 rX:=rfl
 iN:=hle
 gh:=trivial

theorem Inv.dx{W:World}{p:Nat}{ds ds':List Deferred}(h:Inv (.off W p ds) C):Inv (.off W p ds') C:=
 ⟨h.fresh,h.nil,h.obj,h.sep,h.eC,h.qH,h.f_,h.gA,h.size,h.kK,h.d_,h.jX,h.CN,h.Dt,h.gQ,h.rX,h.iN,h.gh⟩
theorem Inv.on{W:World}{p:Nat}{ds:List Deferred}(h:Inv (.off W p ds) C):Inv (.of W) {C with qU:=0}:=
 have k:=h.off (W:=W) rfl 0 [] (Nat.zero_le _)
 ⟨k.fresh,k.nil,k.obj,k.sep,k.eC,k.qH,k.f_,k.gA,k.size,k.kK,k.d_,k.jX,k.CN,k.Dt,k.gQ,k.rX,k.iN,k.gh⟩

theorem Mem.aho{C C':Ctx}{q:Nat}(h:Mem {C with qU:=q} C')(h0:C.qU=0):Mem C {C' with qU:=0}:=
 ⟨h.below,h.keep,h.own,h.eC,h0.symm,fun _=>⟨Nat.zero_le _,fun k es' hk _=>by rw[h0] at hk;exact absurd hk (Nat.not_lt_zero _)⟩⟩

theorem zz{l:List Oper}{fr':Fr}{H':bu}(h:Ep P W0 ops l fr H fr' H')(hN:∀o∈l,nE N o=true):∀(C:Ctx) (a:Act) (Q:Exit→Act→World→Prop),Rel W0 N fr H C a→
  (∀C' a',Ext C C'→Rel W0 N fr' H' C' a'→Q .normal a' C'.w)→wpListIn (Fw W0.ro) 0 P ops Q l a C.w:=by
 induction h with
 |nil fr H=>intro C a Q hr hQ;exact hQ C a (.refl C) hr
 |skip hw _ ih=>
  intro C a Q hr hQ
  unfold wpListIn
  rw[mH hr.rep hw]
  simp only[Bool.false_eq_true,if_false]
  exact⟨fun _ _=>trivial,ih (fun o ho=>hN o (List.mem_cons_of_mem _ ho)) C _ Q (hr.put (.refl C) hr.inv hr.heap E8 (nE.lt (hN _ (List.mem_cons_self ..)))) hQ⟩
 |op hw hop _ ih=>
  intro C a Q hr hQ
  unfold wpListIn
  rw[mH hr.rep hw]
  simp only[if_true]
  refine tu (nE.Ua (hN _ (List.mem_cons_self ..))) (hop C a hr.inv hr.heap (fun x _ t _ av hav=>hr.rep t av hav) _ _ (fun v C' he hi hH hv=> ?_))
  exact ih (fun o ho=>hN o (List.mem_cons_of_mem _ ho)) C' _ Q (hr.put he hi hH hv (nE.lt (hN _ (List.mem_cons_self ..)))) (fun C2 a2 h2=>hQ C2 a2 (he.trans h2))
 |opI hw hop _ ih=>
  intro C a Q hr hQ
  unfold wpListIn
  rw[mH hr.rep hw]
  simp only[if_true]
  refine hop C a hr.inv hr.heap (fun x _ t _ av hav=>hr.rep t av hav) _ _ (fun v C' he hi hH hv=> ?_)
  exact ih (fun o ho=>hN o (List.mem_cons_of_mem _ ho)) C' _ Q (hr.put he hi hH hv (nE.lt (hN _ (List.mem_cons_self ..)))) (fun C2 a2 h2=>hQ C2 a2 (he.trans h2))
 |drop hk _ ih=>
  intro C a Q hr hQ
  exact ih hN C a Q ⟨hr.heap,hr.inv,hr.size,hr.defers,fun t x hx=>hr.rep t x (hk t x hx)⟩ hQ

abbrev s8(b0 b1 b2:AV):bu:=⟨3,[(0,(1,[b0])),(1,(1,[b1])),(2,(1,[b2]))],[]⟩
abbrev E4:List (Nat×AV):=[(2,.ref 0 0 0),(3,.ref 1 0 0),(4,.ref 2 0 0)]

structure PB (P:Program) (W:World) (g:FuncId) (c0 c1 c2:AV):Prop where
 call:lE P g
 idle:∀(v0 v1 v2:Value) (w:World),CallsDIn Fence.wide 0 P g #[v0,v1,v2] .returning w fun e u' w'=>(∃v,e=.returned v)∧u'=.returning∧w'=w
 pan:∀(ch:List PanicEntry) (C:Ctx) (v0 v1 v2:Value) (i j:Int) (t:Bool),DL ch→Inv (.off W 3 []) C→C.H=s8 (J i) (J j) (bl t)→C.jX=[]→eB C (.ref 0 0 0) v0→eB C (.ref 1 0 0) v1→eB C (.ref 2 0 0) v2→
  CallsDIn Fence.wide 0 P g #[v0,v1,v2] (.panicking ch) C.w fun e u' w'=>(∃v,e=.returned v)∧settle u'=.returning∧∃C',C'.w=w'∧Ext C C'∧Inv (.off W 3 []) C'∧C'.H=s8 c0 c1 c2

theorem QF{o2:Oper}{g t6:Nat}{w:World}{a:Act}(ho2:o2.op=.defer {callee:=.value (.tmp t6),args:= #[],argTypes:= #[]}){caps:Array Value}(h6:a.tmps.getD t6 undef=.func (.func g) #[] caps):
  (execOp a.eval o2).run P w=.ok (.defer {target:=.fn (.func g) caps,args:= #[]}) w:=by
 have h6':a.eval (.tmp t6)=.func (.func g) #[] caps:=by simpa [Act.eval] using h6
 simp only[execOp,ho2,resolve,h6',Deferred.ofValue]
 simp[go_sem]

set_option maxHeartbeats 1000000 in
theorem L8{W:World}{f g t6:Nat}{fn:Func}{rest:Code}{i0 i1:Nat}{l0:List Oper}{o1 o2:Oper}{xs:List AV}{r z0 z1 z2 c0 c1 c2:AV}{frx:List (Nat×AV)}
  (hf:P.funcs[f]? =some fn)(hb:fn.body=some (.seq (.region i0 l0.toArray false) (.seq (.region i1 [o1,o2].toArray false) rest)))(hname:(fn.name== "runtime.NumGoroutine")=false)(hN:fn.ntmps=N)(hxN:xs.length≤N)
  (ho1:o1.op=.makeFunc (.func g) #[] #[.tmp 2,.tmp 3,.tmp 4])(YQ:o1.guard=none)(RZ:o1.dst=some t6)(ht6:t6<N)(ht6':lk frx t6=none)
  (ho2:o2.op=.defer {callee:=.value (.tmp t6),args:= #[],argTypes:= #[]})(hg2:o2.guard=none)(EO:o2.dst=none)
  (XG:l0.all (nE N)=true)(h0:AR P (.of W) l0.toArray l0 (dB 0 xs) .empty (fun f K=>v8 f frx∧K=s8 z0 z1 z2))
  (s5:lk frx 2=some (.ref 0 0 0))(KF:lk frx 3=some (.ref 1 0 0))(hx4:lk frx 4=some (.ref 2 0 0))
  (h1:∀ds,ec P (.off W 3 ds) N rest ⟨frx,s8 z0 z1 z2⟩ (fun e s=>
   ((e=.normal∨e=.ret)∧∃b0 b1 b2,bq (.off W 3 ds) N s ⟨E4,s8 b0 b1 b2⟩∧NF P fn.results.toList ⟨E4,s8 b0 b1 b2⟩=some r)∨
   ((∃ch,e=.panic ch∧DL ch)∧(∃i j t,bq (.off W 3 ds) N s ⟨E4,s8 (J i) (J j) (bl t)⟩)∧NF P fn.results.toList ⟨E4,s8 c0 c1 c2⟩=some r)))
  (hR:PB P W g c0 c1 c2)(hn:b_ r):bW P W f xs r where
 call:=nj hf hname hb
 Ad:=hn
 runs C vals hI hH hd hsz hrep:=by
  refine(callsIn_wide (n:=0)).1 (callsIn_of_wp_marks hf hb trivial ?_)
  have hrel:=FU (W0:=.of W) hI hH hd hN hxN hsz hrep rfl
  obtain⟨f0,K0,h0,hk0,rfl⟩:=h0
  refine wpIn_seq (wpIn_region_lit (zz h0 (fun o ho=>List.all_eq_true.1 XG o ho) C _ _ hrel fun C1' a1 e1 k0=> ?_))
  have m1:Mem C C1':=e1.mem
  have hd1':C1'.jX=[]:=e1.jX.trans hd
  have k3:Rel (.of W) N (lk frx) (s8 z0 z1 z2) C1' a1:=⟨k0.heap,k0.inv,k0.size,k0.defers,fun t x hx=>k0.rep t x (hk0.lk t x hx)⟩
  -- what is put off
  have r2:=k3.rep 2 _ s5
  have r3:=k3.rep 3 _ KF
  have r4:=k3.rep 4 _ hx4
  have ala:C1'.qU=0:=k3.inv.rX
  have hHx:C1'.H=s8 z0 z1 z2:=k3.heap
  generalize hv2:a1.tmps.getD 2 undef=v2 at r2
  generalize hv3:a1.tmps.getD 3 undef=v3 at r3
  generalize hv4:a1.tmps.getD 4 undef=v4 at r4
  have ali:(execOp a1.eval o1).run P C1'.w=.ok (.value (.func (.func g) #[] #[v2,v3,v4])) C1'.w:=by
   have e2:a1.tmps[2]?.getD undef=v2:=by simpa using hv2
   have e3:a1.tmps[3]?.getD undef=v3:=by simpa using hv3
   have e4:a1.tmps[4]?.getD undef=v4:=by simpa using hv4
   have hmf:∀(fn:Fn) (first cap:Array Value) (w:World),(Instr.makeFunc fn first cap).run P w=.ok (.func fn first cap) w:=fun _ _ _ _=>rfl
   simp only[execOp,ho1]
   simp[go_sem,e2,e3,e4,hmf]
  generalize hdd:({target:=.fn (.func g) #[v2,v3,v4],args:= #[]}:Deferred)=d
  generalize ha2:a1.put o1.dst (.func (.func g) #[] #[v2,v3,v4])=a2
  have d6:a2.tmps.getD t6 undef=.func (.func g) #[] #[v2,v3,v4]:=by
   rw[←ha2,RZ]
   simp[Act.put,k3.size,ht6]
  have Yn:∀(tmps:Array Value) (C4:Ctx) (H4:bu),Rel (.off W 3 []) N (lk E4) H4 C4 {tmps:=tmps,defers:=[]}→C4.jX=[]→Mem {C1' with qU:=3} C4→NF P fn.results.toList ⟨E4,H4⟩=some r→H4.d_=[]→
    ∃v,(results fn tmps).run P C4.w=.ok v C4.w∧∃v' C',Ending.returned v=.returned v'∧C'.w=C4.w∧Ext C C'∧Inv (.of W) C'∧eB C' r v':=by
   intro tmps C4 H4 hq YN hm hres hl
   obtain⟨v,g7,g8⟩:=Gh (st:=⟨E4,H4⟩) hq hres
   have g9:=K_ hq.inv.on (by exact YN) (wu g8)
   obtain⟨C5,q1,q2,q3⟩:=(aB (W0:=.of W) (N:=1) (st:=⟨[(0,r)],C4.H⟩) (fr':=[(0,r)]) (H':=.empty) [] [] rfl rfl rfl trivial ⟨⟨r,rfl,.same r hn⟩,trivial⟩ rfl (by rw[hq.heap];exact hl.symm)) {C4 with qU:=0} _ g9
   have m2:Mem C C5:=(m1.trans (hm.aho ala)).trans q2
   refine⟨v,g7,v,C5,rfl,q1, ?_,q3.inv,q3.rep 0 r rfl⟩
   refine⟨m2.below,m2.keep,m2.own,by rw[hH];exact Nat.zero_le _,fun id es hi _=> ?_,m2.eC,(vg q3).trans hd.symm,m2.qU⟩
   rw[hH] at hi;exact absurd hi (Nat.not_lt_zero _)
  have afl:Rel (.off W 3 [d]) N (lk frx) (s8 z0 z1 z2) {C1' with qU:=3} ({a2 with defers:=d::a2.defers}.put o2.dst undef):=by
   rw[EO]
   have Eo:=k3.inv.off (W:=W) rfl 3 [d] (by rw[hHx];exact Nat.le_refl 3)
   refine⟨hHx,Eo, ?_, ?_,fun t x hx=> ?_⟩
   ·rw[←ha2,RZ];simp[Act.put,k3.size]
   ·have h5:a2.defers=[]:=by rw[←ha2,RZ];simp[Act.put,k3.defers,hd1']
    show d::a2.defers=_
    rw[h5,hd1'];rfl
   ·have hne:t≠t6:=fun h=>by rw[h,ht6'] at hx;cases hx
    have e0:a2.tmps.getD t undef=a1.tmps.getD t undef:=by
     rw[←ha2,RZ]
     simp only[Act.put,Array.getD_eq_getD_getElem?]
     rw[Array.getElem?_setIfInBounds_ne (Ne.symm hne)]
    show eB _ x (a2.tmps.getD t undef)
    rw[e0]
    exact wu (k3.rep t x hx)
  refine wpIn_seq (wpIn_region_lit (wpListIn_plain YQ fun K hK=> ?_))
  refine tu (fun c hc=>by rw[ho1] at hc;cases hc) ?_
  unfold Oper.wp
  rw[ali,Oper.upon_value,ha2]
  refine hK _ _ (wpListIn_plain hg2 fun K2 cT=>⟨fun _ _=>trivial, ?_⟩)
  have hs:o2.semAt Fence.wide.round a2.eval=execOp a2.eval o2:=rfl
  rw[hs,QF ho2 d6,Oper.uponIn_defer,hdd]
  refine cT _ _ ?_
  have key:=h1 [d] _ _ afl
  refine wpIn_mono key fun e a3 w3 ⟨s,C2,q1,q2,q3,q4⟩=> ?_
  subst q1
  have rr2:eB {C1' with qU:=3} (.ref 0 0 0) v2:=wu r2
  have rr3:eB {C1' with qU:=3} (.ref 1 0 0) v3:=wu r3
  have rr4:eB {C1' with qU:=3} (.ref 2 0 0) v4:=wu r4
  have hle:Ctx.qU {C1' with qU:=3}≤bu.next (Ctx.H {C1' with qU:=3}):=by rw[hHx];exact Nat.le_refl 3
  have inv:∀w,(invoke d.target d.args).run P w=.ok (.enter g #[v2,v3,v4]) w:=fun w=>by
   rw[←hdd]
   exact hR.call _ w
  rcases q4 with⟨hne,b0,b1,b2,hw,hres⟩|⟨⟨ch,rfl,hch⟩,⟨i,j,t,hw⟩,hres⟩
  ·obtain⟨C3,p1,p2,p3⟩:=hw C2 a3 q3
   have main:LeavesInM Fence.wide 0 P fn a3.tmps (fun e w'=>∃v C',e=.returned v∧C'.w=w'∧Ext C C'∧Inv (.of W) C'∧eB C' r v) a3.defers .returning C2.w:=by
    rw[←p1,p3.defers]
    refine drain (u:=.returning) (by simp) (W0:=.off W 3 [d]) (Q:=fun C4=>Rel (.off W 3 []) N (lk E4) (s8 b0 b1 b2) C4 {tmps:=a3.tmps,defers:=[]}∧Mem {C1' with qU:=3} C4) (fun C4 hq YN=> ?_) C3.jX C3 rfl p3.inv p3.heap
     (fun C4 h1 h2 h3 h4 h5 h6=>⟨⟨h1.trans p3.heap,h4.dx,p3.size,by simp[h5],fun t x hx=>h6 x _ (p3.rep t x hx)⟩,(q2.trans p2).trans h3⟩)
    refine⟨by simp,.inr ⟨(fun h=>by cases h),.func g, #[v2,v3,v4],g, #[v2,v3,v4],by rw[←hdd],inv _,fun _ _=>trivial,(hR.idle v2 v3 v4 C4.w).mono ?_⟩⟩
    rintro e u' w' ⟨⟨v,rfl⟩,rfl,rfl⟩
    exact Yn a3.tmps C4 _ hq.1 YN hq.2 hres rfl
   rcases hne with rfl|rfl
   ·exact main
   ·exact main
  ·obtain⟨C3,p1,p2,p3⟩:=hw C2 a3 q3
   show LeavesInM Fence.wide 0 P fn a3.tmps _ a3.defers (.panicking ch) C2.w
   rw[←p1,p3.defers]
   refine drain (u:=.panicking ch) (by simp) (W0:=.off W 3 [d]) (Q:=fun C4=>Rel (.off W 3 []) N (lk E4) (s8 (J i) (J j) (bl t)) C4 {tmps:=a3.tmps,defers:=[]}∧Mem {C1' with qU:=3} C4) (fun C4 hq YN=> ?_) C3.jX C3 rfl p3.inv p3.heap
     (fun C4 h1 h2 h3 h4 h5 h6=>⟨⟨h1.trans p3.heap,h4.dx,p3.size,by simp[h5],fun t x hx=>h6 x _ (p3.rep t x hx)⟩,(q2.trans p2).trans h3⟩)
   refine⟨by simp,.inr ⟨(fun h=>by cases h),.func g, #[v2,v3,v4],g, #[v2,v3,v4],by rw[←hdd],inv _,fun _ _=>trivial,
    (hR.pan ch C4 v2 v3 v4 i j t hch hq.1.inv hq.1.heap YN (rr2.mem hq.2 hle (.ref 0 0 0 (show(0:Nat)<3 by decide))) (rr3.mem hq.2 hle (.ref 1 0 0 (show(1:Nat)<3 by decide))) (rr4.mem hq.2 hle (.ref 2 0 0 (show(2:Nat)<3 by decide)))).mono ?_⟩⟩
   rintro e u' w' ⟨⟨v,rfl⟩,hu,C5,rfl,hE,hI5,hH5⟩
   show LeavesInM Fence.wide 0 P fn a3.tmps _ [] (settle u') C5.w
   rw[hu]
   exact Yn a3.tmps C5 _ ⟨hH5,hI5,hq.1.size,by rw[hE.jX,YN];rfl,fun t x hx=>(hq.1.rep t x hx).ext hE⟩ (hE.jX.trans YN) (hq.2.trans hE.mem) hres rfl
end
end Go.Av
end

section
/- Numbers sorted by where they stand in a row: what the library's function does, in the words of the walks. -/
namespace Go.Av
open Go.Proofs Go.Shelf Go.Lib

theorem YJ(x y:Int):decide (compareInt x y<0)=decide (x<y):=by
 unfold compareInt
 by_cases h1:x<y
 ·simp[h1]
 ·by_cases h2:y<x <;> simp[h1,h2]
theorem Po{P:Program}{f g:FuncId}(call:lE P f)(no:∀(p:Option Addr) (cap:Nat) (fv:Value) (w:World),Calls P f #[.slice p 0 cap,fv] w fun e w'=>e=.returned (.tuple #[])∧w'=w)
  (is:∀(m:Nat) (v:Fin (m+1)→Value) (k:Fin (m+1)→Int) (cb:Array Value) (gf off cap:Nat) (d:Array (Fin (m+1))) (w:World),OneCell v→(∀args w,(callFunc g args).run P w=.ok (.enter g args) w)→CmpLays1 P g cb v (fun i j=>compareInt (k i) (k j)) gf off d.size w→Sort.Holds v w gf off d→gf<w.heap.size→d.size<4611686018427387904→
   Sort.SWO (ltOf fun i j=>compareInt (k i) (k j))→(∀x y,(ltOf fun i j=>compareInt (k i) (k j)) x y=false→(ltOf fun i j=>compareInt (k i) (k j)) y x=false→x=y)→
   Calls P f #[.slice (some ⟨gf,off,none⟩) d.size cap,.func (.func g) #[] cb] w fun e w'=>e=.returned (.tuple #[])∧∃n os,w'=sortWorld v w gf off n (d.toList.mergeSort fun x y=> !(ltOf fun i j=>compareInt (k i) (k j)) y x).toArray os)
  (eg:∀args w,(callFunc g args).run P w=.ok (.enter g args) w)
  (cl:∀(b1 o1 b2 o2 c2:Nat) (zs:List Int) (a b:Int) (W:World),zs.length≤9223372036854775807→W.cell? ⟨b1,o1,none⟩=some (.slice (some ⟨b2,o2,none⟩) zs.length c2)→(∀j,j<zs.length→W.cell? ⟨b2,o2+j,none⟩=some (.int .i64 (zs.getD j 0)))→Calls P g #[.int .i64 a,.int .i64 b,.pointer (some ⟨b1,o1,none⟩)] W fun e w'=>e=.returned (.int .i64 (compareInt (idxOf zs a) (idxOf zs b)))∧∃q os',w'=Sort.grow (W.drewN q) os'):Fy P f g where
 call:=call
 no:=fun p cap cb w=>no p cap _ w
 is gf off cap m x os bx ox b2 o2 c2 w hk hne hbig V6 hs1 PM RY hs2 QN hH hblk hsz:=by
  have hlt:∀i j,(ltOf fun i j=>compareInt (idxOf os (x i)) (idxOf os (x j))) i j=decide (idxOf os (x i)<idxOf os (x j)):=fun i j=>YJ _ _
  have hcell:∀(b o:Nat) (m':Nat) (os':Array Obj) (dk:Array (Fin (m+1))) (y:Value),b≠gf→b<w.heap.size→w.cell? ⟨b,o,none⟩=some y→(sortWorld (fun i=>Value.int .i64 (x i)) w gf off m' dk os').cell? ⟨b,o,none⟩=some y:=fun b o m' os' dk y hb hbs hx=>by
   rw[←hx]
   refine World.cell?_of_block (a:=⟨b,o,none⟩) ?_
   unfold sortWorld
   rw[Sort.heap_grow_old _ _ (by simpa [Sort.putRow,Sort.mapBlock,Sort.ahead] using hbs)]
   simp[Sort.putRow,Sort.mapBlock,Sort.ahead,Array.getElem?_modify,Ne.symm hb]
  have h:=is m (fun i=>Value.int .i64 (x i)) (fun i=>idxOf os (x i)) #[.pointer (some ⟨bx,ox,none⟩)] gf off cap (List.finRange (m+1)).toArray w (fun _=>rfl) eg (fun m' os' dk _ i j=>
   cl bx ox b2 o2 c2 os (x i) (x j) _ hbig (hcell _ _ _ _ _ _ V6 hs1 PM) (fun q hq=>hcell _ _ _ _ _ _ RY hs2 (QN q hq))) hH hblk (by simpa using hsz)
   ⟨fun x=>by rw[hlt];simp,fun x y z a b=>by rw[hlt] at*;simp at*;omega,fun x y z a b=>by rw[hlt] at*;simp at*;omega⟩
   (fun x y a b=>by rw[hlt] at a b;simp at a b;exact hk x y (by omega))
  have hsize:(List.finRange (m+1)).toArray.size=m+1:=by simp
  rw[hsize] at h
  refine h.mono ?_
  rintro e w' ⟨rfl,n,os',rfl⟩
  refine⟨rfl,n,os',_,List.mergeSort_perm _ _, ?_,rfl⟩
  have hp:=List.pairwise_mergeSort (le:=fun a b=> !(ltOf fun i j=>compareInt (idxOf os (x i)) (idxOf os (x j))) b a) (fun a b c h1 h2=>by simp only[hlt] at*;simp at*;omega) (fun a b=>by simp only[hlt];simp;omega) (List.finRange (m+1))
  exact hp.imp fun{a b} hab=>by simp only[hlt] at hab;simpa using hab
end Go.Av
end

section
/- From the reading of a claim's arguments to what the proof sees of them; and from what a law's function does to what its row asks. -/
namespace Go.Av
open Go.RowKit (Below)

mutual
def uR{H:Type}:DataW H→AV
 |.lit (.bool b)=>.imm (.bool b)
 |.lit (.int k n)=>.imm (.int k n)
 |.lit (.string bs)=>.imm (.string ⟨bs.toArray⟩)
 |.nil=>.sl []
 |.slice es _=>.sl (PF es)
 |.agg ps=>.agg (oW ps)
 |_=>.any
def PF{H:Type}:List (DataW H)→List AV
 |[]=>[]
 |d::r=>uR d::PF r
def oW{H:Type}:List (DataW H)→List AV
 |[]=>[]
 |d::r=>(uR d).flat++oW r
end

theorem JE{H:Type}(l:List (DataW H)):PF l=l.map uR:=by
 induction l with
 |nil=>rfl
 |cons d r ih=>simp[PF,ih]

def sy(P:Program):Nat→TypeId→Bool
 |0,_=>false
 |n+1,t=>
  match P.underlying t with
  |some .bool|some (.int _)|some .string=>true
  |some (.slice e)=>P.cellsOf e !=0&&sy P n e
  |some (.struct fs)=>fs.toList.all (fun f=>sy P n f.type)&&(fs.toList.foldl (fun(acc:Option Nat) f=>acc.bind fun a=>if f.offset==a then some (a+P.cellsOf f.type) else none) (some 0))==some (P.cellsOf t)
  |some (.array m e)=>sy P n e&&m*P.cellsOf e==P.cellsOf t
  |_=>false

theorem flat_agg(cs:List AV):(AV.agg cs).flat=cs:=rfl

structure Et (C:Ctx) (cs:List Value) (x:AV):Prop where
 len:x.flat.length=cs.length
 one:∀c∈cs,c.oneCell'=true
 rep:∀(k:Nat) (y:AV),x.flat[k]? =some y→∃c,cs[k]? =some c∧eB C y c

theorem mapM_some{α β:Type}(f:α→Option β):∀(l:List α) (ys:List β),l.mapM f=some ys→ys.length=l.length∧∀(k:Nat) (x:α),l[k]? =some x→∃y,ys[k]? =some y∧f x=some y:=by
 intro l
 induction l with
 |nil=>intro ys h;simp only[List.mapM_nil,Option.pure_def,Option.some.injEq] at h;subst h;exact⟨rfl,fun k x hk=>by simp at hk⟩
 |cons y l ih=>
  intro ys h
  rw[List.mapM_cons] at h
  simp only[Option.bind_eq_bind,Option.bind_eq_some_iff,Option.pure_def,Option.some.injEq] at h
  obtain⟨z,hz,zs,hzs,rfl⟩:=h
  obtain⟨h1,h2⟩:=ih zs hzs
  refine⟨by simp[h1],fun k x hk=> ?_⟩
  cases k with
  |zero=>simp at hk;subst hk;exact⟨z,rfl,hz⟩
  |succ k=>simp at hk;simpa using h2 k x hk

theorem vE{C:Ctx}{c:Value}{x:AV}(h1:c.oneCell'=true)(hr:eB C x c):Et C [c] x:=by
 have hf:=Al hr h1
 refine⟨by rw[hf];rfl,fun c' hc=>by simp at hc;subst hc;exact h1,fun k y hk=> ?_⟩
 rw[hf] at hk
 cases k with
 |zero=>simp at hk;subst hk;exact⟨c,rfl,hr⟩
 |succ k=>simp at hk

section
variable {H:Type} {enc:TypeId×Value→H} {P:Program} {w:World} {spare:Nat→Bool} {held:Bool} {C:Ctx}

theorem Iz{ι:Type}(ty:ι→TypeId)(off:ι→Nat)(fuel:Nat)(cs:List Value):
  ∀(l:List ι) (acc:Nat) (xs:List (DataW H×List MemPlace)),(∀x∈l,∀(seg:List Value) (y:DataW H×List MemPlace),DataW.trod enc P w 0 spare held fuel (ty x) seg=some y→seg.length=P.cellsOf (ty x)→Et C seg (uR y.1))→(∀(i:Nat) (x:ι),l[i]? =some x→off x=acc+((l.take i).map fun y=>P.cellsOf (ty y)).sum)→acc+(l.map fun y=>P.cellsOf (ty y)).sum=cs.length→
   l.mapM (fun x=>DataW.trod enc P w 0 spare held fuel (ty x) ((cs.drop (off x)).take (P.cellsOf (ty x))))=some xs→Et C (cs.drop acc) (.agg (oW (xs.map (·.1)))):=by
 intro l
 induction l with
 |nil=>
  intro acc xs _ _ hlen h
  simp only[List.mapM_nil,Option.pure_def,Option.some.injEq] at h;subst h
  have:cs.drop acc=[]:=List.drop_eq_nil_of_le (by simp at hlen;omega)
  rw[this]
  exact⟨rfl,fun c hc=>(by cases hc),fun k y hk=>(by simp[oW,AV.flat] at hk)⟩
 |cons x l ihl=>
  intro acc xs ih hoff hlen h
  rw[List.mapM_cons] at h
  simp only[Option.bind_eq_bind,Option.bind_eq_some_iff,Option.pure_def,Option.some.injEq] at h
  obtain⟨z,hz,zs,hzs,rfl⟩:=h
  have h0:off x=acc:=by have:=hoff 0 x rfl;simpa using this
  simp only[List.map_cons,List.sum_cons] at hlen
  rw[h0] at hz
  have hseg:((cs.drop acc).take (P.cellsOf (ty x))).length=P.cellsOf (ty x):=by simp;omega
  have r1:=ih x (List.mem_cons_self ..) _ z hz hseg
  have r2:=ihl (acc+P.cellsOf (ty x)) zs (fun y hy=>ih y (List.mem_cons_of_mem _ hy)) (fun i y hy=>by
   have:=hoff (i+1) y (by simpa using hy)
   rw[this];simp only[List.take_succ_cons,List.map_cons,List.sum_cons];omega) (by omega) hzs
  have hsplit:cs.drop acc=(cs.drop acc).take (P.cellsOf (ty x))++cs.drop (acc+P.cellsOf (ty x)):=by
   rw[←List.drop_drop];exact(List.take_append_drop _ _).symm
  rw[hsplit]
  have l1:=r1.len
  have l2:=r2.len
  simp only[flat_agg] at l2
  refine⟨by simp only[flat_agg,List.map_cons,oW,List.length_append,l1,l2],fun c hc=> ?_,fun k y hk=> ?_⟩
  ·rcases List.mem_append.1 hc with h|h
   ·exact r1.one c h
   ·exact r2.one c h
  ·simp only[flat_agg,List.map_cons,oW] at hk
   by_cases hlt:k<(uR z.1).flat.length
   ·rw[List.getElem?_append_left hlt] at hk
    obtain⟨c,g1,g2⟩:=r1.rep k y hk
    exact⟨c,by rw[List.getElem?_append_left (by omega)];exact g1,g2⟩
   ·rw[List.getElem?_append_right (by omega)] at hk
    obtain⟨c,g1,g2⟩:=r2.rep _ y hk
    exact⟨c,by rw[List.getElem?_append_right (by omega),←l1];exact g1,g2⟩

theorem KA(P:Program):∀(fs:List Field) (a tot:Nat),fs.foldl (fun(acc:Option Nat) f=>acc.bind fun a=>if f.offset==a then some (a+P.cellsOf f.type) else none) (some a)=some tot→
  (∀(i:Nat) (x:Field),fs[i]? =some x→x.offset=a+((fs.take i).map fun y=>P.cellsOf y.type).sum)∧a+(fs.map fun y=>P.cellsOf y.type).sum=tot:=by
 intro fs
 induction fs with
 |nil=>intro a tot h;simp only[List.foldl_nil,Option.some.injEq] at h;subst h;exact⟨fun i x h=>by simp at h,by simp⟩
 |cons f fs ih=>
  intro a tot h
  simp only[List.foldl_cons,Option.bind_some] at h
  by_cases hf:f.offset==a
  ·rw[if_pos hf] at h
   obtain⟨h1,h2⟩:=ih _ _ h
   have hf':f.offset=a:=by simpa using hf
   refine⟨fun i x hx=> ?_,by simp only[List.map_cons,List.sum_cons];omega⟩
   cases i with
   |zero=>simp at hx;subst hx;simpa using hf'
   |succ i=>
    simp only[List.getElem?_cons_succ] at hx
    rw[h1 i x hx]
    simp only[List.take_succ_cons,List.map_cons,List.sum_cons];omega
  ·rw[if_neg hf] at h
   have:∀(l:List Field),l.foldl (fun(acc:Option Nat) f=>acc.bind fun a=>if f.offset==a then some (a+P.cellsOf f.type) else none) none=none:=by
    intro l;induction l with
    |nil=>rfl
    |cons _ _ ih=>simpa using ih
   rw[this] at h;cases h

theorem xl{fuel:Nat}{t e:TypeId}{cs:List Value}{d:DataW H}{ps:List MemPlace}(hu:P.underlying t=some (.slice e))(h:DataW.trod enc P w 0 spare held (fuel+1) t cs=some (d,ps)):
  (cs=[.slice none 0 0]∧d=.nil)∨∃a len cap elems rest,cs=[.slice (some a) len cap]∧d=.slice (elems.map (·.1)) rest∧len≤cap∧cap≤maxLen∧
   (List.range len).mapM (fun i=>(w.cells? 0 (a.add (i*P.cellsOf e)) (P.cellsOf e)).bind (DataW.trod enc P w 0 spare held fuel e))=some elems:=by
 rcases cs with _|⟨c,_|⟨c',cs⟩⟩
 ·simp[DataW.trod,hu] at h
 ·cases c <;> try (simp[DataW.trod,hu] at h;done)
  rename_i a len cap
  cases a with
  |none=>
   cases len <;> cases cap <;> simp[DataW.trod,hu] at h
   exact .inl ⟨rfl,h.1.symm⟩
  |some a=>
   simp only[DataW.trod,hu] at h
   split at h
   ·rename_i hc
    simp only[Option.bind_eq_some_iff,Option.map_eq_some_iff,Prod.mk.injEq] at h
    obtain⟨elems,h1,rest,h2,rfl,_⟩:=h
    exact .inr ⟨a,len,cap,elems,_,rfl,rfl,hc.2.1,hc.2.2,h1⟩
   ·cases h
 ·simp[DataW.trod,hu] at h

theorem yO{fuel:Nat}{t:TypeId}{cs:List Value}{d:DataW H}{ps:List MemPlace}(hu:P.underlying t=some .bool)(h:DataW.trod enc P w 0 spare held (fuel+1) t cs=some (d,ps)):∃b,cs=[.bool b]∧d=.lit (.bool b):=by
 rcases cs with _|⟨c,_|⟨c',cs⟩⟩
 ·simp[DataW.trod,hu] at h
 ·cases c <;> try (simp[DataW.trod,hu] at h;done)
  rename_i b
  simp only[DataW.trod,hu,Option.some.injEq,Prod.mk.injEq] at h
  exact⟨b,rfl,h.1.symm⟩
 ·simp[DataW.trod,hu] at h

theorem Au{fuel:Nat}{t:TypeId}{k:IntKind}{cs:List Value}{d:DataW H}{ps:List MemPlace}(hu:P.underlying t=some (.int k))(h:DataW.trod enc P w 0 spare held (fuel+1) t cs=some (d,ps)):∃n,cs=[.int k n]∧d=.lit (.int k n)∧(Lit.int k n).wf=true:=by
 rcases cs with _|⟨c,_|⟨c',cs⟩⟩
 ·simp[DataW.trod,hu] at h
 ·cases c <;> try (simp[DataW.trod,hu] at h;done)
  rename_i k' n
  simp only[DataW.trod,hu] at h
  split at h
  ·rename_i hk
   obtain⟨rfl,hwf⟩:=hk
   simp only[Option.some.injEq,Prod.mk.injEq] at h
   exact⟨n,rfl,h.1.symm,hwf⟩
  ·cases h
 ·simp[DataW.trod,hu] at h

theorem AM{fuel:Nat}{t:TypeId}{cs:List Value}{d:DataW H}{ps:List MemPlace}(hu:P.underlying t=some .string)(h:DataW.trod enc P w 0 spare held (fuel+1) t cs=some (d,ps)):∃s,cs=[.string s]∧d=.lit (.string s.data.toList):=by
 rcases cs with _|⟨c,_|⟨c',cs⟩⟩
 ·simp[DataW.trod,hu] at h
 ·cases c <;> try (simp[DataW.trod,hu] at h;done)
  rename_i s
  simp only[DataW.trod,hu] at h
  split at h
  ·simp only[Option.some.injEq,Prod.mk.injEq] at h
   exact⟨s,rfl,h.1.symm⟩
  ·cases h
 ·simp[DataW.trod,hu] at h

theorem vX{fuel:Nat}{t:TypeId}{fs:Array Field}{cs:List Value}{d:DataW H}{ps:List MemPlace}(hu:P.underlying t=some (.struct fs))(h:DataW.trod enc P w 0 spare held (fuel+1) t cs=some (d,ps)):
  ∃xs,cs.length=P.cellsOf t∧d=.agg (xs.map (·.1))∧fs.toList.mapM (fun f=>DataW.trod enc P w 0 spare held fuel f.type ((cs.drop f.offset).take (P.cellsOf f.type)))=some xs:=by
 have key:(if cs.length=P.cellsOf t then(fs.toList.mapM fun f=>DataW.trod enc P w 0 spare held fuel f.type ((cs.drop f.offset).take (P.cellsOf f.type))).map fun xs=>((.agg (xs.map (·.1)):DataW H),xs.flatMap (·.2)) else none)=some (d,ps):=by
  rcases cs with _|⟨c,_|⟨c',cs⟩⟩
  ·simpa only[DataW.trod,hu] using h
  ·cases c <;> simpa only[DataW.trod,hu] using h
  ·simpa only[DataW.trod,hu] using h
 split at key
 ·rename_i hl
  obtain⟨xs,h1,h2⟩:=Option.map_eq_some_iff.1 key
  simp only[Prod.mk.injEq] at h2
  exact⟨xs,hl,h2.1.symm,h1⟩
 ·cases key

theorem CB{fuel:Nat}{t e:TypeId}{m:Nat}{cs:List Value}{d:DataW H}{ps:List MemPlace}(hu:P.underlying t=some (.array m e))(h:DataW.trod enc P w 0 spare held (fuel+1) t cs=some (d,ps)):
  ∃xs,cs.length=P.cellsOf t∧d=.agg (xs.map (·.1))∧(List.range m).mapM (fun i=>DataW.trod enc P w 0 spare held fuel e ((cs.drop (i*P.cellsOf e)).take (P.cellsOf e)))=some xs:=by
 have key:(if cs.length=P.cellsOf t then((List.range m).mapM fun i=>DataW.trod enc P w 0 spare held fuel e ((cs.drop (i*P.cellsOf e)).take (P.cellsOf e))).map fun xs=>((.agg (xs.map (·.1)):DataW H),xs.flatMap (·.2)) else none)=some (d,ps):=by
  rcases cs with _|⟨c,_|⟨c',cs⟩⟩
  ·simpa only[DataW.trod,hu] using h
  ·cases c <;> simpa only[DataW.trod,hu] using h
  ·simpa only[DataW.trod,hu] using h
 split at key
 ·rename_i hl
  obtain⟨xs,h1,h2⟩:=Option.map_eq_some_iff.1 key
  simp only[Prod.mk.injEq] at h2
  exact⟨xs,hl,h2.1.symm,h1⟩
 ·cases key

theorem DN{a:Addr}{n:Nat}{seg:List Value}(h:w.cells? 0 a n=some seg):seg.length=n∧∀(j:Nat) (c:Value),seg[j]? =some c→w.cell? (a.add j)=some c:=by
 unfold World.cells? at h
 rw[if_pos (Nat.zero_le _)] at h
 obtain⟨h1,h2⟩:=mapM_some _ _ _ h
 refine⟨by simpa using h1,fun j c hc=> ?_⟩
 have hj:j<n:=by have:=(List.getElem?_eq_some_iff.1 hc).1;rw[h1] at this;simpa using this
 obtain⟨y,g1,g2⟩:=h2 j j (by simp[hj])
 rw[g1] at hc;cases hc;exact g2

theorem Jm(hw:C.w=w)(hbad:∀b,¬C.bad b):∀(fuel n:Nat) (t:TypeId) (cs:List Value) (d:DataW H) (ps:List MemPlace),sy P n t=true→
  DataW.trod enc P w 0 spare held fuel t cs=some (d,ps)→Et C cs (uR d):=by
 intro fuel
 induction fuel with
 |zero=>intro n t cs d ps _ h;simp[DataW.trod] at h
 |succ fuel ih=>
  intro n t cs d ps hp h
  cases n with
  |zero=>simp[sy] at hp
  |succ n=>
  unfold sy at hp
  split at hp
  ·rename_i hu
   obtain⟨b,rfl,rfl⟩:=yO hu h
   exact vE rfl (.imm _ rfl)
  ·rename_i k hu
   obtain⟨q,rfl,rfl,_⟩:=Au hu h
   exact vE rfl (.imm _ rfl)
  ·rename_i hu
   obtain⟨q,rfl,rfl⟩:=AM hu h
   refine vE (c:=.string q) rfl ?_
   have:(⟨q.data.toList.toArray⟩:ByteArray)=q:=by cases q;simp
   simp only[uR,this]
   exact .imm _ rfl
  · -- slice
   rename_i e hu
   simp only[Bool.and_eq_true,bne_iff_ne,ne_eq] at hp
   obtain⟨hs0,hpe⟩:=hp
   rcases xl hu h with⟨rfl,rfl⟩|⟨a,len,cap,elems,rest,rfl,rfl,hlc,_,hm⟩
   ·exact vE rfl (.slNil _ _)
   ·obtain⟨l1,l2⟩:=mapM_some _ _ _ hm
    simp only[List.length_range] at l1
    refine vE rfl ?_
    simp only[uR,JE,List.map_map]
    subst l1
    by_cases h0:elems=[]
    ·subst h0;exact .slNil _ _
    ·have hpos:0<elems.length:=List.length_pos_iff.2 h0
     obtain⟨b,off,sp⟩:=a
     -- each element's cells
     have hel:∀i,i<elems.length→∃seg z,elems[i]? =some z∧w.cells? 0 ((⟨b,off,sp⟩:Addr).add (i*P.cellsOf e)) (P.cellsOf e)=some seg∧Et C seg (uR z.1):=fun i hi=>by
      obtain⟨z,g1,g2⟩:=l2 i i (by simp[hi])
      obtain⟨seg,g3,g4⟩:=Option.bind_eq_some_iff.1 g2
      exact⟨seg,z,g1,g3,ih n e seg z.1 z.2 hpe g4⟩
     have hsp:sp=none:=by
      obtain⟨seg,z,_,g2,_⟩:=hel 0 hpos
      obtain⟨q1,q2⟩:=DN g2
      have hs:0<seg.length:=by omega
      have:=q2 0 _ (List.getElem?_eq_getElem hs)
      rw[Nat.zero_mul] at this
      cases sp with
      |none=>rfl
      |some x=>simp[Addr.add,World.cell?] at this;split at this <;> simp at this
     subst hsp
     have cell:∀(i j:Nat) (q x:AV),(elems.map (uR∘(·.1)))[i]? =some q→q.flat[j]? =some x→∃v,Holds C.w b (off+i*P.cellsOf e+j) v∧eB C x v:=fun i j q x hq hx=>by
      have hi:i<elems.length:=by have:=(List.getElem?_eq_some_iff.1 hq).1;simpa using this
      obtain⟨seg,z,g1,g2,g3⟩:=hel i hi
      simp only[List.getElem?_map,g1,Option.map_some,Function.comp,Option.some.injEq] at hq
      subst hq
      obtain⟨c,g4,g5⟩:=g3.rep j x hx
      have:=(DN g2).2 j c g4
      rw[tS,tS] at this
      exact⟨c,⟨by rw[hw];exact this,g3.one c (List.mem_of_getElem? g4)⟩,g5⟩
     have hfl:∀(i:Nat) (q:AV),(elems.map (uR∘(·.1)))[i]? =some q→q.flat.length=P.cellsOf e:=fun i q hq=>by
      have hi:i<elems.length:=by have:=(List.getElem?_eq_some_iff.1 hq).1;simpa using this
      obtain⟨seg,z,g1,g2,g3⟩:=hel i hi
      simp only[List.getElem?_map,g1,Option.map_some,Function.comp,Option.some.injEq] at hq
      subst hq
      rw[g3.len];exact(DN g2).1
     have hb:b<C.w.heap.size:=by
      obtain⟨seg,z,g1,g2,g3⟩:=hel 0 hpos
      have hs:0<(uR z.1).flat.length:=by
       rw[hfl 0 _ (by simp[g1])];omega
      obtain⟨v,g4,_⟩:=cell 0 0 _ _ (by simp[g1]) (List.getElem?_eq_getElem hs)
      have:=g4.1
      unfold World.cell? at this
      split at this
      ·rename_i h9;exact(Array.getElem?_eq_some_iff.1 h9).1
      ·cases this
     have hlen:(elems.map (uR∘(·.1))).length=elems.length:=by simp
     have:=eB.sl (C:=C) (elems.map (uR∘(·.1))) b off (P.cellsOf e) cap (fun i j=>(C.w.cell? ⟨b,off+i*P.cellsOf e+j,none⟩).getD undef) hb (hbad b) (by rw[hlen];exact hlc) hfl
      (fun i j q x hq hx=>by
       obtain⟨v,g1,g2⟩:=cell i j q x hq hx
       rw[g1.1];exact g1)
      (fun i j q x hq hx=>by
       obtain⟨v,g1,g2⟩:=cell i j q x hq hx
       rw[g1.1];exact g2)
     rw[hlen] at this
     exact this
  · -- struct
   rename_i fs hu
   rw[Bool.and_eq_true,List.all_eq_true] at hp
   obtain⟨hpf,hct⟩:=hp
   rw[beq_iff_eq] at hct
   obtain⟨xs,hl,rfl,hm⟩:=vX hu h
   obtain⟨c1,c2⟩:=KA P fs.toList 0 _ hct
   have:=Iz (C:=C) (P:=P) (w:=w) (enc:=enc) (spare:=spare) (held:=held) (fun f:Field=>f.type) (fun f=>f.offset) fuel cs
    fs.toList 0 xs (fun x hx seg y hy _=>ih n x.type seg y.1 y.2 (hpf x hx) hy) c1 (by rw[hl];exact c2) hm
   simpa [uR] using this
  · -- array
   rename_i m e hu
   simp only[Bool.and_eq_true,beq_iff_eq] at hp
   obtain⟨hpe,hct⟩:=hp
   obtain⟨xs,hl,rfl,hm⟩:=CB hu h
   have hsum:∀(l:List Nat),(l.map fun _=>P.cellsOf e).sum=l.length*P.cellsOf e:=by
    intro l;induction l with
    |nil=>simp
    |cons _ l ih=>simp[ih,Nat.add_mul,Nat.add_comm]
   have:=Iz (C:=C) (P:=P) (w:=w) (enc:=enc) (spare:=spare) (held:=held) (fun _:Nat=>e) (fun i=>i*P.cellsOf e) fuel cs
    (List.range m) 0 xs (fun x _ seg y hy _=>ih n e seg y.1 y.2 hpe hy)
    (fun i x hx=>by
     have hi:i<m:=by have:=(List.getElem?_eq_some_iff.1 hx).1;simpa using this
     have hx':x=i:=by simp[hi] at hx;exact hx.symm
     subst hx'
     rw[hsum];simp;rw[Nat.min_eq_left (by omega)]) (by rw[hsum,hl];simpa using hct) hm
   simpa [uR] using this
  ·cases hp
end
end Go.Av
end

section
/- From what a law's function does to what its row asks. -/
namespace Go.Av
open Go.RowKit (Below)

section
variable {H:Type} {enc:TypeId×Value→H} {P:Program}

theorem DI(hl:laidOutB P=true){W W':World}(hb:Below W.heap.size W W'):∀{ts:List TypeId} {vs:List Value} {ds:List (DataW H)} {ps:List MemPlace},(∀t∈ts,P.readableRec t=true∧t<P.types.size)→
  DataW.TrodAll enc P W 0 (fun _=>true) true ts vs ds ps→(∀x∈ps,x.block<W.heap.size)→DataW.TrodAll enc P W' 0 (fun b=>decide (b<W.heap.size)) true ts vs ds ps
 |[],[],[],ps,_,h,_=>h
 |t::ts,v::vs,d::ds,ps,hr,h,hlt=>by
  obtain⟨p,q,h1,h2,rfl⟩:=h
  obtain⟨r1,r2⟩:=hr t (List.mem_cons_self ..)
  exact⟨p,q,RowKit.Below.trod hl r1 r2 h1 hb (fun x hx=>hlt x (List.mem_append_left _ hx)),DI hl hb (fun t ht=>hr t (List.mem_cons_of_mem _ ht)) h2 (fun x hx=>hlt x (List.mem_append_right _ hx)),rfl⟩

theorem T2{fn:Func}{s:ChangeSpec}{W W':World}{args:Array Value}{ds gs:List (DataW H)}{before:List MemPlace}{tb:TypeId}(hW:DataW.Whole enc P fn.params.toList s.vars false W args.toList ds gs before)
  (hv:s.vars=[])(hfn:s.fn H (ds++gs)=⟨[.lit (.bool true)],ds,[]⟩)(hres:fn.resultTypes= #[tb])(hb:P.underlying tb=some .bool)(hl:laidOutB P=true)(hr:∀t∈fn.params.toList,P.readableRec t=true∧t<P.types.size)
  (hbel:Below W.heap.size W W'):s.post enc P fn false true false false W args (.bool true) W':=by
 have hlt:=fun p hp=>hW.lt p hp
 have hW':=hW
 obtain⟨p,q,h1,h2,rfl,h3,h4⟩:=hW
 refine⟨ds,gs,p++q,[],p,[],hW', ?_, ?_, ?_,hbel.frame _,fun h=>by cases h⟩
 ·rw[hfn,hres]
  show DataW.TrodAll enc P W' _ _ _ [tb] [.bool true] [.lit (.bool true)] []
  exact⟨[],[],RowKit.shut_bool hb true,rfl,rfl⟩
 ·rw[hfn]
  exact DI hl hbel hr h1 (fun x hx=>hlt x (List.mem_append_left _ hx))
 ·rw[hfn,hv];rfl

def Ctx.start(W:World):Ctx:={w:=W,H:=.empty,pl:=fun _=>⟨0,0,0,0,false⟩,eC:=fun _=>False,jX:=[],qU:=0}

theorem C6(W:World)(b:Nat):¬(Ctx.start W).own b:=EX rfl rfl b

theorem Rz(W:World):Inv (.of W) (Ctx.start W) where
 fresh id es h:=by simp[Ctx.start,bu.empty,bu.get,lk] at h
 nil id es h:=by simp[Ctx.start,bu.empty,bu.get,lk] at h
 obj id es h:=by simp[Ctx.start,bu.empty,bu.get,lk] at h
 sep i1 i2 e1 e2 h:=by simp[Ctx.start,bu.empty,bu.get,lk] at h
 eC id es h:=by simp[Ctx.start,bu.empty,bu.get,lk] at h
 qH id s h:=by simp[Ctx.start,bu.empty,bu.sz,lk] at h
 f_ _ h:=h.elim
 gA _ h:=h.elim
 size:=Nat.le_refl _
 kK b _:=⟨rfl,C6 W b⟩
 d_ l r h:=by simp[Ctx.start,bu.empty,lk] at h
 jX d h:=by simp[Ctx.start] at h
 CN:=.nil
 Dt:=fun _ _=>rfl
 gQ b h:=absurd (.inr h) (C6 W b)
 rX:=rfl
 iN:=Nat.zero_le _
 gh:=trivial

theorem Ry(W:World)(b:Nat):¬(Ctx.start W).bad b:=by
 rintro(h|h)
 ·exact C6 W b h
 ·exact h

theorem Jj{W:World}{base:Nat}{t:TypeId}{v:Value}{n:Nat}(hp:sy P n t=true)(h:Value.okWide P W .any base t v):v.oneCell'=true∨∃cs,v=.agg cs∧((∃fs,P.underlying t=some (.struct fs))∨∃m e,P.underlying t=some (.array m e)):=by
 cases n with
 |zero=>simp[sy] at hp
 |succ n=>
  unfold sy at hp
  split at hp <;> rename_i hu
  ·left;cases v <;> first|rfl|(simp[Value.okWide,Cell.okWide,Cell.ok,hu] at h)
  ·left;cases v <;> first|rfl|(simp[Value.okWide,Cell.okWide,Cell.ok,hu] at h)
  ·left;cases v <;> first|rfl|(simp[Value.okWide,Cell.okWide,Cell.ok,hu] at h)
  ·left;cases v <;> first|rfl|(simp[Value.okWide,Cell.okWide,Cell.ok,hu] at h)
  ·right
   simp only[Value.okWide,hu] at h
   obtain⟨cs,rfl,_⟩:=h
   exact⟨cs,rfl,.inl ⟨_,hu⟩⟩
  ·right
   simp only[Value.okWide,hu] at h
   obtain⟨cs,rfl,_⟩:=h
   exact⟨cs,rfl,.inr ⟨_,_,hu⟩⟩
  ·cases hp

theorem VT{W:World}{base:Nat}{t:TypeId}{v:Value}{d:DataW H}{ps:List MemPlace}(n:Nat)(hp:sy P n t=true)(h:DataW.Trod enc P W 0 (fun _=>true) true t v d ps)(hform:Value.okWide P W .any base t v):eB (Ctx.start W) (uR d) v:=by
 obtain⟨fuel,hf⟩:=h
 have hr:=Jm (C:=Ctx.start W) rfl (Ry W) fuel n t v.cells.toList d ps hp hf
 rcases Jj hp hform with h1|⟨cs,rfl,hu⟩
 ·rw[cells_one h1] at hr hf
  obtain⟨c,g1,g2⟩:=hr.rep 0 ((uR d).flat.getD 0 .any) (by
   have:=hr.len
   simp only[List.length_cons,List.length_nil] at this
   rw[List.getD_eq_getElem?_getD]
   cases hq:(uR d).flat with
   |nil=>rw[hq] at this;simp at this
   |cons _ _=>rfl)
  simp only[List.getElem?_cons_zero,Option.some.injEq] at g1
  subst g1
  -- the datum is no aggregate
  have hd:(uR d).flat=[uR d]:=by
   cases fuel with
   |zero=>simp[DataW.trod] at hf
   |succ fuel=>
    cases n with
    |zero=>simp[sy] at hp
    |succ n=>
     unfold sy at hp
     split at hp
     ·rename_i hu;obtain⟨b,_,rfl⟩:=yO hu hf;rfl
     ·rename_i k hu;obtain⟨q,_,rfl,_⟩:=Au hu hf;rfl
     ·rename_i hu;obtain⟨q,_,rfl⟩:=AM hu hf;rfl
     ·rename_i e hu
      rcases xl hu hf with⟨_,rfl⟩|⟨_,_,_,_,_,_,rfl,_⟩ <;> rfl
     ·rename_i fs hu
      simp only[Value.okWide,hu] at hform
      obtain⟨cs,rfl,_⟩:=hform
      simp[Value.oneCell'] at h1
     ·rename_i m e hu
      simp only[Value.okWide,hu] at hform
      obtain⟨cs,rfl,_⟩:=hform
      simp[Value.oneCell'] at h1
     ·cases hp
  rw[hd] at g2
  exact g2
 ·have hagg:∃l,uR d=.agg l:=by
   cases fuel with
   |zero=>simp[DataW.trod] at hf
   |succ fuel=>
    rcases hu with⟨fs,hu⟩|⟨m,e,hu⟩
    ·obtain⟨xs,_,rfl,_⟩:=vX hu hf;exact⟨_,rfl⟩
    ·obtain⟨xs,_,rfl,_⟩:=CB hu hf;exact⟨_,rfl⟩
  obtain⟨l,hl⟩:=hagg
  rw[hl] at hr ⊢
  have hlen:=hr.len
  simp only[flat_agg,Value.cells,Array.length_toList] at hlen
  refine .agg l cs hlen.symm (fun k u hk=>hr.one u (by simp[Value.cells];exact Array.mem_of_getElem? hk)) (fun k x hx=> ?_)
  obtain⟨c,g1,g2⟩:=hr.rep k x hx
  have g1':cs[k]? =some c:=by simpa [Value.cells] using g1
  have hlt:=(Array.getElem?_eq_some_iff.1 g1').1
  have:cs.getD k undef=c:=by have:=om hlt;rw[g1'] at this;exact(Option.some.inj this).symm
  rw[this];exact g2


def RV(P:Program)(t:TypeId){α:Type}(f:α→AV)(ok:α→Prop):Prop:=
 ∀{H:Type} (enc:TypeId×Value→H) (w:World) (spare:Nat→Bool) (held:Bool) (fuel:Nat) (cs:List Value) (d:DataW H) (ps:List MemPlace),DataW.trod enc P w 0 spare held fuel t cs=some (d,ps)→∃x,ok x∧uR d=f x

theorem sZ{t:TypeId}(hu:P.underlying t=some (.int .i64)):RV P t J (fun n=> -9223372036854775808≤n∧n≤9223372036854775807):=by
 intro H enc w spare held fuel cs d ps h
 cases fuel with
 |zero=>simp[DataW.trod] at h
 |succ fuel=>
  obtain⟨n,_,rfl,hwf⟩:=Au hu h
  simp[Lit.wf,IntKind.min,IntKind.max,IntKind.signed,IntKind.bits] at hwf
  exact⟨n,by omega,rfl⟩

theorem Sj{t:TypeId}(hu:P.underlying t=some .bool):RV P t bl (fun _=>True):=by
 intro H enc w spare held fuel cs d ps h
 cases fuel with
 |zero=>simp[DataW.trod] at h
 |succ fuel=>
  obtain⟨n,_,rfl⟩:=yO hu h
  exact⟨n,trivial,rfl⟩

theorem tw{t e:TypeId}{α:Type}{f:α→AV}{ok:α→Prop}(hu:P.underlying t=some (.slice e))(he:RV P e f ok):RV P t (fun l:List α=>AV.sl (l.map f)) (fun l=>(∀x∈l,ok x)∧l.length≤9223372036854775807):=by
 intro H enc w spare held fuel cs d ps h
 cases fuel with
 |zero=>simp[DataW.trod] at h
 |succ fuel=>
  rcases xl hu h with⟨_,rfl⟩|⟨a,len,cap,elems,rest,_,rfl,hlc,hmx,hm⟩
  ·exact⟨[],by simp,rfl⟩
  ·obtain⟨l1,l2⟩:=mapM_some _ _ _ hm
   have key:∀(es:List (DataW H×List MemPlace)),(∀z∈es,∃x,ok x∧uR z.1=f x)→∃l:List α,(∀x∈l,ok x)∧l.length=es.length∧(es.map (·.1)).map uR=l.map f:=by
    intro es
    induction es with
    |nil=>intro _;exact⟨[],by simp,rfl,rfl⟩
    |cons z es ih=>
     intro hz
     obtain⟨x,g1,g2⟩:=hz z (List.mem_cons_self ..)
     obtain⟨l,g3,g4,g5⟩:=ih (fun y hy=>hz y (List.mem_cons_of_mem _ hy))
     refine⟨x::l, ?_,by simp[g4],by simp only[List.map_cons,g2,g5]⟩
     intro y hy
     rcases List.mem_cons.1 hy with rfl|hy
     ·exact g1
     ·exact g3 y hy
   obtain⟨l,g1,g2,g3⟩:=key elems (fun z hz=>by
    obtain⟨k,hk⟩:=List.getElem?_of_mem hz
    have hlt:=(List.getElem?_eq_some_iff.1 hk).1
    rw[l1] at hlt
    have hlt':k<len:=by simpa using hlt
    obtain⟨y,q1,q2⟩:=l2 k k (by simp[hlt'])
    rw[hk] at q1;cases q1
    obtain⟨seg,_,q4⟩:=Option.bind_eq_some_iff.1 q2
    exact he enc w spare held fuel seg z.1 z.2 q4)
   refine⟨l,⟨g1, ?_⟩, ?_⟩
   ·rw[g2,l1]
    have:cap≤9223372036854775807:=hmx
    simp;omega
   ·simp only[uR,JE,g3]

theorem zH{t:TypeId}{fs:Array Field}(hu:P.underlying t=some (.struct fs)){H:Type}{enc:TypeId×Value→H}{w:World}{spare:Nat→Bool}{held:Bool}{fuel:Nat}{cs:List Value}{d:DataW H}{ps:List MemPlace}(h:DataW.trod enc P w 0 spare held fuel t cs=some (d,ps)):
  ∃fuel' xs,uR d=.agg (oW (xs.map (·.1)))∧fs.toList.mapM (fun f=>DataW.trod enc P w 0 spare held fuel' f.type ((cs.drop f.offset).take (P.cellsOf f.type)))=some xs:=by
 cases fuel with
 |zero=>simp[DataW.trod] at h
 |succ fuel=>
  obtain⟨xs,_,rfl,hm⟩:=vX hu h
  exact⟨fuel,xs,rfl,hm⟩

theorem Q2{f:FuncId}{fn:Func}{s:ChangeSpec}{W:World}{args:Array Value}{ds gs:List (DataW H)}{before:List MemPlace}{tb:TypeId}{xs:List AV}(hf:bW P W f xs (bl true))(hsz:args.size=xs.length)
  (hrep:∀(k:Nat) (x:AV),xs[k]? =some x→eB (Ctx.start W) x (args.getD k undef))(hW:DataW.Whole enc P fn.params.toList s.vars false W args.toList ds gs before)
  (hv:s.vars=[])(hfn:s.fn H (ds++gs)=⟨[.lit (.bool true)],ds,[]⟩)(hres:fn.resultTypes= #[tb])(hb:P.underlying tb=some .bool)(hl:laidOutB P=true)(hr:∀t∈fn.params.toList,P.readableRec t=true∧t<P.types.size):
  Calls P f args W fun e W'=>∃v,e=.returned v∧s.post enc P fn false true false false W args v W':=by
 refine(hf.runs (Ctx.start W) args (Rz W) rfl rfl hsz hrep).mono ?_
 rintro e W' ⟨v,C',rfl,rfl,hE,_,hv'⟩
 obtain rfl:=fq (v:=.bool true) rfl hv'
 exact⟨_,rfl,T2 hW hv hfn hres hb hl hr (wm hE (C6 W))⟩

end
end Go.Av
end

section
/- From a row's argument to what a proof sees of it. -/
namespace Go.Av
open Go.ChangeShapes Go.WideShapes Go.ChangeAt Go.RowKit
variable {P:Program} {H:Type} {enc:TypeId×Value→H}

theorem PE{W:World}{base:Nat}{t:TypeId}{v:Value}{d:DataW H}{ps:List MemPlace}{α:Type}{f:α→AV}{ok:α→Prop}(n:Nat)(hp:sy P n t=true)(hd:RV P t f ok)(h:DataW.Trod enc P W 0 (fun _=>true) true t v d ps)(hform:Value.okWide P W .any base t v):∃x,ok x∧eB (Ctx.start W) (f x) v:=by
 have h1:=VT n hp h hform
 obtain⟨fuel,hf⟩:=h
 obtain⟨x,h2,h3⟩:=hd enc W _ _ fuel _ d ps hf
 exact⟨x,h2,h3▸h1⟩

theorem Ra{fn:Func}(h:(fn.params.toList.all fun t=>P.readableRec t&&decide (t<P.types.size))=true):∀t∈fn.params.toList,P.readableRec t=true∧t<P.types.size:=fun t ht=>by
 have:=List.all_eq_true.1 h t ht
 simpa using this

theorem ahj{C:Ctx}{x0 x1:AV}{v0 v1:Value}(h0:eB C x0 v0)(h1:eB C x1 v1):∀(k:Nat) (x:AV),[x0,x1][k]? =some x→eB C x (#[v0,v1].getD k undef):=fun k x h=>by
 match k with
 |0=>cases h;exact h0
 |1=>cases h;exact h1
 |k+2=>cases h
end Go.Av
end

namespace Go.Av
theorem a_{P:Program}{W0:eo}{N:Nat}{st:St}{Q:Exit→St→Prop}{c:Operand}{x y:Code}{t:Bool}{α:Type}{A B o:α}(hc:bH (lk st.fr) c=some (.imm (.bool t)))(h:(if t=true then A else B)=o)(ht:A=o→ec P W0 N x st Q)(hf:B=o→ec P W0 N y st Q):ec P W0 N (.cond c x y) st Q:=
 wL hc (fun e=>ht (Sh.dN h e)) (fun e=>hf (Sh.dM h e))
theorem D{α:Type}{a b:α}(h:some a=some b):a=b:=Option.some.inj h
theorem fm{α β:Type}{a:α}{f:α→Option β}:(some a).bind f=f a:=rfl
theorem nF:(false=true)=False:=Bool.false_eq_true
theorem Z.{u}{α:Sort u}{a:α}:a=a:=rfl
theorem Y{P:Program}{W0:eo}{N:Nat}{c:Code}{st st':St}{Q:Exit→St→Prop}(hw:bq W0 N st st')(h:ec P W0 N c st' Q):ec P W0 N c st Q:=ec.Vj hw h
end Go.Av
