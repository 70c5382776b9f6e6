/- What a proof sees of a run, and the rules by which it goes through a text. -/
import Derived.Test.YtanbmobkolihaaaGreatDoorBase2
import Derived.Carry
import Derived.ProofKit
import Derived.OpenShut
import Derived.Lib.LaidTab
open List renaming all_eq_true→agP,getElem?_eq_getElem→ab9,getElem?_map→ab_,mapM_cons→acT,map_cons→ac7,mem_cons_of_mem→adU,mem_cons_self→ad2,range→aeD,replicate→aeR
open Option renaming bind_eq_bind→aeY,bind_eq_some_iff→ae1,map_eq_some_iff→ae5,map_some→ajX,pure_def→afd
open Nat renaming le_refl→afk
open Bool renaming and_eq_true→aiq
set_option linter.unusedSimpArgs false
set_option linter.unusedVariables false
section
namespace Go.Av
open Go
def ME{α:Type}(p:Nat→α→Prop):List (Nat×α)→Prop
 |[]=>True
 |(t,x)::l=>p t x∧ME p l
theorem ME.lk{α:Type}{p:Nat→α→Prop}:∀{l:List (Nat×α)} {t:Nat} {x:α},ME p l→Av.lk l t=some x→p t x
 |[],_,_,_,h=>by cases h
 |(s,y)::l,t,x,ha,h=>by
  simp only[Av.lk] at h;split at h
  ·rename_i e;subst e;cases h;exact ha.1
  ·exact ME.lk ha.2 h
def stA(e:AV)(j n:Nat)(y:AV):Option AV:=match e with
 |.agg cs=>match u5 (cs.take j++y.flat++cs.drop (j+n)) with
  |some q=>some (.agg q)
  |none=>none
 |_=>match j,n with
  |0,1=>some y
  |_,_=>none
theorem aa7{e e' y:AV}{j n:Nat}(hm:e.flat.length=1∨∃cs,e=.agg cs)(h:stA e j n y=some e'):e'.flat=e.flat.take j++y.flat++e.flat.drop (j+n):=by
 unfold stA at h;split at h
 ·split at h
  ·rename_i hq;cases h;exact uE hq
  ·cases h
 ·rename_i hne
  split at h
  ·cases h
   rcases hm with hm|⟨cs,rfl⟩
   ·simp only[List.take_zero,List.nil_append,Nat.zero_add]
    rw[List.drop_of_length_le (by omega)];simp
   ·exact absurd rfl (hne cs)
  ·cases h
def shA(n:Nat):Nat→AV→Option AV
 |0,_=>none
 |k+1,x=>match x with
  |.view id o l=>some (.view (n+id) o l)
  |.ref id i j=>some (.ref (n+id) i j)
  |.mref id=>some (.mref (n+id))
  |.agg cs=>match Da (shA n k) cs with|some q=>some (.agg q)|none=>none
  |.tuple cs=>match Da (shA n k) cs with|some q=>some (.tuple q)|none=>none
  |.fH f cs=>match Da (shA n k) cs with|some q=>some (.fH f q)|none=>none
  |.ifc t x=>match shA n k x with|some y=>some (.ifc t y)|none=>none
  |.imm v=>some (.imm v)
  |.sl es=>some (.sl es)
  |.clip es=>some (.clip es)
  |.pp fl j=>some (.pp fl j)
  |.fL l=>some (.fL l)
  |.any=>some .any
def shO(n:Nat):List (Nat×(Nat×List AV))→Option (List (Nat×(Nat×List AV)))
 |[]=>some []
 |(i,(s,es))::l=>match shO n l with
  |some q=>some ((n+i,(s,es))::q)
  |none=>none
section
variable {P:Program} {W0:bS} {fr:Fr} {H:Heap} {o:Oper} {T:Tw}
variable {s eN:Nat}{z:Value}{xs:List AV}
theorem afY(hT:T.Of P){t e len:Nat}{parts:Array (Nat×Operand)}{xo:List Operand}(ho:o.op=.buildSlice t len parts)(hp:Ww parts.toList 0=some xo)(hlen:len=xo.length)
  (hxs:xo.mapM (aD fr)=some xs)(ht:lk T.et t=some (e,s,eN,z))(hsol:xs.all (fun x=>x.b6&&x.flat.length==s)=true)(hsmall:decide (len*s≤16777216)=true):b_ P W0 o fr H (.clip xs) H:=
 have h1:=(hT.et _ _ _ _ _ ht);have h2:=List.all_eq_true.1 hsol
 gA ho (OB hp) hlen hxs (fun x hx=>by have:=h2 x hx;simp at this;exact this.1) (fun x hx=>by have:=h2 x hx;simp at this;exact this.2) h1.el (by simp[h1.zr]) (of_decide_eq_true hsmall)
variable {α:Type}{t ty e:TypeId}{enc:α→AV}{l L:List α}{id n:Nat}{xo yo:Operand}{ay:AV}
theorem VY(hT:T.Of P){m:List α}(hL:Sh.app eN l m=some L)(ho:o.op=.call {callee:=.builtin .append,args:= #[xo,yo],argTypes:= #[t,t]})(hty:o.type=ty)
  (hx:aD fr xo=some (.view id 0 n))(hid:H.get id=some (l.map enc))(hn:n=(l.map enc).length)(ht:lk T.et t=some (e,s,eN,z))(hfl:∀x:α,(enc x).flat.length=s)(hs:H.sz id=some s)(hy:aD fr yo=some ay)(hys:ay.elems H=some (m.map enc)):b_ P W0 o fr H (.view H.next 0 (L.map enc).length) ((H.del id).push s (L.map enc)):=
 uw enc l m L hL hn (hT.et _ _ _ _ _ ht) hfl ho hty hx hid hs hy hys
variable {x:Operand}{j:Nat}
theorem IL(hT:T.Of P){y:Operand}{i:Nat}{g:Bool}{es S_:List AV}{e e':AV}(ho:o.op=.store t x y)(hx:aD fr x=some (.ref id i j))(hid:H.get id=some es)(he:es[i]? =some e)(hy:aD fr y=some ay)(hsol:ay.b6=true)
  (ht:lk T.tb.sz t=some (n,g))(hn:(ay.flat.length==n)=true)(hj:decide (j+n≤e.flat.length)=true)(he':stA e j n ay=some e')(hm:(e.flat.length==1||(match e with|.agg _=>true|_=>false))=true)(Jk:decide (0<n)=true)(hes:u5 (es.set i e')=some S_):
  b_ P W0 o fr H .any (H.set id S_):=by
 rw[uE hes];refine bX (e':=e') ho hx hy hsol hid he (hT.tb.sz _ _ ht) (by simpa using hn) (of_decide_eq_true hj) (aa7 ?_ he') (of_decide_eq_true Jk);simp only[Bool.or_eq_true,beq_iff_eq] at hm;rcases hm with hm|hm
 ·exact .inl hm
 ·refine .inr ?_
  cases e <;> first|exact⟨_,rfl⟩|cases hm
variable {ax:AV}
theorem aiG(ho:o.op=.box t x)(hx:aD fr x=some ax)(hs:ax.b6=true)(hn:ax.flat.length=n)(h0:(n==0)=false):b_ P W0 o fr H (.ref H.next 0 0) (H.push n [ax]):=
 Oq n [ax] ho hx hs (.inl ⟨rfl,hn.symm⟩) (by simpa using h0)
theorem RT(hT:T.Of P){x:AV}(ho:o.op=.alloc t)(hz:lk T.zr t=some z)(hk:z.MD=true)(hx:AV.Ch z=x)(hn:x.flat.length=n)(h0:(n==0)=false):b_ P W0 o fr H (.ref H.next 0 0) (H.push n [x]):=by
 subst hx;exact f_ n [AV.Ch z] ho (hT.zr _ _ hz) hk (.inl ⟨rfl,hn.symm⟩) (by simpa using h0)
theorem VX(hT:T.Of P){m:List α}(hL:Sh.app eN [] m=some L)(ho:o.op=.call {callee:=.builtin .append,args:= #[xo,yo],argTypes:= #[t,t]})(hty:o.type=ty)
  (hx:aD fr xo=some dy)(hy:aD fr yo=some ay)(ht:lk T.et t=some (e,s,eN,z))(hfl:∀x:α,(enc x).flat.length=s)(hys:ay.elems H=some (m.map enc)):b_ P W0 o fr H (.view H.next 0 (L.map enc).length) (H.push s (L.map enc)):=
 XD enc m L hL (hT.et _ _ _ _ _ ht) hfl ho hty hx hy hys
theorem IK(hT:T.Of P){m:List α}(hL:Sh.app eN l m=some L)(ho:o.op=.call {callee:=.builtin .append,args:= #[xo,yo],argTypes:= #[t,t]})(hty:o.type=ty)
  (hx:aD fr xo=some (.clip (l.map enc)))(hy:aD fr yo=some ay)(ht:lk T.et t=some (e,s,eN,z))(hfl:∀x:α,(enc x).flat.length=s)(hys:ay.elems H=some (m.map enc))(hne:m≠[]):b_ P W0 o fr H (.view H.next 0 (L.map enc).length) (H.push s (L.map enc)):=
 Uc enc l m L hL hne (hT.et _ _ _ _ _ ht) hfl ho hty hx hy hys
variable {k:Nat}{i:Int}
theorem abe{x:α}{ki:IntKind}{io:Operand}(hi:i=k)(hl:l[k]? =some x)(ho:o.op=.indexAddr t xo io)(hx:aD fr xo=some (.view id 0 n))(hid:H.get id=some (l.map enc))(hn:n=(l.map enc).length)(hio:aD fr io=some (.imm (.int ki i)))
  (ht:oK P t=some (e,s,eN))(hs:(enc x).flat.length=s):b_ P W0 o fr H (.ref id k 0) H:=zm enc l hi hl hn ho hx hid hio ht hs
theorem aex{off:Nat}(ho:o.op=.call {callee:=.builtin .len,args:= #[xo],argTypes:= #[t]})(hx:aD fr xo=some (.view id off n))(hid:H.get id=some (l.map enc))(hn:n=(l.map enc).length)(ht:oK P t=some (e,s,eN)):b_ P W0 o fr H (J (Sh.len l)) H:=G_ enc l hn ho hx hid ht
def age(b:BinOp)(x y:BitVec 64):Option AV:=match b with
 |.and=>some (u64 (x&&&y))
 |.or=>some (u64 (x|||y))
 |.xor=>some (u64 (x^^^y))
 |.andNot=>some (u64 (x&&& ~~~y))
 |.add=>some (u64 (x+y))
 |.sub=>some (u64 (x - y))
 |.mul=>some (u64 (x*y))
 |.eql=>some (bl (decide (x=y)))
 |.neq=>some (bl (decide (x≠y)))
 |_=>none
variable {r:AV}
theorem aa9{b:BinOp}{t':TypeId}{x y:BitVec 64}(ho:o.op=.binOp b t xo yo t')(hx:aD fr xo=some (u64 x))(hy:aD fr yo=some (u64 y))(h:age b x y=some r):b_ P W0 o fr H r H:=by
 unfold age at h;split at h
 all_goals first|(cases h;done)|skip
 ·cases h;exact UF ho hx hy
 ·cases h;exact agc ho hx hy
 ·cases h;exact ab5 ho hx hy
 ·cases h;exact SH ho hx hy
 ·cases h;exact Wf ho hx hy
 ·cases h;exact Wn ho hx hy
 ·cases h;exact Nk ho hx hy
 ·cases h;exact Ni ho hx hy
 ·cases h;exact Wh ho hx hy
theorem aet{b:BinOp}{t':TypeId}{x:BitVec 64}{n:Int}(ho:o.op=.binOp b t xo yo t')(hx:aD fr xo=some (u64 x))(hyo:yo=.const (.int .u64 n))(hn:((BitVec.ofInt 64 n).toNat:Int)=n)(h:age b x (BitVec.ofInt 64 n)=some r):b_ P W0 o fr H r H:=
 aa9 ho hx (by rw[hyo];simp only[u64];rw[hn];rfl) h
variable {f:FuncId}{args:Array Operand}{tys:Array TypeId}{ys:List AV}
theorem aa_{r':AV}{Hr:Heap}{objs':List (Nat×(Nat×List AV))}(hf:CD P W0.w f xs r Hr)(ho:o.op=.call {callee:=.value (.func f),args:=args,argTypes:=tys})(hys:args.toList.mapM (aD fr)=some ys)(hr:shA H.next 6 r=some r')(hO:shO H.next Hr.bV=some objs')(hl:xs.length=ys.length)
  (hw:b8 (.of W0.w) ys.length ⟨bN 0 ys,.empty⟩ ⟨bN 0 xs,.empty⟩:=by first|exact b8.refl _|exact b8.ra [] [])(hno:∀y∈ys,bQ y:=by simp[AV.Ch])
  (hsh:gZ bQ H.next r r'∧Joined bQ H.next Hr.bV objs':=by repeat' (first|exact trivial|(refine gZ.sm ?_;simp;done)|exact gZ.view _ _ _|exact gZ.ref _ _ _|refine gZ.ag ?_|refine gZ.tp ?_|rfl|(refine yb.mp ?_;intro x;simp;done)|(refine yb.same ?_;simp[AV.flat];done)|refine⟨?_, ?_⟩)):b_ P W0 o fr H r' {next:=H.next+Hr.next,bV:=H.bV++objs',ec:=H.ec}:=
 SJ r' objs' ho hys hw hl hno hf hsh.1 hsh.2
theorem VZ(hT:T.Of P){s:TypeId}{f off:Nat}{g:Bool}{i:Nat}{es:List AV}(ho:o.op=.fieldAddr s x f)(hx:aD fr x=some (.ref id i j))(hid:H.get id=some es)(h:T.tb.field s f=some (off,n,g)):b_ P W0 o fr H (.ref id i (j+off)) H:=
 gK ho hx hid (hT.tb.fd _ _ _ h).1 (hT.tb.fd _ _ _ h).2
theorem PE{lo hi:Option Operand}{a b:Int}(hL:Sh.sub l a b=some L)(ho:o.op=.slice t xo lo hi none)(hx:aD fr xo=some ax)(hax:ax=.sl (l.map enc)∨ax=.clip (l.map enc))
  (hlo:(lo=none∧a=0)∨∃y k,lo=some y∧aD fr y=some (.imm (.int k a)))(hhi:(hi=none∧b=Sh.len l)∨∃y k,hi=some y∧aD fr y=some (.imm (.int k b)))(ht:oK P t=some (e,s,eN))(hfl:∀x:α,(enc x).flat.length=s):b_ P W0 o fr H (.sl (L.map enc)) H:=
 apc enc l L hL hfl ho hx hax hlo hhi ht
variable {kc:IntKind}
theorem aeu{zo:Operand}{kb:IntKind}{b:Int}(hL:Sh.sub l 0 b=some L)(ho:o.op=.slice t xo none (some yo) (some zo))(hx:aD fr xo=some ax)(hax:ax=.sl (l.map enc)∨ax=.clip (l.map enc))
  (hy:aD fr yo=some (.imm (.int kb b)))(hz:aD fr zo=some (.imm (.int kc b)))(ht:oK P t=some (e,s,eN))(hfl:∀x:α,(enc x).flat.length=s):b_ P W0 o fr H (.clip (L.map enc)) H:=
 aiM enc l L hL hfl ho hx hax hy hz ht
theorem yb.mp(h:∀x,bQ (enc x)):yb bQ n (l.map enc) (l.map enc):=.same fun e he=>by
 obtain⟨x,_,rfl⟩:=List.mem_map.1 he;exact(h x).fl
class EncT (e:Nat) {α:outParam Type} (enc:outParam (α→AV)):Prop where
 ok:True
theorem V0(hT:T.Of P){kl:IntKind}{nl nc:Int}{zx:α}(hL:Sh.mk eN nl nc zx=some L)(ho:o.op=.makeSlice t xo yo)(hx:aD fr xo=some (.imm (.int kl nl)))(hy:aD fr yo=some (.imm (.int kc nc)))
  (ht:lk T.et t=some (e,s,eN,z)) [EncT e enc] (hk:z.MD=true)(hs:((AV.Ch z).flat.length==s)=true)(hzx:enc zx=AV.Ch z)(Kx:(s==0)=false):b_ P W0 o fr H (.view H.next 0 (L.map enc).length) (H.push s (L.map enc)):=
 have h:=hT.et _ _ _ _ _ ht
 He enc zx L hL ho hx hy h.el h.zr hk (by simpa using hs) hzx (by simpa using Kx)
theorem RU(hT:T.Of P){kl:IntKind}{nl nc:Int}{zx:α}(hL:Sh.mk eN nl nc zx=some L)(ho:o.op=.makeSlice t xo yo)(hx:aD fr xo=some (.imm (.int kl nl)))(hy:aD fr yo=some (.imm (.int kc nc)))
  (ht:lk T.et t=some (e,s,eN,z)) [EncT e enc] (hk:z.MD=true)(hs:((AV.Ch z).flat.length==s)=true)(hzx:F2 (AV.Ch z).flat (enc zx).flat)(Kx:(s==0)=false):b_ P W0 o fr H (.view H.next 0 (L.map enc).length) (H.push s (L.map enc)):=
 have h:=hT.et _ _ _ _ _ ht
 FN enc zx L hL ho hx hy h.el h.zr hk (by simpa using hs) hzx (by simpa using Kx)
theorem aev{ty':TypeId}{m:List α}(hL:Sh.YA l m=some L)(ho:o.op=.call {callee:=.builtin .copy,args:= #[xo,yo],argTypes:= #[t,ty']})(hx:aD fr xo=some (.view id 0 n))
  (hid:H.get id=some (l.map enc))(hn:n=(l.map enc).length)(hs:H.sz id=some s)(hy:aD fr yo=some ay)(hys:ay.elems H=some (m.map enc))(ht:oK P t=some (e,s,eN))(hfl:∀x:α,(enc x).flat.length=s)(Jl:(s==0)=false):b_ P W0 o fr H .any (H.set id (L.map enc)):=
 Ud enc l m L hL hn hfl ho hx hid hs hy hys ht (by simpa using Jl)
theorem Mr(hT:T.Of P){g:Bool}{x x':α}(hi:i=k)(hl:l[k]? =some x)(ho:o.op=.store t xo yo)(hx:aD fr xo=some (.ref id k j))(hid:H.get id=some (l.map enc))(hy:aD fr yo=some ay)(hsol:ay.b6=true)
  (ht:lk T.tb.sz t=some (n,g))(hn:(ay.flat.length==n)=true)(hj:decide (j+n≤(enc x).flat.length)=true)(he':(enc x').flat=(enc x).flat.take j++ay.flat++(enc x).flat.drop (j+n))(Jk:decide (0<n)=true):
  b_ P W0 o fr H .any (H.set id ((Sh.set l i x').map enc)):=
 Mu enc l x' hi hl ho hx hy hsol hid (hT.tb.sz _ _ ht) (by simpa using hn) (of_decide_eq_true hj) he' (of_decide_eq_true Jk)
theorem FM(hT:T.Of P){g:Bool}{x x':α}{q:List AV}(hi:i=k)(hl:l[k]? =some x)(ho:o.op=.store t xo yo)(hx:aD fr xo=some (.ref id k j))(hid:H.get id=some (l.map enc))(hy:aD fr yo=some ay)(hsol:ay.b6=true)
  (ht:lk T.tb.sz t=some (n,g))(hn:(ay.flat.length==n)=true)(hj:decide (j+n≤(enc x).flat.length)=true)(Jk:decide (0<n)=true)(hq:u5 ((enc x).flat.take j++ay.flat++(enc x).flat.drop (j+n))=some q)(he':(enc x').flat=q):
  b_ P W0 o fr H .any (H.set id ((Sh.set l i x').map enc)):=
 Mr hT hi hl ho hx hid hy hsol ht hn hj (he'.trans (uE hq)) Jk
theorem Ob(hT:T.Of P){g:Bool}{x:α}(ho:o.op=.load t xo)(hx:aD fr xo=some (.ref id k j))(hid:H.get id=some (l.map enc))(hl:l[k]? =some x)(ht:lk T.tb.sz t=some (n,g))(hr:qF (enc x).flat j n g=some r):b_ P W0 o fr H r H:=
 Oc enc l hl ho hx hid (hT.tb.sz _ _ ht) hr
variable {N:Nat}
theorem aiH{ki:IntKind}{x:α}{io:Operand}(hi:i=k)(hl:l[k]? =some x)(hN:l.length=N)(ho:o.op=.indexAddr t xo io)(hx:aD fr xo=some (.ref id 0 0))(hid:H.get id=some [Ku enc l])(hio:aD fr io=some (.imm (.int ki i)))
  (ht:Hi P t=some (N,1)):b_ P W0 o fr H (.ref id 0 k) H:=RW enc l hi hl hN ho hx hid hio ht
theorem F2.rf:∀(l:List AV),F2 l l
 |[]=>trivial
 |x::l=>⟨.same x,F2.rf l⟩
def wdV(x:AV):Option AV:=match x with
 |.imm (.slice none 0 0)=>some (.sl [])
 |.clip es=>some (.sl es)
 |y=>some y
def wdE(x:AV):Option AV:=match x with
 |.agg cs=>match Da wdV cs with
  |some q=>some (.agg q)
  |none=>none
 |y=>wdV y
theorem abx{x y:AV}(h:wdV x=some y):Wid x y:=by
 unfold wdV at h;split at h <;> cases h
 ·exact .nil
 ·exact .clip _
 ·exact .same _
theorem abw:∀{l q:List AV},Da wdV l=some q→F2 l q
 |[],_,h=>by cases h;trivial
 |x::l,q,h=>by
  simp only[Da] at h;split at h
  ·rename_i y hy
   split at h
   ·rename_i z hz;cases h;exact⟨abx hy,abw hz⟩
   ·cases h
  ·cases h
theorem ajb{x y:AV}(h:wdE x=some y):F2 x.flat y.flat:=by
 unfold wdE at h;split at h
 ·split at h
  ·rename_i hq;cases h;exact abw hq
  ·cases h
 ·rename_i x hx
  have:=abx h;cases this with
  |same=>exact F2.rf _
  |clip es=>exact⟨.clip es,trivial⟩
  |nil=>exact⟨.nil,trivial⟩
theorem V6:∀{l q:List AV},Da wdE l=some q→DT l q
 |[],_,h=>by cases h;trivial
 |x::l,q,h=>by
  simp only[Da] at h;split at h
  ·rename_i y hy
   split at h
   ·rename_i z hz;cases h;exact⟨ajb hy,V6 hz⟩
   ·cases h
  ·cases h
variable {a:An}{fl:List (Nat×AV)}{Q:Exit→St→Prop}
theorem alX(hT:T.Of P){m:Md}{ops:Array Oper}{rest:List Oper}{t e len:Nat}{parts:Array (Nat×Operand)}{xo:List Operand}{xs2:List AV}(hw:dO ops (lk fl) o=some true)(ho:o.op=.buildSlice t len parts)(hp:Ww parts.toList 0=some xo)(hlen:len=xo.length)
  (hxs:xo.mapM (aD (lk fl))=some xs)(ht:lk T.et t=some (e,s,eN,z))(hsol:xs.all (fun x=>x.b6&&x.flat.length==s)=true)(hsmall:decide (len*s≤16777216)=true)(hf:Da wdE xs=some xs2)(k:fG a m.next P W0 ops rest (gP fl o.dst (.clip xs2)) H Q)(hm:m.CB=true:=by rfl):fG (.d::a) m P W0 ops (o::rest) fl H Q:=
 e9 hw (fun _=>(afY hT ho hp hlen hxs ht hsol hsmall).akV (V6 hf)) rfl k hm
theorem Fh(hf:oQ P W0.w f xs r)(ho:o.op=.call {callee:=.value (.func f),args:=args,argTypes:=tys})(hys:args.toList.mapM (aD fr)=some ys)(he:ys=xs)(hno:∀x∈ys,bQ x):b_ P W0 o fr H r H:=by
 subst he;exact wD ho hys hno hf
theorem abc(hf:oQ P W0.w f xs r)(ho:o.op=.call {callee:=.value (.func f),args:=args,argTypes:=tys})(hys:args.toList.mapM (aD fr)=some ys)(hl:xs.length=ys.length)(hw:b8 (.of W0.w) ys.length ⟨bN 0 ys,.empty⟩ ⟨bN 0 xs,.empty⟩:=by exact b8.ra [] [])(hno:∀y∈ys,bQ y:=by simp[AV.Ch]):b_ P W0 o fr H r H:=
 Wg ho hys hw hl hno hf
variable {caps:List AV}
theorem aba{zs:List AV}(hf:oQ P W0.w f xs r)(ho:o.op=.call {callee:=.value x,args:=args,argTypes:=tys})(hx:aD fr x=some (.fH (.func f) caps))(hys:args.toList.mapM (aD fr)=some zs)(hz:zs++caps=ys)(hl:xs.length=ys.length)(hw:b8 (.of W0.w) ys.length ⟨bN 0 ys,.empty⟩ ⟨bN 0 xs,.empty⟩:=by exact b8.ra [] [])(hno:∀y∈ys,bQ y:=by simp[AV.Ch]):b_ P W0 o fr H r H:=by
 subst hz;exact CF (Enters.fH ho hx hys hf.call) hw hl hno hf
theorem JG{zs:List AV}(hf:oQ P W0.w f xs r)(ho:o.op=.call {callee:=.value x,args:=args,argTypes:=tys})(hx:aD fr x=some (.fH (.func f) caps))(hys:args.toList.mapM (aD fr)=some zs)(hz:zs++caps=xs)(hno:∀y∈xs,bQ y:=by simp[AV.Ch]):b_ P W0 o fr H r H:=by
 subst hz;exact CF (Enters.fH ho hx hys hf.call) (b8.refl _) rfl hno hf
def Lw(os:List (Nat×(Nat×List AV))):List (Nat×Nat)→Option (List (Nat×(Nat×List AV)))
 |[]=>some []
 |(_,o)::g=>match lk os o with
  |some (s,es)=>match Lw os g with
   |some q=>some ((o,(s,es))::q)
   |none=>none
  |none=>none
def TV(m:List (Nat×Nat)):Nat→AV→Option AV
 |0,_=>none
 |n+1,x=>match x with
  |.view o off k=>match lk m o with|some i=>some (.view i off k)|none=>some .any
  |.ref o i j=>match lk m o with|some z=>some (.ref z i j)|none=>some .any
  |.mref o=>match lk m o with|some z=>some (.mref z)|none=>some .any
  |.agg cs=>match Da (TV m n) cs with|some q=>some (.agg q)|none=>none
  |.tuple cs=>match Da (TV m n) cs with|some q=>some (.tuple q)|none=>none
  |.fH f cs=>match Da (TV m n) cs with|some q=>some (.fH f q)|none=>none
  |.ifc t x=>match TV m n x with|some y=>some (.ifc t y)|none=>none
  |.imm v=>some (.imm v)
  |.sl es=>some (.sl es)
  |.clip es=>some (.clip es)
  |.pp fl j=>some (.pp fl j)
  |.fL l=>some (.fL l)
  |.any=>some .any
def yR(g:List (Nat×Nat)):List (Nat×(Nat×List AV))→List (Nat×(Nat×List AV))
 |[]=>[]
 |(k,x)::l=>match g.any (fun p=>p.2==k) with
  |true=>yR g l
  |false=>(k,x)::yR g l
def K_(m0:List (Nat×Nat))(oc:List Nat)(os:List (Nat×(Nat×List AV))):List (Nat×Nat)→Option (List (Nat×(Nat×List AV)))
 |[]=>some []
 |(i,k)::m=>match lk os i with
  |some (s,es)=>match(match oc.contains i with|true=>Da (TV m0 8) es|false=>some es) with
   |some es'=>match K_ m0 oc os m with
    |some q=>some ((k,(s,es'))::q)
    |none=>none
   |none=>none
  |none=>none
def GH(l m:List (Nat×(Nat×List AV))):List (Nat×(Nat×List AV)):=match l with
 |[]=>m
 |x::r=>x::GH r m
variable {m g:List (Nat×Nat)}{md:Md}{r1:AV}{nw oc:List Nat}{p:Nat}{S1 O2:List (Nat×(Nat×List AV))}
theorem alY{ops:Array Oper}{rest:List Oper}{r2 r3:AV}{Hin Hout H3:Heap}
  (hf:Bs P (.pinned W0.w p) f xs Hin r1 Hout)(he:Enters P o (lk fl) f ys)(hl:xs.length=ys.length)(hs:Lw H.bV g=some S1)(ho:K_ m oc Hout.bV m=some O2)(hr:TV m 8 r1=some r2)
  (hw:dO ops (lk fl) o=some true)(hld:md.kW=true)(hp:Pass bQ (bN 0 ys) (bN 0 xs) H ⟨H.next,S1,[]⟩ Hin Hout ⟨H.next+Hout.next,GH (yR g H.bV) O2,H.ec⟩ g m nw p r1 r2)(hH:u6 ⟨H.next+Hout.next,GH (yR g H.bV) O2,H.ec⟩=some H3)(hv:sO r2=some r3)(k:fG a md.next P W0 ops rest (gP fl o.dst r3) H3 Q):fG (.c g m nw oc::a) md P W0 ops (o::rest) fl H Q:=
 lG (a:=a) hw hld (wE he hf hp hl) hH hv k
theorem asN{ops:Array Oper}{l:List Oper}(k:fG (.c g m nw oc::a) md P W0 ops l fl H Q):fG (.c g m nw oc::a) md P W0 ops l fl H Q:=k
variable {rec:Loop}{fn:Func}{frl:List (Nat×AV)}{b0:Bool}{yc bd:Code}{ps:Array Tmp}
theorem arY{b:An}{ops:Array Oper}{rest:List Oper}{W:World}{f:Operand}{Hin Hout H1 H2:Heap}{l:Nat}{j:Code}{β:Type}{p1 q1:Option β}{v:β}
  (hround:KM P W p l rec frl xs Hin b0 Hout)(hrec:yI rec fn k N)(hlp:Hout.ec=[(l,yq rec j b0)])(hcode:(fn.body.bind fun c=>(jx c)[k]?)=some (ps,yc,bd))(ho:o.op=.call {callee:=.value f,args:=args,argTypes:=tys})(hf:aD (lk fl) f=some (.fH (.yield l) []))(hys:args.toList.mapM (aD (lk fl))=some ys)
  (hl:xs.length=ys.length)(hps:ps.size=ys.length)(hs:Lw H.bV g=some S1)(hO:K_ m oc Hout.bV m=some O2)(hw:dO ops (lk fl) o=some true)(h:(if b0=true then p1 else q1)=some v)
  (hp:Pass bQ (bN 0 ys) (bN 0 xs) H ⟨H.next,S1,[(l,rec)]⟩ Hin Hout ⟨H.next+Hout.next,GH (yR g H.bV) O2,[(l,yq rec j b0)]⟩ g m nw p (.imm (.bool b0)) (.imm (.bool b0)))
  (hg:(aeD p).all (fun k=>lk g k==some k)=true)(hnp:(aeD p).all (fun k=> !nw.contains k)=true)
  (h1:u6 ⟨H.next+Hout.next,GH (yR g H.bV) O2,[(l,rec)]⟩=some H1)(h2:u6 ⟨H.next+Hout.next,GH (yR g H.bV) O2,[(l,yq rec j false)]⟩=some H2)
  (k1:b0=true→p1=some v→fG a .n P (.it W p rec frl) ops rest (gP fl o.dst (bl true)) H1 Q)(k2:b0=false→q1=some v→fG b .n P (.it W p rec frl) ops rest (gP fl o.dst (bl false)) H2 Q):fG [.Y g m nw oc a b] .n P (.it W p rec frl) ops (o::rest) fl H Q:=by
 have hy:=KT ho hf hys hround hrec rfl (by rw[hrec.params hcode];exact hps) hp hl hg hnp;refine UA hw hy ?_;cases b0 with
 |true=>have:=k1 rfl (by simpa using h);rw[uF h1] at this;exact this
 |false=>have:=k2 rfl (by simpa using h);rw[uF h2] at this;exact this
theorem aml{ops:Array Oper}{rest:List Oper}{W:World}{f:Operand}{Hin Hout H1:Heap}{l:Nat}{j:Code}
  (hround:KM P W p l rec frl xs Hin b0 Hout)(hrec:yI rec fn k N)(hb:b0=true)(hlp:Hout.ec=[(l,yq rec j b0)])(hcode:(fn.body.bind fun c=>(jx c)[k]?)=some (ps,yc,bd))(ho:o.op=.call {callee:=.value f,args:=args,argTypes:=tys})(hf:aD (lk fl) f=some (.fH (.yield l) []))(hys:args.toList.mapM (aD (lk fl))=some ys)
  (hl:xs.length=ys.length)(hps:ps.size=ys.length)(hs:Lw H.bV g=some S1)(hO:K_ m oc Hout.bV m=some O2)(hw:dO ops (lk fl) o=some true)
  (hp:Pass bQ (bN 0 ys) (bN 0 xs) H ⟨H.next,S1,[(l,rec)]⟩ Hin Hout ⟨H.next+Hout.next,GH (yR g H.bV) O2,[(l,yq rec j b0)]⟩ g m nw p (.imm (.bool b0)) (.imm (.bool b0)))
  (hg:(aeD p).all (fun k=>lk g k==some k)=true)(hnp:(aeD p).all (fun k=> !nw.contains k)=true)
  (h1:u6 ⟨H.next+Hout.next,GH (yR g H.bV) O2,[(l,rec)]⟩=some H1)
  (k1:fG a .n P (.it W p rec frl) ops rest (gP fl o.dst (bl true)) H1 Q):fG (.Y1 g m nw oc::a) .n P (.it W p rec frl) ops (o::rest) fl H Q:=by
 subst hb;have hy:=KT ho hf hys hround hrec rfl (by rw[hrec.params hcode];exact hps) hp hl hg hnp;rw[uF h1] at k1;exact UA hw hy k1
theorem as2{b:An}{ops:Array Oper}{l:List Oper}(k:fG [.Y g m nw oc a b] md P W0 ops l fl H Q):fG [.Y g m nw oc a b] md P W0 ops l fl H Q:=k
theorem ans{ops:Array Oper}{l:List Oper}(k:fG (.Y1 g m nw oc::a) md P W0 ops l fl H Q):fG (.Y1 g m nw oc::a) md P W0 ops l fl H Q:=k
theorem alS{b:An}{g0:Operand}{j:Code}{fi:FuncId}{n':Nat}{os os':List (Nat×(Nat×List AV))}{H2:Heap}{β:Type}{p1 q1:Option β}{v:β}
  (hit:∀(l:Nat) (rec:Loop),yI rec fn k N→Bs P (.it W0.w p rec frl) fi (.fH (.yield l) []::xs) ⟨n,os,[(l,rec)]⟩ r1 ⟨n',os',[(l,yq rec j b0)]⟩)(hc:gO P fi)(hro:W0.ro=none)(hcode:(fn.body.bind fun c=>(jx c)[k]?)=some (ps,yc,bd))(hg:aD (lk fl) g0=some (.fH (.func fi) caps))(hHl:H.ec=[])
  (hl:xs.length=caps.length)(hs:Lw H.bV g=some S1)(hO:K_ m oc os' m=some O2)(hH:u6 ⟨H.next+n',GH (yR g H.bV) O2,[]⟩=some H2)(h:(if b0=true then p1 else q1)=some v)
  (k1:b0=true→p1=some v→oJ a Q .normal ⟨fl,H2⟩)(k2:b0=false→q1=some v→eX b P W0 N j ⟨fl,H2⟩ Q)
  (hul:I7 p frl:=by repeat' (first|exact trivial|refine⟨.ref _ _ _ (by decide), ?_⟩|refine⟨.view _ _ _ (by decide), ?_⟩|refine⟨.lT (by simp), ?_⟩))
  (hpass:∀(l:Nat) (rec:Loop),Pass bQ (bN 0 (.fH (.yield l) []::caps)) (bN 0 (.fH (.yield l) []::xs)) ⟨H.next,H.bV,[(l,rec)]⟩ ⟨H.next,S1,[(l,rec)]⟩ ⟨n,os,[(l,rec)]⟩ ⟨n',os',[(l,yq rec j b0)]⟩ ⟨H.next+n',GH (yR g H.bV) O2,[(l,yq rec j b0)]⟩ g m nw p r1 .any:=by intro l rec;exact Pass.a)
  (hseen:jC ⟨H.next,S1,[]⟩ g nw n os∧Seen ⟨H.next,S1,[]⟩ g nw fl frl:=by repeat' (first|exact trivial|refine⟨⟨_,rfl, ?_⟩, ?_⟩|refine jC.cons rfl rfl ?_ dt ?_|refine jC.fresh dt dt ?_|refine rU.one ?_ rfl|(refine rU.same ?_;simp;done)|(refine gi.sy rfl ?_;simp;done)|exact gi.ref rfl|exact gi.mref rfl|(refine gi.Td rfl rfl rfl rfl ?_;simp;done)|exact gi.view rfl|(refine gi.nil ?_;simp;done)|(refine gi.jI rfl rfl ?_;simp;done)|exact gi.nilsl|(refine gi.wide _ ?_;simp;done)|(refine gi.Re rfl rfl ?_ ?_ <;> simp;done)|(refine gi.viewL rfl ?_;simp;done)|refine gi.tp ?_|refine gi.cl ?_|refine gi.ag ?_|refine⟨?_, ?_⟩)):eX [.N g m nw oc a b] P W0 N (.rangeFunc g0 ps yc bd) ⟨fl,H⟩ Q:=by
 have e:=uF hH;obtain⟨x,y,z⟩:=H;cases hHl;subst e;exact Wt (Hs:=⟨x,S1,[]⟩) (Hin:=⟨n,os,[]⟩) (Hout:=⟨n',os',[]⟩) (H':=⟨x+n',GH (yR g y) O2,[]⟩) hro hcode hg hc rfl hul.spec hseen.2 hit hpass hl (fun hb=>k1 hb (by simpa [hb] using h)) (fun hb=>k2 hb (by simpa [hb] using h))
theorem alT{g0:Operand}{j:Code}{fi:FuncId}{n':Nat}{os os':List (Nat×(Nat×List AV))}{H2:Heap}
  (hit:∀(l:Nat) (rec:Loop),yI rec fn k N→Bs P (.it W0.w p rec frl) fi (.fH (.yield l) []::xs) ⟨n,os,[(l,rec)]⟩ r1 ⟨n',os',[(l,yq rec j b0)]⟩)(hc:gO P fi)(hb:b0=true)(hro:W0.ro=none)(hcode:(fn.body.bind fun c=>(jx c)[k]?)=some (ps,yc,bd))(hg:aD (lk fl) g0=some (.fH (.func fi) caps))(hHl:H.ec=[])
  (hl:xs.length=caps.length)(hs:Lw H.bV g=some S1)(hO:K_ m oc os' m=some O2)(hH:u6 ⟨H.next+n',GH (yR g H.bV) O2,[]⟩=some H2)
  (k1:oJ a Q .normal ⟨fl,H2⟩)
  (hul:I7 p frl:=by repeat' (first|exact trivial|refine⟨.ref _ _ _ (by decide), ?_⟩|refine⟨.view _ _ _ (by decide), ?_⟩|refine⟨.lT (by simp), ?_⟩))
  (hpass:∀(l:Nat) (rec:Loop),Pass bQ (bN 0 (.fH (.yield l) []::caps)) (bN 0 (.fH (.yield l) []::xs)) ⟨H.next,H.bV,[(l,rec)]⟩ ⟨H.next,S1,[(l,rec)]⟩ ⟨n,os,[(l,rec)]⟩ ⟨n',os',[(l,yq rec j b0)]⟩ ⟨H.next+n',GH (yR g H.bV) O2,[(l,yq rec j b0)]⟩ g m nw p r1 .any:=by intro l rec;exact Pass.a)
  (hseen:jC ⟨H.next,S1,[]⟩ g nw n os∧Seen ⟨H.next,S1,[]⟩ g nw fl frl:=by repeat' (first|exact trivial|refine⟨⟨_,rfl, ?_⟩, ?_⟩|refine jC.cons rfl rfl ?_ dt ?_|refine jC.fresh dt dt ?_|refine rU.one ?_ rfl|(refine rU.same ?_;simp;done)|(refine gi.sy rfl ?_;simp;done)|exact gi.ref rfl|exact gi.mref rfl|(refine gi.Td rfl rfl rfl rfl ?_;simp;done)|exact gi.view rfl|(refine gi.nil ?_;simp;done)|(refine gi.jI rfl rfl ?_;simp;done)|exact gi.nilsl|(refine gi.wide _ ?_;simp;done)|(refine gi.Re rfl rfl ?_ ?_ <;> simp;done)|(refine gi.viewL rfl ?_;simp;done)|refine gi.tp ?_|refine gi.cl ?_|refine gi.ag ?_|refine⟨?_, ?_⟩)):eX (.N1 g m nw oc::a) P W0 N (.rangeFunc g0 ps yc bd) ⟨fl,H⟩ Q:=by
 subst hb;exact alS (b:=[]) (p1:=some ()) (q1:=none) (v:=()) hit hc hro hcode hg hHl hl hs hO hH rfl (fun _ _=>k1) (fun hb=>by cases hb) hul hpass hseen
variable {st:St}
theorem asH{b:An}{c:Code}(k:eX [.N g m nw oc a b] P W0 N c st Q):eX [.N g m nw oc a b] P W0 N c st Q:=k
theorem am9{c:Code}(k:eX (.N1 g m nw oc::a) P W0 N c st Q):eX (.N1 g m nw oc::a) P W0 N c st Q:=k
def QRd(P:Program)(W0:bS)(N l:Nat)(rec:Loop)(bd:Code)(b:Bool)(Hout:Heap):Exit→St→Prop:=fun e s=>e=.normal∧s.H.ec=[(l,rec)]∧iD P W0 N bd ⟨s.fr,{s.H with ec:=[(l,{rec with state:=.busy})]}⟩ (fun e s=>s.H.ec=[(l,{rec with state:=.busy})]∧∃j,BH e=some j∧b=j.isNone∧b8 W0 0 ⟨[],{s.H with ec:=[(l,GQ rec j)]}⟩ ⟨[],Hout⟩)
def QRe(W0:bS)(l:Nat)(rec:Loop)(b:Bool)(Hout:Heap):Exit→St→Prop:=fun e s=>s.H.ec=[(l,{rec with state:=.busy})]∧∃j,BH e=some j∧b=j.isNone∧b8 W0 0 ⟨[],{s.H with ec:=[(l,GQ rec j)]}⟩ ⟨[],Hout⟩
variable {b:Bool}
theorem agt{l:Nat}{Hout:Heap}{ts:List Nat}{mv:Mv}{s':St}(hl:H.ec=[(l,rec)])(h:E0 ts mv ⟨fl,⟨H.next,H.bV,[(l,{rec with state:=.busy})]⟩⟩ []=some s')(hw:Nh mv.g [] W0 N ⟨fl,⟨H.next,H.bV,[(l,{rec with state:=.busy})]⟩⟩ s')(k:eX a P W0 N bd s' (QRe W0 l rec b Hout)):oJ (.w ts mv::a) (QRd P W0 N l rec bd b Hout) .normal ⟨fl,H⟩:=⟨rfl,hl,iD.IT hw k⟩
theorem agv{l:Nat}{Hout:Heap}{flx:List (Nat×AV)}{ts:List Nat}(hl:H.ec=[(l,rec)])(h:pick fl ts=some flx)(k:eX a P W0 N bd ⟨flx,⟨H.next,H.bV,[(l,{rec with state:=.busy})]⟩⟩ (QRe W0 l rec b Hout)):oJ (.k ts::a) (QRd P W0 N l rec bd b Hout) .normal ⟨fl,H⟩:=⟨rfl,hl,iD.IT (U ts h) k⟩
theorem YM{l:Nat}{Hout:Heap}{e:Exit}{j:Option Code}{w:List Nat}(hj:BH e=some j)(hb:b=j.isNone)(hl:st.H.ec=[(l,{rec with state:=.busy})])(hw:Nh g w W0 0 ⟨[],⟨st.H.next,st.H.bV,[(l,GQ rec j)]⟩⟩ ⟨[],Hout⟩):oJ [.X g w] (QRe W0 l rec b Hout) e st:=⟨hl,j,hj,hb,hw⟩
theorem ann{l:Nat}{Hout:Heap}{e:Exit}(k:oJ a (QRd P W0 N l rec bd b Hout) e st):oJ a (QRd P W0 N l rec bd b Hout) e st:=k
theorem ano{l:Nat}{Hout:Heap}{e:Exit}(k:oJ a (QRe W0 l rec b Hout) e st):oJ a (QRe W0 l rec b Hout) e st:=k
def FR(_:An)(fs:Flags)(H0:Heap)(ids:List Nat)(stop:Option Nat)(k:Nat)(P:Program)(W0:bS)(ops:Array Oper)(l:List Oper)(fr:List (Nat×AV))(H:Heap)(Q:Exit→St→Prop):Prop:=AN P W0 ops fs H0 ids stop k l fr H (fun f g=>Q .normal ⟨f,g⟩)
def IY(_:An)(fs:Flags)(H0:Heap)(ids:List Nat)(m:Nat)(L:Array Bool)(i:Option Nat)(P:Program)(W0:bS)(ops:Array Oper)(fr:List (Nat×AV))(H:Heap)(Q:Exit→St→Prop):Prop:=match i with
 |none=>SA P W0 ops fs H0 ids m L fr H (fun f g=>Q .normal ⟨f,g⟩)
 |some i=>V_ P W0 ops fs H0 ids m L fr H (fun f g=>Q .normal ⟨f,g⟩) i
section
variable {a b:An} {fs:Flags} {H0 H1 H2:Heap} {ids:List Nat} {stop:Option Nat} {k n m i i':Nat} {ops:Array Oper} {l rest:List Oper} {fl flx:List (Nat×AV)} {Q:Exit→St→Prop} {T:Tb} {o':Oper} {r1 r2:AV} {L:Array Bool} {ts:List Nat}
theorem arI{N id:Nat}{l:List Oper}(hm:P.follows .mixedOrders=true)(hB:Lg fs stop l.toArray=true)(hN:l.all (jb N)=true)(hro:W0.ro=none)(q:FR a fs H ids stop 0 P W0 l.toArray l fl H Q):eX (.T ids fs stop::a) P W0 N (.region id l.toArray true) ⟨fl,H⟩ Q:=Qk ids fs stop hm hB hN q hro
theorem Th(hT:T.Of P)(hg:FQ H0 H ids){K:List (Nat×AV)→Heap→Prop}:∀{n k:Nat} {l:List Oper} {fl:List (Nat×AV)} {x:Nat×List Oper×List (Nat×AV)},goH T ops stop n k l fl=some x→AN P W0 ops fs H0 ids stop x.1 x.2.1 x.2.2 H K→AN P W0 ops fs H0 ids stop k l fl H K
 |0,k,l,fl,x,h,q=>by cases h;exact q
 |_+1,k,[],fl,x,h,q=>by cases h
 |n+1,k,o::l,fl,x,h,q=>by
  unfold goH at h;split at h
  ·cases h
  ·rename_i hs
   split at h
   ·split at h
    ·rename_i f hf
     have:=Th hT hg h q;rw[gR hf] at this;exact AN.skip (by assumption) this hs
    ·cases h
   ·split at h
    ·rename_i r hr
     split at h
     ·rename_i f hf
      have:=Th hT hg h q;rw[gR hf] at this;exact AN.calm (by assumption) hg (fun _ _=>GO hT hr _) this hs
     ·cases h
    ·cases h
   ·cases h
theorem al6(hT:T.Of P){k':Nat}{l':List Oper}(h:goH T ops stop n k l fl=some (k',l',flx))(q:FR a fs H0 ids stop k' P W0 ops l' flx H Q)(hg:FQ H0 H ids:=by repeat' (first|exact trivial|refine⟨rfl, ?_⟩)):FR (.e n::a) fs H0 ids stop k P W0 ops l fl H Q:=Th hT hg h q
theorem amg(h:pick fl ts=some flx)(q:FR a fs H0 ids stop k P W0 ops l flx H Q):FR (.p ts::a) fs H0 ids stop k P W0 ops l fl H Q:=AN.keep ts h q
theorem Ls(hw:dO ops (lk fl) o=some true)(h:∀H',UB H0 ids H'→b_ P W0 o (lk fl) H' r1 H')(hv:sO r1=some r2)(hs:(stop==some k)=false)(q:FR a fs H0 ids stop (k+1) P W0 ops rest (gP fl o.dst r2) H Q)(hg:FQ H0 H ids:=by repeat' (first|exact trivial|refine⟨rfl, ?_⟩)):FR (.v::a) fs H0 ids stop k P W0 ops (o::rest) fl H Q:=by
 rw[oq hv] at q;exact AN.calm hw hg h q hs
theorem Y8(hw:dO ops (lk fl) o=some true)(h:∀H',b_ P W0 o (lk fl) H' r1 H')(hv:sO r1=some r2)(hs:(stop==some k)=false)(q:FR a fs H0 ids stop (k+1) P W0 ops rest (gP fl o.dst r2) H Q)(hg:FQ H0 H ids:=by repeat' (first|exact trivial|refine⟨rfl, ?_⟩)):FR (.d::a) fs H0 ids stop k P W0 ops (o::rest) fl H Q:=by
 rw[oq hv] at q;exact AN.calm hw hg (fun H' _=>h H') q hs
theorem QT(hw:dO ops (lk fl) o=some true)(hl:fs.kW k=true)(h:b_ P W0 o (lk fl) H r1 H1)(hH:u6 H1=some H2)(hv:sO r1=some r2)(hs:(stop==some k)=false)(q:FR a fs H0 ids stop (k+1) P W0 ops rest (gP fl o.dst r2) H2 Q)(hg:FQ H0 H2 ids:=by repeat' (first|exact trivial|refine⟨rfl, ?_⟩)):FR (.h::a) fs H0 ids stop k P W0 ops (o::rest) fl H Q:=by
 rw[oq hv] at q;rw[uF hH] at q hg;exact AN.kW hw hl h hg q hs
theorem amc(hw:dO ops (lk fl) o=some true)(hl:fs.last k=true)(h:b_ P W0 o (lk fl) H r1 H1)(hH:u6 H1=some H2)(hv:sO r1=some r2)(hs:(stop==some k)=false)(q:oJ a Q .normal ⟨gP fl o.dst r2,H2⟩):FR (.h::a) fs H0 ids stop k P W0 ops [o] fl H Q:=by
 rw[oq hv,uF hH] at q;exact AN.last hw hl h q hs
theorem alZ{f:FuncId}{ys xs:List AV}{r3:AV}{Hin Hout H3:Heap}{g m':List (Nat×Nat)}{nw oc:List Nat}{p:Nat}{S1 O2:List (Nat×(Nat×List AV))}
  (hf:Bs P (.pinned W0.w p) f xs Hin r1 Hout)(he:Enters P o (lk fl) f ys)(hl:xs.length=ys.length)(hs:Lw H.bV g=some S1)(ho:K_ m' oc Hout.bV m'=some O2)(hr:TV m' 8 r1=some r2)
  (hw:dO ops (lk fl) o=some true)(hld:fs.kW k=true)(hp:Pass bQ (bN 0 ys) (bN 0 xs) H ⟨H.next,S1,[]⟩ Hin Hout ⟨H.next+Hout.next,GH (yR g H.bV) O2,H.ec⟩ g m' nw p r1 r2)(hH:u6 ⟨H.next+Hout.next,GH (yR g H.bV) O2,H.ec⟩=some H3)(hv:sO r2=some r3)(hst:(stop==some k)=false)(q:FR a fs H0 ids stop (k+1) P W0 ops rest (gP fl o.dst r3) H3 Q)(hg:FQ H0 H3 ids:=by repeat' (first|exact trivial|refine⟨rfl, ?_⟩)):FR (.c g m' nw oc::a) fs H0 ids stop k P W0 ops (o::rest) fl H Q:=
 QT (a:=a) hw hld (wE he hf hp hl) hH hv hst q hg
theorem amd(q:oJ a Q .normal ⟨fl,H⟩):FR a fs H0 ids stop k P W0 ops [] fl H Q:=AN.nil q
theorem amj(q:IY a fs H0 ids l.length (Vv ops.size k) none P W0 ops fl H Q):FR (.s::a) fs H0 ids stop k P W0 ops l fl H Q:=AN.fork q
theorem alO(hr:Region.ready .any ops L=[i])(q:IY a fs H0 ids n L (some i) P W0 ops fl H Q):IY (.k [i]::a) fs H0 ids (n+1) L none P W0 ops fl H Q:=SA.many i [] hr ⟨q,trivial⟩
theorem alP(hr:Region.ready .any ops L=[i,i'])(q:IY a fs H0 ids n L (some i) P W0 ops fl H Q)(q':IY b fs H0 ids n L (some i') P W0 ops fl H Q):IY [.k [i,i'],.y 0 a b] fs H0 ids (n+1) L none P W0 ops fl H Q:=SA.many i [i'] hr ⟨q,q',trivial⟩
theorem ame(hr:(Region.ready .any ops L).isEmpty=true)(q:oJ a Q .normal ⟨fl,H⟩):IY (.n::a) fs H0 ids 0 L none P W0 ops fl H Q:=SA.done hr q
theorem amb(h:pick fl ts=some flx)(q:IY a fs H0 ids n L none P W0 ops flx H Q):IY (.p ts::a) fs H0 ids n L none P W0 ops fl H Q:=SA.keep ts h q
theorem afc(ho:ops[i]? =some o)(hw:dO ops (lk fl) o=some true)(hl:fs.kW i=true)(h:b_ P W0 o (lk fl) H r1 H1)(hH:u6 H1=some H2)(hv:sO r1=some r2)(q:IY a fs H0 ids n (L.setIfInBounds i true) none P W0 ops (gP fl o.dst r2) H2 Q)(hg:FQ H0 H2 ids:=by repeat' (first|exact trivial|refine⟨rfl, ?_⟩)):IY (.h::a) fs H0 ids n L (some i) P W0 ops fl H Q:=by
 rw[oq hv] at q;rw[uF hH] at q hg;exact V_.kW o ho hw hl h hg q
theorem asK{N:Nat}{c:Code}{st:St}(q:eX (.T ids fs stop::a) P W0 N c st Q):eX (.T ids fs stop::a) P W0 N c st Q:=q
theorem am_(q:FR a fs H0 ids stop k P W0 ops l fl H Q):FR a fs H0 ids stop k P W0 ops l fl H Q:=q
theorem ana{j:Option Nat}(q:IY a fs H0 ids m L j P W0 ops fl H Q):IY a fs H0 ids m L j P W0 ops fl H Q:=q
end
variable {α β:Type}
theorem atk{x:Option (α⊕β)}{r:α}(h:x.bind Sum.getLeft?=some r):x=some (.inl r):=by
 rcases x with _|_|_ <;> first|(cases h;done)|(cases h;rfl)
theorem aur{x:Option (α⊕β)}{r:β}(h:x.bind Sum.getRight?=some r):x=some (.inr r):=by
 rcases x with _|_|_ <;> first|(cases h;done)|(cases h;rfl)
variable {a b:An}{md:Md}{ops:Array Oper}{l:List Oper}{fl:List (Nat×AV)}{Q:Exit→St→Prop}
theorem arC{γ:Type}{x:Option (α⊕β)}{f:α→Option γ}{f':β→Option γ}{v:γ}(h:(x.bind fun r=>Sh.either r f f')=some v)(k1:(x.bind Sum.getLeft?).bind f=some v→fG a md P W0 ops l fl H Q)(k2:(x.bind Sum.getRight?).bind f'=some v→fG b md P W0 ops l fl H Q):fG [.E a b] md P W0 ops l fl H Q:=by
 rcases x with _|y|y
 ·cases h
 ·exact k1 h
 ·exact k2 h
theorem am4(k:fG [.E a b] md P W0 ops l fl H Q):fG [.E a b] md P W0 ops l fl H Q:=k
theorem amm{x q:Int}{p1 q1:Option β}{v:β}(h:(if decide (x=q)=true then p1 else q1)=some v)(k1:decide (x=q)=true→p1=some v→fG a md P W0 ops l fl H Q)(k2:decide (x=q)=false→q1=some v→fG b md P W0 ops l fl H Q):fG [.y 0 a b] md P W0 ops l fl H Q:=by
 cases hq:decide (x=q) with
 |true=>exact k1 hq (by simpa [hq] using h)
 |false=>exact k2 hq (by simpa [hq] using h)
theorem ant(k:fG [.y 0 a b] md P W0 ops l fl H Q):fG [.y 0 a b] md P W0 ops l fl H Q:=k
variable {x:α}{st:St}
theorem amn{e:Exit}{y:β}(h:some (Sum.inl x)=some (Sum.inr y)):oJ (.z::a) Q e st:=by cases h
theorem amo{e:Exit}{y:β}(h:some (Sum.inr y)=some (Sum.inl x)):oJ (.z::a) Q e st:=by cases h
def QO(W0:bS)(N l:Nat)(Q:Exit→St→Prop):Exit→St→Prop:=SB l (fun s=>∃s0:Unit,Sh.loop (fun _=>(none:Option (Unit⊕Unit))) s0=some ()∧b8 W0 N s ⟨[],.empty⟩) Q
variable {N:Nat}{c:Code}
theorem arG{rest:Code}{l:Nat}(hf:findLabel c l=some rest)(k:eX a P W0 N c st (QO W0 N l Q))(hro:W0.ro=none:=by rfl):eX (.O l::a) P W0 N (.scope c) st Q:=Wu l (fun _=>none) (fun _=>⟨[],.empty⟩) () hf k (fun s o h _=>by cases h) hro
theorem asI{l:Nat}(k:eX (.O l::a) P W0 N c st Q):eX (.O l::a) P W0 N c st Q:=k
theorem agq{l:Nat}(k:oJ a Q .normal st):oJ a (QO W0 N l Q) .normal st:=k
theorem agr{l:Nat}(k:oJ a Q .ret st):oJ a (QO W0 N l Q) .ret st:=k
theorem ags{l i:Nat}(k:oJ a Q (.exit i) st):oJ a (QO W0 N l Q) (.exit i) st:=k
variable {e t:TypeId}{s eN:Nat}{xs:List AV}{enc:α→AV}
theorem FL{T:Tw}(hT:T.Of P){len:Nat}{z:Value}{parts:Array (Nat×Operand)}{xo:List Operand}(l:List α)(ho:o.op=.buildSlice t len parts)(hp:Ww parts.toList 0=some xo)(hlen:len=xo.length)(ht:lk T.et t=some (e,s,eN,z)) [EncT e enc]
  (hxs:xo.mapM (aD fr)=some xs)(hsol:xs.all (fun x=>x.b6&&x.flat.length==s)=true)(hsmall:decide (len*s≤16777216)=true)(Kx:(s==0)=false)(hxl:xs=l.map enc:=by rfl):b_ P W0 o fr H (.view H.next 0 (l.map enc).length) (H.push s (l.map enc)):=by
 subst hxl;have h1:=(hT.et _ _ _ _ _ ht);have h2:=List.all_eq_true.1 hsol;exact abf enc l ho (OB hp) hlen hxs (fun x hx=>by have:=h2 x hx;simp at this;exact this.1) (fun x hx=>by have:=h2 x hx;simp at this;exact this.2) h1.el (by simp[h1.zr]) (of_decide_eq_true hsmall) (by simpa using Kx)
theorem arW{p:Prop}{hp:p}(k:p→iD P W0 N c st Q):eX (.u hp::a) P W0 N c st Q:=k hp
theorem asZ{p:Prop}{hp:p}(k:eX (.u hp::a) P W0 N c st Q):eX (.u hp::a) P W0 N c st Q:=k
variable {ρ:Type}{r:ρ}
theorem arZ(h:none=some r):eX (.z::a) P W0 N c st Q:=by cases h
theorem amr(h:none=some r):fG (.z::a) md P W0 ops l fl H Q:=by cases h
theorem agH{x:Option α}(h:(x.bind fun _=>none)=some r):fG (.z::a) md P W0 ops l fl H Q:=by cases x <;> cases h
theorem anv(k:fG (.z::a) md P W0 ops l fl H Q):fG (.z::a) md P W0 ops l fl H Q:=k
theorem anu{e:Exit}(k:oJ (.z::a) Q e st):oJ (.z::a) Q e st:=k
theorem amq{e:Exit}(h:none=some r):oJ (.z::a) Q e st:=by cases h
theorem as3(k:eX (.z::a) P W0 N c st Q):eX (.z::a) P W0 N c st Q:=k
variable {es ys:List AV}
theorem b_.wfr{r:AV}{H':Heap}{u:Nat}(hw:DT es ys)(hu:fr u=some (.clip es))(h:b_ P W0 o (fun s=>if s=u then some (.clip ys) else fr s) H r H'):b_ P W0 o fr H r H':=fun C a hI hH hop=>h C a hI hH fun x hx s hs y hy=>by
 have hr:=hop x hx s hs;by_cases e:s=u
 ·subst e
  simp only[if_true] at hy;cases hy;exact Qs hw (hr _ hu)
 ·simp only[if_neg e] at hy
  exact hr y hy
variable {id n:Nat}
theorem aes(hT:T.Of P){ty:TypeId}{l m L:List α}{u v:Nat}{z:Value}(hL:Sh.app eN l m=some L)(ho:o.op=.call {callee:=.builtin .append,args:= #[.tmp u,.tmp v],argTypes:= #[t,t]})(hty:o.type=ty)
  (hx:fr u=some (.view id 0 n))(hid:H.get id=some (l.map enc))(hn:n=(l.map enc).length)(ht:lk T.et t=some (e,s,eN,z))(hfl:∀x:α,(enc x).flat.length=s)(hs:H.sz id=some s)(hy:fr v=some (.clip es))(hne:(u==v)=false)(hw:DT es (m.map enc)):b_ P W0 o fr H (.view H.next 0 (L.map enc).length) ((H.del id).push s (L.map enc)):=
 .wfr hw hy (uw enc l m L hL hn (hT.et _ _ _ _ _ ht) hfl ho hty (by simp only[aD];rw[if_neg (by simpa using hne)];exact hx) hid hs (ay:=.clip (m.map enc)) (by simp[aD]) rfl)
variable {r1:AV}{mv:Mv}
theorem ao9{r2:AV}{H1:Heap}{os:List (Nat×(Nat×List AV))}(h:b_ P W0 o fr H r1 H1)(hr:cvA H1 mv 8 r1=some r2)(hO:cvO H1 mv mv.g=some os)
  (hh:jC H1 mv.g [] H1.next os∧gi H1 mv.g [] r1 r2:=by repeat' (first|exact trivial|refine jC.cons rfl rfl ?_ dt ?_|refine rU.one ?_ rfl|(refine rU.same ?_;simp;done)|(refine gi.sy rfl ?_;simp;done)|exact gi.ref rfl|exact gi.view rfl|(refine gi.jI rfl rfl ?_;simp;done)|refine gi.ag ?_|refine⟨?_, ?_⟩))
  (hid:mv.g.all (fun p=>p.1==p.2)=true:=by rfl)(hinj:mv.g.all (fun p=>mv.g.all (fun q=>p.2 !=q.2||p.1==q.1))=true:=by rfl)(hlt:mv.g.all (fun p=>decide (p.1<H1.next))=true:=by rfl)(hpo:DM W0.p mv.g [] H1.next=true:=by rfl):b_ P W0 o fr H r2 ⟨H1.next,os,H1.ec⟩:=
 h.re (H2:=⟨H1.next,os,H1.ec⟩) mv.g hh.2 hh.1 hid (afk _) hinj hlt hpo rfl
variable {m:Md}{rest:List Oper}
theorem ND{r2 r3:AV}{H1 H2:Heap}{ts:List Nat}{os:List (Nat×(Nat×List AV))}(hw:dO ops (lk fl) o=some true)(hl:m.kW=true)(h:b_ P W0 o (lk fl) H r1 H1)(hr:cvA H1 mv 8 r1=some r2)(hO:cvO H1 mv mv.g=some os)(hH:u6 ⟨H1.next,os,H1.ec⟩=some H2)(hv:sO r2=some r3)(k:fG a m.next P W0 ops rest (gP fl o.dst r3) H2 Q)
  (hh:jC H1 mv.g [] H1.next os∧gi H1 mv.g [] r1 r2:=by repeat' (first|exact trivial|refine jC.cons rfl rfl ?_ dt ?_|refine rU.one ?_ rfl|(refine rU.same ?_;simp;done)|(refine gi.sy rfl ?_;simp;done)|exact gi.ref rfl|exact gi.view rfl|(refine gi.jI rfl rfl ?_;simp;done)|refine gi.ag ?_|refine⟨?_, ?_⟩))
  (hid:mv.g.all (fun p=>p.1==p.2)=true:=by rfl)(hinj:mv.g.all (fun p=>mv.g.all (fun q=>p.2 !=q.2||p.1==q.1))=true:=by rfl)(hlt:mv.g.all (fun p=>decide (p.1<H1.next))=true:=by rfl)(hpo:DM W0.p mv.g [] H1.next=true:=by rfl):fG (.w ts mv::a) m P W0 ops (o::rest) fl H Q:=lG (a:=a) hw hl (ao9 h hr hO hh hid hinj hlt hpo) hH hv k
theorem anh{ts:List Nat}(k:fG (.w ts mv::a) md P W0 ops l fl H Q):fG (.w ts mv::a) md P W0 ops l fl H Q:=k
def ZO(x:AV):Option (List AV):=match x with
 |.sl es=>some es
 |.clip es=>some es
 |_=>none
variable {ax:AV}
theorem Ky(h:ZO ax=some es):ax=.sl es∨ax=.clip es:=by
 cases ax <;> cases h <;> simp
theorem aew{x:Operand}(ho:o.op=.call {callee:=.builtin .len,args:= #[x],argTypes:= #[t]})(hx:aD fr x=some ax)(ht:oK P t=some (e,s,eN))(he:ZO ax=some es)(hn:Lp es.length=some n:=by rfl):b_ P W0 o fr H (J (n:Nat)) H:=by
 rw[Jg hn];rcases Ky he with rfl|rfl <;> exact Ks ho hx rfl ht
theorem aiK{x i:Operand}{k:IntKind}{n:Int}{el:AV}(ho:o.op=.indexAddr t x i)(hx:aD fr x=some ax)(hax:ZO ax=some es)(hi:aD fr i=some (.imm (.int k n)))(ht:oK P t=some (e,s,eN))(h0:decide (0≤n)=true)(hel:es[n.toNat]? =some el)(hs:el.flat.length=s):b_ P W0 o fr H (.pp el.flat 0) H:=
 yX ho hx (Ky hax) hi ht (m:=n.toNat) (by have:=of_decide_eq_true h0;omega) hel hs
theorem aiI{x i:Operand}{k:IntKind}{n:Int}{l:List α}{y:α}(hL:Sh.idx l n=some y)(ho:o.op=.indexAddr t x i)(hx:aD fr x=some ax)(hax:ZO ax=some (l.map enc))(hi:aD fr i=some (.imm (.int k n)))(ht:oK P t=some (e,s,eN))(hs:(enc y).flat.length=s):b_ P W0 o fr H (.pp (enc y).flat 0) H:=by
 obtain⟨m,h1,h2⟩:=Sh.jo hL;exact yX ho hx (Ky hax) hi ht h1 (by simp[h2]) hs
theorem aiL{x:Operand}{lo hi:Option Operand}{q:List AV}{l h:Nat}(ho:o.op=.slice t x lo hi none)(hx:aD fr x=some ax)(hax:ZO ax=some es)(ht:oK P t=some (e,s,eN))(hl:fW fr lo 0=some l)(hh:fW fr hi es.length=some h)(h1:(decide (l≤h∧h≤es.length))=true)(hs:es.all (fun e=>e.flat.length==s)=true)(hq:u5 ((es.drop l).take (h - l))=some q):b_ P W0 o fr H (.sl q) H:=by
 rw[uE hq];have h1:=of_decide_eq_true h1;exact HA ho hx (Ky hax) ht hl hh h1.1 h1.2 fun e he=>by have:=List.all_eq_true.1 hs e he;simpa using this
variable {i:Int}{k:Nat}
theorem lZ{l:List α}{y:α}(hi:i=k)(hl:l[k]? =some x):(Sh.set l i y)[k]? =some y:=by
 subst hi;have:=(List.getElem?_eq_some_iff.1 hl).1;simp[Sh.set,this]
variable {xo:Operand}
theorem aiJ{l:List α}{ki:IntKind}{io:Operand}(hi:i=k)(hl:l[k]? =some x)(ho:o.op=.indexAddr t xo io)(ht:oK P t=some (e,s,eN)) [EncT e enc] (hx:aD fr xo=some (.clip (l.map enc)):=by exact rfl)(hio:aD fr io=some (.imm (.int ki i)):=by exact rfl)(hs:(enc x).flat.length=s:=by exact rfl):b_ P W0 o fr H (.pp (enc x).flat 0) H:=IM enc l hi hl ho hx hio ht hs
theorem XC{yo:Operand}{l:List α}{x':α}(ho:o.op=.store t xo yo)(hx:aD fr xo=some (.ref id 0 k))(hid:H.get id=some [Ku enc l])(hy:aD fr yo=some (enc x'))(hi:i=k)(hl:l[k]? =some x)(ht:Dw P t=some (1,false))(hfl:(enc x').flat=[enc x'])(hsol:(enc x').b6=true):b_ P W0 o fr H .any (H.set id [Ku enc (Sh.set l i x')]):=
 R3 enc l x' hi hl hfl hsol ho hx hy hid ht
theorem abd{yo:Operand}{kb:IntKind}{b:Int}{l L:List α}(hL:Sh.sub l 0 b=some L)(ho:o.op=.slice t xo none (some yo) none)(hx:aD fr xo=some (.view id 0 n))(hid:H.get id=some (l.map enc))(hn:n=(l.map enc).length)(hs:H.sz id=some s)(hy:aD fr yo=some (.imm (.int kb b)))(ht:oK P t=some (e,s,eN))(hfl:∀x:α,(enc x).flat.length=s)(Jl:(s==0)=false:=by rfl):b_ P W0 o fr H (.view H.next 0 (L.map enc).length) ((H.del id).push s (L.map enc)):=
 afZ enc l L hL hn hfl ho hx hid hs hy ht (by simpa using Jl)
variable {f:FuncId}{args:Array Operand}{tys:Array TypeId}
theorem abb{r:AV}(hf:oQ P W0.w f xs r)(ho:o.op=.call {callee:=.value (.func f),args:=args,argTypes:=tys})(hys:args.toList.mapM (aD fr)=some ys)(hl:xs.length=ys.length)(hw:b8 (.of W0.w) ys.length ⟨bN 0 ys,{H with ec:=[]}⟩ ⟨bN 0 xs,.empty⟩:=by exact b8.ra [] [])(hd:ya r:=by simp):b_ P W0 o fr H r H:=
 I8 ho hys hw hl hf hd
theorem Oa{r:AV}(hf:oQ P W0.w f xs r)(ho:o.op=.call {callee:=.value (.func f),args:=args,argTypes:=tys})(hys:args.toList.mapM (aD fr)=some ys)(hl:xs.length=ys.length)(hw:b8 (.of W0.w) ys.length ⟨bN 0 ys,{H with ec:=[]}⟩ ⟨bN 0 xs,.empty⟩)(hd:ya r:=by simp):b_ P W0 o fr H r H:=
 I8 ho hys hw hl hf hd
def acJ:Nat→AV→Bool
 |0,_=>false
 |n+1,x=>match x with
  |.view .. =>true
  |.ref .. =>true
  |.agg cs=>cs.any (acJ n)
  |.tuple cs=>cs.any (acJ n)
  |.fH _ cs=>cs.any (acJ n)
  |_=>false
theorem N_{r r':AV}{Hr:Heap}{objs':List (Nat×(Nat×List AV))}(hf:CD P W0.w f xs r Hr)(ho:o.op=.call {callee:=.value (.func f),args:=args,argTypes:=tys})(hys:args.toList.mapM (aD fr)=some ys)(hv:ys.any (acJ 4)=true)(hr:shA H.next 6 r=some r')(hO:shO H.next Hr.bV=some objs')(hl:xs.length=ys.length)
  (hw:b8 (.of W0.w) ys.length ⟨bN 0 ys,{H with ec:=[]}⟩ ⟨bN 0 xs,.empty⟩:=by exact b8.ra [] [])
  (hsh:gZ ya H.next r r'∧Joined ya H.next Hr.bV objs':=by repeat' (first|exact trivial|(refine gZ.sm ?_;simp;done)|exact gZ.view _ _ _|exact gZ.ref _ _ _|refine gZ.ag ?_|refine gZ.tp ?_|rfl|(refine yb.mp ?_;intro x;simp;done)|(refine yb.same ?_;simp[AV.flat];done)|refine⟨?_, ?_⟩)):b_ P W0 o fr H r' {next:=H.next+Hr.next,bV:=H.bV++objs',ec:=H.ec}:=
 SI r' objs' ho hys hw hl hf hsh.1 hsh.2
theorem XB(hT:T.Of P)(ho:o.op=.alloc t)(hz:lk T.zr t=some (.agg (aeR (n+1) (.int .i64 0)).toArray)):b_ P W0 o fr H (.ref H.next 0 0) (H.push (n+1) [Ku J (aeR (n+1) 0)]):=by
 have e:AV.Ch (.agg (aeR (n+1) (.int .i64 0)).toArray)=Ku J (aeR (n+1) 0):=by simp[AV.Ch,Ku]
 rw[←e];exact f_ (n+1) _ ho (hT.zr _ _ hz) (by simp only[Value.MD,List.all_toArray,agP,List.mem_replicate];rintro x ⟨_,rfl⟩;rfl) (.inl ⟨rfl,by simp[AV.Ch,AV.flat]⟩) (by simp)
theorem whB{l:List α}{f:List α→Option β}{r:β}{G:Prop}(h:(Sh.whole n l).bind f=some r)(k:l.length=n→f l=some r→G):G:=by
 obtain⟨w,h1,h2⟩:=Sh.b5 h;obtain⟨h3,rfl⟩:=Sh.Uu h1;exact k h3 h2
theorem anG{v:α}{f:α→Option β}{r:β}{G:Prop}(h:Sh.EK v f=some r)(k:f v=some r→G):G:=k h
theorem amk(hw:dO ops (lk fl) o=some true)(hl:m.read=true)(h:b_ P W0 o (lk fl) H r1 H)(k:fG a m.next P W0 ops rest (gP fl o.dst r1) H Q):fG (.v::a) m P W0 ops (o::rest) fl H Q:=by
 cases m with
 |n=>exact E hw h k
 |s=>simp only[Md.read,aiq,Bool.not_eq_true'] at hl;exact nT hw hl.1 h k hl.2
 |f=>cases rest with
  |nil=>exact fun ho=>bI o ho hw hl h k
  |cons=>trivial
 |c=>cases hl
theorem Y7(hw:dO ops (lk fl) o=some true)(h:∀H',b_ P W0 o (lk fl) H' r1 H')(k:fG a m.next P W0 ops rest (gP fl o.dst r1) H Q)(hm:m.CB=true:=by rfl):fG (.d::a) m P W0 ops (o::rest) fl H Q:=by
 cases m with
 |n=>exact E hw (h H) k
 |s=>exact s4 hw h k (by simpa [Md.CB] using hm)
 |f=>cases rest with
  |nil=>exact fun ho=>bI o ho hw hm (h H) k
  |cons=>trivial
 |c=>cases rest with
  |nil=>exact fun ho hc=>AF.CB _ ho hc hw h k
  |cons=>trivial
section
variable {N n:Nat} {c:Code} {Q:Exit→St→Prop} {fl flx:List (Nat×AV)} {a:An} {ts:List Nat} {st st':St} {mv:Mv}
theorem alU(h:pick fl ts=some flx)(k:eX a P W0 N c ⟨flx,H⟩ (mI (XX P W0 N c Q n) Q)):eX (.U (n+1)::.k ts::a) P W0 N (.loop c) ⟨fl,H⟩ Q:=UR (n+1) (iD.IT (U ts h) k)
theorem alV(h:E0 ts mv st []=some st')(hw:Nh mv.g [] W0 N st st')(k:eX a P W0 N c st' (mI (XX P W0 N c Q n) Q)):eX (.U (n+1)::.w ts mv::a) P W0 N (.loop c) st Q:=UR (n+1) (iD.IT hw k)
theorem ago(h:pick fl ts=some flx)(k:eX a P W0 N c ⟨flx,H⟩ (mI (XX P W0 N c Q n) Q)):oJ (.k ts::a) (mI (XX P W0 N c Q (n+1)) Q) .normal ⟨fl,H⟩:=iD.IT (U ts h) k
theorem agp(h:E0 ts mv st []=some st')(hw:Nh mv.g [] W0 N st st')(k:eX a P W0 N c st' (mI (XX P W0 N c Q n) Q)):oJ (.w ts mv::a) (mI (XX P W0 N c Q (n+1)) Q) .normal st:=iD.IT hw k
theorem asL(k:eX (.U n::a) P W0 N c st Q):eX (.U n::a) P W0 N c st Q:=k
end
end
end Go.Av
end

section
namespace Go.Av
open Go.RowKit (Below)
mutual
variable {H:Type}
def Bw:DataW H→AV
 |.lit (.bool b)=>.imm (.bool b)
 |.lit (.int k n)=>.imm (.int k n)
 |.lit (.string bs)=>.imm (.string ⟨bs.toArray⟩)
 |.nil=>.sl []
 |.slice es _=>.sl (UQ es)
 |.agg ps=>.agg (pR ps)
 |_=>.any
def UQ:List (DataW H)→List AV
 |[]=>[]
 |d::r=>Bw d::UQ r
def pR:List (DataW H)→List AV
 |[]=>[]
 |d::r=>(Bw d).flat++pR r
end

theorem Wp{H:Type}(l:List (DataW H)):UQ l=l.map Bw:=by
 induction l with
 |nil=>rfl
 |cons d r ih=>simp[UQ,ih]

def sF(P:Program):Nat→TypeId→Bool
 |0,_=>false
 |n+1,t=>
  match P.underlying t with
  |some .bool|some (.int _)|some .string=>true
  |some (.slice e)=>P.cellsOf e !=0&&sF P n e
  |some (.struct fs)=>fs.toList.all (fun f=>sF P n f.type)&&(fs.toList.foldl (fun(acc:Option Nat) f=>acc.bind fun a=>if f.offset==a then some (a+P.cellsOf f.type) else none) (some 0))==some (P.cellsOf t)
  |some (.array m e)=>sF P n e&&m*P.cellsOf e==P.cellsOf t
  |_=>false

theorem flat_agg(cs:List AV):(AV.agg cs).flat=cs:=rfl

structure Hv (C:Ctx) (cs:List Value) (x:AV):Prop where
 len:x.flat.length=cs.length
 one:∀c∈cs,c.oneCell'=true
 rep:∀(k:Nat) (y:AV),x.flat[k]? =some y→∃c,cs[k]? =some c∧c4 C y c

theorem mapM_some{α β:Type}(f:α→Option β):∀(l:List α) (ys:List β),l.mapM f=some ys→ys.length=l.length∧∀(k:Nat) (x:α),l[k]? =some x→∃y,ys[k]? =some y∧f x=some y:=by
 intro l
 induction l with
 |nil=>grind
 |cons y l ih=>
  intro ys h;rw[acT] at h;simp only[aeY,ae1,afd,Option.some.injEq] at h;grind

theorem xW{C:Ctx}{c:Value}{x:AV}(h1:c.oneCell'=true)(hr:c4 C x c):Hv C [c] x:=by
 have hf:=Dl hr h1;refine⟨by grind,fun c' hc=>by grind,fun k y hk=> ?_⟩;grind

section
variable {H:Type} {enc:TypeId×Value→H} {P:Program} {w:World} {spare:Nat→Bool} {held:Bool} {C:Ctx}

theorem L9{ι:Type}(ty:ι→TypeId)(off:ι→Nat)(fuel:Nat)(cs:List Value):
  ∀(l:List ι) (acc:Nat) (xs:List (DataW H×List MemPlace)),(∀x∈l,∀(seg:List Value) (y:DataW H×List MemPlace),DataW.trod enc P w 0 spare held fuel (ty x) seg=some y→seg.length=P.cellsOf (ty x)→Hv C seg (Bw y.1))→(∀(i:Nat) (x:ι),l[i]? =some x→off x=acc+((l.take i).map fun y=>P.cellsOf (ty y)).sum)→acc+(l.map fun y=>P.cellsOf (ty y)).sum=cs.length→
   l.mapM (fun x=>DataW.trod enc P w 0 spare held fuel (ty x) ((cs.drop (off x)).take (P.cellsOf (ty x))))=some xs→Hv C (cs.drop acc) (.agg (pR (xs.map (·.1)))):=by
 intro l
 induction l with
 |nil=>
  intro acc xs _ _ hlen h
  simp only[List.mapM_nil,afd,Option.some.injEq] at h;subst h
  have:cs.drop acc=[]:=List.drop_eq_nil_of_le (by grind)
  rw[this]
  exact⟨rfl,fun c hc=>(by cases hc),fun k y hk=>(by simp[pR,AV.flat] at hk)⟩
 |cons x l ihl=>
  intro acc xs ih hoff hlen h
  rw[acT] at h
  simp only[aeY,ae1,afd,Option.some.injEq] at h
  obtain⟨z,hz,zs,hzs,rfl⟩:=h
  have h0:off x=acc:=by have:=hoff 0 x rfl;grind
  simp only[ac7,List.sum_cons] at hlen
  rw[h0] at hz
  have hseg:((cs.drop acc).take (P.cellsOf (ty x))).length=P.cellsOf (ty x):=by grind
  have r1:=ih x (ad2 ..) _ z hz hseg
  have r2:=ihl (acc+P.cellsOf (ty x)) zs (fun y hy=>ih y (adU _ hy)) (fun i y hy=>by
   have:=hoff (i+1) y (by grind)
   grind) (by omega) hzs
  have hsplit:cs.drop acc=(cs.drop acc).take (P.cellsOf (ty x))++cs.drop (acc+P.cellsOf (ty x)):=by
   grind [List.drop_drop,List.take_append_drop]
  rw[hsplit]
  have l1:=r1.len
  have l2:=r2.len
  refine⟨by grind [flat_agg,pR],fun c hc=> ?_,fun k y hk=> ?_⟩
  ·rcases List.mem_append.1 hc with h|h
   ·exact r1.one c h
   ·exact r2.one c h
  ·simp only[flat_agg,ac7,pR] at hk
   by_cases hlt:k<(Bw z.1).flat.length
   ·rw[List.getElem?_append_left hlt] at hk
    obtain⟨c,g1,g2⟩:=r1.rep k y hk
    grind
   ·rw[List.getElem?_append_right (by omega)] at hk
    obtain⟨c,g1,g2⟩:=r2.rep _ y hk
    grind

theorem OH(P:Program):∀(fs:List Field) (a tot:Nat),fs.foldl (fun(acc:Option Nat) f=>acc.bind fun a=>if f.offset==a then some (a+P.cellsOf f.type) else none) (some a)=some tot→
  (∀(i:Nat) (x:Field),fs[i]? =some x→x.offset=a+((fs.take i).map fun y=>P.cellsOf y.type).sum)∧a+(fs.map fun y=>P.cellsOf y.type).sum=tot:=by
 intro fs
 induction fs with
 |nil=>grind
 |cons f fs ih=>
  intro a tot h;by_cases hf:f.offset==a
  ·have hf':f.offset=a:=by grind
   refine⟨fun i x hx=> ?_,by grind⟩;cases i with
   |zero=>grind
   |succ i=>
    grind
  ·have:∀(l:List Field),l.foldl (fun(acc:Option Nat) f=>acc.bind fun a=>if f.offset==a then some (a+P.cellsOf f.type) else none) none=none:=by
    intro l;induction l with
    |nil=>rfl
    |cons _ _ ih=>grind
   grind

variable {ps:List MemPlace}
theorem Fk{fuel:Nat}{t e:TypeId}{cs:List Value}{d:DataW H}(hu:P.underlying t=some (.slice e))(h:DataW.trod enc P w 0 spare held (fuel+1) t cs=some (d,ps)):
  (cs=[.slice none 0 0]∧d=.nil)∨∃a len cap elems rest,cs=[.slice (some a) len cap]∧d=.slice (elems.map (·.1)) rest∧len≤cap∧cap≤maxLen∧
   (aeD len).mapM (fun i=>(w.cells? 0 (a.add (i*P.cellsOf e)) (P.cellsOf e)).bind (DataW.trod enc P w 0 spare held fuel e))=some elems:=by
 rcases cs with _|⟨c,_|⟨c',cs⟩⟩
 ·simp[DataW.trod,hu] at h
 ·cases c <;> try (simp[DataW.trod,hu] at h)
  rename_i a len cap;cases a with
  |none=>
   cases len <;> cases cap <;> simp[DataW.trod,hu] at h
   grind
  |some a=>
   simp only[DataW.trod,hu] at h;split at h
   ·simp only[ae1,ae5,Prod.mk.injEq] at h
    grind
   ·cases h
 simp_all [DataW.trod]

theorem GB{fuel:Nat}{t:TypeId}{cs:List Value}{d:DataW H}(hu:P.underlying t=some .bool)(h:DataW.trod enc P w 0 spare held (fuel+1) t cs=some (d,ps)):∃b,cs=[.bool b]∧d=.lit (.bool b):=by
 rcases cs with _|⟨c,_|⟨c',cs⟩⟩
 ·simp[DataW.trod,hu] at h
 ·cases c <;> try (simp[DataW.trod,hu] at h)
  simp_all [DataW.trod]
 simp_all [DataW.trod]

theorem Dx{fuel:Nat}{t:TypeId}{k:IntKind}{cs:List Value}{d:DataW H}(hu:P.underlying t=some (.int k))(h:DataW.trod enc P w 0 spare held (fuel+1) t cs=some (d,ps)):∃n,cs=[.int k n]∧d=.lit (.int k n)∧(Lit.int k n).wf=true:=by
 rcases cs with _|⟨c,_|⟨c',cs⟩⟩
 ·simp[DataW.trod,hu] at h
 ·cases c <;> try (simp[DataW.trod,hu] at h)
  simp_all [DataW.trod]
 simp_all [DataW.trod]

theorem yD{fuel:Nat}{t:TypeId}{cs:List Value}{d:DataW H}(hu:P.underlying t=some .string)(h:DataW.trod enc P w 0 spare held (fuel+1) t cs=some (d,ps)):∃s,cs=[.string s]∧d=.lit (.string s.data.toList):=by
 rcases cs with _|⟨c,_|⟨c',cs⟩⟩
 ·simp[DataW.trod,hu] at h
 ·cases c <;> try (simp[DataW.trod,hu] at h)
  simp_all [DataW.trod]
 simp_all [DataW.trod]

theorem ud{fuel:Nat}{t:TypeId}{fs:Array Field}{cs:List Value}{d:DataW H}(hu:P.underlying t=some (.struct fs))(h:DataW.trod enc P w 0 spare held (fuel+1) t cs=some (d,ps)):
  ∃xs,cs.length=P.cellsOf t∧d=.agg (xs.map (·.1))∧fs.toList.mapM (fun f=>DataW.trod enc P w 0 spare held fuel f.type ((cs.drop f.offset).take (P.cellsOf f.type)))=some xs:=by
 have key:(if cs.length=P.cellsOf t then(fs.toList.mapM fun f=>DataW.trod enc P w 0 spare held fuel f.type ((cs.drop f.offset).take (P.cellsOf f.type))).map fun xs=>((.agg (xs.map (·.1)):DataW H),xs.flatMap (·.2)) else none)=some (d,ps):=by
  simp_all [DataW.trod]
 grind [ae5]

theorem Fj{fuel:Nat}{t e:TypeId}{m:Nat}{cs:List Value}{d:DataW H}(hu:P.underlying t=some (.array m e))(h:DataW.trod enc P w 0 spare held (fuel+1) t cs=some (d,ps)):
  ∃xs,cs.length=P.cellsOf t∧d=.agg (xs.map (·.1))∧(aeD m).mapM (fun i=>DataW.trod enc P w 0 spare held fuel e ((cs.drop (i*P.cellsOf e)).take (P.cellsOf e)))=some xs:=by
 have key:(if cs.length=P.cellsOf t then((aeD m).mapM fun i=>DataW.trod enc P w 0 spare held fuel e ((cs.drop (i*P.cellsOf e)).take (P.cellsOf e))).map fun xs=>((.agg (xs.map (·.1)):DataW H),xs.flatMap (·.2)) else none)=some (d,ps):=by
  simp_all [DataW.trod]
 grind [ae5]

theorem GJ{a:Addr}{n:Nat}{seg:List Value}(h:w.cells? 0 a n=some seg):seg.length=n∧∀(j:Nat) (c:Value),seg[j]? =some c→w.cell? (a.add j)=some c:=by
 obtain⟨h1,h2⟩:=mapM_some _ _ _ h;simp_all [List.getElem?_eq_some_iff]

theorem MY(hw:C.w=w)(hbad:∀b,¬C.bad b):∀(fuel n:Nat) (t:TypeId) (cs:List Value) (d:DataW H) (ps:List MemPlace),sF P n t=true→
  DataW.trod enc P w 0 spare held fuel t cs=some (d,ps)→Hv C cs (Bw d):=by
 intro fuel
 induction fuel with
 |zero=>simp_all [DataW.trod]
 |succ fuel ih=>
  intro n t cs d ps hp h;cases n with
  |zero=>simp[sF] at hp
  |succ n=>
  unfold sF at hp;split at hp
  ·rename_i hu
   obtain⟨b,rfl,rfl⟩:=GB hu h;exact xW rfl (.imm _ rfl)
  ·rename_i k hu
   obtain⟨q,rfl,rfl,_⟩:=Dx hu h;exact xW rfl (.imm _ rfl)
  ·rename_i hu
   obtain⟨q,rfl,rfl⟩:=yD hu h;refine xW (c:=.string q) rfl ?_;have:(⟨q.data.toList.toArray⟩:ByteArray)=q:=by rfl
   exact .imm _ rfl
  · -- slice
   rename_i e hu;simp only[aiq,bne_iff_ne,ne_eq] at hp;rcases Fk hu h with⟨rfl,rfl⟩|⟨a,len,cap,elems,rest,rfl,rfl,hlc,_,hm⟩
   ·exact xW rfl (.slNil _ _)
   ·obtain⟨l1,l2⟩:=mapM_some _ _ _ hm
    simp only[List.length_range] at l1;refine xW rfl ?_;simp only[Bw,Wp,List.map_map];subst l1;by_cases h0:elems=[]
    ·subst h0;exact .slNil _ _
    ·have hpos:0<elems.length:=List.length_pos_iff.2 h0
     obtain⟨b,off,sp⟩:=a
     -- each element's cells
     have hel:∀i,i<elems.length→∃seg z,elems[i]? =some z∧w.cells? 0 ((⟨b,off,sp⟩:Addr).add (i*P.cellsOf e)) (P.cellsOf e)=some seg∧Hv C seg (Bw z.1):=fun i hi=>by
      obtain⟨z,g1,g2⟩:=l2 i i (by simp[hi]);grind [ae1]
     have hsp:sp=none:=by
      obtain⟨seg,z,_,g2,_⟩:=hel 0 hpos;obtain⟨q1,q2⟩:=GJ g2;have hs:0<seg.length:=by omega
      have:=q2 0 _ (ab9 hs);cases sp with
      |none=>rfl
      |some x=>grind [Addr.add,World.cell?]
     subst hsp;have cell:∀(i j:Nat) (q x:AV),(elems.map (Bw∘(·.1)))[i]? =some q→q.flat[j]? =some x→∃v,Holds C.w b (off+i*P.cellsOf e+j) v∧c4 C x v:=fun i j q x hq hx=>by
      have hi:i<elems.length:=by grind
      obtain⟨seg,z,g1,g2,g3⟩:=hel i hi;simp only[ab_,g1,ajX,Function.comp,Option.some.injEq] at hq;subst hq;obtain⟨c,g4,g5⟩:=g3.rep j x hx;have:=(GJ g2).2 j c g4;rw[s6,s6] at this;exact⟨c,⟨by grind,g3.one c (List.mem_of_getElem? g4)⟩,g5⟩
     have hfl:∀(i:Nat) (q:AV),(elems.map (Bw∘(·.1)))[i]? =some q→q.flat.length=P.cellsOf e:=fun i q hq=>by
      have hi:i<elems.length:=by grind
      obtain⟨seg,z,g1,g2,g3⟩:=hel i hi;simp only[ab_,g1,ajX,Function.comp,Option.some.injEq] at hq;subst hq;rw[g3.len];exact(GJ g2).1
     have hb:b<C.w.heap.size:=by
      obtain⟨seg,z,g1,g2,g3⟩:=hel 0 hpos;have hs:0<(Bw z.1).flat.length:=by
       rw[hfl 0 _ (by simp[g1])];omega
      obtain⟨v,g4,_⟩:=cell 0 0 _ _ (by simp[g1]) (ab9 hs);have:=g4.1;grind [World.cell?]
     have hlen:(elems.map (Bw∘(·.1))).length=elems.length:=by simp
     have:=c4.sl (C:=C) (elems.map (Bw∘(·.1))) b off (P.cellsOf e) cap (fun i j=>(C.w.cell? ⟨b,off+i*P.cellsOf e+j,none⟩).getD undef) hb (hbad b) (by omega) hfl
      (fun i j q x hq hx=>by
       obtain⟨v,g1,g2⟩:=cell i j q x hq hx;rw[g1.1];exact g1)
      (fun i j q x hq hx=>by
       obtain⟨v,g1,g2⟩:=cell i j q x hq hx;rw[g1.1];exact g2)
     grind
  · -- struct
   rename_i fs hu;rw[aiq,agP] at hp;obtain⟨hpf,hct⟩:=hp;rw[beq_iff_eq] at hct;obtain⟨xs,hl,rfl,hm⟩:=ud hu h;obtain⟨c1,c2⟩:=OH P fs.toList 0 _ hct;have:=L9 (C:=C) (P:=P) (w:=w) (enc:=enc) (spare:=spare) (held:=held) (fun f:Field=>f.type) (fun f=>f.offset) fuel cs
    fs.toList 0 xs (fun x hx seg y hy _=>ih n x.type seg y.1 y.2 (hpf x hx) hy) c1 (by omega) hm
   assumption
  · -- array
   rename_i m e hu;simp only[aiq,beq_iff_eq] at hp;obtain⟨hpe,hct⟩:=hp;obtain⟨xs,hl,rfl,hm⟩:=Fj hu h;have hsum:∀(l:List Nat),(l.map fun _=>P.cellsOf e).sum=l.length*P.cellsOf e:=by
    intro l;induction l with
    |nil=>simp
    |cons _ l ih=>grind
   have:=L9 (C:=C) (P:=P) (w:=w) (enc:=enc) (spare:=spare) (held:=held) (fun _:Nat=>e) (fun i=>i*P.cellsOf e) fuel cs
    (aeD m) 0 xs (fun x _ seg y hy _=>ih n e seg y.1 y.2 hpe hy)
    (fun i x hx=>by
     grind) (by grind) hm
   assumption
  grind
end
end Go.Av
end

section
namespace Go.Av
open Go.RowKit (Below)
section
variable {H:Type} {enc:TypeId×Value→H} {P:Program}

variable {W:World}
theorem GA(hl:laidOutB P=true){W':World}(hb:Below W.heap.size W W'):∀{ts:List TypeId} {vs:List Value} {ds:List (DataW H)} {ps:List MemPlace},(∀t∈ts,P.readableRec t=true∧t<P.types.size)→
  DataW.TrodAll enc P W 0 (fun _=>true) true ts vs ds ps→(∀x∈ps,x.block<W.heap.size)→DataW.TrodAll enc P W' 0 (fun b=>decide (b<W.heap.size)) true ts vs ds ps
 |[],[],[],ps,_,h,_=>h
 |t::ts,v::vs,d::ds,ps,hr,h,hlt=>by
  obtain⟨p,q,h1,h2,rfl⟩:=h;obtain⟨r1,r2⟩:=hr t (ad2 ..);exact⟨p,q,RowKit.Below.trod hl r1 r2 h1 hb (fun x hx=>hlt x (List.mem_append_left _ hx)),GA hl hb (fun t ht=>hr t (adU _ ht)) h2 (fun x hx=>hlt x (List.mem_append_right _ hx)),rfl⟩

theorem ZI{fn:Func}{s:ChangeSpec}{W':World}{args:Array Value}{ds gs:List (DataW H)}{before:List MemPlace}{tb:TypeId}(hW:DataW.Whole enc P fn.params.toList s.vars false W args.toList ds gs before)
  (hv:s.vars=[])(hfn:s.fn H (ds++gs)=⟨[.lit (.bool true)],ds,[]⟩)(hres:fn.resultTypes= #[tb])(hb:P.underlying tb=some .bool)(hl:laidOutB P=true)(hr:∀t∈fn.params.toList,P.readableRec t=true∧t<P.types.size)
  (hbel:Below W.heap.size W W'):s.post enc P fn false true false false W args (.bool true) W':=by
 have hlt:=fun p hp=>hW.lt p hp
 have hW':=hW
 obtain⟨p,q,h1,h2,rfl,h3,h4⟩:=hW
 refine⟨ds,gs,p++q,[],p,[],hW', ?_, ?_, ?_,hbel.frame _,fun h=>by cases h⟩
 ·rw[hfn,hres]
  exact⟨[],[],RowKit.shut_bool hb true,rfl,rfl⟩
 ·grind [GA]
 ·rw[hfn,hv];rfl

def Ctx.start(W:World):Ctx:={w:=W,H:=.empty,pl:=fun _=>⟨0,0,0,0,false⟩,cI:=fun _=>False,iu:=[],nI:=0}

theorem FK(W:World)(b:Nat):¬(Ctx.start W).own b:=Ci rfl rfl b

theorem Xz(W:World):Inv (.of W) (Ctx.start W) where
 fresh id es h:=by simp[Ctx.start,Heap.empty,Heap.get,lk] at h
 nil id es h:=by grind [Ctx.start]
 obj id es h:=by simp[Ctx.start,Heap.empty,Heap.get,lk] at h
 sep i1 i2 e1 e2 h:=by simp[Ctx.start,Heap.empty,Heap.get,lk] at h
 cI id es h:=by grind [Ctx.start]
 jX id s h:=by simp[Ctx.start,Heap.empty,Heap.sz,lk] at h
 dU _ h:=h.elim
 eG _ h:=h.elim
 size:=afk _
 gD b _:=⟨rfl,FK W b⟩
 ec l r h:=by simp[Ctx.start,Heap.empty,lk] at h
 iu d h:=by simp[Ctx.start] at h
 BX:=.nil
 Cn:=fun _ _=>rfl
 eS b h:=absurd (.inr h) (FK W b)
 lU:=rfl
 fe:=Nat.zero_le _
 gh:=trivial

theorem Xy(W:World)(b:Nat):¬(Ctx.start W).bad b:=by
 rintro(h|h)
 ·exact FK W b h
 ·exact h

theorem MU{base:Nat}{t:TypeId}{v:Value}{n:Nat}(hp:sF P n t=true)(h:Value.okWide P W .any base t v):v.oneCell'=true∨∃cs,v=.agg cs∧((∃fs,P.underlying t=some (.struct fs))∨∃m e,P.underlying t=some (.array m e)):=by
 cases n with
 |zero=>simp[sF] at hp
 |succ n=>
  unfold sF at hp;split at hp <;> rename_i hu
  ·left;cases v <;> first|rfl|simp_all [Value.okWide,Cell.okWide,Cell.ok]
  ·left;cases v <;> first|rfl|simp_all [Value.okWide,Cell.okWide,Cell.ok]
  ·left;cases v <;> first|rfl|simp_all [Value.okWide,Cell.okWide,Cell.ok]
  ·left;cases v <;> first|rfl|simp_all [Value.okWide,Cell.okWide,Cell.ok]
  ·simp only[Value.okWide,hu] at h
   grind
  ·simp only[Value.okWide,hu] at h
   grind
  grind

theorem UO{base:Nat}{t:TypeId}{v:Value}{d:DataW H}{ps:List MemPlace}(n:Nat)(hp:sF P n t=true)(h:DataW.Trod enc P W 0 (fun _=>true) true t v d ps)(hform:Value.okWide P W .any base t v):c4 (Ctx.start W) (Bw d) v:=by
 obtain⟨fuel,hf⟩:=h
 have hr:=MY (C:=Ctx.start W) rfl (Xy W) fuel n t v.cells.toList d ps hp hf
 rcases MU hp hform with h1|⟨cs,rfl,hu⟩
 ·rw[cells_one h1] at hr hf
  obtain⟨c,g1,g2⟩:=hr.rep 0 ((Bw d).flat.getD 0 .any) (by
   have:=hr.len
   grind)
  have hd:(Bw d).flat=[Bw d]:=by
   cases fuel with
   |zero=>simp[DataW.trod] at hf
   |succ fuel=>
    cases n with
    |zero=>simp[sF] at hp
    |succ n=>
     unfold sF at hp
     split at hp
     ·rename_i hu;obtain⟨b,_,rfl⟩:=GB hu hf;rfl
     ·rename_i k hu;obtain⟨q,_,rfl,_⟩:=Dx hu hf;rfl
     ·rename_i hu;obtain⟨q,_,rfl⟩:=yD hu hf;rfl
     ·rename_i e hu
      rcases Fk hu hf with⟨_,rfl⟩|⟨_,_,_,_,_,_,rfl,_⟩ <;> rfl
     ·rename_i fs hu
      simp only[Value.okWide,hu] at hform
      obtain⟨cs,rfl,_⟩:=hform
      simp[Value.oneCell'] at h1
     ·rename_i m e hu
      simp only[Value.okWide,hu] at hform
      obtain⟨cs,rfl,_⟩:=hform
      simp[Value.oneCell'] at h1
     grind
  grind
 ·have hagg:∃l,Bw d=.agg l:=by
   cases fuel with
   |zero=>simp[DataW.trod] at hf
   |succ fuel=>
    rcases hu with⟨fs,hu⟩|⟨m,e,hu⟩
    ·obtain⟨xs,_,rfl,_⟩:=ud hu hf;exact⟨_,rfl⟩
    ·obtain⟨xs,_,rfl,_⟩:=Fj hu hf;exact⟨_,rfl⟩
  obtain⟨l,hl⟩:=hagg
  rw[hl] at hr ⊢
  have hlen:=hr.len
  refine .agg l cs hlen.symm (fun k u hk=>hr.one u (by grind [Value.cells])) (fun k x hx=> ?_)
  obtain⟨c,g1,g2⟩:=hr.rep k x hx
  grind [Value.cells,CV]


def Dec(P:Program)(t:TypeId){α:Type}(f:α→AV)(ok:α→Prop):Prop:=
 ∀{H:Type} (enc:TypeId×Value→H) (w:World) (spare:Nat→Bool) (held:Bool) (fuel:Nat) (cs:List Value) (d:DataW H) (ps:List MemPlace),DataW.trod enc P w 0 spare held fuel t cs=some (d,ps)→∃x,ok x∧Bw d=f x

theorem CO{t:TypeId}(hu:P.underlying t=some (.int .i64)):Dec P t J (fun n=> -9223372036854775808≤n∧n≤9223372036854775807):=by
 intro H enc w spare held fuel cs d ps h;cases fuel with
 |zero=>simp[DataW.trod] at h
 |succ fuel=>
  obtain⟨n,_,rfl,hwf⟩:=Dx hu h;simp[Lit.wf,IntKind.min,IntKind.max,IntKind.signed,IntKind.bits] at hwf;exact⟨n,by omega,rfl⟩

theorem UZ{t:TypeId}{fs:Array Field}(hu:P.underlying t=some (.struct fs)){H:Type}{enc:TypeId×Value→H}{w:World}{spare:Nat→Bool}{held:Bool}{fuel:Nat}{cs:List Value}{d:DataW H}{ps:List MemPlace}(h:DataW.trod enc P w 0 spare held fuel t cs=some (d,ps)):
  ∃fuel' xs,Bw d=.agg (pR (xs.map (·.1)))∧fs.toList.mapM (fun f=>DataW.trod enc P w 0 spare held fuel' f.type ((cs.drop f.offset).take (P.cellsOf f.type)))=some xs:=by
 cases fuel with
 |zero=>simp[DataW.trod] at h
 |succ fuel=>
  obtain⟨xs,_,rfl,hm⟩:=ud hu h;exact⟨fuel,xs,rfl,hm⟩

theorem WU{f:FuncId}{fn:Func}{s:ChangeSpec}{args:Array Value}{ds gs:List (DataW H)}{before:List MemPlace}{tb:TypeId}{xs:List AV}(hf:oQ P W f xs (bl true))(hsz:args.size=xs.length)
  (hrep:∀(k:Nat) (x:AV),xs[k]? =some x→c4 (Ctx.start W) x (args.getD k undef))(hW:DataW.Whole enc P fn.params.toList s.vars false W args.toList ds gs before)
  (hv:s.vars=[])(hfn:s.fn H (ds++gs)=⟨[.lit (.bool true)],ds,[]⟩)(hres:fn.resultTypes= #[tb])(hb:P.underlying tb=some .bool)(hl:laidOutB P=true)(hr:∀t∈fn.params.toList,P.readableRec t=true∧t<P.types.size):
  Calls P f args W fun e W'=>∃v,e=.returned v∧s.post enc P fn false true false false W args v W':=by
 refine(hf.runs (Ctx.start W) args (Xz W) rfl rfl hsz hrep).mono ?_
 rintro e W' ⟨v,C',rfl,rfl,hE,_,hv'⟩
 obtain rfl:=bR (v:=.bool true) rfl hv'
 exact⟨_,rfl,ZI hW hv hfn hres hb hl hr (yZ hE (FK W))⟩

end
end Go.Av
end

section
namespace Go.Av
open Go.ChangeShapes Go.WideShapes Go.ChangeAt Go.RowKit
variable {P:Program} {H:Type} {enc:TypeId×Value→H}

theorem ab7{W:World}{base:Nat}{t:TypeId}{v:Value}{d:DataW H}{ps:List MemPlace}{α:Type}{f:α→AV}{ok:α→Prop}(n:Nat)(hp:sF P n t=true)(hd:Dec P t f ok)(h:DataW.Trod enc P W 0 (fun _=>true) true t v d ps)(hform:Value.okWide P W .any base t v):∃x,ok x∧c4 (Ctx.start W) (f x) v:=by
 have h1:=UO n hp h hform
 obtain⟨fuel,hf⟩:=h
 obtain⟨x,h2,h3⟩:=hd enc W _ _ fuel _ d ps hf
 grind

theorem Xc{fn:Func}(h:(fn.params.toList.all fun t=>P.readableRec t&&decide (t<P.types.size))=true):∀t∈fn.params.toList,P.readableRec t=true∧t<P.types.size:=fun t ht=>by
 grind

theorem aiV{W:World}{name:String}{l:List Nat}{g:Nat}(h:Lib.TabIs P W name .u8 (l.map fun(k:Nat)=>(k:Int)))(hg:P.globalNamed name=some g):∀(j:Nat) (v:Value),(l.map fun(k:Nat)=>Value.int .u8 (k:Int))[j]? =some v→W.cell? ⟨g,j,none⟩=some v∧v.oneCell'=true:=fun j v hj=>by
 simp only[ab_,ae5] at hj;obtain⟨k,hk,rfl⟩:=hj;have:=h.cell hg j (by grind);refine⟨?_,rfl⟩;grind

theorem aoX{C:Ctx}{x0 x1:AV}{v0 v1:Value}(h0:c4 C x0 v0)(h1:c4 C x1 v1):∀(k:Nat) (x:AV),[x0,x1][k]? =some x→c4 C x (#[v0,v1].getD k undef):=fun k x h=>by
 match k with
 |0=>simp_all
 |1=>simp_all
 |k+2=>cases h
end Go.Av
end

section
namespace Go.Av
open Go.ChangeShapes Go.WideShapes Go.ChangeAt Go.RowKit
variable {P:Program}
theorem U0{t:TypeId}(hu:P.underlying t=some .string):Dec P t (fun s:List UInt8=>dP s) (fun _=>True):=by
 intro H enc w spare held fuel cs d ps h;cases fuel with
 |zero=>simp[DataW.trod] at h
 |succ fuel=>
  obtain⟨s,_,rfl⟩:=yD hu h;exact⟨s.data.toList,trivial,rfl⟩
end Go.Av
end

namespace Go.Av
variable {α:Type}
theorem oh{P:Program}{W0:bS}{N:Nat}{st:St}{Q:Exit→St→Prop}{c:Operand}{x y:Code}{t:Bool}{A B o:α}(hc:aD (lk st.fr) c=some (.imm (.bool t)))(h:(if t=true then A else B)=o)(ht:A=o→iD P W0 N x st Q)(hf:B=o→iD P W0 N y st Q):iD P W0 N (.cond c x y) st Q:=
 mP hc (fun e=>ht (Sh.Tm h e)) (fun e=>hf (Sh.Tl h e))
variable {a:α}
theorem D{b:α}(h:some a=some b):a=b:=Option.some.inj h
theorem bp{β:Type}{f:α→Option β}:(some a).bind f=f a:=rfl
theorem dw:(false=true)=False:=Bool.false_eq_true
theorem Z.{u}{α:Sort u}{a:α}:a=a:=rfl
theorem Y{P:Program}{W0:bS}{N:Nat}{c:Code}{st st':St}{Q:Exit→St→Prop}(hw:b8 W0 N st st')(h:iD P W0 N c st' Q):iD P W0 N c st Q:=iD.IT hw h
theorem aY.{u}{α:Sort u}{x:Decidable True}(a b:α):ite True a b=a:=if_true a b
theorem aR.{u}{α:Sort u}{x:Decidable False}(a b:α):ite False a b=b:=if_false a b
theorem bt(h:Decidable True): @decide True h=true:=decide_true h
theorem b7(h:Decidable False): @decide False h=false:=decide_false h
variable {p:Prop}
theorem dI [Decidable p]:(decide p=true)=p:=decide_eq_true_eq
theorem eD [inst:Decidable p]:p→decide p=true:=decide_eq_true
theorem dg [inst:Decidable p]:¬p→decide p=false:=decide_eq_false
end Go.Av
