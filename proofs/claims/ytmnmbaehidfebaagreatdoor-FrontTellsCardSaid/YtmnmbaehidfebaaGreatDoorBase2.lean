/- What a proof sees of a run, and the rules by which it goes through a text. -/
import Derived.Test.YtmnmbaehidfebaaGreatDoorBase1
import Derived.RecoverIn
import Derived.Test.YtmnmbaehidfebaaGreatDoorBase
import Derived.Carry
import Derived.ProofKit
import Derived.OpenShut
import Derived.Lib.LaidTab
set_option linter.unusedSimpArgs false
set_option linter.unusedVariables false
section
/- A family of objects, as many as a list is long: the rows of a slice of slices that is the proof's own. -/
namespace Go.Av
section
variable {α:Type}
def QK(enc:α→AV)(sz:Nat):Nat→List (List α)→List (Nat×(Nat×List AV))
 |_,[]=>[]
 |M,l::L=>(M,(sz,l.map enc))::QK enc sz (M+1) L
def Bt(enc:α→AV):Nat→List (List α)→List AV
 |_,[]=>[]
 |M,l::L=>.view M 0 (l.map enc).length::Bt enc (M+1) L
@[simp] theorem KD(enc:α→AV):∀(L:List (List α)) (M:Nat),(Bt enc M L).length=L.length
 |[],_=>rfl
 |_::L,M=>by simp[Bt,KD enc L]
theorem FD(enc:α→AV):∀(L:List (List α)) (M i:Nat),(Bt enc M L)[i]? =L[i]?.map fun l=>.view (M+i) 0 (l.map enc).length
 |[],_,i=>by simp[Bt]
 |l::L,M,0=>by simp[Bt]
 |l::L,M,i+1=>by simp only[Bt,List.getElem?_cons_succ,FD enc L];rw[Nat.add_assoc,Nat.add_comm 1 i]
theorem Na(enc:α→AV)(sz:Nat):∀(L:List (List α)) (M k:Nat),lk (QK enc sz M L) k=if M≤k then L[k - M]?.map fun l=>(sz,l.map enc) else none
 |[],M,k=>by simp[QK,lk]
 |l::L,M,k=>by
  simp only[QK,lk]
  by_cases h:M=k
  ·subst h;simp
  ·rw[if_neg h,Na enc sz L]
   by_cases h1:M≤k
   ·have h2:M+1≤k:=by omega
    rw[if_pos h1,if_pos h2]
    have:k - M=(k - (M+1))+1:=by omega
    rw[this,List.getElem?_cons_succ]
   ·rw[if_neg h1,if_neg (by omega)]
abbrev QL(F:List (Nat×(Nat×List AV)))(enc:α→AV)(sz M:Nat)(L:List (List α)):aX:=⟨M+L.length,F++QK enc sz M L,[]⟩
theorem Nb{F:List (Nat×(Nat×List AV))}{M:Nat}(hF:F.all (fun p=>decide (p.1<M))=true){k:Nat}{x:Nat×List AV}(h:lk F k=some x):k<M:=by simpa using List.all_eq_true.1 hF _ (o9 h)
theorem U1{F:List (Nat×(Nat×List AV))}{enc:α→AV}{sz M:Nat}{L:List (List α)}(hF:F.all (fun p=>decide (p.1<M))=true){i:Nat}{l:List α}(h:L[i]? =some l):lk (F++QK enc sz M L) (M+i)=some (sz,l.map enc):=by
 rw[tQ]
 have h0:lk F (M+i)=none:=by
  cases hc:lk F (M+i) with
  |none=>rfl
  |some v=>have:=Nb hF hc;omega
 rw[h0,Na,if_pos (Nat.le_add_right _ _),Nat.add_sub_cancel_left,h];rfl
theorem U2{F:List (Nat×(Nat×List AV))}{enc:α→AV}{sz M:Nat}{L:List (List α)}{k:Nat}(hk:k<M):lk (F++QK enc sz M L) k=lk F k:=by
 rw[tQ,Na,if_neg (by omega)]
 cases lk F k <;> rfl

def Bs(gr:Nat→Option Nat)(M:Nat):Nat→Nat→List (Nat×Nat)
 |_,0=>[]
 |i,n+1=>match gr i with
  |some o=>(M+i,o)::Bs gr M (i+1) n
  |none=>Bs gr M (i+1) n
def Hx(gr:Nat→Option Nat)(M:Nat):Nat→Nat→List Nat
 |_,0=>[]
 |i,n+1=>match gr i with
  |some _=>Hx gr M (i+1) n
  |none=>(M+i)::Hx gr M (i+1) n
theorem td{gr:Nat→Option Nat}{M:Nat}:∀{n i:Nat} {p:Nat×Nat},p∈Bs gr M i n↔∃j o,i≤j∧j<i+n∧gr j=some o∧p=(M+j,o)
 |0,i,p=>by simp[Bs];intro j h1 h2;omega
 |n+1,i,p=>by
  unfold Bs
  cases hg:gr i with
  |none=>
   simp only[td (n:=n)]
   constructor
   ·rintro⟨j,o,h1,h2,h3⟩;exact⟨j,o,by omega,by omega,h3⟩
   ·rintro⟨j,o,h1,h2,h3,h4⟩
    by_cases h:j=i
    ·subst h;rw[hg] at h3;cases h3
    ·exact⟨j,o,by omega,by omega,h3,h4⟩
  |some o=>
   simp only[List.mem_cons,td (n:=n)]
   constructor
   ·rintro(h|⟨j,o,h1,h2,h3⟩)
    ·exact⟨i,o,Nat.le_refl _,by omega,hg,h⟩
    ·exact⟨j,o,by omega,by omega,h3⟩
   ·rintro⟨j,o',h1,h2,h3,h4⟩
    by_cases h:j=i
    ·subst h;rw[hg] at h3;cases h3;exact .inl h4
    ·exact .inr ⟨j,o',by omega,by omega,h3,h4⟩
theorem Az{gr:Nat→Option Nat}{M:Nat}:∀{n i k:Nat},k∈Hx gr M i n↔∃j,i≤j∧j<i+n∧gr j=none∧k=M+j
 |0,i,p=>by simp[Hx];intro j h1 h2;omega
 |n+1,i,p=>by
  unfold Hx
  cases hg:gr i with
  |some o=>
   simp only[Az (n:=n)]
   constructor
   ·rintro⟨j,h1,h2,h3⟩;exact⟨j,by omega,by omega,h3⟩
   ·rintro⟨j,h1,h2,h3,h4⟩
    by_cases h:j=i
    ·subst h;rw[hg] at h3;cases h3
    ·exact⟨j,by omega,by omega,h3,h4⟩
  |none=>
   simp only[List.mem_cons,Az (n:=n)]
   constructor
   ·rintro(h|⟨j,h1,h2,h3⟩)
    ·exact⟨i,Nat.le_refl _,by omega,hg,h⟩
    ·exact⟨j,by omega,by omega,h3⟩
   ·rintro⟨j,h1,h2,h3,h4⟩
    by_cases h:j=i
    ·subst h;exact .inl h4
    ·exact .inr ⟨j,by omega,by omega,h3,h4⟩
theorem EX{gr:Nat→Option Nat}{M:Nat}:∀{n i j:Nat},i≤j→j<i+n→lk (Bs gr M i n) (M+j)=gr j
 |0,i,j,h1,h2=>by omega
 |n+1,i,j,h1,h2=>by
  unfold Bs
  by_cases h:j=i
  ·subst h
   cases hg:gr j with
   |some o=>simp[lk]
   |none=>
    cases hc:lk (Bs gr M (j+1) n) (M+j) with
    |none=>rfl
    |some v=>
     obtain⟨k,o,k1,_,_,k2⟩:=td.1 (o9 hc)
     simp only[Prod.mk.injEq] at k2
     omega
  ·cases hg:gr i with
   |some o=>simp only[lk];rw[if_neg (by omega),EX (n:=n) (by omega) (by omega)]
   |none=>simp only;rw[EX (n:=n) (by omega) (by omega)]
theorem rZ.append{H:aX}{g:List (Nat×Nat)}{nw:List Nat}{next:Nat}:∀{l m:List (Nat×(Nat×List AV))},rZ H g nw next l→rZ H g nw next m→rZ H g nw next (l++m)
 |[],_,_,h=>h
 |_::_,_,h1,h2=>⟨h1.1,h1.2.1,rZ.append h1.2.2 h2⟩
theorem rZ.rows{H:aX}{g:List (Nat×Nat)}{nw:List Nat}{next sz:Nat}{enc:α→AV}(hno:∀x,dn (enc x)):∀(L:List (List α)) (M:Nat),(∀i l,L[i]? =some l→(∃o,lk g (M+i)=some o∧lk H.ef o=some (sz,l.map enc))∨(M+i∈nw∧l=[]))→M+L.length≤next→rZ H g nw next (QK enc sz M L)
 |[],M,_,_=>trivial
 |l::L,M,h,hn=>by
  simp only[List.length_cons] at hn
  refine⟨?_,by omega,rZ.rows hno L (M+1) (fun i l' hi=> ?_) (by omega)⟩
  ·rcases h 0 l rfl with⟨o,h1,h2⟩|⟨h1,h2⟩
   ·rw[Nat.add_zero] at h1
    refine .inl ⟨_,_,h1,h2,.same fun e he=> ?_⟩
    obtain⟨x,_,rfl⟩:=List.mem_map.1 he;exact hno x
   ·exact .inr ⟨h1,by rw[h2];rfl⟩
  ·have:=h (i+1) l' (by simpa using hi)
   rwa [show M+(i+1)=M+1+i by omega] at this
theorem Pz{H:aX}{g0:List (Nat×Nat)}{gr:Nat→Option Nat}{M:Nat}{enc:α→AV}{L:List (List α)}{es:List AV}(hg0:g0.all (fun p=>decide (p.1<M))=true)(hl:es.length=L.length)
  (h:∀i l,L[i]? =some l→(∃o,gr i=some o∧es[i]? =some (.view o 0 (l.map enc).length))∨(gr i=none∧es[i]? =some bw∧l=[])):Hf H (g0++Bs gr M 0 L.length) (Hx gr M 0 L.length) es (Bt enc M L):=
 ⟨by simp[hl],fun k e e' h1 h2=>by
  rw[FD] at h2
  simp only[Option.map_eq_some_iff] at h2
  obtain⟨l,h2,rfl⟩:=h2
  have hk:k<L.length:=(List.getElem?_eq_some_iff.1 h2).1
  have hlk:lk (g0++Bs gr M 0 L.length) (M+k)=gr k:=by
   rw[tQ]
   have:lk g0 (M+k)=none:=by
    cases hc:lk g0 (M+k) with
    |none=>rfl
    |some v=>
     have:=List.all_eq_true.1 hg0 _ (o9 hc)
     simp only[decide_eq_true_eq] at this
     omega
   rw[this];exact EX (Nat.zero_le _) (by omega)
  rcases h k l h2 with⟨o,h3,h4⟩|⟨h3,h4,h5⟩
  ·rw[h1] at h4;cases h4
   exact⟨.view (hlk.trans h3),rfl⟩
  ·rw[h1] at h4;cases h4
   subst h5
   exact⟨.nil (Az.2 ⟨k,Nat.zero_le _,by omega,h3,rfl⟩),rfl⟩⟩
theorem an.rows{W0:dU}{N:Nat}{st:St}{fr':List (Nat×AV)}{F':List (Nat×(Nat×List AV))}(g0:List (Nat×Nat)){M sz:Nat}{enc:α→AV}(L:List (List α))(gr:Nat→Option Nat)(hno:∀x,dn (enc x))
  (hrow:∀i l,L[i]? =some l→(∃o,gr i=some o∧lk st.H.ef o=some (sz,l.map enc))∨(gr i=none∧l=[]))
  (hinj:∀i j o,i<L.length→j<L.length→gr i=some o→gr j=some o→i=j)
  (hdis:∀i o,i<L.length→gr i=some o→∀p∈g0,p.2≠o)
  (hfront:rZ st.H (g0++Bs gr M 0 L.length) (Hx gr M 0 L.length) (M+L.length) F')
  (hfr:Seen st.H (g0++Bs gr M 0 L.length) (Hx gr M 0 L.length) st.fr fr')
  (hg0:g0.all (fun p=>decide (p.1<M))=true:=by rfl)(Sl:g0.all (fun p=>g0.all (fun q=>p.2 !=q.2||p.1==q.1))=true:=by rfl)(hp:W0.p=0:=by rfl)(hlp:st.H.e8=[]:=by rfl):
  an W0 N st ⟨fr',⟨M+L.length,F'++QK enc sz M L,[]⟩⟩:=by
 have aev:∀p∈g0,p.1<M:=fun p hp=>by simpa using List.all_eq_true.1 hg0 p hp
 have ajX:∀i,lk g0 (M+i)=none:=fun i=>by
  cases hc:lk g0 (M+i) with
  |none=>rfl
  |some v=>have:=aev _ (o9 hc);simp only at this;omega
 have hlk:∀i,i<L.length→lk (g0++Bs gr M 0 L.length) (M+i)=gr i:=fun i hi=>by
  rw[tQ,ajX];exact EX (Nat.zero_le _) (by omega)
 refine an.re (H':=⟨M+L.length,F'++QK enc sz M L,[]⟩) (g0++Bs gr M 0 L.length) (Hx gr M 0 L.length) ?_ ?_ ?_ (rZ.append hfront (rZ.rows hno L M (fun i l hi=> ?_) (Nat.le_refl _))) hfr ?_ hlp.symm
 ·rw[List.all_eq_true]
  intro p hp'
  rw[List.all_eq_true]
  intro q hq
  simp only[Bool.or_eq_true,bne_iff_ne,ne_eq,beq_iff_eq]
  rcases List.mem_append.1 hp' with h1|h1 <;> rcases List.mem_append.1 hq with h2|h2
  ·simpa using List.all_eq_true.1 (List.all_eq_true.1 Sl p h1) q h2
  ·obtain⟨j,o,_,hj,ho,rfl⟩:=td.1 h2
   exact .inl (hdis j o (by omega) ho p h1)
  ·obtain⟨j,o,_,hj,ho,rfl⟩:=td.1 h1
   exact .inl (fun h=>hdis j o (by omega) ho q h2 h.symm)
  ·obtain⟨i,o,_,hi,ho,rfl⟩:=td.1 h1
   obtain⟨j,o',_,hj,ho',rfl⟩:=td.1 h2
   by_cases h:o=o'
   ·subst h;exact .inr (by rw[hinj i j o (by omega) (by omega) ho ho'])
   ·exact .inl h
 ·rw[List.all_eq_true]
  intro p hp'
  simp only[decide_eq_true_eq]
  rcases List.mem_append.1 hp' with h1|h1
  ·have:=aev p h1;omega
  ·obtain⟨j,o,_,hj,_,rfl⟩:=td.1 h1
   show M+j<M+L.length
   omega
 ·rw[List.all_eq_true]
  intro k hk
  obtain⟨j,_,hj,hn,rfl⟩:=Az.1 hk
  rw[hlk j (by omega),hn]
  simp;omega
 ·have hi':i<L.length:=(List.getElem?_eq_some_iff.1 hi).1
  rcases hrow i l hi with⟨o,h1,h2⟩|⟨h1,h2⟩
  ·exact .inl ⟨o,(hlk i hi').trans h1,h2⟩
  ·exact .inr ⟨Az.2 ⟨i,Nat.zero_le _,by omega,h1,rfl⟩,h2⟩
 ·rw[hp];simp[AJ]

theorem an.newRow{W0:dU}{N:Nat}{fr fr':List (Nat×AV)}{F F':List (Nat×(Nat×List AV))}(g0:List (Nat×Nat)){M sz oid:Nat}{enc:α→AV}{L:List (List α)}(L2:List (List α))(h2:L2=L++[[]])(hno:∀x,dn (enc x))(ho:lk F oid=some (1,Bt enc M L))
  (hfront:∀(H:aX) (g:List (Nat×Nat)) (nw:List Nat),(∀n,n<M→lk g n=lk g0 n)→(∀n x,n≠oid→lk F n=some x→lk H.ef n=some x)→
   ∀es,lk H.ef (M+L.length)=some (1,es)→Hf H g nw es (Bt enc M L2)→rZ H g nw (M+L2.length) F'∧Seen H g nw fr fr')
  (hF:F.all (fun p=>decide (p.1<M))=true:=by rfl)(hg0:g0.all (fun p=>decide (p.1<M))=true:=by rfl)(hg2:∀p∈g0,p.2<M∨p.2=M+L.length:=by simp)(Sl:g0.all (fun p=>g0.all (fun q=>p.2 !=q.2||p.1==q.1))=true:=by simp)(hp:W0.p=0:=by rfl):
  an W0 N ⟨fr,(((QL F enc sz M L).del oid).push 1 (Bt enc M L++[bw]))⟩ ⟨fr',QL F' enc sz M L2⟩:=by
 subst h2
 have hoM:=Nb hF ho
 have hlk:∀n,lk ((((QL F enc sz M L).del oid).push 1 (Bt enc M L++[bw]))).ef n=if n=M+L.length then some (1,Bt enc M L++[bw]) else if n=oid then none else lk (F++QK enc sz M L) n:=fun n=>by
  simp only[aX.push,aX.del,Ip,M_]
 let gr:Nat→Option Nat:=fun i=>if i<L.length then some (M+i) else none
 have hsee:=Pz (H:=(((QL F enc sz M L).del oid).push 1 (Bt enc M L++[bw]))) (g0:=g0) (gr:=gr) (M:=M) (enc:=enc) (L:=L++[[]]) (es:=Bt enc M L++[bw]) hg0 (by simp) (fun i l2 hi=>by
  rw[List.getElem?_append] at hi ⊢
  rw[KD]
  by_cases hik:i<L.length
  ·rw[if_pos hik] at hi ⊢
   rw[FD,hi]
   exact .inl ⟨M+i,if_pos hik,rfl⟩
  ·rw[if_neg hik] at hi ⊢
   have h0:i - L.length=0:=by
    have:=(List.getElem?_eq_some_iff.1 hi).1
    simp at this;omega
   rw[h0] at hi ⊢
   simp at hi
   exact .inr ⟨if_neg hik,rfl,hi⟩)
 obtain⟨hf1,hf2⟩:=hfront (((QL F enc sz M L).del oid).push 1 (Bt enc M L++[bw])) (g0++Bs gr M 0 (L++[[]]).length) (Hx gr M 0 (L++[[]]).length) (fun n hn=>by
   rw[tQ]
   cases hc:lk g0 n with
   |some v=>rfl
   |none=>
    cases hc2:lk (Bs gr M 0 (L++[[]]).length) n with
    |none=>rfl
    |some v=>
     obtain⟨j,o,_,_,_,h5⟩:=td.1 (o9 hc2)
     simp only[Prod.mk.injEq] at h5
     omega) (fun n x hn hx=>by
   have:=Nb hF hx
   rw[hlk,if_neg (by omega),if_neg hn,U2 this,hx]) _ (by rw[hlk,if_pos rfl]) hsee
 refine an.rows g0 (L++[[]]) gr hno (fun i l2 hi=> ?_) (fun i j o hi hj h1 h2=> ?_) (fun i o hi h1 p hp'=> ?_) hf1 hf2 hg0 Sl hp rfl
 ·rw[List.getElem?_append] at hi
  by_cases hik:i<L.length
  ·rw[if_pos hik] at hi
   refine .inl ⟨M+i,if_pos hik, ?_⟩
   rw[hlk,if_neg (by omega),if_neg (by omega)]
   exact U1 hF hi
  ·rw[if_neg hik] at hi
   have:=List.mem_of_getElem? hi
   simp at this
   exact .inr ⟨if_neg hik,this⟩
 ·simp only[gr] at h1 h2
  split at h1 <;> split at h2
  ·rw[Option.some.injEq] at h1 h2;omega
  ·cases h2
  ·cases h1
  ·cases h1
 ·simp only[gr] at h1
  split at h1
  ·cases h1
   rcases hg2 p hp' with k|k <;> omega
  ·cases h1
end

section
variable {P:Program} {W0:dU} {fr:Fr} {H:aX} {o:Oper} {α:Type} {i:Int} {x:List α} {ki:IntKind}
end
end Go.Av
end

section
/- Calls that panic, and what takes the panic back. -/
namespace Go.Av
open Go.RowKit (Below)

section
variable {P:Program} {W0:dU} {C:Ctx} {fr:Fr} {a:Act} {H:aX} {o:Oper} {N:Nat} {ops:Array Oper} {Q:Exit→St→Prop}


@[reducible] def dU.off(W:World)(p:Nat)(ds:List Deferred):dU:=⟨W,p,none,fun _=>True,fun _ _ _ _ _=>trivial,ds⟩

theorem Inv.off{W:World}{B:dU}(hI:Inv B C)(hB:B.w=W)(p:Nat)(ds:List Deferred)(hle:p≤C.H.next):Inv (.off W p ds) {C with tn:=p} where
 fresh:=hI.fresh
 nil:=hI.nil
 obj id es h hn:=by
  have hO:=hI.obj id es h hn
  exact⟨hO.n,hO.cap,hO.gN,hO.one,hO.flat,fun i j e x v h1 h2 h3=>(hO.cell i j e x v h1 h2 h3).sub rfl (Nat.le_refl _) (fun id es _ h=>⟨es,h⟩) (fun _ _=>rfl) (fun b h=>h)⟩
 sep:=hI.sep
 dm:=hI.dm
 oM:=hI.oM
 eE:=hI.eE
 eZ b h:=by subst hB;exact hI.eZ b h
 size:=by subst hB;exact hI.size
 iK b h:=by subst hB;exact hI.iK b h
 e8:=hI.e8
 mI:=hI.mI
 y7:=hI.y7
 zM _ h:=by cases h
 fD:=hI.fD
 pP:=rfl
 fZ:=hle
 gh:=trivial

theorem Inv.dx{W:World}{p:Nat}{ds ds':List Deferred}(h:Inv (.off W p ds) C):Inv (.off W p ds') C:=
 ⟨h.fresh,h.nil,h.obj,h.sep,h.dm,h.oM,h.eE,h.eZ,h.size,h.iK,h.e8,h.mI,h.y7,h.zM,h.fD,h.pP,h.fZ,h.gh⟩
theorem Inv.on{W:World}{p:Nat}{ds:List Deferred}(h:Inv (.off W p ds) C):Inv (.of W) {C with tn:=0}:=
 have k:=h.off (W:=W) rfl 0 [] (Nat.zero_le _)
 ⟨k.fresh,k.nil,k.obj,k.sep,k.dm,k.oM,k.eE,k.eZ,k.size,k.iK,k.e8,k.mI,k.y7,k.zM,k.fD,k.pP,k.fZ,k.gh⟩

end
end Go.Av
end

section
/- From the reading of a claim's arguments to what the proof sees of them; and from what a law's function does to what its row asks. -/
namespace Go.Av
open Go.RowKit (Below)

mutual
def tC{H:Type}:DataW H→AV
 |.lit (.bool b)=>.imm (.bool b)
 |.lit (.int k n)=>.imm (.int k n)
 |.lit (.string bs)=>.imm (.string ⟨bs.toArray⟩)
 |.nil=>.sl []
 |.slice es _=>.sl (NO es)
 |.agg ps=>.agg (ox ps)
 |_=>.any
def NO{H:Type}:List (DataW H)→List AV
 |[]=>[]
 |d::r=>tC d::NO r
def ox{H:Type}:List (DataW H)→List AV
 |[]=>[]
 |d::r=>(tC d).flat++ox r
end

theorem HZ{H:Type}(l:List (DataW H)):NO l=l.map tC:=by
 induction l with
 |nil=>rfl
 |cons d r ih=>simp[NO,ih]

def q9(P:Program):Nat→TypeId→Bool
 |0,_=>false
 |n+1,t=>
  match P.underlying t with
  |some .bool|some (.int _)|some .string=>true
  |some (.slice e)=>P.cellsOf e !=0&&q9 P n e
  |some (.struct fs)=>fs.toList.all (fun f=>q9 P n f.type)&&(fs.toList.foldl (fun(acc:Option Nat) f=>acc.bind fun a=>if f.offset==a then some (a+P.cellsOf f.type) else none) (some 0))==some (P.cellsOf t)
  |some (.array m e)=>q9 P n e&&m*P.cellsOf e==P.cellsOf t
  |_=>false

theorem flat_agg(cs:List AV):(AV.agg cs).flat=cs:=rfl

structure Cz (C:Ctx) (cs:List Value) (x:AV):Prop where
 len:x.flat.length=cs.length
 one:∀c∈cs,c.oneCell'=true
 rep:∀(k:Nat) (y:AV),x.flat[k]? =some y→∃c,cs[k]? =some c∧dO C y c

theorem mapM_some{α β:Type}(f:α→Option β):∀(l:List α) (ys:List β),l.mapM f=some ys→ys.length=l.length∧∀(k:Nat) (x:α),l[k]? =some x→∃y,ys[k]? =some y∧f x=some y:=by
 intro l
 induction l with
 |nil=>intro ys h;simp only[List.mapM_nil,Option.pure_def,Option.some.injEq] at h;subst h;exact⟨rfl,fun k x hk=>by simp at hk⟩
 |cons y l ih=>
  intro ys h
  rw[List.mapM_cons] at h
  simp only[Option.bind_eq_bind,Option.bind_eq_some_iff,Option.pure_def,Option.some.injEq] at h
  obtain⟨z,hz,zs,hzs,rfl⟩:=h
  obtain⟨h1,h2⟩:=ih zs hzs
  refine⟨by simp[h1],fun k x hk=> ?_⟩
  cases k with
  |zero=>simp at hk;subst hk;exact⟨z,rfl,hz⟩
  |succ k=>simp at hk;simpa using h2 k x hk

theorem uz{C:Ctx}{c:Value}{x:AV}(h1:c.oneCell'=true)(hr:dO C x c):Cz C [c] x:=by
 have hf:=yP hr h1
 refine⟨by rw[hf];rfl,fun c' hc=>by simp at hc;subst hc;exact h1,fun k y hk=> ?_⟩
 rw[hf] at hk
 cases k with
 |zero=>simp at hk;subst hk;exact⟨c,rfl,hr⟩
 |succ k=>simp at hk

section
variable {H:Type} {enc:TypeId×Value→H} {P:Program} {w:World} {spare:Nat→Bool} {held:Bool} {C:Ctx}

theorem GL{ι:Type}(ty:ι→TypeId)(off:ι→Nat)(fuel:Nat)(cs:List Value):
  ∀(l:List ι) (acc:Nat) (xs:List (DataW H×List MemPlace)),(∀x∈l,∀(seg:List Value) (y:DataW H×List MemPlace),DataW.trod enc P w 0 spare held fuel (ty x) seg=some y→seg.length=P.cellsOf (ty x)→Cz C seg (tC y.1))→(∀(i:Nat) (x:ι),l[i]? =some x→off x=acc+((l.take i).map fun y=>P.cellsOf (ty y)).sum)→acc+(l.map fun y=>P.cellsOf (ty y)).sum=cs.length→
   l.mapM (fun x=>DataW.trod enc P w 0 spare held fuel (ty x) ((cs.drop (off x)).take (P.cellsOf (ty x))))=some xs→Cz C (cs.drop acc) (.agg (ox (xs.map (·.1)))):=by
 intro l
 induction l with
 |nil=>
  intro acc xs _ _ hlen h
  simp only[List.mapM_nil,Option.pure_def,Option.some.injEq] at h;subst h
  have:cs.drop acc=[]:=List.drop_eq_nil_of_le (by simp at hlen;omega)
  rw[this]
  exact⟨rfl,fun c hc=>(by cases hc),fun k y hk=>(by simp[ox,AV.flat] at hk)⟩
 |cons x l ihl=>
  intro acc xs ih hoff hlen h
  rw[List.mapM_cons] at h
  simp only[Option.bind_eq_bind,Option.bind_eq_some_iff,Option.pure_def,Option.some.injEq] at h
  obtain⟨z,hz,zs,hzs,rfl⟩:=h
  have h0:off x=acc:=by have:=hoff 0 x rfl;simpa using this
  simp only[List.map_cons,List.sum_cons] at hlen
  rw[h0] at hz
  have hseg:((cs.drop acc).take (P.cellsOf (ty x))).length=P.cellsOf (ty x):=by simp;omega
  have r1:=ih x (List.mem_cons_self ..) _ z hz hseg
  have r2:=ihl (acc+P.cellsOf (ty x)) zs (fun y hy=>ih y (List.mem_cons_of_mem _ hy)) (fun i y hy=>by
   have:=hoff (i+1) y (by simpa using hy)
   rw[this];simp only[List.take_succ_cons,List.map_cons,List.sum_cons];omega) (by omega) hzs
  have hsplit:cs.drop acc=(cs.drop acc).take (P.cellsOf (ty x))++cs.drop (acc+P.cellsOf (ty x)):=by
   rw[←List.drop_drop];exact(List.take_append_drop _ _).symm
  rw[hsplit]
  have l1:=r1.len
  have l2:=r2.len
  simp only[flat_agg] at l2
  refine⟨by simp only[flat_agg,List.map_cons,ox,List.length_append,l1,l2],fun c hc=> ?_,fun k y hk=> ?_⟩
  ·rcases List.mem_append.1 hc with h|h
   ·exact r1.one c h
   ·exact r2.one c h
  ·simp only[flat_agg,List.map_cons,ox] at hk
   by_cases hlt:k<(tC z.1).flat.length
   ·rw[List.getElem?_append_left hlt] at hk
    obtain⟨c,g1,g2⟩:=r1.rep k y hk
    exact⟨c,by rw[List.getElem?_append_left (by omega)];exact g1,g2⟩
   ·rw[List.getElem?_append_right (by omega)] at hk
    obtain⟨c,g1,g2⟩:=r2.rep _ y hk
    exact⟨c,by rw[List.getElem?_append_right (by omega),←l1];exact g1,g2⟩

theorem Jh(P:Program):∀(fs:List Field) (a tot:Nat),fs.foldl (fun(acc:Option Nat) f=>acc.bind fun a=>if f.offset==a then some (a+P.cellsOf f.type) else none) (some a)=some tot→
  (∀(i:Nat) (x:Field),fs[i]? =some x→x.offset=a+((fs.take i).map fun y=>P.cellsOf y.type).sum)∧a+(fs.map fun y=>P.cellsOf y.type).sum=tot:=by
 intro fs
 induction fs with
 |nil=>intro a tot h;simp only[List.foldl_nil,Option.some.injEq] at h;subst h;exact⟨fun i x h=>by simp at h,by simp⟩
 |cons f fs ih=>
  intro a tot h
  simp only[List.foldl_cons,Option.bind_some] at h
  by_cases hf:f.offset==a
  ·rw[if_pos hf] at h
   obtain⟨h1,h2⟩:=ih _ _ h
   have hf':f.offset=a:=by simpa using hf
   refine⟨fun i x hx=> ?_,by simp only[List.map_cons,List.sum_cons];omega⟩
   cases i with
   |zero=>simp at hx;subst hx;simpa using hf'
   |succ i=>
    simp only[List.getElem?_cons_succ] at hx
    rw[h1 i x hx]
    simp only[List.take_succ_cons,List.map_cons,List.sum_cons];omega
  ·rw[if_neg hf] at h
   have:∀(l:List Field),l.foldl (fun(acc:Option Nat) f=>acc.bind fun a=>if f.offset==a then some (a+P.cellsOf f.type) else none) none=none:=by
    intro l;induction l with
    |nil=>rfl
    |cons _ _ ih=>simpa using ih
   rw[this] at h;cases h

theorem vW{fuel:Nat}{t e:TypeId}{cs:List Value}{d:DataW H}{ps:List MemPlace}(hu:P.underlying t=some (.slice e))(h:DataW.trod enc P w 0 spare held (fuel+1) t cs=some (d,ps)):
  (cs=[.slice none 0 0]∧d=.nil)∨∃a len cap elems rest,cs=[.slice (some a) len cap]∧d=.slice (elems.map (·.1)) rest∧len≤cap∧cap≤maxLen∧
   (List.range len).mapM (fun i=>(w.cells? 0 (a.add (i*P.cellsOf e)) (P.cellsOf e)).bind (DataW.trod enc P w 0 spare held fuel e))=some elems:=by
 rcases cs with _|⟨c,_|⟨c',cs⟩⟩
 ·simp[DataW.trod,hu] at h
 ·cases c <;> try (simp[DataW.trod,hu] at h;done)
  rename_i a len cap
  cases a with
  |none=>
   cases len <;> cases cap <;> simp[DataW.trod,hu] at h
   exact .inl ⟨rfl,h.1.symm⟩
  |some a=>
   simp only[DataW.trod,hu] at h
   split at h
   ·rename_i hc
    simp only[Option.bind_eq_some_iff,Option.map_eq_some_iff,Prod.mk.injEq] at h
    obtain⟨elems,h1,rest,h2,rfl,_⟩:=h
    exact .inr ⟨a,len,cap,elems,_,rfl,rfl,hc.2.1,hc.2.2,h1⟩
   ·cases h
 ·simp[DataW.trod,hu] at h

theorem B2{fuel:Nat}{t:TypeId}{cs:List Value}{d:DataW H}{ps:List MemPlace}(hu:P.underlying t=some .bool)(h:DataW.trod enc P w 0 spare held (fuel+1) t cs=some (d,ps)):∃b,cs=[.bool b]∧d=.lit (.bool b):=by
 rcases cs with _|⟨c,_|⟨c',cs⟩⟩
 ·simp[DataW.trod,hu] at h
 ·cases c <;> try (simp[DataW.trod,hu] at h;done)
  rename_i b
  simp only[DataW.trod,hu,Option.some.injEq,Prod.mk.injEq] at h
  exact⟨b,rfl,h.1.symm⟩
 ·simp[DataW.trod,hu] at h

theorem yT{fuel:Nat}{t:TypeId}{k:IntKind}{cs:List Value}{d:DataW H}{ps:List MemPlace}(hu:P.underlying t=some (.int k))(h:DataW.trod enc P w 0 spare held (fuel+1) t cs=some (d,ps)):∃n,cs=[.int k n]∧d=.lit (.int k n)∧(Lit.int k n).wf=true:=by
 rcases cs with _|⟨c,_|⟨c',cs⟩⟩
 ·simp[DataW.trod,hu] at h
 ·cases c <;> try (simp[DataW.trod,hu] at h;done)
  rename_i k' n
  simp only[DataW.trod,hu] at h
  split at h
  ·rename_i hk
   obtain⟨rfl,hwf⟩:=hk
   simp only[Option.some.injEq,Prod.mk.injEq] at h
   exact⟨n,rfl,h.1.symm,hwf⟩
  ·cases h
 ·simp[DataW.trod,hu] at h

theorem ze{fuel:Nat}{t:TypeId}{cs:List Value}{d:DataW H}{ps:List MemPlace}(hu:P.underlying t=some .string)(h:DataW.trod enc P w 0 spare held (fuel+1) t cs=some (d,ps)):∃s,cs=[.string s]∧d=.lit (.string s.data.toList):=by
 rcases cs with _|⟨c,_|⟨c',cs⟩⟩
 ·simp[DataW.trod,hu] at h
 ·cases c <;> try (simp[DataW.trod,hu] at h;done)
  rename_i s
  simp only[DataW.trod,hu] at h
  split at h
  ·simp only[Option.some.injEq,Prod.mk.injEq] at h
   exact⟨s,rfl,h.1.symm⟩
  ·cases h
 ·simp[DataW.trod,hu] at h

theorem uT{fuel:Nat}{t:TypeId}{fs:Array Field}{cs:List Value}{d:DataW H}{ps:List MemPlace}(hu:P.underlying t=some (.struct fs))(h:DataW.trod enc P w 0 spare held (fuel+1) t cs=some (d,ps)):
  ∃xs,cs.length=P.cellsOf t∧d=.agg (xs.map (·.1))∧fs.toList.mapM (fun f=>DataW.trod enc P w 0 spare held fuel f.type ((cs.drop f.offset).take (P.cellsOf f.type)))=some xs:=by
 have key:(if cs.length=P.cellsOf t then(fs.toList.mapM fun f=>DataW.trod enc P w 0 spare held fuel f.type ((cs.drop f.offset).take (P.cellsOf f.type))).map fun xs=>((.agg (xs.map (·.1)):DataW H),xs.flatMap (·.2)) else none)=some (d,ps):=by
  rcases cs with _|⟨c,_|⟨c',cs⟩⟩
  ·simpa only[DataW.trod,hu] using h
  ·cases c <;> simpa only[DataW.trod,hu] using h
  ·simpa only[DataW.trod,hu] using h
 split at key
 ·rename_i hl
  obtain⟨xs,h1,h2⟩:=Option.map_eq_some_iff.1 key
  simp only[Prod.mk.injEq] at h2
  exact⟨xs,hl,h2.1.symm,h1⟩
 ·cases key

theorem AU{fuel:Nat}{t e:TypeId}{m:Nat}{cs:List Value}{d:DataW H}{ps:List MemPlace}(hu:P.underlying t=some (.array m e))(h:DataW.trod enc P w 0 spare held (fuel+1) t cs=some (d,ps)):
  ∃xs,cs.length=P.cellsOf t∧d=.agg (xs.map (·.1))∧(List.range m).mapM (fun i=>DataW.trod enc P w 0 spare held fuel e ((cs.drop (i*P.cellsOf e)).take (P.cellsOf e)))=some xs:=by
 have key:(if cs.length=P.cellsOf t then((List.range m).mapM fun i=>DataW.trod enc P w 0 spare held fuel e ((cs.drop (i*P.cellsOf e)).take (P.cellsOf e))).map fun xs=>((.agg (xs.map (·.1)):DataW H),xs.flatMap (·.2)) else none)=some (d,ps):=by
  rcases cs with _|⟨c,_|⟨c',cs⟩⟩
  ·simpa only[DataW.trod,hu] using h
  ·cases c <;> simpa only[DataW.trod,hu] using h
  ·simpa only[DataW.trod,hu] using h
 split at key
 ·rename_i hl
  obtain⟨xs,h1,h2⟩:=Option.map_eq_some_iff.1 key
  simp only[Prod.mk.injEq] at h2
  exact⟨xs,hl,h2.1.symm,h1⟩
 ·cases key

theorem B6{a:Addr}{n:Nat}{seg:List Value}(h:w.cells? 0 a n=some seg):seg.length=n∧∀(j:Nat) (c:Value),seg[j]? =some c→w.cell? (a.add j)=some c:=by
 unfold World.cells? at h
 rw[if_pos (Nat.zero_le _)] at h
 obtain⟨h1,h2⟩:=mapM_some _ _ _ h
 refine⟨by simpa using h1,fun j c hc=> ?_⟩
 have hj:j<n:=by have:=(List.getElem?_eq_some_iff.1 hc).1;rw[h1] at this;simpa using this
 obtain⟨y,g1,g2⟩:=h2 j j (by simp[hj])
 rw[g1] at hc;cases hc;exact g2

theorem HJ(hw:C.w=w)(hbad:∀b,¬C.bad b):∀(fuel n:Nat) (t:TypeId) (cs:List Value) (d:DataW H) (ps:List MemPlace),q9 P n t=true→
  DataW.trod enc P w 0 spare held fuel t cs=some (d,ps)→Cz C cs (tC d):=by
 intro fuel
 induction fuel with
 |zero=>intro n t cs d ps _ h;simp[DataW.trod] at h
 |succ fuel ih=>
  intro n t cs d ps hp h
  cases n with
  |zero=>simp[q9] at hp
  |succ n=>
  unfold q9 at hp
  split at hp
  ·rename_i hu
   obtain⟨b,rfl,rfl⟩:=B2 hu h
   exact uz rfl (.imm _ rfl)
  ·rename_i k hu
   obtain⟨q,rfl,rfl,_⟩:=yT hu h
   exact uz rfl (.imm _ rfl)
  ·rename_i hu
   obtain⟨q,rfl,rfl⟩:=ze hu h
   refine uz (c:=.string q) rfl ?_
   have:(⟨q.data.toList.toArray⟩:ByteArray)=q:=by cases q;simp
   simp only[tC,this]
   exact .imm _ rfl
  · -- slice
   rename_i e hu
   simp only[Bool.and_eq_true,bne_iff_ne,ne_eq] at hp
   obtain⟨hs0,hpe⟩:=hp
   rcases vW hu h with⟨rfl,rfl⟩|⟨a,len,cap,elems,rest,rfl,rfl,hlc,_,hm⟩
   ·exact uz rfl (.slNil _ _)
   ·obtain⟨l1,l2⟩:=mapM_some _ _ _ hm
    simp only[List.length_range] at l1
    refine uz rfl ?_
    simp only[tC,HZ,List.map_map]
    subst l1
    by_cases h0:elems=[]
    ·subst h0;exact .slNil _ _
    ·have hpos:0<elems.length:=List.length_pos_iff.2 h0
     obtain⟨b,off,sp⟩:=a
     -- each element's cells
     have hel:∀i,i<elems.length→∃seg z,elems[i]? =some z∧w.cells? 0 ((⟨b,off,sp⟩:Addr).add (i*P.cellsOf e)) (P.cellsOf e)=some seg∧Cz C seg (tC z.1):=fun i hi=>by
      obtain⟨z,g1,g2⟩:=l2 i i (by simp[hi])
      obtain⟨seg,g3,g4⟩:=Option.bind_eq_some_iff.1 g2
      exact⟨seg,z,g1,g3,ih n e seg z.1 z.2 hpe g4⟩
     have hsp:sp=none:=by
      obtain⟨seg,z,_,g2,_⟩:=hel 0 hpos
      obtain⟨q1,q2⟩:=B6 g2
      have hs:0<seg.length:=by omega
      have:=q2 0 _ (List.getElem?_eq_getElem hs)
      rw[Nat.zero_mul] at this
      cases sp with
      |none=>rfl
      |some x=>simp[Addr.add,World.cell?] at this;split at this <;> simp at this
     subst hsp
     have cell:∀(i j:Nat) (q x:AV),(elems.map (tC∘(·.1)))[i]? =some q→q.flat[j]? =some x→∃v,Holds C.w b (off+i*P.cellsOf e+j) v∧dO C x v:=fun i j q x hq hx=>by
      have hi:i<elems.length:=by have:=(List.getElem?_eq_some_iff.1 hq).1;simpa using this
      obtain⟨seg,z,g1,g2,g3⟩:=hel i hi
      simp only[List.getElem?_map,g1,Option.map_some,Function.comp,Option.some.injEq] at hq
      subst hq
      obtain⟨c,g4,g5⟩:=g3.rep j x hx
      have:=(B6 g2).2 j c g4
      rw[sP,sP] at this
      exact⟨c,⟨by rw[hw];exact this,g3.one c (List.mem_of_getElem? g4)⟩,g5⟩
     have hfl:∀(i:Nat) (q:AV),(elems.map (tC∘(·.1)))[i]? =some q→q.flat.length=P.cellsOf e:=fun i q hq=>by
      have hi:i<elems.length:=by have:=(List.getElem?_eq_some_iff.1 hq).1;simpa using this
      obtain⟨seg,z,g1,g2,g3⟩:=hel i hi
      simp only[List.getElem?_map,g1,Option.map_some,Function.comp,Option.some.injEq] at hq
      subst hq
      rw[g3.len];exact(B6 g2).1
     have hb:b<C.w.heap.size:=by
      obtain⟨seg,z,g1,g2,g3⟩:=hel 0 hpos
      have hs:0<(tC z.1).flat.length:=by
       rw[hfl 0 _ (by simp[g1])];omega
      obtain⟨v,g4,_⟩:=cell 0 0 _ _ (by simp[g1]) (List.getElem?_eq_getElem hs)
      have:=g4.1
      unfold World.cell? at this
      split at this
      ·rename_i h9;exact(Array.getElem?_eq_some_iff.1 h9).1
      ·cases this
     have hlen:(elems.map (tC∘(·.1))).length=elems.length:=by simp
     have:=dO.sl (C:=C) (elems.map (tC∘(·.1))) b off (P.cellsOf e) cap (fun i j=>(C.w.cell? ⟨b,off+i*P.cellsOf e+j,none⟩).getD undef) hb (hbad b) (by rw[hlen];exact hlc) hfl
      (fun i j q x hq hx=>by
       obtain⟨v,g1,g2⟩:=cell i j q x hq hx
       rw[g1.1];exact g1)
      (fun i j q x hq hx=>by
       obtain⟨v,g1,g2⟩:=cell i j q x hq hx
       rw[g1.1];exact g2)
     rw[hlen] at this
     exact this
  · -- struct
   rename_i fs hu
   rw[Bool.and_eq_true,List.all_eq_true] at hp
   obtain⟨hpf,hct⟩:=hp
   rw[beq_iff_eq] at hct
   obtain⟨xs,hl,rfl,hm⟩:=uT hu h
   obtain⟨c1,c2⟩:=Jh P fs.toList 0 _ hct
   have:=GL (C:=C) (P:=P) (w:=w) (enc:=enc) (spare:=spare) (held:=held) (fun f:Field=>f.type) (fun f=>f.offset) fuel cs
    fs.toList 0 xs (fun x hx seg y hy _=>ih n x.type seg y.1 y.2 (hpf x hx) hy) c1 (by rw[hl];exact c2) hm
   simpa [tC] using this
  · -- array
   rename_i m e hu
   simp only[Bool.and_eq_true,beq_iff_eq] at hp
   obtain⟨hpe,hct⟩:=hp
   obtain⟨xs,hl,rfl,hm⟩:=AU hu h
   have hsum:∀(l:List Nat),(l.map fun _=>P.cellsOf e).sum=l.length*P.cellsOf e:=by
    intro l;induction l with
    |nil=>simp
    |cons _ l ih=>simp[ih,Nat.add_mul,Nat.add_comm]
   have:=GL (C:=C) (P:=P) (w:=w) (enc:=enc) (spare:=spare) (held:=held) (fun _:Nat=>e) (fun i=>i*P.cellsOf e) fuel cs
    (List.range m) 0 xs (fun x _ seg y hy _=>ih n e seg y.1 y.2 hpe hy)
    (fun i x hx=>by
     have hi:i<m:=by have:=(List.getElem?_eq_some_iff.1 hx).1;simpa using this
     have hx':x=i:=by simp[hi] at hx;exact hx.symm
     subst hx'
     rw[hsum];simp;rw[Nat.min_eq_left (by omega)]) (by rw[hsum,hl];simpa using hct) hm
   simpa [tC] using this
  ·cases hp
end
end Go.Av
end

section
/- From what a law's function does to what its row asks. -/
namespace Go.Av
open Go.RowKit (Below)

section
variable {H:Type} {enc:TypeId×Value→H} {P:Program}

theorem B0(hl:laidOutB P=true){W W':World}(hb:Below W.heap.size W W'):∀{ts:List TypeId} {vs:List Value} {ds:List (DataW H)} {ps:List MemPlace},(∀t∈ts,P.readableRec t=true∧t<P.types.size)→
  DataW.TrodAll enc P W 0 (fun _=>true) true ts vs ds ps→(∀x∈ps,x.block<W.heap.size)→DataW.TrodAll enc P W' 0 (fun b=>decide (b<W.heap.size)) true ts vs ds ps
 |[],[],[],ps,_,h,_=>h
 |t::ts,v::vs,d::ds,ps,hr,h,hlt=>by
  obtain⟨p,q,h1,h2,rfl⟩:=h
  obtain⟨r1,r2⟩:=hr t (List.mem_cons_self ..)
  exact⟨p,q,RowKit.Below.trod hl r1 r2 h1 hb (fun x hx=>hlt x (List.mem_append_left _ hx)),B0 hl hb (fun t ht=>hr t (List.mem_cons_of_mem _ ht)) h2 (fun x hx=>hlt x (List.mem_append_right _ hx)),rfl⟩

theorem SW{fn:Func}{s:ChangeSpec}{W W':World}{args:Array Value}{ds gs:List (DataW H)}{before:List MemPlace}{tb:TypeId}(hW:DataW.Whole enc P fn.params.toList s.vars false W args.toList ds gs before)
  (hv:s.vars=[])(hfn:s.fn H (ds++gs)=⟨[.lit (.bool true)],ds,[]⟩)(hres:fn.resultTypes= #[tb])(hb:P.underlying tb=some .bool)(hl:laidOutB P=true)(hr:∀t∈fn.params.toList,P.readableRec t=true∧t<P.types.size)
  (hbel:Below W.heap.size W W'):s.post enc P fn false true false false W args (.bool true) W':=by
 have hlt:=fun p hp=>hW.lt p hp
 have hW':=hW
 obtain⟨p,q,h1,h2,rfl,h3,h4⟩:=hW
 refine⟨ds,gs,p++q,[],p,[],hW', ?_, ?_, ?_,hbel.frame _,fun h=>by cases h⟩
 ·rw[hfn,hres]
  show DataW.TrodAll enc P W' _ _ _ [tb] [.bool true] [.lit (.bool true)] []
  exact⟨[],[],RowKit.shut_bool hb true,rfl,rfl⟩
 ·rw[hfn]
  exact B0 hl hbel hr h1 (fun x hx=>hlt x (List.mem_append_left _ hx))
 ·rw[hfn,hv];rfl

def Ctx.start(W:World):Ctx:={w:=W,H:=.empty,pl:=fun _=>⟨0,0,0,0,false⟩,dm:=fun _=>False,mI:=[],tn:=0}

theorem Bi(W:World)(b:Nat):¬(Ctx.start W).own b:=CX rfl rfl b

theorem PC(W:World):Inv (.of W) (Ctx.start W) where
 fresh id es h:=by simp[Ctx.start,aX.empty,aX.get,lk] at h
 nil id es h:=by simp[Ctx.start,aX.empty,aX.get,lk] at h
 obj id es h:=by simp[Ctx.start,aX.empty,aX.get,lk] at h
 sep i1 i2 e1 e2 h:=by simp[Ctx.start,aX.empty,aX.get,lk] at h
 dm id es h:=by simp[Ctx.start,aX.empty,aX.get,lk] at h
 oM id s h:=by simp[Ctx.start,aX.empty,aX.sz,lk] at h
 eE _ h:=h.elim
 eZ _ h:=h.elim
 size:=Nat.le_refl _
 iK b _:=⟨rfl,Bi W b⟩
 e8 l r h:=by simp[Ctx.start,aX.empty,lk] at h
 mI d h:=by simp[Ctx.start] at h
 y7:=.nil
 zM:=fun _ _=>rfl
 fD b h:=absurd (.inr h) (Bi W b)
 pP:=rfl
 fZ:=Nat.zero_le _
 gh:=trivial

theorem PB(W:World)(b:Nat):¬(Ctx.start W).bad b:=by
 rintro(h|h)
 ·exact Bi W b h
 ·exact h

theorem HG{W:World}{base:Nat}{t:TypeId}{v:Value}{n:Nat}(hp:q9 P n t=true)(h:Value.okWide P W .any base t v):v.oneCell'=true∨∃cs,v=.agg cs∧((∃fs,P.underlying t=some (.struct fs))∨∃m e,P.underlying t=some (.array m e)):=by
 cases n with
 |zero=>simp[q9] at hp
 |succ n=>
  unfold q9 at hp
  split at hp <;> rename_i hu
  ·left;cases v <;> first|rfl|(simp[Value.okWide,Cell.okWide,Cell.ok,hu] at h)
  ·left;cases v <;> first|rfl|(simp[Value.okWide,Cell.okWide,Cell.ok,hu] at h)
  ·left;cases v <;> first|rfl|(simp[Value.okWide,Cell.okWide,Cell.ok,hu] at h)
  ·left;cases v <;> first|rfl|(simp[Value.okWide,Cell.okWide,Cell.ok,hu] at h)
  ·right
   simp only[Value.okWide,hu] at h
   obtain⟨cs,rfl,_⟩:=h
   exact⟨cs,rfl,.inl ⟨_,hu⟩⟩
  ·right
   simp only[Value.okWide,hu] at h
   obtain⟨cs,rfl,_⟩:=h
   exact⟨cs,rfl,.inr ⟨_,_,hu⟩⟩
  ·cases hp

theorem Uk{W:World}{base:Nat}{t:TypeId}{v:Value}{d:DataW H}{ps:List MemPlace}(n:Nat)(hp:q9 P n t=true)(h:DataW.Trod enc P W 0 (fun _=>true) true t v d ps)(hform:Value.okWide P W .any base t v):dO (Ctx.start W) (tC d) v:=by
 obtain⟨fuel,hf⟩:=h
 have hr:=HJ (C:=Ctx.start W) rfl (PB W) fuel n t v.cells.toList d ps hp hf
 rcases HG hp hform with h1|⟨cs,rfl,hu⟩
 ·rw[H9 h1] at hr hf
  obtain⟨c,g1,g2⟩:=hr.rep 0 ((tC d).flat.getD 0 .any) (by
   have:=hr.len
   simp only[List.length_cons,List.length_nil] at this
   rw[List.getD_eq_getElem?_getD]
   cases hq:(tC d).flat with
   |nil=>rw[hq] at this;simp at this
   |cons _ _=>rfl)
  simp only[List.getElem?_cons_zero,Option.some.injEq] at g1
  subst g1
  -- the datum is no aggregate
  have hd:(tC d).flat=[tC d]:=by
   cases fuel with
   |zero=>simp[DataW.trod] at hf
   |succ fuel=>
    cases n with
    |zero=>simp[q9] at hp
    |succ n=>
     unfold q9 at hp
     split at hp
     ·rename_i hu;obtain⟨b,_,rfl⟩:=B2 hu hf;rfl
     ·rename_i k hu;obtain⟨q,_,rfl,_⟩:=yT hu hf;rfl
     ·rename_i hu;obtain⟨q,_,rfl⟩:=ze hu hf;rfl
     ·rename_i e hu
      rcases vW hu hf with⟨_,rfl⟩|⟨_,_,_,_,_,_,rfl,_⟩ <;> rfl
     ·rename_i fs hu
      simp only[Value.okWide,hu] at hform
      obtain⟨cs,rfl,_⟩:=hform
      simp[Value.oneCell'] at h1
     ·rename_i m e hu
      simp only[Value.okWide,hu] at hform
      obtain⟨cs,rfl,_⟩:=hform
      simp[Value.oneCell'] at h1
     ·cases hp
  rw[hd] at g2
  exact g2
 ·have hagg:∃l,tC d=.agg l:=by
   cases fuel with
   |zero=>simp[DataW.trod] at hf
   |succ fuel=>
    rcases hu with⟨fs,hu⟩|⟨m,e,hu⟩
    ·obtain⟨xs,_,rfl,_⟩:=uT hu hf;exact⟨_,rfl⟩
    ·obtain⟨xs,_,rfl,_⟩:=AU hu hf;exact⟨_,rfl⟩
  obtain⟨l,hl⟩:=hagg
  rw[hl] at hr ⊢
  have hlen:=hr.len
  simp only[flat_agg,Value.cells,Array.length_toList] at hlen
  refine .agg l cs hlen.symm (fun k u hk=>hr.one u (by simp[Value.cells];exact Array.mem_of_getElem? hk)) (fun k x hx=> ?_)
  obtain⟨c,g1,g2⟩:=hr.rep k x hx
  have g1':cs[k]? =some c:=by simpa [Value.cells] using g1
  have hlt:=(Array.getElem?_eq_some_iff.1 g1').1
  have:cs.getD k undef=c:=by have:=pM hlt;rw[g1'] at this;exact(Option.some.inj this).symm
  rw[this];exact g2


def Qc(P:Program)(t:TypeId){α:Type}(f:α→AV)(ok:α→Prop):Prop:=
 ∀{H:Type} (enc:TypeId×Value→H) (w:World) (spare:Nat→Bool) (held:Bool) (fuel:Nat) (cs:List Value) (d:DataW H) (ps:List MemPlace),DataW.trod enc P w 0 spare held fuel t cs=some (d,ps)→∃x,ok x∧tC d=f x

theorem qU{t:TypeId}(hu:P.underlying t=some (.int .i64)):Qc P t i64 (fun n=> -9223372036854775808≤n∧n≤9223372036854775807):=by
 intro H enc w spare held fuel cs d ps h
 cases fuel with
 |zero=>simp[DataW.trod] at h
 |succ fuel=>
  obtain⟨n,_,rfl,hwf⟩:=yT hu h
  simp[Lit.wf,IntKind.min,IntKind.max,IntKind.signed,IntKind.bits] at hwf
  exact⟨n,by omega,rfl⟩

theorem tD{t e:TypeId}{α:Type}{f:α→AV}{ok:α→Prop}(hu:P.underlying t=some (.slice e))(he:Qc P e f ok):Qc P t (fun l:List α=>AV.sl (l.map f)) (fun l=>(∀x∈l,ok x)∧l.length≤9223372036854775807):=by
 intro H enc w spare held fuel cs d ps h
 cases fuel with
 |zero=>simp[DataW.trod] at h
 |succ fuel=>
  rcases vW hu h with⟨_,rfl⟩|⟨a,len,cap,elems,rest,_,rfl,hlc,hmx,hm⟩
  ·exact⟨[],by simp,rfl⟩
  ·obtain⟨l1,l2⟩:=mapM_some _ _ _ hm
   have key:∀(es:List (DataW H×List MemPlace)),(∀z∈es,∃x,ok x∧tC z.1=f x)→∃l:List α,(∀x∈l,ok x)∧l.length=es.length∧(es.map (·.1)).map tC=l.map f:=by
    intro es
    induction es with
    |nil=>intro _;exact⟨[],by simp,rfl,rfl⟩
    |cons z es ih=>
     intro hz
     obtain⟨x,g1,g2⟩:=hz z (List.mem_cons_self ..)
     obtain⟨l,g3,g4,g5⟩:=ih (fun y hy=>hz y (List.mem_cons_of_mem _ hy))
     refine⟨x::l, ?_,by simp[g4],by simp only[List.map_cons,g2,g5]⟩
     intro y hy
     rcases List.mem_cons.1 hy with rfl|hy
     ·exact g1
     ·exact g3 y hy
   obtain⟨l,g1,g2,g3⟩:=key elems (fun z hz=>by
    obtain⟨k,hk⟩:=List.getElem?_of_mem hz
    have hlt:=(List.getElem?_eq_some_iff.1 hk).1
    rw[l1] at hlt
    have hlt':k<len:=by simpa using hlt
    obtain⟨y,q1,q2⟩:=l2 k k (by simp[hlt'])
    rw[hk] at q1;cases q1
    obtain⟨seg,_,q4⟩:=Option.bind_eq_some_iff.1 q2
    exact he enc w spare held fuel seg z.1 z.2 q4)
   refine⟨l,⟨g1, ?_⟩, ?_⟩
   ·rw[g2,l1]
    have:cap≤9223372036854775807:=hmx
    simp;omega
   ·simp only[tC,HZ,g3]

theorem x_{t:TypeId}{fs:Array Field}(hu:P.underlying t=some (.struct fs)){H:Type}{enc:TypeId×Value→H}{w:World}{spare:Nat→Bool}{held:Bool}{fuel:Nat}{cs:List Value}{d:DataW H}{ps:List MemPlace}(h:DataW.trod enc P w 0 spare held fuel t cs=some (d,ps)):
  ∃fuel' xs,tC d=.agg (ox (xs.map (·.1)))∧fs.toList.mapM (fun f=>DataW.trod enc P w 0 spare held fuel' f.type ((cs.drop f.offset).take (P.cellsOf f.type)))=some xs:=by
 cases fuel with
 |zero=>simp[DataW.trod] at h
 |succ fuel=>
  obtain⟨xs,_,rfl,hm⟩:=uT hu h
  exact⟨fuel,xs,rfl,hm⟩

theorem OZ{f:FuncId}{fn:Func}{s:ChangeSpec}{W:World}{args:Array Value}{ds gs:List (DataW H)}{before:List MemPlace}{tb:TypeId}{xs:List AV}(hf:bJ P W f xs (bl true))(hsz:args.size=xs.length)
  (hrep:∀(k:Nat) (x:AV),xs[k]? =some x→dO (Ctx.start W) x (args.getD k undef))(hW:DataW.Whole enc P fn.params.toList s.vars false W args.toList ds gs before)
  (hv:s.vars=[])(hfn:s.fn H (ds++gs)=⟨[.lit (.bool true)],ds,[]⟩)(hres:fn.resultTypes= #[tb])(hb:P.underlying tb=some .bool)(hl:laidOutB P=true)(hr:∀t∈fn.params.toList,P.readableRec t=true∧t<P.types.size):
  Calls P f args W fun e W'=>∃v,e=.returned v∧s.post enc P fn false true false false W args v W':=by
 refine(hf.runs (Ctx.start W) args (PC W) rfl rfl hsz hrep).mono ?_
 rintro e W' ⟨v,C',rfl,rfl,hE,_,hv'⟩
 obtain rfl:=gM (v:=.bool true) rfl hv'
 exact⟨_,rfl,SW hW hv hfn hres hb hl hr (x8 hE (Bi W))⟩

end
end Go.Av
end

section
/- From a row's argument to what a proof sees of it. -/
namespace Go.Av
open Go.ChangeShapes Go.WideShapes Go.ChangeAt Go.RowKit
variable {P:Program} {H:Type} {enc:TypeId×Value→H}

theorem Uj{W:World}{base:Nat}{t:TypeId}{v:Value}{d:DataW H}{ps:List MemPlace}{α:Type}{f:α→AV}{ok:α→Prop}(n:Nat)(hp:q9 P n t=true)(hd:Qc P t f ok)(h:DataW.Trod enc P W 0 (fun _=>true) true t v d ps)(hform:Value.okWide P W .any base t v):∃x,ok x∧dO (Ctx.start W) (f x) v:=by
 have h1:=Uk n hp h hform
 obtain⟨fuel,hf⟩:=h
 obtain⟨x,h2,h3⟩:=hd enc W _ _ fuel _ d ps hf
 exact⟨x,h2,h3▸h1⟩

theorem Ph{fn:Func}(h:(fn.params.toList.all fun t=>P.readableRec t&&decide (t<P.types.size))=true):∀t∈fn.params.toList,P.readableRec t=true∧t<P.types.size:=fun t ht=>by
 have:=List.all_eq_true.1 h t ht
 simpa using this

theorem ZG{W:World}{name:String}{l:List Nat}{g:Nat}(h:Lib.TabIs P W name .u8 (l.map fun(k:Nat)=>(k:Int)))(hg:P.globalNamed name=some g):∀(j:Nat) (v:Value),(l.map fun(k:Nat)=>Value.int .u8 (k:Int))[j]? =some v→W.cell? ⟨g,j,none⟩=some v∧v.oneCell'=true:=fun j v hj=>by
 simp only[List.getElem?_map,Option.map_eq_some_iff] at hj
 obtain⟨k,hk,rfl⟩:=hj
 have hlt:=(List.getElem?_eq_some_iff.1 hk).1
 have:=h.cell hg j (by simpa using hlt)
 rw[this]
 refine⟨?_,rfl⟩
 simp[List.getD,hk]

theorem ahQ{C:Ctx}{x0:AV}{v0:Value}(h0:dO C x0 v0):∀(k:Nat) (x:AV),[x0][k]? =some x→dO C x (#[v0].getD k undef):=fun k x h=>by
 match k with
 |0=>cases h;exact h0
 |k+1=>cases h
end Go.Av
end
