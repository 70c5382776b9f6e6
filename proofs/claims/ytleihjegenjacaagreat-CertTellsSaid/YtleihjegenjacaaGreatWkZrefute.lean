/- That the functions of a package do what their plain functions say. -/
import Derived.Test.YtleihjegenjacaaGreatWkZedge
open Go Go.Av Go.Proofs G Go.Sh Go.Av.Sh
set_option linter.unusedVariables false
set_option maxHeartbeats 8000000
set_option maxRecDepth 20000
namespace Wk
variable {W0:World}
theorem gm{bJ r}(h:dn bJ=some r):F3 (.pinned W0 1) 103 [.ref 0 0 0] ⟨1,[(0,(1,[aI.av bJ]))],[]⟩ (au.av r.1) ⟨1,[(0,(1,[aI.av r.2]))],[]⟩:=by
 refine sJ Tryz.func103 Tryz.ntmps103 ?_;unfold dn at h;refine sr Z fun K1 eB=>E (r:=.ref 1 0 0) Z (bF 4 [.agg [J 0,J 0,J 0,aV]] Z RW (by kernel_rfl) (.inl ⟨Z,Z⟩))<|ah<|eB _ ?_;refine az fun K2 b7=>sr Z fun K3 dZ=>O Z<|E (r:=.ref 0 0 0) Z (cR Z Z Z)<|aB aL 1 [0,2,6] Z ?_;refine E (r:=sm au.av bJ.left) Z (aR Z Z Z Z C6 Z)<|E Z (aX au.av bJ.left Z Z A8)<|aG aL dZ 1 [0,2,9] Z ?_;refine aT Z h (fun h=> ?_) (fun h=> ?_)
 ·cases h
 ·refine aD<|b7 _ (Y (U [0,2] Z) ?_);refine sr Z fun K4 gB=>O Z<|E (r:=.ref 0 0 0) Z (cR Z Z Z)<|aB aL 1 [0,2,14] Z ?_;refine E (r:=sm au.av bJ.left) Z (aR Z Z Z Z C6 Z)<|Sh.bi h fun x9 k10 aoG apc h=>E Z (aH au.av bJ.left aoG apc Z Z Z A8 Z)<|bD (au.av x9) Z Z Z Kx Z<|V [0,2,17] Z<|E (r:=.ref 2 0 0) Z (bF 4 [.agg [J 0,J 0,J 0,aV]] Z RW (by kernel_rfl) (.inl ⟨Z,Z⟩))<|E Z (a_ (e':=au.av x9) Z Z Z Z Z Z Kx Z dt Z)<|ah ?_;refine gB _ (Y (aU.ra (fr':=[(0,.ref 0 0 0),(2,.ref 1 0 0),(3,.pp [J x9.C.Key,J x9.C.A,J x9.C.B,sm J x9.bR] 0)]) (H':=⟨2,[(0,(1,[aI.av bJ])),(1,(4,[.agg [J 0,J 0,J 0,aV]]))],[]⟩) [(0,0),(1,1)] []) ?_);refine sr Z fun K5 ec=>O Z<|O Z<|E (r:=.ref 0 0 0) Z (cR Z Z Z)<|V [2,3,18,20] Z<|E Z (bG Z Z Z Se (by decide))<|E (r:=sm au.av bJ.left) Z (aR Z Z Z Z C6 Z) ?_;refine Sh.bd h fun Kb Zs h=>E (r:=sm au.av Kb) Z (SV au.av bJ.left Kb Zs (fun _=>Z) Z Z (.inl Z) (.inr ⟨_,_,Z,Z⟩) (.inl ⟨Z,Z⟩) A8)<|V [2,3,18,23] Z<|E (r:=.ref 0 0 0) Z (cR Z Z Z)<|E Z (bG Z Z Z Se (by decide))<|E Z (a_ (e':=.agg [sm au.av Kb]) Z Z Z Z Z Z C6 Z dt Z)<|mu ec [2,3] Z ?_;refine sr Z fun K6 eE=>bD (au.av x9) Z Z Z Kx Z<|E Z (a_ (e':=au.av x9) Z Z Z Z Z Z Kx Z dt Z)<|mu eE [2] Z ?_;refine aA ?_;obtain rfl:=D h;exact⟨.inr Z,au.av x9,Z,aU.ra [(0,0)] []⟩


theorem xx{self:aI→Option (aI×Int×Int)}(ih:∀{bJ:aI} {r:aI×Int×Int},self bJ=some r→F3 (.pinned W0 1) 101 [.ref 0 0 0] ⟨1,[(0,(1,[aI.av bJ]))],[]⟩ (.tuple [J r.2.1,J r.2.2]) ⟨1,[(0,(1,[aI.av r.1]))],[]⟩){bJ:aI}{r:aI×Int×Int}(h:dN self bJ=some r):F3 (.pinned W0 1) 101 [.ref 0 0 0] ⟨1,[(0,(1,[aI.av bJ]))],[]⟩ (.tuple [J r.2.1,J r.2.2]) ⟨1,[(0,(1,[aI.av r.1]))],[]⟩:=by
 refine sJ Tryz.func101 Tryz.ntmps101 ?_;unfold dN at h;refine aM aL 2 [0] Z ?_;refine az fun K2 b7=>sr Z fun K3 dZ=>O Z<|Sh.bd h fun ER OW h=>E (r:=au.av ER.1) Z (bU (ok:=b6) (ys:=[.ref 0 0 0]) (xs:=[.ref 0 0 0]) (r':=au.av ER.1) (Hs:=⟨1,[(0,(1,[aI.av bJ]))],[]⟩) (H':=⟨2,[(0,(1,[aI.av ER.2]))],[]⟩) (g:=[(0,0)]) (m:=[(0,0)]) (nw:=[]) (p:=1) (.func Z Z (gm (W0:=W0) OW).call) (gm OW) .a Z)<|E (r:=sm J ER.1.bR) Z (LP Z Z MW Z)<|V [0,10] Z ?_;refine E Z (aX J ER.1.bR Z Z bX)<|E Z (Gb Z Z Z)<|ah<|dZ _ (Y (aU.ra (fr':=[(0,.ref 0 0 0),(12,bl (decide ((0:Int)<(Sh.len ER.1.bR))))]) (H':=⟨1,[(0,(1,[aI.av ER.2]))],[]⟩) [(0,0)] []) ?_);refine aT Z h (fun h=> ?_) (fun h=> ?_)
 ·refine aM aL 2 [2,3] Z ?_;refine aA ?_;obtain rfl:=D h;exact⟨.inr Z,.tuple [J 1,J 0],Z,aU.ra [(0,0)] []⟩
 ·refine aD<|b7 _ (Y (U [0] Z) ?_);refine sr Z fun K5 ec=>O Z<|Sh.bd h fun xK IB h=>E (r:=.tuple [J xK.2.1,J xK.2.2]) Z (bU (ok:=b6) (ys:=[.ref 0 0 0]) (xs:=[.ref 0 0 0]) (r':=.tuple [J xK.2.1,J xK.2.2]) (Hs:=⟨1,[(0,(1,[aI.av ER.2]))],[]⟩) (H':=⟨2,[(0,(1,[aI.av xK.1]))],[]⟩) (g:=[(0,0)]) (m:=[(0,0)]) (nw:=[]) (p:=1) (.func Z Z (ih IB).call) (ih IB) .a Z)<|aB aL 4 [0,17,4] Z ?_;refine O Z<|ah<|ec _ (Y (aU.ra (fr':=[(0,.ref 0 0 0),(4,J xK.2.1),(5,J xK.2.2)]) (H':=⟨1,[(0,(1,[aI.av xK.1]))],[]⟩) [(0,0)] []) ?_);refine sr Z fun K6 eE=>O Z<|Sh.bd h fun yA Le h=>E (r:=.tuple [J yA.2.1,J yA.2.2]) Z (bU (ok:=b6) (ys:=[.ref 0 0 0]) (xs:=[.ref 0 0 0]) (r':=.tuple [J yA.2.1,J yA.2.2]) (Hs:=⟨1,[(0,(1,[aI.av xK.1]))],[]⟩) (H':=⟨2,[(0,(1,[aI.av yA.1]))],[]⟩) (g:=[(0,0)]) (m:=[(0,0)]) (nw:=[]) (p:=1) (.func Z Z (ih Le).call) (ih Le) .a Z)<|aB aL 4 [4,5,22,6] Z ?_;refine O Z<|ah<|eE _ (Y (aU.ra (fr':=[(4,J xK.2.1),(5,J xK.2.2),(6,J yA.2.1),(7,J yA.2.2)]) (H':=⟨1,[(0,(1,[aI.av yA.1]))],[]⟩) [(0,0)] []) ?_);refine sr Z fun K7 f_=>aB aL 3 [5,7,25] Z ?_;refine O Z<|O Z<|E (r:=J (Sh.max xK.2.2 yA.2.2)) Z (Jn Z Z Z)<|aG aL f_ 3 [2,3] Z ?_;refine aA ?_;obtain rfl:=D h;exact⟨.inr Z,.tuple [J (dz (xK.2.1+yA.2.1)),J (dz (1+(Sh.max xK.2.2 yA.2.2)))],Z,aU.ra [(0,0)] []⟩
theorem tP:∀(n:Nat) {bJ:aI} {r:aI×Int×Int},bZ n bJ=some r→F3 (.pinned W0 1) 101 [.ref 0 0 0] ⟨1,[(0,(1,[aI.av bJ]))],[]⟩ (.tuple [J r.2.1,J r.2.2]) ⟨1,[(0,(1,[aI.av r.1]))],[]⟩:=by
 intro n
 induction n with
 |zero=>intro _ _ h;cases h
 |succ n ih=>intro _ _ h;exact xx ih h
theorem vA{bJ r}(h:rH bJ=some r):F3 (.pinned W0 1) 102 [.ref 0 0 0] ⟨1,[(0,(1,[aI.av bJ]))],[]⟩ (.tuple []) ⟨1,[(0,(1,[aI.av bJ]))],[]⟩:=by
 refine sJ Tryz.func102 Tryz.ntmps102 ?_;unfold rH at h;refine sr Z fun K1 eB=>O Z<|E (r:=.ref 0 0 0) Z (cR Z Z Z)<|aB aL 1 [4] Z ?_;refine E (r:=sm au.av bJ.left) Z (aR Z Z Z Z C6 Z)<|E Z (aX au.av bJ.left Z Z A8)<|aG aL eB 1 [7] Z ?_;refine aT Z h (fun h=> ?_) (fun h=> ?_)
 ·cases h
 ·refine aD ?_;obtain rfl:=D h;exact⟨.inl Z,.tuple [],Z,aU.ra [(0,0)] []⟩


theorem PR{c x}{l:List au}(h:c.left=x::l):dn c=some (x,⟨l⟩):=by
 unfold dn;have h0:¬(Sh.len c.left)=0:=by simp[h,Sh.len];omega
 have h1:Sh.idx c.left 0=some x:=by simp[h,Sh.idx]
 have h2:Sh.sub c.left 1 (Sh.len c.left)=some l:=by
  rw[h];simp[Sh.sub,Sh.len]
  omega
 rw[if_neg (by simpa using h0),h1,Option.bind_some,h2,Option.bind_some]
theorem T8:∀(n:Nat) (c:aI) (r:aI×Int×Int),bZ n c=some r→r.1.left.length<c.left.length:=by
 intro n
 induction n with
 |zero=>intro c r h;cases h
 |succ n ih=>
  intro c r h;cases hc:c.left with
  |nil=>
   have:dn c=none:=by simp[dn,hc,Sh.len]
   simp[bZ,dN,this] at h
  |cons x l=>
   simp only[bZ,dN,PR hc,Option.bind_some] at h
   split at h
   ·cases h;simp
   ·obtain⟨r1,h1,h⟩:=Fk h;refine Sh.bd h fun r2 h2 h=> ?_;cases h;have:=ih _ _ h1;have:=ih _ _ h2;simp only[List.length_cons] at*
    omega
theorem T9{bJ}(h:bJ.left=[]):N4 Tryz.prog (.pinned W0 1) 103 [.ref 0 0 0] ⟨1,[(0,(1,[aI.av bJ]))],[]⟩ ⟨1,[(0,(1,[aI.av bJ]))],[]⟩:=by
 refine BS Z Tryz.func103 Z (by kernel_rfl) Tryz.ntmps103 (by simp) ?_;refine sr Z fun K1 eB=>E (r:=.ref 1 0 0) Z (bF 4 [.agg [J 0,J 0,J 0,aV]] Z RW (by kernel_rfl) (.inl ⟨Z,Z⟩))<|ah<|eB _ ?_;refine az fun K2 b7=>sr Z fun K3 dZ=>O Z<|E (r:=.ref 0 0 0) Z (cR Z Z Z)<|aB aL 1 [0,2,6] Z ?_;refine E (r:=sm au.av bJ.left) Z (aR Z Z Z Z C6 Z)<|E Z (aX au.av bJ.left Z Z A8)<|aG aL dZ 1 [0,2,9] Z ?_;refine zz Z (fun hb6=> ?_) (fun hb6=> ?_)
 ·refine zA (Hp:=⟨2,[(0,(1,[aI.av bJ])),(1,(4,[.agg [J 0,J 0,J 0,aV]]))],[]⟩) 2 Z Z Z ?_
  ·refine E (r:=.agg []) Z (cm Z aaK Z Z Z)<|E Z (nG Z Z Tryz.underlying181 (fun _ h=>by cases h)) ?_;exact ah ⟨Z,Jm Z Z,fun ch hch=>⟨⟨ch,Z,hch⟩,aU.ra [(0,0)] []⟩⟩
 ·simp[h,Sh.len] at hb6
theorem XZ{bJ}(h:(0:Int)<Sh.len bJ.left):N4 Tryz.prog (.pinned W0 1) 102 [.ref 0 0 0] ⟨1,[(0,(1,[aI.av bJ]))],[]⟩ ⟨1,[(0,(1,[aI.av bJ]))],[]⟩:=by
 refine BS Z Tryz.func102 Z (by kernel_rfl) Tryz.ntmps102 (by simp) ?_;refine sr Z fun K1 eB=>O Z<|E (r:=.ref 0 0 0) Z (cR Z Z Z)<|aB aL 1 [4] Z ?_;refine E (r:=sm au.av bJ.left) Z (aR Z Z Z Z C6 Z)<|E Z (aX au.av bJ.left Z Z A8)<|aG aL eB 1 [7] Z ?_;refine zz Z (fun hb1=> ?_) (fun hb1=> ?_)
 ·refine zA (Hp:=⟨1,[(0,(1,[aI.av bJ]))],[]⟩) 2 Z Z Z ?_
  ·refine E (r:=.agg []) Z (cm Z aaK Z Z Z)<|E Z (nG Z Z Tryz.underlying181 (fun _ h=>by cases h)) ?_;exact ah ⟨Z,Jm Z Z,fun ch hch=>⟨⟨ch,Z,hch⟩,aU.ra [(0,0)] []⟩⟩
 ·rw[decide_eq_true h] at hb1;cases hb1

theorem RI:∀(n:Nat) (bJ:aI),bJ.left.length<n→bZ n bJ=none→N4 Tryz.prog (.pinned W0 1) 101 [.ref 0 0 0] ⟨1,[(0,(1,[aI.av bJ]))],[]⟩ ⟨1,[(0,(1,[aI.av ⟨[]⟩]))],[]⟩:=by
 intro n
 induction n with
 |zero=>intro c hc;omega
 |succ n ih=>
  intro bJ hlen h;refine BS Z Tryz.func101 Z (by kernel_rfl) Tryz.ntmps101 (by simp) ?_;show sN _ _ _ _ ⟨[(0,.ref 0 0 0)],⟨1,[(0,(1,[aI.av bJ]))],[]⟩⟩ _;refine aM aL 2 [0] Z ?_;refine az fun K2 b7=>az fun K3 dZ=> ?_;cases hc:bJ.left with
  |nil=>
   have hc0:bJ=⟨[]⟩:=by cases bJ;simp_all
   refine zA (Hp:=⟨2,[(0,(1,[aI.av ⟨[]⟩]))],[]⟩) 1 Z Z Z ?_
   ·refine E (r:=.ref 0 0 0) Z (tX (.inl Z) Z)<|ah ⟨Z, ?_,fun ch hch=> ?_⟩;subst hc0
    ·exact zy (ok:=b6) (ys:=[.ref 0 0 0]) (xs:=[.ref 0 0 0]) (r:=.any) (r':=.any) (Hs:=⟨1,[(0,(1,[aI.av ⟨[]⟩]))],[]⟩) (H':=⟨2,[(0,(1,[aI.av ⟨[]⟩]))],[]⟩) (g:=[(0,0)]) (m:=[(0,0)]) (nw:=[]) (p:=1) Z Z (T9 Z) .a Z
    ·exact⟨⟨ch,Z,hch⟩,aU.ra [(0,0)] []⟩
  |cons x l=>
   have hn:=PR hc;simp only[bZ,dN,hn,Option.bind_some] at h;refine aW Z<|O Z<|E (r:=au.av x) Z (bU (ok:=b6) (ys:=[.ref 0 0 0]) (xs:=[.ref 0 0 0]) (r':=au.av x) (Hs:=⟨1,[(0,(1,[aI.av bJ]))],[]⟩) (H':=⟨2,[(0,(1,[aI.av ⟨l⟩]))],[]⟩) (g:=[(0,0)]) (m:=[(0,0)]) (nw:=[]) (p:=1) (.func Z Z (gm (W0:=W0) hn).call) (gm hn) .a Z)<|E (r:=sm J x.bR) Z (LP Z Z MW Z)<|V [0,10] Z<|E Z (aX J x.bR Z Z bX)<|E Z (Gb Z Z Z)<|ah ?_;refine dZ _ (Y (aU.ra (fr':=[(0,.ref 0 0 0),(12,bl (decide ((0:Int)<(Sh.len x.bR))))]) (H':=⟨1,[(0,(1,[aI.av ⟨l⟩]))],[]⟩) [(0,0)] []) ?_);refine zz Z (fun Iz=> ?_) (fun Iz=> ?_)
   ·rw[if_pos Iz] at h;cases h
   ·rw[if_neg (by rw[Iz];exact Bool.false_ne_true)] at h;refine aD<|b7 _ (Y (U [0] Z) ?_);have hll:l.length<n:=by rw[hc] at hlen;simp at hlen;omega
    refine az fun K5 ec=> ?_;cases h1:bZ n ⟨l⟩ with
    |none=>
     refine zA (Hp:=⟨2,[(0,(1,[aI.av ⟨[]⟩]))],[]⟩) 1 Z Z Z ?_
     ·refine E (r:=.ref 0 0 0) Z (tX (.inl Z) Z)<|ah ⟨Z, ?_,fun ch hch=> ?_⟩
      ·exact zy (ok:=b6) (ys:=[.ref 0 0 0]) (xs:=[.ref 0 0 0]) (r:=.any) (r':=.any) (Hs:=⟨1,[(0,(1,[aI.av ⟨l⟩]))],[]⟩) (H':=⟨2,[(0,(1,[aI.av ⟨[]⟩]))],[]⟩) (g:=[(0,0)]) (m:=[(0,0)]) (nw:=[]) (p:=1) Z Z (ih ⟨l⟩ hll h1) .a Z
      ·exact⟨⟨ch,Z,hch⟩,aU.ra [(0,0)] []⟩
    |some xK=>
     rw[h1,Option.bind_some] at h;have IB:=tP (W0:=W0) n h1;refine aW Z<|O Z<|E (r:=.tuple [J xK.2.1,J xK.2.2]) Z (bU (ok:=b6) (ys:=[.ref 0 0 0]) (xs:=[.ref 0 0 0]) (r':=.tuple [J xK.2.1,J xK.2.2]) (Hs:=⟨1,[(0,(1,[aI.av ⟨l⟩]))],[]⟩) (H':=⟨2,[(0,(1,[aI.av xK.1]))],[]⟩) (g:=[(0,0)]) (m:=[(0,0)]) (nw:=[]) (p:=1) (.func Z Z IB.call) IB .a Z)<|aB aL 1 [0,13] Z ?_;refine E (r:=J xK.2.1) Z (gn Z Z Z)<|E (r:=J xK.2.2) Z (gn Z Z Z)<|O Z<|O Z<|ah<|ec _ (Y (aU.ra (fr':=[(0,.ref 0 0 0)]) (H':=⟨1,[(0,(1,[aI.av xK.1]))],[]⟩) [(0,0)] []) ?_);refine az fun K6 eE=> ?_;have h2:bZ n xK.1=none:=by
      cases h2:bZ n xK.1 with
      |none=>rfl
      |some r=>rw[h2] at h;cases h
     refine zA (Hp:=⟨2,[(0,(1,[aI.av ⟨[]⟩]))],[]⟩) 1 Z Z Z ?_
     ·refine E (r:=.ref 0 0 0) Z (tX (.inl Z) Z)<|ah ⟨Z, ?_,fun ch hch=> ?_⟩
      ·exact zy (ok:=b6) (ys:=[.ref 0 0 0]) (xs:=[.ref 0 0 0]) (r:=.any) (r':=.any) (Hs:=⟨1,[(0,(1,[aI.av xK.1]))],[]⟩) (H':=⟨2,[(0,(1,[aI.av ⟨[]⟩]))],[]⟩) (g:=[(0,0)]) (m:=[(0,0)]) (nw:=[]) (p:=1) Z Z (ih xK.1 (Nat.lt_trans (T8 _ _ _ h1) hll) h2) .a Z
      ·exact⟨⟨ch,Z,hch⟩,aU.ra [(0,0)] []⟩

def Code.Mn:Option Code→List Oper
 |some (.seq _ (.cond _ (.region _ l _) _))=>l.toList
 |_=>[]
theorem PS:RY Tryz.prog W0 100 (J 0) (J 0) (bl false) where
 call:=oP Tryz.func100 (by kernel_rfl) rfl
 idle v0 v1 v2 w:=by
  refine callsDIn_of_wpSIn Tryz.func100 Z trivial fun c₀ cs hu=> ?_;apply wpSIn_seq;apply wpSIn_region;simp[wpOpsSIn,go_sem,recoverD,hu,Tryz.ntmps100,Exit.thenS];refine wpSIn_cond (t:=false) (by simp[Act.eval,Array.replicate]) ?_;simp only[Bool.false_eq_true,if_false];refine wpSIn_of_wpIn Z (wpIn_skip ?_);cases c₀
  simp_all [bodyPostS,results,Tryz.results100]
 pan ch C v0 v1 v2 i j t hch hI hH hd r0 r1 r2:=by
  obtain⟨u,v,rfl⟩:=hch;refine callsDIn_of_wpSIn Tryz.func100 Z trivial fun c₀ cs hu=> ?_;apply wpSIn_seq;apply wpSIn_region;simp[wpOpsSIn,go_sem,recoverD,hu,Tryz.ntmps100,Exit.thenS];refine wpSIn_cond (t:=true) (by simp[Act.eval,Array.replicate]) ?_;simp only[if_true];refine wpSIn_of_wpIn Z (wpIn_region_lit ?_);have run:AR Tryz.prog (.off W0 3 []) (Code.Mn (Tryz.f100.body)).toArray (Code.Mn (Tryz.f100.body)) [(0,.ref 0 0 0),(1,.ref 1 0 0),(2,.ref 2 0 0)] (va (J i) (J j) (bl t)) (fun _ K=>K=va (J 0) (J 0) (bl false)):=by
   refine E Z (a_ (e':=J 0) Z Z Z Z Z Z sE Z dt Z)<|E Z (a_ (e':=J 0) Z Z Z Z Z Z sE Z dt Z)<|E Z (a_ (e':=bl false) Z Z Z Z Z Z Lu Z dt Z) ?_;exact ah Z
  obtain⟨f0,K0,hrun,rfl⟩:=run;refine BD (N:=5) hrun (fun o ho=>List.all_eq_true.1 Z o ho) C _ _ ⟨hH,hI,by simp,by simp[hd],fun q x hx=> ?_⟩ fun C' a' hE hR=> ?_
  ·simp only[lk] at hx
   split at hx
   ·rename_i hq;subst hq;cases hx;exact r0
   ·split at hx
    ·rename_i hq;subst hq;cases hx;exact r1
    ·split at hx
     ·rename_i hq;subst hq;cases hx;exact r2
     ·cases hx
  ·refine⟨by rw[hR.defers,hE.kq,hd];rfl,_,Z,.tuple #[], ?_,⟨_,Z⟩,Z,C',Z,hE,hR.inv,hR.heap⟩;simp[results,Tryz.results100]

theorem IJ{eG r}(h:wz eG=some r):F1 W0 72 [sm au.av eG] (.tuple [J r.1,J r.2.1,bl r.2.2]):=by
 refine OA (t6:=6) (frx:=[(0,sm au.av eG),(2,.ref 0 0 0),(3,.ref 1 0 0),(4,.ref 2 0 0)]) (z0:=J 0) (z1:=J 0) (z2:=bl false) Tryz.func72 Z (by kernel_rfl) Tryz.ntmps72 (by simp) Z Z Z (by decide) Z Z Z Z Z ?_ Z Z Z (fun ds=> ?_) (PS (W0:=W0)) (by simp)
 ·refine E (r:=.ref 0 0 0) Z (bF 1 [J 0] Z zr3 Z (.inl ⟨Z,Z⟩))<|E (r:=.ref 1 0 0) Z (bF 1 [J 0] Z zr3 Z (.inl ⟨Z,Z⟩))<|E (r:=.ref 2 0 0) Z (bF 1 [bl false] Z zr4 Z (.inl ⟨Z,Z⟩)) ?_;exact ah ⟨⟨Z,Z,Z,Z,trivial⟩,Z⟩
 ·refine sr Z fun K3 dZ=>O Z<|E (r:=.agg [sm au.av eG]) Z (cm Z aaJ Z Z Z)<|E (r:=.ref 3 0 0) Z (bI 1 [.agg [sm au.av eG]] Z Z Z (.inl ⟨Z,Z⟩))<|aG aL dZ 1 [2,3,4,5] Z ?_;refine az fun K4 gB=> ?_;simp only[wz] at h;cases h4:bZ (eG.length+1) (aI.mk eG) with
  |none=>
   rw[h4] at h;cases h;refine zA (Hp:=⟨5,[(0,(1,[J 0])),(1,(1,[J 0])),(2,(1,[bl false])),(3,(1,[aI.av ⟨[]⟩]))],[]⟩) 1 Z Z Z ?_
   ·refine E (r:=.ref 3 0 0) Z (tX (.inl Z) Z)<|ah ⟨Z, ?_,fun ch hch=> ?_⟩
    ·exact zy (ok:=b6) (ys:=[.ref 3 0 0]) (xs:=[.ref 0 0 0]) (r:=.any) (r':=.any) (Hs:=⟨4,[(3,(1,[aI.av ⟨eG⟩]))],[]⟩) (g:=[(0,3)]) (m:=[(0,3)]) (nw:=[]) (p:=1) Z Z (RI _ _ (Nat.lt_succ_self _) h4) .a Z
    ·exact .inr ⟨⟨ch,Z,hch⟩,⟨0,0,false,aU.ra [(0,0),(1,1),(2,2)] []⟩,Z⟩
  |some r4=>
   have NX:=tP (W0:=W0) _ h4;rw[h4] at h;replace h:=Option.some.inj h
   dsimp only at h
   refine aW Z<|O Z<|E (r:=.tuple [J r4.2.1,J r4.2.2]) Z (bU (ok:=b6) (ys:=[.ref 3 0 0]) (xs:=[.ref 0 0 0]) (r':=.tuple [J r4.2.1,J r4.2.2]) (Hs:=⟨4,[(3,(1,[.agg [sm au.av eG]]))],[]⟩) (H':=⟨5,[(0,(1,[J 0])),(1,(1,[J 0])),(2,(1,[bl false])),(3,(1,[aI.av r4.1]))],[]⟩) (g:=[(0,3)]) (m:=[(0,3)]) (nw:=[]) (p:=1) (.func Z Z NX.call) NX .a Z)<|aB aL 1 [2,3,4,5,10] Z ?_;refine E (r:=J r4.2.1) Z (gn Z Z Z)<|E (r:=J r4.2.2) Z (gn Z Z Z)<|E Z (a_ (e':=J r4.2.1) Z Z Z Z Z Z sE Z dt Z)<|V [2,3,4,5,14] Z<|E Z (a_ (e':=J r4.2.2) Z Z Z Z Z Z sE Z dt Z)<|ah<|gB _ (Y (aU.ra (fr':=[(2,.ref 0 0 0),(3,.ref 1 0 0),(4,.ref 2 0 0),(5,.ref 3 0 0)]) (H':=⟨4,[(0,(1,[J r4.2.1])),(1,(1,[J r4.2.2])),(2,(1,[bl false])),(3,(1,[aI.av r4.1]))],[]⟩) [(0,0),(1,1),(2,2),(3,3)] []) ?_);refine az fun K5 ec=> ?_
   by_cases he:(0:Int)<Sh.len r4.1.left
   ·rw[if_pos (decide_eq_true he)] at h;subst h;refine zA (Hp:=⟨5,[(0,(1,[J r4.2.1])),(1,(1,[J r4.2.2])),(2,(1,[bl false])),(3,(1,[aI.av r4.1]))],[]⟩) 1 Z Z Z ?_
    ·refine E (r:=.ref 3 0 0) Z (tX (.inl Z) Z)<|ah ⟨Z, ?_,fun ch hch=> ?_⟩
     ·exact zy (ok:=b6) (ys:=[.ref 3 0 0]) (xs:=[.ref 0 0 0]) (r:=.any) (r':=.any) (Hs:=⟨4,[(3,(1,[aI.av r4.1]))],[]⟩) (g:=[(0,3)]) (m:=[(0,3)]) (nw:=[]) (p:=1) Z Z (XZ he) .a Z
     ·exact .inr ⟨⟨ch,Z,hch⟩,⟨r4.2.1,r4.2.2,false,aU.ra [(0,0),(1,1),(2,2)] []⟩,Z⟩
   ·rw[if_neg (by simpa using he)] at h;subst h;have Wu:rH r4.1=some ():=by unfold rH;rw[if_neg (by simpa using he)]
    refine aW Z<|O Z<|E (r:=.tuple []) Z (bU (ok:=b6) (ys:=[.ref 3 0 0]) (xs:=[.ref 0 0 0]) (r':=.tuple []) (Hs:=⟨4,[(3,(1,[aI.av r4.1]))],[]⟩) (H':=⟨5,[(0,(1,[J r4.2.1])),(1,(1,[J r4.2.2])),(2,(1,[bl false])),(3,(1,[aI.av r4.1]))],[]⟩) (g:=[(0,3)]) (m:=[(0,3)]) (nw:=[]) (p:=1) (.func Z Z (vA (W0:=W0) Wu).call) (vA Wu) .a Z)<|ah<|ec _ (Y (aU.ra (fr':=[(2,.ref 0 0 0),(3,.ref 1 0 0),(4,.ref 2 0 0)]) (H':=⟨3,[(0,(1,[J r4.2.1])),(1,(1,[J r4.2.2])),(2,(1,[bl false]))],[]⟩) [(0,0),(1,1),(2,2)] []) ?_);refine az fun K6 eE=>Ob [] (some 0) (by kernel_rfl) (by kernel_rfl) Z ?_;refine Cj.fork ?_;refine AF.many 0 [1] (by kernel_rfl) ⟨?_, ?_,trivial⟩
    ·refine nF (r:=J r4.2.1) _ Z Z Z (aR Z Z Z Z sE Z) ?_;refine AF.many 1 [2] (by kernel_rfl) ⟨?_, ?_,trivial⟩
     ·refine nF (r:=J r4.2.2) _ Z Z Z (aR Z Z Z Z sE Z) ?_;refine AF.many 2 [] (by kernel_rfl) ⟨?_,trivial⟩
      ·refine nF _ Z Z Z (a_ (e':=J r4.2.1) Z Z Z Z Z Z sE Z dt Z) ?_;refine AF.many 3 [] (by kernel_rfl) ⟨?_,trivial⟩
       ·refine nF _ Z Z Z (a_ (e':=J r4.2.2) Z Z Z Z Z Z sE Z dt Z) ?_;refine AF.many 4 [] (by kernel_rfl) ⟨?_,trivial⟩
        ·refine nF _ Z Z Z (a_ (e':=bl true) Z Z Z Z Z Z Lu Z dt Z) ?_;refine AF.done (by kernel_rfl) ?_;refine eE _ (Y (U [2,3,4] Z) ?_);exact aA<|.inl ⟨.inr Z,J r4.2.1,J r4.2.2,bl true,U [2,3,4] Z,Z⟩
     ·refine nF _ Z Z Z (a_ (e':=J r4.2.1) Z Z Z Z Z Z sE Z dt Z) ?_;refine AF.many 1 [] (by kernel_rfl) ⟨?_,trivial⟩
      ·refine nF (r:=J r4.2.2) _ Z Z Z (aR Z Z Z Z sE Z) ?_;refine AF.many 3 [] (by kernel_rfl) ⟨?_,trivial⟩
       ·refine nF _ Z Z Z (a_ (e':=J r4.2.2) Z Z Z Z Z Z sE Z dt Z) ?_;refine AF.many 4 [] (by kernel_rfl) ⟨?_,trivial⟩
        ·refine nF _ Z Z Z (a_ (e':=bl true) Z Z Z Z Z Z Lu Z dt Z) ?_;refine AF.done (by kernel_rfl) ?_;refine eE _ (Y (U [2,3,4] Z) ?_);exact aA<|.inl ⟨.inr Z,J r4.2.1,J r4.2.2,bl true,U [2,3,4] Z,Z⟩
    ·refine nF (r:=J r4.2.2) _ Z Z Z (aR Z Z Z Z sE Z) ?_;refine AF.many 0 [] (by kernel_rfl) ⟨?_,trivial⟩
     ·refine nF (r:=J r4.2.1) _ Z Z Z (aR Z Z Z Z sE Z) ?_;refine AF.many 2 [] (by kernel_rfl) ⟨?_,trivial⟩
      ·refine nF _ Z Z Z (a_ (e':=J r4.2.1) Z Z Z Z Z Z sE Z dt Z) ?_;refine AF.many 3 [] (by kernel_rfl) ⟨?_,trivial⟩
       ·refine nF _ Z Z Z (a_ (e':=J r4.2.2) Z Z Z Z Z Z sE Z dt Z) ?_;refine AF.many 4 [] (by kernel_rfl) ⟨?_,trivial⟩
        ·refine nF _ Z Z Z (a_ (e':=bl true) Z Z Z Z Z Z Lu Z dt Z) ?_;refine AF.done (by kernel_rfl) ?_;refine eE _ (Y (U [2,3,4] Z) ?_);exact aA<|.inl ⟨.inr Z,J r4.2.1,J r4.2.2,bl true,U [2,3,4] Z,Z⟩


theorem Ko{bJ r}(h:AB bJ=some r):F1 W0 106 [aa.av bJ] (aa.av r):=by
 refine cB Tryz.func106 Tryz.ntmps106 ?_;unfold AB at h;refine sr Z fun K1 eB=>E (r:=.ref 0 0 0) Z (bI 3 [aa.av bJ] Z Z Z (.inl ⟨Z,Z⟩))<|E (r:=.ref 1 0 0) Z (bF 3 [.agg [J 0,J 0,J 0]] Z agb (by kernel_rfl) (.inl ⟨Z,Z⟩))<|ah<|eB _ (Y (aU.ra (fr':=[(1,.pp [J bJ.Key,J bJ.A,J bJ.B] 0),(2,.ref 0 0 0)]) (H':=⟨1,[(0,(3,[.agg [J 0,J 0,J 0]]))],[]⟩) [(0,1)] []) ?_);refine sr Z fun K2 b7=>aB aL 6 [2,4,6,8] Z ?_;refine E (r:=.agg [J bJ.Key,J bJ.B,J bJ.A]) Z (cm Z Oe Z Z Z)<|E Z (a_ (e':=.agg [J bJ.Key,J bJ.B,J bJ.A]) Z Z Z Z Z Z xB Z dt Z)<|mu b7 [2] Z ?_;cases h;exact aA rk


theorem qv{Io oD uN r}(h:lY Io oD uN=some r):F1 W0 136 [J Io,.pp [sm ai.av oD.aC] 0,.pp [J uN.Key,J uN.A,J uN.B] 0] (bl r):=by
 refine cB Tryz.func136 Tryz.ntmps136 ?_;unfold lY at h;refine aM aL 1 [0,1,2] Z ?_;refine az fun K2 b7=>b5 (fl 21 [] []) (by kernel_rfl) (by kernel_rfl) Z ?_;refine aS aL 3 [0,1,2,7] Z ?_;cases OH:(decide ((0:Int)≤Io))
 ·replace h:=b_ h OH;refine aS aL 18 [4] Z ?_;refine bw<|b7 _ (Y (U [4] Z) ?_);cases h;exact aA rk
 ·replace h:=cg h OH;refine aS aL 3 [0,1,2,7,8,10] Z ?_;refine aJ Z (fun _=>aX ai.av oD.aC Z Z fJ)<|aS aL 2 [0,1,2,13] Z ?_;refine bt Z ?_;cases OI:(decide (Io<(Sh.len oD.aC)))
  ·replace h:=b_ h OI;refine aS aL 11 [4] Z ?_;refine bw<|b7 _ (Y (U [4] Z) ?_);cases h;exact aA rk
  ·replace h:=cg h OI;refine aS aL 2 [0,2,14,16] Z ?_;refine bt Z<|Sh.bi h fun x14 k15 aoK apg h=>aJ Z (fun _=>aH ai.av oD.aC aoK apg Z Z Z fJ Z)<|aS aL 4 [14,20,22] Z ?_;refine Sh.bd h fun IF IA h=>aJ (r:=bl IF) Z (fun _=>aK Z Z (by simp) (gR IA))<|aS aL 2 [4] Z ?_;refine bw<|b7 _ (Y (U [4] Z) ?_);cases h;exact aA rk


theorem HI{aQ bL r}(h:uV aQ bL=some r):F1 W0 107 [af.av aQ,aa.av bL] (bl r):=by
 refine cB Tryz.func107 Tryz.ntmps107 ?_;unfold uV at h;refine sr Z fun K1 eB=>E (r:=.ref 0 0 0) Z (bI 1 [af.av aQ] Z Z Z (.inl ⟨Z,Z⟩))<|E (r:=.ref 1 0 0) Z (bI 3 [aa.av bL] Z Z Z (.inl ⟨Z,Z⟩))<|O Z<|ah<|eB _ (Y (aU.eo (fr':=[(2,.pp [sm ai.av aQ.aC] 0),(3,.pp [J bL.Key,J bL.A,J bL.B] 0)])) ?_);refine sr Z fun K2 b7=>E (r:=.bS (.func 136) [.pp [sm ai.av aQ.aC] 0,.pp [J bL.Key,J bL.A,J bL.B] 0]) Z (eR Z Z)<|aG aL b7 1 [3,5] Z ?_;refine sr Z fun K3 dZ=>aB aL 6 [3,5,12] Z ?_;cases M4:(decide (bL.A≠bL.B))
 ·replace h:=b_ h M4;refine aG aL dZ 12 [4] Z ?_;cases h;exact aA rk
 ·replace h:=cg h M4;refine aB aL 3 [3,5,12,13,15] Z ?_;refine Sh.bd h fun Ll OV h=>E (r:=bl Ll) Z (iX (ys:=[J bL.A,.pp [sm ai.av aQ.aC] 0,.pp [J bL.Key,J bL.A,J bL.B] 0]) (xs:=[J bL.A,.pp [sm ai.av aQ.aC] 0,.pp [J bL.Key,J bL.A,J bL.B] 0]) (.bS (ys:=[J bL.A]) (caps:=[.pp [sm ai.av aQ.aC] 0,.pp [J bL.Key,J bL.A,J bL.B] 0]) Z Z Z (qv (W0:=W0) OV).call) (aU.refl _) Z (by simp) (qv OV))<|aB aL 2 [3,5,18] Z ?_;cases OH:(Ll)
  ·replace h:=b_ h OH;refine aG aL dZ 6 [4] Z ?_;cases h;exact aA rk
  ·replace h:=cg h OH;refine aB aL 3 [18,19,21] Z ?_;refine Sh.bd h fun IE Tr h=>E (r:=bl IE) Z (iX (ys:=[J bL.B,.pp [sm ai.av aQ.aC] 0,.pp [J bL.Key,J bL.A,J bL.B] 0]) (xs:=[J bL.B,.pp [sm ai.av aQ.aC] 0,.pp [J bL.Key,J bL.A,J bL.B] 0]) (.bS (ys:=[J bL.B]) (caps:=[.pp [sm ai.av aQ.aC] 0,.pp [J bL.Key,J bL.A,J bL.B] 0]) Z Z Z (qv (W0:=W0) Tr).call) (aU.refl _) Z (by simp) (qv Tr))<|aG aL dZ 2 [4] Z ?_;cases h;exact aA rk


theorem yf{self:af→Int→(List aa)→aI→Option (aI×Bool)}(ih:∀{aQ:af} {bf:Int} {gz:List aa} {ko:aI} {r:aI×Bool},self aQ bf gz ko=some r→F3 (.pinned W0 1) 73 [.ref 0 0 0,af.av aQ,J bf,sm aa.av gz] ⟨1,[(0,(1,[aI.av ko]))],[]⟩ (bl r.2) ⟨1,[(0,(1,[aI.av r.1]))],[]⟩){aQ:af}{bf:Int}{gz:List aa}{ko:aI}{r:aI×Bool}(h:gQ self aQ bf gz ko=some r):F3 (.pinned W0 1) 73 [.ref 0 0 0,af.av aQ,J bf,sm aa.av gz] ⟨1,[(0,(1,[aI.av ko]))],[]⟩ (bl r.2) ⟨1,[(0,(1,[aI.av r.1]))],[]⟩:=by
 refine sJ Tryz.func73 Tryz.ntmps73 ?_;unfold gQ at h;refine sr Z fun K1 eB=>E (r:=.ref 1 0 0) Z (bI 1 [af.av aQ] Z Z Z (.inl ⟨Z,Z⟩))<|O Z<|ah<|eB _ (Y (aU.ra (fr':=[(0,.ref 0 0 0),(2,J bf),(3,sm aa.av gz),(5,.pp [sm ai.av aQ.aC] 0)]) (H':=⟨1,[(0,(1,[aI.av ko]))],[]⟩) [(0,0)] []) ?_);refine sr Z fun K2 b7=>O Z<|Sh.bd h fun zl Ws h=>E (r:=au.av zl.1) Z (bU (ok:=b6) (ys:=[.ref 0 0 0]) (xs:=[.ref 0 0 0]) (r':=au.av zl.1) (Hs:=⟨1,[(0,(1,[aI.av ko]))],[]⟩) (H':=⟨2,[(0,(1,[aI.av zl.2]))],[]⟩) (g:=[(0,0)]) (m:=[(0,0)]) (nw:=[]) (p:=1) (.func Z Z (gm (W0:=W0) Ws).call) (gm Ws) .a Z)<|E (r:=.ref 2 0 0) Z (bF 4 [.agg [J 0,J 0,J 0,aV]] Z RW (by kernel_rfl) (.inl ⟨Z,Z⟩))<|V [0,2,3,5,13,9] Z<|E Z (a_ (e':=au.av zl.1) Z Z Z Z Z Z Kx Z dt Z) ?_;refine ah<|b7 _ (Y (aU.ra (fr':=[(0,.ref 0 0 0),(2,J bf),(3,sm aa.av gz),(5,.pp [sm ai.av aQ.aC] 0),(9,.pp [J zl.1.C.Key,J zl.1.C.A,J zl.1.C.B,sm J zl.1.bR] 0)]) (H':=⟨1,[(0,(1,[aI.av zl.2]))],[]⟩) [(0,0)] []) ?_);refine az fun K3 dZ=>sr Z fun K4 gB=>jc Z MW<|bD (sm J zl.1.bR) Z Z Z jN Z<|E Z (aX J zl.1.bR Z Z bX)<|aG aL gB 1 [0,2,3,5,9,17] Z ?_;refine aT Z h (fun h=> ?_) (fun h=> ?_)
 ·refine sr Z fun K5 ec=>jc Z Jz<|bD (aa.av zl.1.C) Z Z Z xB Z<|E (r:=.agg [J 0,J 0,J 0]) Z (cm Z Oe Z Z Z)<|V [2,3,5,9,19,20] Z<|E (r:=bl (decide (zl.1.C=(aa.mk 0 0 0)))) Z (u_ (a:=zl.1.C) (b:=(aa.mk 0 0 0)) Z Z Z)<|O Z ?_;cases ahu:(decide (zl.1.C=(aa.mk 0 0 0)))
  ·replace h:=b_ h ahu;refine aG aL ec 8 [8] Z ?_;refine aA ?_;obtain rfl:=D h;exact⟨.inr Z,bl false,Z,aU.ra [(0,0)] []⟩
  ·replace h:=cg h ahu;refine bD (af.av aQ) Z Z Z eS Z<|aB aL 3 [22,23,24,25,26] Z ?_;refine bD (sm J zl.1.bR) Z Z Z jN Z<|Sh.bd h fun r50 ad8 h=>E (r:=bl r50) Z (aK Z Z (by simp) (La ad8))<|aG aL ec 2 [8] Z ?_;refine aA ?_;obtain rfl:=D h;exact⟨.inr Z,bl r50,Z,aU.ra [(0,0)] []⟩
 ·refine aD<|dZ _ (Y (U [0,2,3,5,9] Z) ?_);refine sr Z fun K6 eE=>O Z<|Sh.bd h fun r52 apO h=>E (r:=.clip (List.map aa.av r52)) Z (aK Z Z (by simp) (uJ apO))<|aG aL eE 1 [0,2,3,5,9] Z ?_;refine az fun K7 f_=>b5 (fl 10 [] [7,8]) (by kernel_rfl) (by kernel_rfl) Z ?_;refine bt Z<|bQ (af.av aQ) Z Z Z eS Z<|aS aL 1 [0,2,3,5,9,32,33,34] Z ?_;refine bt Z<|qz Z Jz<|bQ (aa.av zl.1.C) Z Z Z xB Z<|bP [0,2,3,5,9,32,33,34,35,37] Z<|aJ (r:=.clip (List.map aa.av ([zl.1.C]:List aa))) Z (fun _=>bu Z (xo:=[.tmp 37]) Z Z Z (by simp) (by simp) vJ Yv (by decide))<|Sh.bd h fun l55 apo h=>dI (r:=sm aa.av l55) Z Z (fV.re (r:=.view 1 0 (List.map aa.av l55).length) (H2:=⟨2,[(0,(1,[aI.av zl.2]))],[]⟩) (Ky aa.av r52 ([zl.1.C]:List aa) l55 apo (by simp) Tf (fun _=>Z) Z Z Z Z Z) [(0,0)] (.Ek Z Z (by simp)) (.cons Z Z (.one (.sm) Z) dt trivial))<|Sh.bd h fun G7 Q1 h=> ?_;refine dI (r:=bl G7.2) Z Z (bU (ok:=b6) (ys:=[.ref 0 0 0,af.av aQ,J bf,sm aa.av l55]) (xs:=[.ref 0 0 0,af.av aQ,J bf,sm aa.av l55]) (r':=bl G7.2) (Hs:=⟨2,[(0,(1,[aI.av zl.2]))],[]⟩) (H':=⟨3,[(0,(1,[aI.av G7.1]))],[]⟩) (g:=[(0,0)]) (m:=[(0,0)]) (nw:=[]) (p:=1) (.func Z Z (ih Q1).call) (ih Q1) .a Z)<|bP [0,2,3,5,9,40] Z<|bt Z<|bw<|f_ _ (Y (aU.ra (fr':=[(0,.ref 0 0 0),(2,J bf),(3,.clip (List.map aa.av r52)),(5,.pp [sm ai.av aQ.aC] 0),(9,.pp [J zl.1.C.Key,J zl.1.C.A,J zl.1.C.B,sm J zl.1.bR] 0),(10,bl G7.2)]) (H':=⟨1,[(0,(1,[aI.av G7.1]))],[]⟩) [(0,0)] []) ?_);refine az fun K8 gd=>b5 (fl 11 [] [8,9]) (by kernel_rfl) (by kernel_rfl) Z ?_;refine bt Z<|bQ (af.av aQ) Z Z Z eS Z<|aS aL 1 [3,5,9,10,41,42,43] Z ?_;refine bt Z<|qz Z Jz<|bQ (aa.av zl.1.C) Z Z Z xB Z<|bP [5,9,10,41,42,43,44,46] Z<|Sh.bd h fun Z8 ad_ h=>aJ (r:=aa.av Z8) Z (fun _=>aK Z Z (by simp) (Ko ad_))<|aJ (r:=.clip (List.map aa.av ([Z8]:List aa))) Z (fun _=>bu Z (xo:=[.tmp 47]) Z Z Z (by simp) (by simp) vJ Yv (by decide))<|Sh.bd h fun l61 apq h=> ?_;refine dI (r:=sm aa.av l61) Z Z (fV.re (r:=.view 1 0 (List.map aa.av l61).length) (H2:=⟨2,[(0,(1,[aI.av G7.1]))],[]⟩) (Ky aa.av r52 ([Z8]:List aa) l61 apq (by simp) Tf (fun _=>Z) Z Z Z Z Z) [(0,0)] (.Ek Z Z (by simp)) (.cons Z Z (.one (.sm) Z) dt trivial))<|bP [5,9,10,41,42,43,49] Z<|Sh.bd h fun XC alx h=>dI (r:=bl XC.2) Z Z (bU (ok:=b6) (ys:=[.ref 0 0 0,af.av aQ,J bf,sm aa.av l61]) (xs:=[.ref 0 0 0,af.av aQ,J bf,sm aa.av l61]) (r':=bl XC.2) (Hs:=⟨2,[(0,(1,[aI.av G7.1]))],[]⟩) (H':=⟨3,[(0,(1,[aI.av XC.1]))],[]⟩) (g:=[(0,0)]) (m:=[(0,0)]) (nw:=[]) (p:=1) (.func Z Z (ih alx).call) (ih alx) .a Z)<|bt Z<|bw<|gd _ (Y (aU.ra (fr':=[(5,.pp [sm ai.av aQ.aC] 0),(9,.pp [J zl.1.C.Key,J zl.1.C.A,J zl.1.C.B,sm J zl.1.bR] 0),(10,bl G7.2),(11,bl XC.2)]) (H':=⟨1,[(0,(1,[aI.av XC.1]))],[]⟩) [(0,0)] []) ?_);refine sr Z fun K9 gU=>O Z<|O Z ?_;cases ON:(G7.2)
  ·replace h:=b_ h ON;refine aG aL gU 9 [8] Z ?_;refine aA ?_;obtain rfl:=D h;exact⟨.inr Z,bl false,Z,aU.ra [(0,0)] []⟩
  ·replace h:=cg h ON;refine aB aL 1 [5,9,52,53] Z ?_;refine O Z<|O Z ?_;cases ahv:(XC.2)
   ·replace h:=b_ h ahv;refine aG aL gU 6 [8] Z ?_;refine aA ?_;obtain rfl:=D h;exact⟨.inr Z,bl false,Z,aU.ra [(0,0)] []⟩
   ·replace h:=cg h ahv;refine bD (af.av aQ) Z Z Z eS Z<|V [9,55,56] Z<|jc Z Jz<|bD (aa.av zl.1.C) Z Z Z xB Z<|Sh.bd h fun r68 apT h=>E (r:=bl r68) Z (aK Z Z (by simp) (HI apT))<|aG aL gU 2 [8] Z ?_;refine aA ?_;obtain rfl:=D h;exact⟨.inr Z,bl r68,Z,aU.ra [(0,0)] []⟩
theorem zW:∀(n:Nat) {aQ:af} {bf:Int} {gz:List aa} {ko:aI} {r:aI×Bool},gI n aQ bf gz ko=some r→F3 (.pinned W0 1) 73 [.ref 0 0 0,af.av aQ,J bf,sm aa.av gz] ⟨1,[(0,(1,[aI.av ko]))],[]⟩ (bl r.2) ⟨1,[(0,(1,[aI.av r.1]))],[]⟩:=by
 intro n
 induction n with
 |zero=>intro _ _ _ _ _ h;cases h
 |succ n ih=>intro _ _ _ _ _ h;exact yf ih h
theorem uW{aQ bf gz ko r}(h:tL aQ bf gz ko=some r):F3 (.pinned W0 1) 73 [.ref 0 0 0,af.av aQ,J bf,sm aa.av gz] ⟨1,[(0,(1,[aI.av ko]))],[]⟩ (bl r.2) ⟨1,[(0,(1,[aI.av r.1]))],[]⟩:=zW _ h


theorem II{aQ bf gz dB r}(h:wv aQ bf gz dB=some r):F1 W0 38 [af.av aQ,J bf,sm aa.av gz,sm au.av dB] (bl r):=by
 refine cB Tryz.func38 Tryz.ntmps38 ?_;unfold wv at h;refine sr Z fun K1 eB=>E (r:=.ref 0 0 0) Z (bI 1 [af.av aQ] Z Z Z (.inl ⟨Z,Z⟩))<|O Z<|ah<|eB _ (Y (aU.eo (fr':=[(1,J bf),(2,sm aa.av gz),(3,sm au.av dB),(4,.pp [sm ai.av aQ.aC] 0)])) ?_);refine az fun K2 b7=>sr Z fun K3 dZ=>O Z<|Sh.bd h fun yd M9 h=>E (r:=.tuple [J yd.1,J yd.2.1,bl yd.2.2]) Z (aK Z Z (by simp) (IJ M9))<|aG aL dZ 7 [1,2,3,4,11] Z ?_;refine aO (fun(p:Bool)=>⟨[(1,J bf),(2,sm aa.av gz),(3,sm au.av dB),(4,.pp [sm ai.av aQ.aC] 0),(32,bl p)],.empty⟩) (fun p=>fZ aQ bf gz dB p=some r) ?_ ?_
 ·rintro v20 h;unfold fZ at h;refine aT Z h (fun h=> ?_) (fun h=> ?_)
  ·refine aM aL 1 [8] Z ?_;cases h;exact aA rk
  ·refine aD<|b7 _ (Y (U [1,2,3,4] Z) ?_);refine sr Z fun K5 ec=>O Z<|E (r:=.agg [sm au.av dB]) Z (cm Z aaJ Z Z Z)<|E (r:=.ref 0 0 0) Z (bI 1 [.agg [sm au.av dB]] Z Z Z (.inl ⟨Z,Z⟩))<|V [1,2,4,35] Z<|bD (af.av aQ) Z Z Z eS Z<|aB aL 2 [35,36,37,38] Z ?_;refine Sh.bd h fun Xx Zw h=>E (r:=bl Xx.2) Z (bU (ok:=b6) (ys:=[.ref 0 0 0,af.av aQ,J bf,sm aa.av gz]) (xs:=[.ref 0 0 0,af.av aQ,J bf,sm aa.av gz]) (r':=bl Xx.2) (Hs:=⟨1,[(0,(1,[.agg [sm au.av dB]]))],[]⟩) (H':=⟨2,[(0,(1,[aI.av Xx.1]))],[]⟩) (g:=[(0,0)]) (m:=[(0,0)]) (nw:=[]) (p:=1) (.func Z Z (uW (W0:=W0) Zw).call) (uW Zw) .a Z)<|O Z<|ah<|ec _ (Y (aU.eo (fr':=[(8,bl Xx.2)])) ?_);cases h;exact aA rk
 ·intro K6 eE;refine aW Z<|aB aL 3 [1,2,3,4,20] Z ?_;cases Vd:(!yd.2.2)
  ·replace h:=b_ h Vd;refine bD (af.av aQ) Z Z Z eS Z<|Sh.bd h fun TV Wq h=>E (r:=bl TV) Z (aK Z Z (by simp) (tF Wq))<|aB aL 1 [1,2,3,4,20,23] Z ?_;refine O Z<|O Z ?_;cases Vf:(!TV)
   ·replace h:=b_ h Vf;refine aB aL 1 [1,2,3,4,25,26] Z ?_;refine E (r:=bl (decide (bf≠0))) Z (IU Z Z Z)<|O Z ?_;cases ahn:(decide (bf≠0))
    ·replace h:=b_ h ahn;refine aB aL 4 [1,2,3,4,32] Z ?_;refine ah ?_;exact eE false _ h (U [1,2,3,4,32] Z)
    ·replace h:=cg h ahn;refine aB aL 4 [1,2,3,4,32] Z ?_;refine ah ?_;exact eE (decide (bf≠1)) _ h (U [1,2,3,4,32] Z)
   ·replace h:=cg h Vf;refine aB aL 7 [1,2,3,4,32] Z ?_;refine ah ?_;exact eE true _ h (U [1,2,3,4,32] Z)
  ·replace h:=cg h Vd;refine aB aL 12 [1,2,3,4,32] Z ?_;refine ah ?_;exact eE true _ h (U [1,2,3,4,32] Z)

end Wk
