/- What the functions compute, as plain functions. -/
import Derived.Test.YtmnmbaehidfebaaGreatDoorBase1
import Derived.Test.YtmnmbaehidfebaaGreatDoorBase2
set_option linter.unusedSimpArgs false
set_option linter.unusedVariables false
section
/- The plain types. -/
open Go Go.Av
namespace G
structure aa where
 Key:Int
 A:Int
 B:Int
 deriving DecidableEq,Inhabited
def aa.av(x:aa):AV:=.agg [i64 x.Key,i64 x.A,i64 x.B]
@[simp] theorem aa.wm(x:aa):dn (aa.av x):=by simp[aa.av]
@[simp] theorem aa.dw(x:aa):AV.dw (aa.av x)=true:=rfl
@[simp] theorem aa.dQ(x:aa):BP (aa.av x):=by simp[aa.av]
@[simp] theorem aa.flat(x:aa):(aa.av x).flat.length=3:=rfl
structure aC where
 Key:Int
 bH:Int
 deriving DecidableEq,Inhabited
def aC.av(x:aC):AV:=.agg [i64 x.Key,i64 x.bH]
@[simp] theorem aC.wm(x:aC):dn (aC.av x):=by simp[aC.av]
@[simp] theorem aC.dw(x:aC):AV.dw (aC.av x)=true:=rfl
@[simp] theorem aC.dQ(x:aC):BP (aC.av x):=by simp[aC.av]
@[simp] theorem aC.flat(x:aC):(aC.av x).flat.length=2:=rfl
structure ai where
 bt:Int
 br:List Int
 Reads:List G.aC
 deriving DecidableEq,Inhabited
def ai.av(x:ai):AV:=.agg [i64 x.bt,.sl (List.map i64 x.br),.sl (List.map G.aC.av x.Reads)]
@[simp] theorem ai.wm(x:ai):dn (ai.av x):=by simp[ai.av]
@[simp] theorem ai.dw(x:ai):AV.dw (ai.av x)=true:=rfl
@[simp] theorem ai.flat(x:ai):(ai.av x).flat.length=3:=rfl
structure ah where
 au:List G.ai
 deriving DecidableEq,Inhabited
def ah.av(x:ah):AV:=.agg [.sl (List.map G.ai.av x.au)]
@[simp] theorem ah.wm(x:ah):dn (ah.av x):=by simp[ah.av]
@[simp] theorem ah.dw(x:ah):AV.dw (ah.av x)=true:=rfl
@[simp] theorem ah.flat(x:ah):(ah.av x).flat.length=1:=rfl
structure bK where
 deriving DecidableEq,Inhabited
def bK.av(x:bK):AV:=.agg []
@[simp] theorem bK.wm(x:bK):dn (bK.av x):=by simp[bK.av]
@[simp] theorem bK.dw(x:bK):AV.dw (bK.av x)=true:=rfl
@[simp] theorem bK.dQ(x:bK):BP (bK.av x):=by simp[bK.av]
@[simp] theorem bK.flat(x:bK):(bK.av x).flat.length=0:=rfl
structure bn where
 deriving DecidableEq,Inhabited
def bn.av(x:bn):AV:=.agg []
@[simp] theorem bn.wm(x:bn):dn (bn.av x):=by simp[bn.av]
@[simp] theorem bn.dw(x:bn):AV.dw (bn.av x)=true:=rfl
@[simp] theorem bn.dQ(x:bn):BP (bn.av x):=by simp[bn.av]
@[simp] theorem bn.flat(x:bn):(bn.av x).flat.length=0:=rfl
structure az where
 C:G.aa
 Kind:Int
 I:Int
 J:Int
 bI:List Int
 deriving DecidableEq,Inhabited
def az.av(x:az):AV:=.agg [i64 x.C.Key,i64 x.C.A,i64 x.C.B,i64 x.Kind,i64 x.I,i64 x.J,.sl (List.map i64 x.bI)]
@[simp] theorem az.wm(x:az):dn (az.av x):=by simp[az.av]
@[simp] theorem az.dw(x:az):AV.dw (az.av x)=true:=rfl
@[simp] theorem az.flat(x:az):(az.av x).flat.length=7:=rfl
structure bC where
 h:G.ah
 level:Int
 l:List G.az
 f:G.az
 deriving DecidableEq,Inhabited
def bC.av(x:bC):AV:=.agg [.sl (List.map G.ai.av x.h.au),i64 x.level,.sl (List.map G.az.av x.l),i64 x.f.C.Key,i64 x.f.C.A,i64 x.f.C.B,i64 x.f.Kind,i64 x.f.I,i64 x.f.J,.sl (List.map i64 x.f.bI)]
@[simp] theorem bC.wm(x:bC):dn (bC.av x):=by simp[bC.av]
@[simp] theorem bC.dw(x:bC):AV.dw (bC.av x)=true:=rfl
@[simp] theorem bC.flat(x:bC):(bC.av x).flat.length=10:=rfl
structure aY where
 A:Int
 B:Int
 deriving DecidableEq,Inhabited
def aY.av(x:aY):AV:=.agg [i64 x.A,i64 x.B]
@[simp] theorem aY.wm(x:aY):dn (aY.av x):=by simp[aY.av]
@[simp] theorem aY.dw(x:aY):AV.dw (aY.av x)=true:=rfl
@[simp] theorem aY.dQ(x:aY):BP (aY.av x):=by simp[aY.av]
@[simp] theorem aY.flat(x:aY):(aY.av x).flat.length=2:=rfl
structure af where
 N:Int
 Rows:List (BitVec 64)
 deriving DecidableEq,Inhabited
def af.av(x:af):AV:=.agg [i64 x.N,.sl (List.map u64 x.Rows)]
@[simp] theorem af.wm(x:af):dn (af.av x):=by simp[af.av]
@[simp] theorem af.dw(x:af):AV.dw (af.av x)=true:=rfl
@[simp] theorem af.flat(x:af):(af.av x).flat.length=2:=rfl
structure dD where
 t:Int
 Take:G.aC
 deriving DecidableEq,Inhabited
def dD.av(x:dD):AV:=.agg [i64 x.t,i64 x.Take.Key,i64 x.Take.bH]
@[simp] theorem dD.wm(x:dD):dn (dD.av x):=by simp[dD.av]
@[simp] theorem dD.dw(x:dD):AV.dw (dD.av x)=true:=rfl
@[simp] theorem dD.dQ(x:dD):BP (dD.av x):=by simp[dD.av]
@[simp] theorem dD.flat(x:dD):(dD.av x).flat.length=3:=rfl
structure aB where
 C:G.aa
 bI:List Int
 deriving DecidableEq,Inhabited
def aB.av(x:aB):AV:=.agg [i64 x.C.Key,i64 x.C.A,i64 x.C.B,.sl (List.map i64 x.bI)]
@[simp] theorem aB.wm(x:aB):dn (aB.av x):=by simp[aB.av]
@[simp] theorem aB.dw(x:aB):AV.dw (aB.av x)=true:=rfl
@[simp] theorem aB.flat(x:aB):(aB.av x).flat.length=4:=rfl
structure bz where
 H:G.ah
 Level:Int
 L:List G.az
 Tree:List G.aB
 deriving DecidableEq,Inhabited
def bz.av(x:bz):AV:=.agg [.sl (List.map G.ai.av x.H.au),i64 x.Level,.sl (List.map G.az.av x.L),.sl (List.map G.aB.av x.Tree)]
@[simp] theorem bz.wm(x:bz):dn (bz.av x):=by simp[bz.av]
@[simp] theorem bz.dw(x:bz):AV.dw (bz.av x)=true:=rfl
@[simp] theorem bz.flat(x:bz):(bz.av x).flat.length=4:=rfl
structure ak where
 N:Int
 Rows:List (BitVec 64)
 deriving DecidableEq,Inhabited
def ak.av(x:ak):AV:=.agg [i64 x.N,.sl (List.map u64 x.Rows)]
@[simp] theorem ak.wm(x:ak):dn (ak.av x):=by simp[ak.av]
@[simp] theorem ak.dw(x:ak):AV.dw (ak.av x)=true:=rfl
@[simp] theorem ak.flat(x:ak):(ak.av x).flat.length=2:=rfl
structure aA where
 C:G.aa
 Kind:Int
 I:Int
 J:Int
 bI:List Int
 deriving DecidableEq,Inhabited
def aA.av(x:aA):AV:=.agg [i64 x.C.Key,i64 x.C.A,i64 x.C.B,i64 x.Kind,i64 x.I,i64 x.J,.sl (List.map i64 x.bI)]
@[simp] theorem aA.wm(x:aA):dn (aA.av x):=by simp[aA.av]
@[simp] theorem aA.dw(x:aA):AV.dw (aA.av x)=true:=rfl
@[simp] theorem aA.flat(x:aA):(aA.av x).flat.length=7:=rfl
structure aq where
 C:G.aa
 bI:List Int
 deriving DecidableEq,Inhabited
def aq.av(x:aq):AV:=.agg [i64 x.C.Key,i64 x.C.A,i64 x.C.B,.sl (List.map i64 x.bI)]
@[simp] theorem aq.wm(x:aq):dn (aq.av x):=by simp[aq.av]
@[simp] theorem aq.dw(x:aq):AV.dw (aq.av x)=true:=rfl
@[simp] theorem aq.flat(x:aq):(aq.av x).flat.length=4:=rfl
end G
end

section
/- What the functions of a package compute, as plain functions. -/
open Go Go.Av
set_option linter.unusedVariables false
namespace G
end G
end

section
/- What the functions of a package compute, as plain functions. -/
open Go Go.Av
set_option linter.unusedVariables false
namespace G
def jl:Option (Int):=
 some (-1)

def f_(cC:List Int)(jw:Int)(v22:Int):Option ((Int)⊕(Int)):=
 if decide (v22<(Sh.len cC)) then
  (Sh.idx cC v22).bind fun Ct=>
  if decide (jw=Ct) then
   Sh.exit (some v22)
  else
   Sh.next (fL (v22+1))
 else
  Sh.exit (G.jl)

def jk(cC:List Int)(jw:Int):Option (Int):=
 Sh.loop (fun(p:Int)=>G.f_ cC jw p) 0

def cM(cC:List Int)(jw:Int):Option (Bool):=
 (G.jk cC jw).bind fun r3=>
 some (decide ((0:Int)≤r3))

def ek:Option (Int):=
 some (-1)

def dr(cC:List G.aC)(jw:G.aC)(v22:Int):Option ((Int)⊕(Int)):=
 if decide (v22<(Sh.len cC)) then
  (Sh.idx cC v22).bind fun Ct=>
  if decide (jw=Ct) then
   Sh.exit (some v22)
  else
   Sh.next (fL (v22+1))
 else
  Sh.exit (G.ek)

def e7(cC:List G.aC)(jw:G.aC):Option (Int):=
 Sh.loop (fun(p:Int)=>G.dr cC jw p) 0

def c4(cC:List G.aC)(jw:G.aC):Option (Bool):=
 (G.e7 cC jw).bind fun r3=>
 some (decide ((0:Int)≤r3))

def dI:Option (Int):=
 some (-1)

def c7(cC:List G.aa)(jw:G.aa)(v22:Int):Option ((Int)⊕(Int)):=
 if decide (v22<(Sh.len cC)) then
  (Sh.idx cC v22).bind fun Ct=>
  if decide (jw=Ct) then
   Sh.exit (some v22)
  else
   Sh.next (fL (v22+1))
 else
  Sh.exit (G.dI)

def eo(cC:List G.aa)(jw:G.aa):Option (Int):=
 Sh.loop (fun(p:Int)=>G.c7 cC jw p) 0

def c6(cC:List G.aa)(jw:G.aa):Option (Bool):=
 (G.eo cC jw).bind fun r3=>
 some (decide ((0:Int)≤r3))

end G
end

section
/- What the functions of a package compute, as plain functions. -/
open Go Go.Av
set_option linter.unusedVariables false
namespace G
def wC(aK:G.ah):Option (Unit):=
 some ()

def ir(lY:Bool)(y_1:Bool):Option (Bool×Bool):=
 if !y_1 then
  some (false,false)
 else
  some (lY,true)

def dK(gC:Int)(XD:Bool):Option ((Bool×Int)⊕(Bool×Bool)):=
 Sh.next (XD,fL (gC+1))

def cF(gC:Int)(cB:G.ai)(PL:Bool):Option ((Bool×Int)⊕(Bool×Bool)):=
 if decide ((0:Int)≤cB.bt) then
  (G.ir PL (decide (cB.bt<8))).bind fun G1=>
  if G1.2 then
   G.dK gC G1.1
  else
   Sh.exit (some (G1.1,false))
 else
  (G.ir PL false).bind fun G2=>
  if G2.2 then
   G.dK gC G2.1
  else
   Sh.exit (some (G2.1,false))

def de(tu:Int)(fS:G.aC)(XE:Bool):Option ((Bool×Int×Int)⊕((Bool×Int)⊕(Bool×Bool))):=
 Sh.next (XE,fS.Key,fL (tu+1))

def cj(xu:Bool)(qq:Int)(tu:Int)(fS:G.aC)(vV:Bool):Option ((Bool×Int×Int)⊕((Bool×Int)⊕(Bool×Bool))):=
 if decide (qq<fS.Key) then
  if decide (fS.Key<16) then
   (G.ir xu vV).bind fun G3=>
   if G3.2 then
    G.de tu fS G3.1
   else
    Sh.exit (Sh.exit (some (G3.1,false)))
  else
   (G.ir xu false).bind fun G4=>
   if G4.2 then
    G.de tu fS G4.1
   else
    Sh.exit (Sh.exit (some (G4.1,false)))
 else
  (G.ir xu false).bind fun G5=>
  if G5.2 then
   G.de tu fS G5.1
  else
   Sh.exit (Sh.exit (some (G5.1,false)))

def dJ(cK:G.ah)(gC:Int)(cB:G.ai)(xu:Bool)(qq:Int)(tu:Int):Option ((Bool×Int×Int)⊕((Bool×Int)⊕(Bool×Bool))):=
 if decide (tu<(Sh.len cB.Reads)) then
  (Sh.idx cB.Reads tu).bind fun fS=>
  if decide (fS.bH=(-1)) then
   G.cj xu qq tu fS true
  else
   if decide ((0:Int)≤fS.bH) then
    if decide (fS.bH<(Sh.len cK.au)) then
     if decide (fS.bH≠gC) then
      (Sh.idx cK.au fS.bH).bind fun T6=>
      (G.cM T6.br fS.Key).bind fun Pu=>
      G.cj xu qq tu fS Pu
     else
      G.cj xu qq tu fS false
    else
     G.cj xu qq tu fS false
   else
    G.cj xu qq tu fS false
 else
  Sh.exit (G.cF gC cB xu)

def cE(cK:G.ah)(gC:Int)(cB:G.ai)(Z4:Bool):Option ((Bool×Int)⊕(Bool×Bool)):=
 Sh.loop (fun(p:Bool×Int×Int)=>G.dJ cK gC cB p.1 p.2.1 p.2.2) (Z4,(-1),0)

def dM(Cq:Int)(wv:Int)(XF:Bool):Option ((Bool×Int×Int)⊕((Bool×Int)⊕(Bool×Bool))):=
 Sh.next (XF,wv,fL (Cq+1))

def dc(cK:G.ah)(gC:Int)(cB:G.ai)(Ks:Bool)(EW:Int)(Cq:Int):Option ((Bool×Int×Int)⊕((Bool×Int)⊕(Bool×Bool))):=
 if decide (Cq<(Sh.len cB.br)) then
  (Sh.idx cB.br Cq).bind fun wv=>
  if decide (EW<wv) then
   (G.ir Ks (decide (wv<16))).bind fun G6=>
   if G6.2 then
    G.dM Cq wv G6.1
   else
    Sh.exit (Sh.exit (some (G6.1,false)))
  else
   (G.ir Ks false).bind fun G7=>
   if G7.2 then
    G.dM Cq wv G7.1
   else
    Sh.exit (Sh.exit (some (G7.1,false)))
 else
  Sh.exit (G.cE cK gC cB Ks)

def c_(cK:G.ah)(Qu:Bool)(gC:Int):Option ((Bool×Int)⊕(Bool×Bool)):=
 if decide (gC<(Sh.len cK.au)) then
  (Sh.idx cK.au gC).bind fun cB=>
  Sh.loop (fun(p:Bool×Int×Int)=>G.dc cK gC cB p.1 p.2.1 p.2.2) (Qu,(-1),0)
 else
  Sh.exit (some (Qu,true))

def iy(lY:Bool)(cK:G.ah):Option (Bool×Bool):=
 (G.ir lY (decide ((Sh.len cK.au)≤32))).bind fun HT=>
 if HT.2 then
  Sh.loop (fun(p:Bool×Int)=>G.c_ cK p.1 p.2) (HT.1,0)
 else
  some (HT.1,false)

def iD(aK:G.ah):Option (Bool):=
 (G.wC aK).bind fun r8=>
 (G.iy false aK).bind fun HD=>
 if HD.2 then
  some true
 else
  some HD.1
end G
end

section
/- What the functions of a package compute, as plain functions. -/
open Go Go.Av
set_option linter.unusedVariables false
namespace G
def mU:Option (Bool):=
 some true

def j5(i55:Int)(v68:Bool):Option ((Int)⊕(Bool)):=
 if v68 then
  Sh.exit (some false)
 else
  Sh.next (fL (i55+1))

def j4(aK:G.ah)(i55:Int):Option ((Int)⊕(Bool)):=
 if decide (i55<(Sh.len aK.au)) then
  (Sh.idx aK.au i55).bind fun T5=>
  if decide ((20:Int)<(Sh.len T5.br)) then
   G.j5 i55 true
  else
   (Sh.idx aK.au i55).bind fun x73=>
   G.j5 i55 (decide ((20:Int)<(Sh.len x73.Reads)))
 else
  Sh.exit (G.mU)

def nB(aK:G.ah)(yH:Int):Option (Bool):=
 if decide (yH<(Sh.len aK.au)) then
  some false
 else
  Sh.loop (fun(p:Int)=>G.j4 aK p) 0

def jI:Option (Bool):=
 some false

def gG(uZ:G.ai)(dy:Int)(i22:Int):Option ((Int)⊕(Bool)):=
 if decide (i22<(Sh.len uZ.br)) then
  (Sh.idx uZ.br i22).bind fun Ct=>
  if decide (Ct=dy) then
   Sh.exit (some true)
  else
   Sh.next (fL (i22+1))
 else
  Sh.exit (G.jI)

def eg(uZ:G.ai)(dy:Int):Option (Bool):=
 Sh.loop (fun(p:Int)=>G.gG uZ dy p) 0

def mV:Option (Bool):=
 some true

def gU(i195:Int):Option ((Int)⊕(Bool)):=
 Sh.next (fL (i195+1))

def cq(aK:G.ah)(i195:Int)(jx:G.aC)(ZP:Bool):Option ((Int)⊕(Bool)):=
 if ZP then
  Sh.exit (some false)
 else
  if decide (jx.bH<0) then
   G.gU i195
  else
   (Sh.idx aK.au jx.bH).bind fun sO=>
   (G.eg sO jx.Key).bind fun Vl=>
   if !Vl then
    Sh.exit (some false)
   else
    G.gU i195

def j6(aK:G.ah)(xN:Int)(pY:G.ai)(i195:Int):Option ((Int)⊕(Bool)):=
 if decide (i195<(Sh.len pY.Reads)) then
  (Sh.idx pY.Reads i195).bind fun jx=>
  if decide (jx.Key<0) then
   G.cq aK i195 jx true
  else
   if decide ((15:Int)<jx.Key) then
    G.cq aK i195 jx true
   else
    if decide ((0:Int)<i195) then
     (Sh.idx pY.Reads (fL (i195 - 1))).bind fun V2=>
     if decide (jx.Key≤V2.Key) then
      G.cq aK i195 jx true
     else
      if decide (jx.bH<(-1)) then
       G.cq aK i195 jx true
      else
       if decide ((Sh.len aK.au)≤jx.bH) then
        G.cq aK i195 jx true
       else
        G.cq aK i195 jx (decide (jx.bH=xN))
    else
     if decide (jx.bH<(-1)) then
      G.cq aK i195 jx true
     else
      if decide ((Sh.len aK.au)≤jx.bH) then
       G.cq aK i195 jx true
      else
       G.cq aK i195 jx (decide (jx.bH=xN))
 else
  Sh.exit (G.mV)

def j8(aK:G.ah)(xN:Int)(pY:G.ai):Option (Bool):=
 Sh.loop (fun(p:Int)=>G.j6 aK xN pY p) 0

def eT(zp:Int)(ZR:Bool):Option ((Int)⊕(Bool)):=
 if ZR then
  Sh.exit (some false)
 else
  Sh.next (fL (zp+1))

def fI(aK:G.ah)(xN:Int)(pY:G.ai)(zp:Int):Option ((Int)⊕(Bool)):=
 if decide (zp<(Sh.len pY.br)) then
  (Sh.idx pY.br zp).bind fun V3=>
  if decide (V3<0) then
   G.eT zp true
  else
   (Sh.idx pY.br zp).bind fun V4=>
   if decide ((15:Int)<V4) then
    G.eT zp true
   else
    if decide ((0:Int)<zp) then
     (Sh.idx pY.br (fL (zp - 1))).bind fun V5=>
     (Sh.idx pY.br zp).bind fun V6=>
     G.eT zp (decide (V6≤V5))
    else
     G.eT zp false
 else
  Sh.exit (G.j8 aK xN pY)

def j7(aK:G.ah)(xN:Int)(pY:G.ai)(Cr:Bool):Option (Bool):=
 if Cr then
  some false
 else
  Sh.loop (fun(p:Int)=>G.fI aK xN pY p) 0

def nC(aK:G.ah)(xN:Int):Option (Bool):=
 (Sh.idx aK.au xN).bind fun pY=>
 if decide (pY.bt<0) then
  G.j7 aK xN pY true
 else
  G.j7 aK xN pY (decide ((7:Int)<pY.bt))

def kG:Option (Bool):=
 some true

def fN(aK:G.ah)(n15:Int):Option ((Int)⊕(Bool)):=
 if decide (n15<(Sh.len aK.au)) then
  (G.nC aK n15).bind fun vi=>
  if !vi then
   Sh.exit (some false)
  else
   Sh.next (fL (n15+1))
 else
  Sh.exit (G.kG)

def c5(aK:G.ah):Option (Bool):=
 if decide ((32:Int)<(Sh.len aK.au)) then
  some false
 else
  Sh.loop (fun(p:Int)=>G.fN aK p) 0
end G
end

section
/- What the functions of a package compute, as plain functions. -/
open Go Go.Av
set_option linter.unusedVariables false
namespace G
def oa(bg:G.bn)(tK:G.ah)(gE:Int)(ey:Int):Option (Bool):=
 if decide (gE<ey) then
  (Sh.idx tK.au gE).bind fun x13=>
  (Sh.idx tK.au ey).bind fun x15=>
  some (decide (x13.bt=x15.bt))
 else
  some false

def gO(w9:G.bn)(eO:G.ah)(jB:Int)(qg:Int):Option (Bool):=
 (G.oa w9 eO jB qg).bind fun r3=>
 some r3

def oC(vj:G.aC)(eO:Int):Option (Bool):=
 some (decide (vj.bH=eO))

def cw:Option (Int):=
 some (-1)

def bW(cC:List G.aC)(cL:Int)(v30:Int):Option ((Int)⊕(Int)):=
 if decide (v30<(Sh.len cC)) then
  (Sh.idx cC v30).bind fun D4=>
  (G.oC D4 cL).bind fun wo=>
  if wo then
   Sh.exit (some v30)
  else
   Sh.next (fL (v30+1))
 else
  Sh.exit (G.cw)

def cH(cC:List G.aC)(cL:Int):Option (Int):=
 Sh.loop (fun(p:Int)=>G.bW cC cL p) 0

def cu(cC:List G.aC)(cL:Int):Option (Bool):=
 (G.cH cC cL).bind fun r3=>
 some (decide ((0:Int)≤r3))

def qW(bg:G.bK)(tK:G.ah)(gE:Int)(ey:Int):Option (Bool):=
 (Sh.idx tK.au ey).bind fun x7=>
 (G.cu x7.Reads gE).bind fun r9=>
 some r9

def jG(w9:G.bK)(eO:G.ah)(jB:Int)(qg:Int):Option (Bool):=
 (G.qW w9 eO jB qg).bind fun r3=>
 some r3

def pn(aK:G.ah)(Cw:Int)(nk:Int):Option (Bool):=
 (Sh.idx aK.au Cw).bind fun x7=>
 (G.cM x7.br nk).bind fun r9=>
 some r9

def iJ(lY:G.aa)(eO:Int)(jB:Int)(qg:G.ah):Option (Bool):=
 if decide (lY.A=eO) then
  if decide (lY.B=jB) then
   if decide (eO≠jB) then
    (G.pn qg eO lY.Key).bind fun AK=>
    if AK then
     (G.pn qg jB lY.Key).bind fun vi=>
     some vi
    else
     some false
   else
    some false
  else
   some false
 else
  some false

def bU:Option (Int):=
 some (-1)

def bM(cC:List G.aa)(cL:Int)(qu:Int)(bG:G.ah)(v30:Int):Option ((Int)⊕(Int)):=
 if decide (v30<(Sh.len cC)) then
  (Sh.idx cC v30).bind fun D4=>
  (G.iJ D4 cL qu bG).bind fun wo=>
  if wo then
   Sh.exit (some v30)
  else
   Sh.next (fL (v30+1))
 else
  Sh.exit (G.bU)

def bZ(cC:List G.aa)(cL:Int)(qu:Int)(bG:G.ah):Option (Int):=
 Sh.loop (fun(p:Int)=>G.bM cC cL qu bG p) 0

def bT(cC:List G.aa)(cL:Int)(qu:Int)(bG:G.ah):Option (Bool):=
 (G.bZ cC cL qu bG).bind fun r3=>
 some (decide ((0:Int)≤r3))

def oc(eB:List G.aa)(tK:G.ah)(gE:Int)(ey:Int):Option (Bool):=
 (G.bT eB gE ey tK).bind fun r3=>
 some r3

def gP(w9:List G.aa)(eO:G.ah)(jB:Int)(qg:Int):Option (Bool):=
 (G.oc w9 eO jB qg).bind fun r3=>
 some r3

def cc:Option (Int):=
 some (-1)

def cn(cC:G.bn)(HM:G.bK)(HN:List G.aa)(bG:G.ah)(Dl:Int)(Dm:Int):Option (Int):=
 (G.gO cC bG Dl Dm).bind fun Ei=>
 if Ei then
  some 0
 else
  (G.jG HM bG Dl Dm).bind fun xY=>
  if xY then
   some 1
  else
   (G.gP HN bG Dl Dm).bind fun JS=>
   if JS then
    some 2
   else
    G.cc

def b8(cC:G.bn)(HM:G.bK)(HN:List G.aa)(bG:G.ah)(Dl:Int)(Dm:Int):Option (Bool):=
 (G.cn cC HM HN bG Dl Dm).bind fun r3=>
 some (decide ((0:Int)≤r3))

def iC(aK:G.ah)(pQ:Int)(pR:Int)(eA:G.bn)(oG:G.bK)(oH:List G.aa)(NA:Bool):Option (Bool):=
 if NA then
  some false
 else
  (G.b8 eA oG oH aK pQ pR).bind fun xY=>
  some xY

def pV(aK:G.ah)(pQ:Int)(pR:Int)(eA:G.bn)(oG:G.bK)(oH:List G.aa):Option (Bool):=
 (G.iD aK).bind fun AK=>
 if !AK then
  G.iC aK pQ pR eA oG oH true
 else
  if decide ((Sh.min pQ pR)<0) then
   G.iC aK pQ pR eA oG oH true
  else
   G.iC aK pQ pR eA oG oH (decide ((Sh.len aK.au)≤(Sh.max pQ pR)))

def oB(aK:G.ah)(cW:List G.aa)(gE:Int)(ey:Int):Option (Bool):=
 (G.pV aK gE ey G.bn.mk G.bK.mk cW).bind fun r3=>
 some r3

def mB(vj:G.aC)(eO:G.ah)(jB:Int)(qg:List G.aa):Option (Bool):=
 (G.pn eO jB vj.Key).bind fun Ei=>
 if Ei then
  if decide (vj.bH<0) then
   some true
  else
   if decide (vj.bH≠jB) then
    (G.c6 qg (G.aa.mk vj.Key vj.bH jB)).bind fun xY=>
    some xY
   else
    some false
 else
  some false

def cv:Option (Int):=
 some (-1)

def bV(cC:List G.aC)(cL:G.ah)(qu:Int)(bG:List G.aa)(v30:Int):Option ((Int)⊕(Int)):=
 if decide (v30<(Sh.len cC)) then
  (Sh.idx cC v30).bind fun D4=>
  (G.mB D4 cL qu bG).bind fun wo=>
  if wo then
   Sh.exit (some v30)
  else
   Sh.next (fL (v30+1))
 else
  Sh.exit (G.cv)

def cG(cC:List G.aC)(cL:G.ah)(qu:Int)(bG:List G.aa):Option (Int):=
 Sh.loop (fun(p:Int)=>G.bV cC cL qu bG p) 0

def ct(cC:List G.aC)(cL:G.ah)(qu:Int)(bG:List G.aa):Option (Bool):=
 (G.cG cC cL qu bG).bind fun r3=>
 some (decide ((0:Int)≤r3))

def qV(eB:List G.aa)(tK:G.ah)(gE:Int)(ey:Int):Option (Bool):=
 if decide (gE≠ey) then
  (Sh.idx tK.au gE).bind fun x11=>
  (G.ct x11.Reads tK ey eB).bind fun xX=>
  some xX
 else
  some false

def jF(w9:List G.aa)(eO:G.ah)(jB:Int)(qg:Int):Option (Bool):=
 (G.qV w9 eO jB qg).bind fun r3=>
 some r3

def b_:Option (Int):=
 some (-1)

def cm(cC:List G.aa)(cL:G.ah)(qu:Int)(bG:Int):Option (Int):=
 (G.jF cC cL qu bG).bind fun r6=>
 if r6 then
  some 0
 else
  G.b_

def b7(cC:List G.aa)(cL:G.ah)(qu:Int)(bG:Int):Option (Bool):=
 (G.cm cC cL qu bG).bind fun r3=>
 some (decide ((0:Int)≤r3))

def iB(aK:G.ah)(pQ:Int)(pR:Int)(eA:List G.aa)(NA:Bool):Option (Bool):=
 if NA then
  some false
 else
  (G.b7 eA aK pQ pR).bind fun xY=>
  some xY

def pU(aK:G.ah)(pQ:Int)(pR:Int)(eA:List G.aa):Option (Bool):=
 (G.iD aK).bind fun AK=>
 if !AK then
  G.iB aK pQ pR eA true
 else
  if decide ((Sh.min pQ pR)<0) then
   G.iB aK pQ pR eA true
  else
   G.iB aK pQ pR eA (decide ((Sh.len aK.au)≤(Sh.max pQ pR)))

def tE(aK:G.ah)(cW:List G.aa)(gE:Int)(ey:Int):Option (Bool):=
 (G.pU aK gE ey cW).bind fun r3=>
 some r3

def r_:Option (Bool):=
 some false

def sg(Mq:Int)(v73:Bool):Option ((Int)⊕(Bool)):=
 if v73 then
  Sh.exit (some true)
 else
  Sh.next (fL (Mq+1))

def tG(aK:G.ah)(bL:List G.aa)(xT:Int)(wO:Int)(Mq:Int):Option ((Int)⊕(Bool)):=
 if decide (Mq<(Sh.len aK.au)) then
  (G.oB aK bL xT Mq).bind fun r75=>
  if r75 then
   if decide (Mq=wO) then
    G.sg Mq true
   else
    (G.tE aK bL Mq wO).bind fun Vu=>
    G.sg Mq Vu
  else
   G.sg Mq false
 else
  Sh.exit (G.r_)

def A5(aK:G.ah)(aE:Int)(bL:List G.aa)(xT:Int)(wO:Int):Option (Bool):=
 if decide (aE=0) then
  (G.oB aK bL xT wO).bind fun Vs=>
  if Vs then
   some true
  else
   (G.tE aK bL xT wO).bind fun Nn=>
   some Nn
 else
  if decide (aE=1) then
   Sh.loop (fun(p:Int)=>G.tG aK bL xT wO p) 0
  else
   G.r_

def rM(cY:List Int):Option (Bool):=
 some (decide ((0:Int)<(Sh.len cY)))

def oK(PM:Int)(ZK:Bool):Option ((Int)⊕(Bool)):=
 if ZK then
  Sh.exit (some false)
 else
  Sh.next (fL (PM+1))

def p_(aK:G.ah)(aE:Int)(bL:List G.aa)(cY:List Int)(PM:Int):Option ((Int)⊕(Bool)):=
 if decide (PM<(Sh.len cY)) then
  (Sh.idx cY PM).bind fun VU=>
  (Sh.sub cY 0 PM).bind fun E5=>
  (G.cM E5 VU).bind fun Ve=>
  if Ve then
   G.oK PM true
  else
   (Sh.rem (fL (PM+1)) (Sh.len cY)).bind fun Zm=>
   (Sh.idx cY Zm).bind fun Z9=>
   (G.A5 aK aE bL VU Z9).bind fun Tk=>
   G.oK PM (!Tk)
 else
  Sh.exit (G.rM cY)

def tF(aK:G.ah)(aE:Int)(bL:List G.aa)(cY:List Int):Option (Bool):=
 Sh.loop (fun(p:Int)=>G.p_ aK aE bL cY p) 0
end G
end

section
/- What the functions of a package compute, as plain functions. -/
open Go Go.Av
set_option linter.unusedVariables false
namespace G
def iI(jy:BitVec 64):Option (Int):=
 if decide (jy=0#64) then
  some 64
 else
  (Sh.shr ((jy&&&(-jy))*285870213051353865#64) ((58#64).toNat:Int)).bind fun s8=>
  (Sh.idx Sh.Nw ((s8).toNat:Int)).bind fun x9=>
  some (fL x9)
end G
end

section
/- What the functions of a package compute, as plain functions. -/
open Go Go.Av
set_option linter.unusedVariables false
namespace G
def sQ(CU:BitVec 64):Option ((BitVec 64)):=
 some CU

def qN(eB:List (BitVec 64))(GD:BitVec 64)(VN:Int):Option (((BitVec 64)×Int)⊕((BitVec 64))):=
 if decide (VN<(Sh.len eB)) then
  (Sh.idx eB VN).bind fun x35=>
  Sh.next (GD|||x35,fL (VN+1))
 else
  Sh.exit (G.sQ GD)

def nt(eB:List (BitVec 64)):Option ((BitVec 64)):=
 Sh.loop (fun(p:(BitVec 64)×Int)=>G.qN eB p.1 p.2) (0#64,0)

def vq(bg:BitVec 64)(dz:BitVec 64):Option (Bool):=
 some (decide ((bg&&& ~~~dz)=0#64))

def sE(wD:Int)(v7:Bool):Option ((BitVec 64)):=
 if v7 then
  some 0#64
 else
  (Sh.shl 1#64 wD).bind fun s10=>
  some s10

def vr(wD:Int):Option ((BitVec 64)):=
 if decide (wD<0) then
  G.sE wD true
 else
  G.sE wD (decide ((64:Int)≤wD))

def p6(cC:BitVec 64)(Ah:Int):Option ((BitVec 64)):=
 (G.vr Ah).bind fun r3=>
 some (cC|||r3)

def sR(CU:List Int):Option ((List Int)):=
 some CU

def ow(Nu:BitVec 64)(It:List Int):Option (((BitVec 64)×(List Int))⊕((List Int))):=
 if decide (Nu≠0#64) then
  (G.iI Nu).bind fun tX=>
  (Sh.app 8 It [tX]).bind fun Iu=>
  Sh.next (Nu&&&(Nu - 1#64),Iu)
 else
  Sh.exit (G.sR It)

def mz(cC:BitVec 64):Option ((List Int)):=
 Sh.loop (fun(p:(BitVec 64)×(List Int))=>G.ow p.1 p.2) (cC,[])
end G
end

section
/- What the functions of a package compute, as plain functions. -/
open Go Go.Av
set_option linter.unusedVariables false
namespace G
def qZ(sM:Int)(v7:Bool):Option (G.af×Int):=
 if v7 then
  some ((G.af.mk 0 []),1)
 else
  (Sh.mk 8 sM sM 0#64).bind fun Ay=>
  some ((G.af.mk sM Ay),0)

def fu(sM:Int):Option (G.af×Int):=
 if decide (sM<0) then
  G.qZ sM true
 else
  G.qZ sM (decide ((64:Int)<sM))

def uk(sM:Int):Option ((BitVec 64)):=
 (Sh.shl 1#64 sM).bind fun s3=>
 some (s3 - 1#64)

def iL(bR:G.af):Option (Bool):=
 if decide ((0:Int)≤bR.N) then
  if decide (bR.N≤64) then
   if decide ((Sh.len bR.Rows)=bR.N) then
    (G.nt bR.Rows).bind fun AK=>
    (G.uk bR.N).bind fun E7=>
    (G.vq AK E7).bind fun vi=>
    some vi
   else
    some false
  else
   some false
 else
  some false

def sn(bg:G.af)(dz:G.af):Option (Bool):=
 (G.iL bg).bind fun Vb=>
 if Vb then
  (G.iL dz).bind fun Ei=>
  if Ei then
   some (decide (bg.N=dz.N))
  else
   some false
 else
  some false

def qH(tX:G.af×Int)(VQ:List (BitVec 64)):Option (G.af×Int):=
 some ((G.af.mk tX.1.N VQ),tX.2)

def o5(bg:G.af)(dz:G.af)(tX:G.af×Int)(outRows76:List (BitVec 64))(TR:Int):Option (((List (BitVec 64))×Int)⊕(G.af×Int)):=
 if decide (TR<(Sh.len tX.1.Rows)) then
  (Sh.idx bg.Rows TR).bind fun Xu=>
  (Sh.idx dz.Rows TR).bind fun Xv=>
  (G.nt [Xu,Xv]).bind fun r90=>
  (Sh.idx outRows76 TR).bind fun x91=>
  Sh.next (Sh.set outRows76 TR r90,fL (TR+1))
 else
  Sh.exit (G.qH tX outRows76)

def ku(bg:G.af)(dz:G.af):Option (G.af×Int):=
 (G.sn bg dz).bind fun Vm=>
 if !Vm then
  some ((G.af.mk 0 []),1)
 else
  (G.fu bg.N).bind fun tX=>
  Sh.loop (fun(p:(List (BitVec 64))×Int)=>G.o5 bg dz tX p.1 p.2) (tX.1.Rows,0)

def m8(bR:G.af)(eO:Int)(A2:Int)(v26:Bool):Option (G.af×Int):=
 if v26 then
  some ((G.af.mk 0 []),1)
 else
  (G.fu bR.N).bind fun wK=>
  (Sh.XH wK.1.Rows bR.Rows).bind fun copied32=>
  (Sh.idx copied32 eO).bind fun x39=>
  (G.p6 x39 A2).bind fun P_=>
  (Sh.idx copied32 eO).bind fun x42=>
  some ((G.af.mk wK.1.N (Sh.set copied32 eO P_)),wK.2)

def oh(bR:G.af)(eO:Int)(A2:Int):Option (G.af×Int):=
 (G.iL bR).bind fun r44=>
 if !r44 then
  G.m8 bR eO A2 true
 else
  if decide (eO<0) then
   G.m8 bR eO A2 true
  else
   if decide (bR.N≤eO) then
    G.m8 bR eO A2 true
   else
    if decide (A2<0) then
     G.m8 bR eO A2 true
    else
     G.m8 bR eO A2 (decide (bR.N≤A2))

def oX(lS:G.af×Int)(J5:List (BitVec 64)):Option (G.af×Int):=
 some ((G.af.mk lS.1.N J5),lS.2)

def oY(tU:Int)(ZS:List (BitVec 64)):Option (((List (BitVec 64))×Int)⊕(G.af×Int)):=
 Sh.next (ZS,fL (tU+1))

def kT(dz:G.af)(tU:Int)(rG:(List Int))(outRows356:List (BitVec 64))(PJ:Int):Option (((List (BitVec 64))×Int)⊕(((List (BitVec 64))×Int)⊕(G.af×Int))):=
 if decide (PJ<(Sh.len rG)) then
  (Sh.idx rG PJ).bind fun T1=>
  (Sh.idx outRows356 tU).bind fun HR=>
  (Sh.idx dz.Rows T1).bind fun Mk=>
  (G.nt [HR,Mk]).bind fun Pt=>
  (Sh.idx outRows356 tU).bind fun alK=>
  Sh.next (Sh.set outRows356 tU Pt,fL (PJ+1))
 else
  Sh.exit (G.oY tU outRows356)

def nx(bg:G.af)(dz:G.af)(lS:G.af×Int)(outRows292:List (BitVec 64))(tU:Int):Option (((List (BitVec 64))×Int)⊕(G.af×Int)):=
 if decide (tU<(Sh.len lS.1.Rows)) then
  (Sh.idx bg.Rows tU).bind fun aam=>
  (G.mz aam).bind fun rG=>
  Sh.loop (fun(p:(List (BitVec 64))×Int)=>G.kT dz tU rG p.1 p.2) (outRows292,0)
 else
  Sh.exit (G.oX lS outRows292)

def nj(bg:G.af)(dz:G.af):Option (G.af×Int):=
 (G.sn bg dz).bind fun Vd=>
 if !Vd then
  some ((G.af.mk 0 []),1)
 else
  (G.fu bg.N).bind fun lS=>
  Sh.loop (fun(p:(List (BitVec 64))×Int)=>G.nx bg dz lS p.1 p.2) (lS.1.Rows,0)

def qD(JK:List G.aY):Option ((List G.aY)):=
 some JK

def qE(wq:Int)(Nh:List G.aY):Option (((List G.aY)×Int)⊕((List G.aY))):=
 Sh.next (Nh,fL (wq+1))

def nK(wq:Int)(yM:(List Int))(DT:List G.aY)(PI:Int):Option (((List G.aY)×Int)⊕(((List G.aY)×Int)⊕((List G.aY)))):=
 if decide (PI<(Sh.len yM)) then
  (Sh.idx yM PI).bind fun PU=>
  (Sh.app 16 DT ([(G.aY.mk wq PU)]:List G.aY)).bind fun DU=>
  Sh.next (DU,fL (PI+1))
 else
  Sh.exit (G.qE wq DT)

def oZ(bR:G.af)(uO:List G.aY)(wq:Int):Option (((List G.aY)×Int)⊕((List G.aY))):=
 if decide (wq<(Sh.len bR.Rows)) then
  (Sh.idx bR.Rows wq).bind fun aai=>
  (G.mz aai).bind fun yM=>
  Sh.loop (fun(p:(List G.aY)×Int)=>G.nK wq yM p.1 p.2) (uO,0)
 else
  Sh.exit (G.qD uO)

def pz(bR:G.af):Option ((List G.aY)):=
 (G.iL bR).bind fun r56=>
 if !r56 then
  some []
 else
  Sh.loop (fun(p:(List G.aY)×Int)=>G.oZ bR p.1 p.2) ([],0)

def rO(uy:G.af×Int)(v61:List (BitVec 64)):Option (G.af×Int):=
 some ((G.af.mk uy.1.N v61),uy.2)

def qb(uy:G.af×Int)(Ke:(List G.aY))(outRows80:List (BitVec 64))(Z6:Int):Option (((List (BitVec 64))×Int)⊕(G.af×Int)):=
 if decide (Z6<(Sh.len Ke)) then
  (Sh.idx Ke Z6).bind fun Ou=>
  (Sh.idx outRows80 Ou.B).bind fun x94=>
  (G.p6 x94 Ou.A).bind fun r96=>
  (Sh.idx outRows80 Ou.B).bind fun x97=>
  Sh.next (Sh.set outRows80 Ou.B r96,fL (Z6+1))
 else
  Sh.exit (G.rO uy outRows80)

def qG(bR:G.af):Option (G.af×Int):=
 (G.iL bR).bind fun Ts=>
 if !Ts then
  some ((G.af.mk 0 []),1)
 else
  (G.fu bR.N).bind fun uy=>
  (G.pz bR).bind fun Ke=>
  Sh.loop (fun(p:(List (BitVec 64))×Int)=>G.qb uy Ke p.1 p.2) (uy.1.Rows,0)
end G
end

section
/- What the functions of a package compute, as plain functions. -/
open Go Go.Av
set_option linter.unusedVariables false
namespace G
def rQ(N_:List Int):Option ((List Int)):=
 (Sh.sort N_).bind fun D1=>
 (Sh.compact D1).bind fun compact41=>
 some compact41

def qc(aK:G.ah)(Eh:List Int)(v51:Int):Option (((List Int)×Int)⊕((List Int))):=
 if decide (v51<(Sh.len aK.au)) then
  (Sh.idx aK.au v51).bind fun We=>
  (Sh.app 8 Eh We.br).bind fun Iw=>
  Sh.next (Iw,fL (v51+1))
 else
  Sh.exit (G.rQ Eh)

def tN(aK:G.ah):Option ((List Int)):=
 (G.iD aK).bind fun JS=>
 if !JS then
  some []
 else
  Sh.loop (fun(p:(List Int)×Int)=>G.qc aK p.1 p.2) ([],0)

def wE(aK:G.ah):Option (Unit):=
 some ()

def jZ(bL:List Int)(ey:G.dD)(v6:Bool):Option ((List Int)):=
 if v6 then
  (Sh.app 8 bL [ey.t]).bind fun l8=>
  some l8
 else
  some bL

def q8(qK:Int)(nI:Int)(bL:List Int)(ey:G.dD):Option ((List Int)):=
 if decide (ey.Take.Key=qK) then
  G.jZ bL ey (decide (ey.Take.bH=nI))
 else
  G.jZ bL ey false

def dV(Cr:Int)(ZJ:List Int):Option (((List Int)×Int)⊕((List Int))):=
 Sh.next (ZJ,fL (Cr+1))

def cV(qK:Int)(nI:Int)(Cr:Int)(v_:G.ai)(I5:List Int)(Nz:Int):Option (((List Int)×Int)⊕(((List Int)×Int)⊕((List Int)))):=
 if decide (Nz<(Sh.len v_.Reads)) then
  (Sh.idx v_.Reads Nz).bind fun BO=>
  (G.q8 qK nI I5 (G.dD.mk Cr (G.aC.mk BO.Key BO.bH))).bind fun P4=>
  Sh.next (P4,fL (Nz+1))
 else
  Sh.exit (G.dV Cr I5)

def cU(qK:Int)(nI:Int)(Cu:G.ah)(c88:List Int)(Cr:Int):Option (((List Int)×Int)⊕((List Int))):=
 if decide (Cr<(Sh.len Cu.au)) then
  (Sh.idx Cu.au Cr).bind fun v_=>
  Sh.loop (fun(p:(List Int)×Int)=>G.cV qK nI Cr v_ p.1 p.2) (c88,0)
 else
  Sh.exit (some c88)

def gm(qK:Int)(nI:Int)(bL:List Int)(Cu:G.ah):Option ((List Int)):=
 (G.iD Cu).bind fun No=>
 if !No then
  some bL
 else
  Sh.loop (fun(p:(List Int)×Int)=>G.cU qK nI Cu p.1 p.2) (bL,0)

def qd(aK:G.ah)(dy:Int)(js:Int):Option ((List Int)):=
 (G.wE aK).bind fun r8=>
 (G.gm dy js [] aK).bind fun HD=>
 some HD

def o7(AI:List Int):Option ((List Int)):=
 some AI

def kV(Mp:Int)(vM:List Int):Option (((List Int)×Int)⊕((List Int))):=
 Sh.next (vM,fL (Mp+1))

def ny(aK:G.ah)(dy:Int)(BX:List Int)(Mp:Int):Option (((List Int)×Int)⊕((List Int))):=
 if decide (Mp<(Sh.len aK.au)) then
  (Sh.idx aK.au Mp).bind fun Xt=>
  (G.cM Xt.br dy).bind fun r70=>
  if r70 then
   (Sh.app 8 BX [Mp]).bind fun LQ=>
   G.kV Mp LQ
  else
   G.kV Mp BX
 else
  Sh.exit (G.o7 BX)

def qe(aK:G.ah)(dy:Int):Option ((List Int)):=
 (G.iD aK).bind fun BJ=>
 if !BJ then
  some []
 else
  Sh.loop (fun(p:(List Int)×Int)=>G.ny aK dy p.1 p.2) ([],0)
end G
end

section
/- What the functions of a package compute, as plain functions. -/
open Go Go.Av
set_option linter.unusedVariables false
namespace G
def iG(bg:Int)(dz:Int)(OK:G.af)(v6:Bool):Option (G.af):=
 if v6 then
  (G.oh OK bg dz).bind fun r8=>
  some r8.1
 else
  some OK

def iz(bg:Int)(dz:Int)(OK:G.af):Option (G.af):=
 if decide ((0:Int)≤bg) then
  G.iG bg dz OK (decide (bg≠dz))
 else
  G.iG bg dz OK false

def fo(tT:Int)(ZL:G.af):Option ((G.af×Int)⊕(G.af)):=
 Sh.next (ZL,fL (tT+1))

def d_(AW:Int)(XC:G.af):Option ((G.af×Int)⊕((G.af×Int)⊕(G.af))):=
 Sh.next (XC,fL (AW+1))

def dZ(tT:Int)(wu:G.ai)(ng:List G.ai)(B5:G.af)(AW:Int):Option ((G.af×Int)⊕((G.af×Int)⊕(G.af))):=
 if decide (AW<(Sh.len ng)) then
  (Sh.idx ng AW).bind fun J9=>
  if decide (J9.bt=wu.bt) then
   (G.iz AW tT B5).bind fun Vg=>
   G.d_ AW Vg
  else
   G.d_ AW B5
 else
  Sh.exit (G.fo tT B5)

def dY(bg:G.ah)(Qs:G.af)(tT:Int):Option ((G.af×Int)⊕(G.af)):=
 if decide (tT<(Sh.len bg.au)) then
  (Sh.idx bg.au tT).bind fun wu=>
  (Sh.sub bg.au 0 tT).bind fun ng=>
  Sh.loop (fun(p:G.af×Int)=>G.dZ tT wu ng p.1 p.2) (Qs,0)
 else
  Sh.exit (some Qs)

def gz(bg:G.ah)(cK:G.af):Option (G.af):=
 Sh.loop (fun(p:G.af×Int)=>G.dY bg p.1 p.2) (cK,0)

def jT(aK:G.ah)(ji:G.ah):Option (G.af):=
 (G.iD aK).bind fun r6=>
 if !r6 then
  some (G.af.mk 0 [])
 else
  (G.fu (Sh.len aK.au)).bind fun r9=>
  (G.gz ji r9.1).bind fun uw=>
  some uw

def xL(aK:G.ah):Option (G.af):=
 (G.jT aK aK).bind fun r3=>
 some r3

def fq(v84:Int)(ZI:G.af):Option ((G.af×Int)⊕(G.af)):=
 Sh.next (ZI,fL (v84+1))

def ee(v84:Int)(v8:G.ai)(MB:G.af)(Ny:Int):Option ((G.af×Int)⊕((G.af×Int)⊕(G.af))):=
 if decide (Ny<(Sh.len v8.Reads)) then
  (Sh.idx v8.Reads Ny).bind fun AX=>
  (G.iz AX.bH v84 MB).bind fun Vf=>
  Sh.next (Vf,fL (Ny+1))
 else
  Sh.exit (G.fq v84 MB)

def ec(bg:G.ah)(c83:G.af)(v84:Int):Option ((G.af×Int)⊕(G.af)):=
 if decide (v84<(Sh.len bg.au)) then
  (Sh.idx bg.au v84).bind fun v8=>
  Sh.loop (fun(p:G.af×Int)=>G.ee v84 v8 p.1 p.2) (c83,0)
 else
  Sh.exit (some c83)

def gA(bg:G.ah)(cK:G.af):Option (G.af):=
 Sh.loop (fun(p:G.af×Int)=>G.ec bg p.1 p.2) (cK,0)

def jU(aK:G.ah)(ji:G.ah):Option (G.af):=
 (G.iD aK).bind fun r6=>
 if !r6 then
  some (G.af.mk 0 [])
 else
  (G.fu (Sh.len aK.au)).bind fun r9=>
  (G.gA ji r9.1).bind fun uw=>
  some uw

def xM(aK:G.ah):Option (G.af):=
 (G.jU aK aK).bind fun r3=>
 some r3

def tP(aK:G.ah):Option (G.af):=
 (G.xL aK).bind fun r7=>
 (G.xM aK).bind fun r8=>
 (G.ku r7 r8).bind fun r9=>
 some r9.1

def eH(zO:Int)(ZU:G.af):Option ((G.af×Int)⊕(G.af)):=
 Sh.next (ZU,fL (zO+1))

def eL(BM:Int)(ZZ:G.af):Option ((G.af×Int)⊕((G.af×Int)⊕(G.af))):=
 Sh.next (ZZ,fL (BM+1))

def di(BM:Int)(EP:Int)(Cn:(List Int))(OJ:G.af)(PK:Int):Option ((G.af×Int)⊕((G.af×Int)⊕((G.af×Int)⊕(G.af)))):=
 if decide (PK<(Sh.len Cn)) then
  (Sh.idx Cn PK).bind fun PW=>
  (G.iz EP PW OJ).bind fun Vq=>
  Sh.next (Vq,fL (PK+1))
 else
  Sh.exit (G.eL BM OJ)

def dh(bg:G.ah)(zO:Int)(EO:Int)(yN:(List Int))(Qt:G.af)(BM:Int):Option ((G.af×Int)⊕((G.af×Int)⊕(G.af))):=
 if decide (BM<(Sh.len yN)) then
  (Sh.idx yN BM).bind fun EP=>
  (G.qe bg EO).bind fun Cn=>
  Sh.loop (fun(p:G.af×Int)=>G.di BM EP Cn p.1 p.2) (Qt,0)
 else
  Sh.exit (G.eH zO Qt)

def dN(bg:G.ah)(vQ:(List Int))(Up:G.af)(zO:Int):Option ((G.af×Int)⊕(G.af)):=
 if decide (zO<(Sh.len vQ)) then
  (Sh.idx vQ zO).bind fun EO=>
  (G.qd bg EO (-1)).bind fun yN=>
  Sh.loop (fun(p:G.af×Int)=>G.dh bg zO EO yN p.1 p.2) (Up,0)
 else
  Sh.exit (some Up)

def fF(bg:G.ah)(cK:G.af):Option (G.af):=
 (G.tN bg).bind fun vQ=>
 Sh.loop (fun(p:G.af×Int)=>G.dN bg vQ p.1 p.2) (cK,0)

def iu(aK:G.ah)(ji:G.ah):Option (G.af):=
 (G.iD aK).bind fun r6=>
 if !r6 then
  some (G.af.mk 0 [])
 else
  (G.fu (Sh.len aK.au)).bind fun r9=>
  (G.fF ji r9.1).bind fun uw=>
  some uw

def tO(aK:G.ah):Option (G.af):=
 (G.iu aK aK).bind fun r3=>
 some r3
end G
end

section
/- What the functions of a package compute, as plain functions. -/
open Go Go.Av
set_option linter.unusedVariables false
namespace G
def jE(uZ:Int)(dy:Int)(jB:G.ah):Option (Bool):=
 if decide ((0:Int)≤uZ) then
  if decide (uZ<(Sh.len jB.au)) then
   (Sh.idx jB.au uZ).bind fun x14=>
   (G.cM x14.br dy).bind fun xY=>
   some xY
  else
   some false
 else
  some false

def mA(lY:G.aa)(eO:G.ah):Option (Bool):=
 if decide (lY.A=lY.B) then
  some true
 else
  (G.jE lY.A lY.Key eO).bind fun uw=>
  if !uw then
   some true
  else
   (G.jE lY.B lY.Key eO).bind fun xX=>
   some (!xX)

def b9:Option (Int):=
 some (-1)

def bQ(cC:List G.aa)(cL:G.ah)(v30:Int):Option ((Int)⊕(Int)):=
 if decide (v30<(Sh.len cC)) then
  (Sh.idx cC v30).bind fun D4=>
  (G.mA D4 cL).bind fun wo=>
  if wo then
   Sh.exit (some v30)
  else
   Sh.next (fL (v30+1))
 else
  Sh.exit (G.b9)

def ck(cC:List G.aa)(cL:G.ah):Option (Int):=
 Sh.loop (fun(p:Int)=>G.bQ cC cL p) 0

def bP(cC:List G.aa)(cL:G.ah):Option (Bool):=
 (G.ck cC cL).bind fun r3=>
 some (decide ((0:Int)≤r3))

def n_(aK:G.ah)(cW:List G.aa)(v10:Bool):Option (Bool):=
 if v10 then
  some false
 else
  (G.bP cW aK).bind fun xX=>
  some (!xX)

def oz(aK:G.ah)(cW:List G.aa):Option (Bool):=
 (G.iD aK).bind fun r14=>
 if !r14 then
  G.n_ aK cW true
 else
  G.n_ aK cW (decide ((20000:Int)<(Sh.len cW)))

def rI(Xp:G.af):Option (G.af):=
 some Xp

def p7(mK:List G.af)(FN:Int)(s6:List (BitVec 64))(Z1:Int):Option ((Int×(List (BitVec 64))×Int)⊕(G.af)):=
 if decide (Z1<(Sh.len mK)) then
  (Sh.idx mK Z1).bind fun T3=>
  (G.ku (G.af.mk FN s6) T3).bind fun E8=>
  Sh.next (E8.1.N,E8.1.Rows,fL (Z1+1))
 else
  Sh.exit (G.rI (G.af.mk FN s6))

def r4(bR:G.af)(mK:List G.af):Option (G.af):=
 Sh.loop (fun(p:Int×(List (BitVec 64))×Int)=>G.p7 mK p.1 p.2.1 p.2.2) (bR.N,bR.Rows,0)

def sV(Xq:Int)(VO:List (BitVec 64)):Option (G.af):=
 some (G.af.mk Xq VO)

def qR(cW:List G.aa)(FO:Int)(rW:List (BitVec 64))(Z2:Int):Option ((Int×(List (BitVec 64))×Int)⊕(G.af)):=
 if decide (Z2<(Sh.len cW)) then
  (Sh.idx cW Z2).bind fun Ms=>
  (G.oh (G.af.mk FO rW) Ms.A Ms.B).bind fun CZ=>
  Sh.next (CZ.1.N,CZ.1.Rows,fL (Z2+1))
 else
  Sh.exit (G.sV FO rW)

def vh(aK:G.ah)(cW:List G.aa):Option (G.af):=
 (G.oz aK cW).bind fun JS=>
 if !JS then
  some (G.af.mk 0 [])
 else
  (G.fu (Sh.len aK.au)).bind fun BJ=>
  Sh.loop (fun(p:Int×(List (BitVec 64))×Int)=>G.qR cW p.1 p.2.1 p.2.2) (BJ.1.N,BJ.1.Rows,0)

def sS(Md:G.af):Option (G.af):=
 some Md

def sU(yX:Int)(tU:G.af):Option ((G.af×Int)⊕(G.af)):=
 Sh.next (tU,fL (yX+1))

def qQ(uD:Int)(Q0:Int)(FP:List (BitVec 64)):Option ((G.af×Int)⊕((G.af×Int)⊕(G.af))):=
 Sh.next ((G.af.mk Q0 FP),fL (uD+1))

def pI(nh:G.aa)(ye:G.af)(uD:Int)(ZT:Bool):Option ((G.af×Int)⊕((G.af×Int)⊕(G.af))):=
 if ZT then
  (G.oh ye uD nh.B).bind fun rG=>
  G.qQ uD rG.1.N rG.1.Rows
 else
  G.qQ uD ye.N ye.Rows

def qP(aK:G.ah)(yX:Int)(nh:G.aa)(ye:G.af)(uD:Int):Option ((G.af×Int)⊕((G.af×Int)⊕(G.af))):=
 if decide (uD<(Sh.len aK.au)) then
  (Sh.idx aK.au uD).bind fun EN=>
  if decide (uD≠nh.B) then
   (G.c4 EN.Reads (G.aC.mk nh.Key nh.A)).bind fun Vn=>
   G.pI nh ye uD Vn
  else
   G.pI nh ye uD false
 else
  Sh.exit (G.sU yX ye)

def qO(aK:G.ah)(cW:List G.aa)(OO:G.af)(yX:Int):Option ((G.af×Int)⊕(G.af)):=
 if decide (yX<(Sh.len cW)) then
  (Sh.idx cW yX).bind fun nh=>
  Sh.loop (fun(p:G.af×Int)=>G.qP aK yX nh p.1 p.2) (OO,0)
 else
  Sh.exit (G.sS OO)

def vg(aK:G.ah)(cW:List G.aa):Option (G.af):=
 (G.oz aK cW).bind fun r99=>
 if !r99 then
  some (G.af.mk 0 [])
 else
  (G.tO aK).bind fun Vc=>
  Sh.loop (fun(p:G.af×Int)=>G.qO aK cW p.1 p.2) (Vc,0)

def oS(EI:G.af)(yL:G.af):Option (G.af×Int):=
 (G.r4 EI ([yL]:List G.af)).bind fun Pr=>
 some (Pr,0)

def jD(aK:G.ah)(aE:Int)(bL:List G.aa)(v19:Bool):Option (G.af×Int):=
 if v19 then
  some ((G.af.mk 0 []),1)
 else
  (G.tP aK).bind fun G_=>
  (G.vh aK bL).bind fun Pq=>
  (G.r4 G_ ([Pq]:List G.af)).bind fun EI=>
  (G.vg aK bL).bind fun Tr=>
  if decide (aE=1) then
   (G.nj EI Tr).bind fun uy=>
   G.oS EI uy.1
  else
   G.oS EI Tr

def sG(aK:G.ah)(aE:Int)(bL:List G.aa):Option (G.af×Int):=
 (G.oz aK bL).bind fun r35=>
 if !r35 then
  G.jD aK aE bL true
 else
  if decide (aE≠0) then
   G.jD aK aE bL (decide (aE≠1))
  else
   G.jD aK aE bL false
end G
end

section
/- What the functions of a package compute, as plain functions. -/
open Go Go.Av
set_option linter.unusedVariables false
namespace G
def lZ:Option (Int×Bool):=
 some (0,false)

def iO(nk:Int)(PV:G.ai)(i57:Int):Option ((Int)⊕(Int×Bool)):=
 if decide (i57<(Sh.len PV.Reads)) then
  (Sh.idx PV.Reads i57).bind fun x65=>
  if decide (x65.Key=nk) then
   (Sh.idx PV.Reads i57).bind fun T5=>
   Sh.exit (some (T5.bH,true))
  else
   Sh.next (fL (i57+1))
 else
  Sh.exit (G.lZ)

def dP(aK:G.ah)(Cw:Int)(nk:Int)(ZQ:Bool):Option (Int×Bool):=
 if ZQ then
  some (0,false)
 else
  (Sh.idx aK.au Cw).bind fun PV=>
  Sh.loop (fun(p:Int)=>G.iO nk PV p) 0

def jK(aK:G.ah)(Cw:Int)(nk:Int):Option (Int×Bool):=
 (G.c5 aK).bind fun Nm=>
 if !Nm then
  G.dP aK Cw nk true
 else
  if decide (Cw<0) then
   G.dP aK Cw nk true
  else
   G.dP aK Cw nk (decide ((Sh.len aK.au)≤Cw))

def iQ(CW:List Int):Option ((List Int)):=
 some CW

def eW(t53:Int)(S8:List Int):Option (((List Int)×Int)⊕((List Int))):=
 Sh.next (S8,fL (t53+1))

def eX(rz:List Int)(t53:Int)(v63:Bool):Option (((List Int)×Int)⊕((List Int))):=
 if v63 then
  (Sh.app 8 rz [t53]).bind fun LP=>
  G.eW t53 LP
 else
  G.eW t53 rz

def fT(aK:G.ah)(dy:Int)(js:Int)(rz:List Int)(t53:Int):Option (((List Int)×Int)⊕((List Int))):=
 if decide (t53<(Sh.len aK.au)) then
  (G.jK aK t53 dy).bind fun CZ=>
  if CZ.2 then
   G.eX rz t53 (decide (CZ.1=js))
  else
   G.eX rz t53 false
 else
  Sh.exit (G.iQ rz)

def iP(aK:G.ah)(dy:Int)(js:Int):Option ((List Int)):=
 Sh.loop (fun(p:(List Int)×Int)=>G.fT aK dy js p.1 p.2) ([],0)
end G
end

section
/- What the functions of a package compute, as plain functions. -/
open Go Go.Av
set_option linter.unusedVariables false
namespace G
def mJ(wD:Int):Option (Bool):=
 if decide ((0:Int)≤wD) then
  some (decide (wD≤63))
 else
  some false

def kH(n9:BitVec 64):Option ((BitVec 64)):=
 some n9

def g_(wD:Int)(Uc:BitVec 64)(k13:Int):Option (((BitVec 64)×Int)⊕((BitVec 64))):=
 if decide (k13<wD) then
  Sh.next (Uc+Uc,fL (k13+1))
 else
  Sh.exit (G.kH Uc)

def iE(wD:Int):Option ((BitVec 64)):=
 Sh.loop (fun(p:(BitVec 64)×Int)=>G.g_ wD p.1 p.2) (1#64,0)

def iR(cC:BitVec 64)(Ah:Int):Option (Bool):=
 (G.mJ Ah).bind fun r7=>
 if !r7 then
  some false
 else
  (G.iE Ah).bind fun Ei=>
  (Sh.udiv cC Ei).bind fun q13=>
  (Sh.umod q13 2#64).bind fun q14=>
  some (decide (q14=1#64))

def iS(cC:BitVec 64)(Ah:Int)(NA:Bool):Option ((BitVec 64)):=
 if NA then
  some cC
 else
  (G.iE Ah).bind fun xY=>
  some (cC+xY)

def dS(cC:BitVec 64)(Ah:Int):Option ((BitVec 64)):=
 (G.iR cC Ah).bind fun r7=>
 if r7 then
  G.iS cC Ah true
 else
  (G.mJ Ah).bind fun E7=>
  G.iS cC Ah (!E7)
end G
end

section
/- What the functions of a package compute, as plain functions. -/
open Go Go.Av
set_option linter.unusedVariables false
namespace G
def kI:Option (Bool):=
 some true

def kJ(i104:Int):Option ((Int)⊕(Bool)):=
 Sh.next (fL (i104+1))

def fP(bR:G.ak)(i104:Int)(OW:Int):Option ((Int)⊕((Int)⊕(Bool))):=
 if decide (OW<64) then
  (Sh.idx bR.Rows i104).bind fun aac=>
  (G.iR aac OW).bind fun HH=>
  if HH then
   Sh.exit (Sh.exit (some false))
  else
   Sh.next (fL (OW+1))
 else
  Sh.exit (G.kJ i104)

def fO(bR:G.ak)(i104:Int):Option ((Int)⊕(Bool)):=
 if decide (i104<bR.N) then
  Sh.loop (fun(p:Int)=>G.fP bR i104 p) bR.N
 else
  Sh.exit (G.kI)

def fQ(bR:G.ak)(v44:Bool):Option (Bool):=
 if v44 then
  some false
 else
  Sh.loop (fun(p:Int)=>G.fO bR p) 0

def iF(bR:G.ak):Option (Bool):=
 if decide (bR.N<0) then
  G.fQ bR true
 else
  if decide ((64:Int)<bR.N) then
   G.fQ bR true
  else
   G.fQ bR (decide ((Sh.len bR.Rows)≠bR.N))

def ew(bR:G.ak)(eO:Int)(A2:Int):Option (Bool):=
 (Sh.idx bR.Rows eO).bind fun x7=>
 (G.iR x7 A2).bind fun r9=>
 some r9

def mW(sM:Int)(VM:List (BitVec 64)):Option (G.ak):=
 some (G.ak.mk sM VM)

def j9(sM:Int)(yf:List (BitVec 64))(i21:Int):Option (((List (BitVec 64))×Int)⊕(G.ak)):=
 if decide (i21<sM) then
  (Sh.app 8 yf [0#64]).bind fun Y5=>
  Sh.next (Y5,fL (i21+1))
 else
  Sh.exit (G.mW sM yf)

def fH(sM:Int):Option (G.ak):=
 Sh.loop (fun(p:(List (BitVec 64))×Int)=>G.j9 sM p.1 p.2) ([],0)

def kK(gf:G.ak)(yW:List (BitVec 64)):Option (G.ak):=
 some (G.ak.mk gf.N yW)

def kL(tV:Int)(ND:List (BitVec 64)):Option (((List (BitVec 64))×Int)⊕(G.ak)):=
 Sh.next (ND,fL (tV+1))

def h_(yY:Int)(outRows359:List (BitVec 64)):Option (((List (BitVec 64))×Int)⊕(((List (BitVec 64))×Int)⊕(G.ak))):=
 Sh.next (outRows359,fL (yY+1))

def ia(tV:Int)(outRows347:List (BitVec 64))(yY:Int)(ZV:Bool):Option (((List (BitVec 64))×Int)⊕(((List (BitVec 64))×Int)⊕(G.ak))):=
 if ZV then
  (Sh.idx outRows347 tV).bind fun aan=>
  (G.dS aan yY).bind fun Tt=>
  (Sh.idx outRows347 tV).bind fun T1=>
  G.h_ yY (Sh.set outRows347 tV Tt)
 else
  G.h_ yY outRows347

def hY(bg:G.ak)(dz:G.ak)(tV:Int)(outRows347:List (BitVec 64))(yY:Int):Option (((List (BitVec 64))×Int)⊕(((List (BitVec 64))×Int)⊕(G.ak))):=
 if decide (yY<bg.N) then
  (G.ew bg tV yY).bind fun Vo=>
  (G.ew dz tV yY).bind fun Vp=>
  if Vo then
   G.ia tV outRows347 yY true
  else
   G.ia tV outRows347 yY Vp
 else
  Sh.exit (G.kL tV outRows347)

def hU(bg:G.ak)(dz:G.ak)(gf:G.ak)(outRows287:List (BitVec 64))(tV:Int):Option (((List (BitVec 64))×Int)⊕(G.ak)):=
 if decide (tV<bg.N) then
  Sh.loop (fun(p:(List (BitVec 64))×Int)=>G.hY bg dz tV p.1 p.2) (outRows287,0)
 else
  Sh.exit (G.kK gf outRows287)

def gu(bg:G.ak)(dz:G.ak):Option (G.ak):=
 (G.fH bg.N).bind fun gf=>
 Sh.loop (fun(p:(List (BitVec 64))×Int)=>G.hU bg dz gf p.1 p.2) (gf.Rows,0)

def iU(rF:G.ak)(J8:List (BitVec 64)):Option (G.ak):=
 some (G.ak.mk rF.N J8)

def iV(uF:Int)(Z5:List (BitVec 64)):Option (((List (BitVec 64))×Int)⊕(G.ak)):=
 Sh.next (Z5,fL (uF+1))

def eY(zP:Int)(outRows869:List (BitVec 64)):Option (((List (BitVec 64))×Int)⊕(((List (BitVec 64))×Int)⊕(G.ak))):=
 Sh.next (outRows869,fL (zP+1))

def fX(ER:Int)(outRows898:List (BitVec 64)):Option (((List (BitVec 64))×Int)⊕(((List (BitVec 64))×Int)⊕(((List (BitVec 64))×Int)⊕(G.ak)))):=
 Sh.next (outRows898,fL (ER+1))

def fW(bg:G.ak)(dz:G.ak)(uF:Int)(zP:Int)(outRows889:List (BitVec 64))(ER:Int):Option (((List (BitVec 64))×Int)⊕(((List (BitVec 64))×Int)⊕(((List (BitVec 64))×Int)⊕(G.ak)))):=
 if decide (ER<bg.N) then
  (G.ew dz zP ER).bind fun Zt=>
  if Zt then
   (Sh.idx outRows889 uF).bind fun aaB=>
   (G.dS aaB ER).bind fun Tx=>
   (Sh.idx outRows889 uF).bind fun alP=>
   G.fX ER (Sh.set outRows889 uF Tx)
  else
   G.fX ER outRows889
 else
  Sh.exit (G.eY zP outRows889)

def fV(bg:G.ak)(dz:G.ak)(uF:Int)(outRows840:List (BitVec 64))(zP:Int):Option (((List (BitVec 64))×Int)⊕(((List (BitVec 64))×Int)⊕(G.ak))):=
 if decide (zP<bg.N) then
  (G.ew bg uF zP).bind fun Vv=>
  if !Vv then
   G.eY zP outRows840
  else
   Sh.loop (fun(p:(List (BitVec 64))×Int)=>G.fW bg dz uF zP p.1 p.2) (outRows840,0)
 else
  Sh.exit (G.iV uF outRows840)

def fU(bg:G.ak)(dz:G.ak)(rF:G.ak)(outRows695:List (BitVec 64))(uF:Int):Option (((List (BitVec 64))×Int)⊕(G.ak)):=
 if decide (uF<bg.N) then
  Sh.loop (fun(p:(List (BitVec 64))×Int)=>G.fV bg dz uF p.1 p.2) (outRows695,0)
 else
  Sh.exit (G.iU rF outRows695)

def iT(bg:G.ak)(dz:G.ak):Option (G.ak):=
 (G.fH bg.N).bind fun rF=>
 Sh.loop (fun(p:(List (BitVec 64))×Int)=>G.fU bg dz rF p.1 p.2) (rF.Rows,0)
end G
end

section
/- What the functions of a package compute, as plain functions. -/
open Go Go.Av
set_option linter.unusedVariables false
namespace G
def nO(gf:G.ak)(yW:List (BitVec 64)):Option (G.ak):=
 some (G.ak.mk gf.N yW)

def nP(wQ:Int)(ND:List (BitVec 64)):Option (((List (BitVec 64))×Int)⊕(G.ak)):=
 Sh.next (ND,fL (wQ+1))

def kZ(Ev:Int)(FQ:List (BitVec 64)):Option (((List (BitVec 64))×Int)⊕(((List (BitVec 64))×Int)⊕(G.ak))):=
 Sh.next (FQ,fL (Ev+1))

def kY(aK:G.ah)(gf:G.ak)(wQ:Int)(mN:List (BitVec 64))(Ev:Int):Option (((List (BitVec 64))×Int)⊕(((List (BitVec 64))×Int)⊕(G.ak))):=
 if decide (Ev<gf.N) then
  (Sh.idx aK.au wQ).bind fun V7=>
  (Sh.idx aK.au Ev).bind fun V8=>
  if decide (V7.bt=V8.bt) then
   (Sh.idx mN wQ).bind fun aao=>
   (G.dS aao Ev).bind fun Tu=>
   (Sh.idx mN wQ).bind fun HR=>
   G.kZ Ev (Sh.set mN wQ Tu)
  else
   G.kZ Ev mN
 else
  Sh.exit (G.nP wQ mN)

def kX(aK:G.ah)(gf:G.ak)(zZ:List (BitVec 64))(wQ:Int):Option (((List (BitVec 64))×Int)⊕(G.ak)):=
 if decide (wQ<gf.N) then
  Sh.loop (fun(p:(List (BitVec 64))×Int)=>G.kY aK gf wQ p.1 p.2) (zZ,fL (wQ+1))
 else
  Sh.exit (G.nO gf zZ)

def om(aK:G.ah):Option (G.ak):=
 (G.fH (Sh.len aK.au)).bind fun gf=>
 Sh.loop (fun(p:(List (BitVec 64))×Int)=>G.kX aK gf p.1 p.2) (gf.Rows,0)

def nQ(rE:G.ak)(J6:List (BitVec 64)):Option (G.ak):=
 some (G.ak.mk rE.N J6)

def nR(AT:Int)(ZX:List (BitVec 64)):Option (((List (BitVec 64))×Int)⊕(G.ak)):=
 Sh.next (ZX,fL (AT+1))

def k7(DH:Int)(FR:List (BitVec 64)):Option (((List (BitVec 64))×Int)⊕(((List (BitVec 64))×Int)⊕(G.ak))):=
 Sh.next (FR,fL (DH+1))

def k6(AT:Int)(AZ:G.ai)(mO:List (BitVec 64))(DH:Int):Option (((List (BitVec 64))×Int)⊕(((List (BitVec 64))×Int)⊕(G.ak))):=
 if decide (DH<(Sh.len AZ.Reads)) then
  (Sh.idx AZ.Reads DH).bind fun aaq=>
  if decide ((0:Int)≤aaq.bH) then
   (Sh.idx AZ.Reads DH).bind fun T2=>
   (Sh.idx AZ.Reads DH).bind fun aar=>
   (Sh.idx mO aar.bH).bind fun aas=>
   (G.dS aas AT).bind fun Tv=>
   (Sh.idx mO T2.bH).bind fun alM=>
   G.k7 DH (Sh.set mO T2.bH Tv)
  else
   G.k7 DH mO
 else
  Sh.exit (G.nR AT mO)

def k5(aK:G.ah)(rE:G.ak)(z2:List (BitVec 64))(AT:Int):Option (((List (BitVec 64))×Int)⊕(G.ak)):=
 if decide (AT<rE.N) then
  (Sh.idx aK.au AT).bind fun AZ=>
  Sh.loop (fun(p:(List (BitVec 64))×Int)=>G.k6 AT AZ p.1 p.2) (z2,0)
 else
  Sh.exit (G.nQ rE z2)

def oo(aK:G.ah):Option (G.ak):=
 (G.fH (Sh.len aK.au)).bind fun rE=>
 Sh.loop (fun(p:(List (BitVec 64))×Int)=>G.k5 aK rE p.1 p.2) (rE.Rows,0)

def mE(aK:G.ah):Option (G.ak):=
 (G.om aK).bind fun r7=>
 (G.oo aK).bind fun r8=>
 (G.gu r7 r8).bind fun r9=>
 some r9

def mb(n5:G.ak)(Dg:List (BitVec 64)):Option (G.ak):=
 some (G.ak.mk n5.N Dg)

def mc(lK:Int)(TO:List (BitVec 64)):Option (((List (BitVec 64))×Int)⊕(G.ak)):=
 Sh.next (TO,fL (lK+1))

def me(tv:Int)(TP:List (BitVec 64)):Option (((List (BitVec 64))×Int)⊕(((List (BitVec 64))×Int)⊕(G.ak))):=
 Sh.next (TP,fL (tv+1))

def ja(rA:Int)(Dz:List (BitVec 64)):Option (((List (BitVec 64))×Int)⊕(((List (BitVec 64))×Int)⊕(((List (BitVec 64))×Int)⊕(G.ak)))):=
 Sh.next (Dz,fL (rA+1))

def fh(lK:Int)(eF:List (BitVec 64))(rA:Int)(TQ:Bool):Option (((List (BitVec 64))×Int)⊕(((List (BitVec 64))×Int)⊕(((List (BitVec 64))×Int)⊕(G.ak)))):=
 if TQ then
  (Sh.idx eF lK).bind fun TY=>
  (G.dS TY rA).bind fun LZ=>
  (Sh.idx eF lK).bind fun ah7=>
  G.ja rA (Sh.set eF lK LZ)
 else
  G.ja rA eF

def i_(aK:G.ah)(n5:G.ak)(lK:Int)(rB:G.ai)(tv:Int)(eF:List (BitVec 64))(rA:Int):Option (((List (BitVec 64))×Int)⊕(((List (BitVec 64))×Int)⊕(((List (BitVec 64))×Int)⊕(G.ak)))):=
 if decide (rA<n5.N) then
  (Sh.idx aK.au rA).bind fun TW=>
  (Sh.idx rB.Reads tv).bind fun TX=>
  (G.eg TW TX.Key).bind fun Oe=>
  if Oe then
   (Sh.idx rB.Reads tv).bind fun Mi=>
   if decide (Mi.bH=(-1)) then
    G.fh lK eF rA (decide (rA≠lK))
   else
    G.fh lK eF rA false
  else
   G.fh lK eF rA false
 else
  Sh.exit (G.me tv eF)

def iZ(aK:G.ah)(n5:G.ak)(lK:Int)(rB:G.ai)(xD:List (BitVec 64))(tv:Int):Option (((List (BitVec 64))×Int)⊕(((List (BitVec 64))×Int)⊕(G.ak))):=
 if decide (tv<(Sh.len rB.Reads)) then
  Sh.loop (fun(p:(List (BitVec 64))×Int)=>G.i_ aK n5 lK rB tv p.1 p.2) (xD,0)
 else
  Sh.exit (G.mc lK xD)

def iY(aK:G.ah)(n5:G.ak)(xC:List (BitVec 64))(lK:Int):Option (((List (BitVec 64))×Int)⊕(G.ak)):=
 if decide (lK<n5.N) then
  (Sh.idx aK.au lK).bind fun rB=>
  Sh.loop (fun(p:(List (BitVec 64))×Int)=>G.iZ aK n5 lK rB p.1 p.2) (xC,0)
 else
  Sh.exit (G.mb n5 xC)

def oF(aK:G.ah):Option (G.ak):=
 (G.fH (Sh.len aK.au)).bind fun n5=>
 Sh.loop (fun(p:(List (BitVec 64))×Int)=>G.iY aK n5 p.1 p.2) (n5.Rows,0)
end G
end

section
/- What the functions of a package compute, as plain functions. -/
open Go Go.Av
set_option linter.unusedVariables false
namespace G
def jM(lY:G.aa):Option (G.aa):=
 some (G.aa.mk lY.Key lY.B lY.A)

def cX(aK:G.ah)(cK:G.aa)(v23:Bool):Option (Bool):=
 if v23 then
  some false
 else
  (Sh.idx aK.au cK.A).bind fun Ct=>
  (G.eg Ct cK.Key).bind fun Vm=>
  (Sh.idx aK.au cK.B).bind fun x34=>
  (G.eg x34 cK.Key).bind fun r36=>
  if Vm then
   some r36
  else
   some false

def jb(aK:G.ah)(cK:G.aa):Option (Bool):=
 if decide (cK.A=cK.B) then
  G.cX aK cK true
 else
  if decide (cK.A<0) then
   G.cX aK cK true
  else
   if decide ((Sh.len aK.au)≤cK.A) then
    G.cX aK cK true
   else
    if decide (cK.B<0) then
     G.cX aK cK true
    else
     G.cX aK cK (decide ((Sh.len aK.au)≤cK.B))

def nS:Option (Bool):=
 some false

def k9(eB:List G.aa)(cK:G.aa)(i22:Int):Option ((Int)⊕(Bool)):=
 if decide (i22<(Sh.len eB)) then
  (Sh.idx eB i22).bind fun Ct=>
  if decide (Ct=cK) then
   Sh.exit (some true)
  else
   Sh.next (fL (i22+1))
 else
  Sh.exit (G.nS)

def oq(eB:List G.aa)(cK:G.aa):Option (Bool):=
 Sh.loop (fun(p:Int)=>G.k9 eB cK p) 0

def nV(wo:G.ak)(VR:List (BitVec 64)):Option (G.ak):=
 some (G.ak.mk wo.N VR)

def lg(cW:List G.aa)(wo:G.ak)(nJ:List (BitVec 64))(i104:Int):Option (((List (BitVec 64))×Int)⊕(G.ak)):=
 if decide (i104<(Sh.len cW)) then
  (Sh.idx cW i104).bind fun PR=>
  (Sh.idx cW i104).bind fun Z_=>
  (Sh.idx nJ Z_.A).bind fun aaa=>
  (Sh.idx cW i104).bind fun aab=>
  (G.dS aaa aab.B).bind fun Pm=>
  (Sh.idx nJ PR.A).bind fun alI=>
  Sh.next (Sh.set nJ PR.A Pm,fL (i104+1))
 else
  Sh.exit (G.nV wo nJ)

def ou(aK:G.ah)(cW:List G.aa):Option (G.ak):=
 (G.fH (Sh.len aK.au)).bind fun wo=>
 Sh.loop (fun(p:(List (BitVec 64))×Int)=>G.lg cW wo p.1 p.2) (wo.Rows,0)

def nT(sx:G.ak)(J7:List (BitVec 64)):Option (G.ak):=
 some (G.ak.mk sx.N J7)

def nU(yt:Int)(Z3:List (BitVec 64)):Option (((List (BitVec 64))×Int)⊕(G.ak)):=
 Sh.next (Z3,fL (yt+1))

def lf(DL:Int)(FT:List (BitVec 64)):Option (((List (BitVec 64))×Int)⊕(((List (BitVec 64))×Int)⊕(G.ak))):=
 Sh.next (FT,fL (DL+1))

def ld(cW:List G.aa)(yt:Int)(AL:(List Int))(mP:List (BitVec 64))(DL:Int):Option (((List (BitVec 64))×Int)⊕(((List (BitVec 64))×Int)⊕(G.ak))):=
 if decide (DL<(Sh.len AL)) then
  (Sh.idx AL DL).bind fun Wf=>
  (Sh.idx cW yt).bind fun Wg=>
  if decide (Wf≠Wg.B) then
   (Sh.idx AL DL).bind fun T4=>
   (Sh.idx AL DL).bind fun aav=>
   (Sh.idx mP aav).bind fun aaw=>
   (Sh.idx cW yt).bind fun aax=>
   (G.dS aaw aax.B).bind fun Tw=>
   (Sh.idx mP T4).bind fun alO=>
   G.lf DL (Sh.set mP T4 Tw)
  else
   G.lf DL mP
 else
  Sh.exit (G.nU yt mP)

def k_(aK:G.ah)(cW:List G.aa)(sx:G.ak)(z6:List (BitVec 64))(yt:Int):Option (((List (BitVec 64))×Int)⊕(G.ak)):=
 if decide (yt<(Sh.len cW)) then
  (Sh.idx cW yt).bind fun aat=>
  (Sh.idx cW yt).bind fun aau=>
  (G.iP aK aat.Key aau.A).bind fun AL=>
  Sh.loop (fun(p:(List (BitVec 64))×Int)=>G.ld cW yt AL p.1 p.2) (z6,0)
 else
  Sh.exit (G.nT sx z6)

def ot(aK:G.ah)(cW:List G.aa):Option (G.ak):=
 (G.oF aK).bind fun sx=>
 Sh.loop (fun(p:(List (BitVec 64))×Int)=>G.k_ aK cW sx p.1 p.2) (sx.Rows,0)

def gx(xX:G.ak)(AK:G.ak):Option (G.ak):=
 (G.gu xX AK).bind fun vi=>
 some (G.ak.mk vi.N vi.Rows)

def mF(aK:G.ah)(aE:Int)(bL:List G.aa):Option (G.ak):=
 (G.mE aK).bind fun uw=>
 (G.ou aK bL).bind fun Ei=>
 (G.gu uw Ei).bind fun xX=>
 (G.ot aK bL).bind fun P9=>
 if decide (aE=1) then
  (G.iT xX P9).bind fun r21=>
  G.gx xX r21
 else
  G.gx xX P9
end G
end

section
/- What the functions of a package compute, as plain functions. -/
open Go Go.Av
set_option linter.unusedVariables false
namespace G
def lB(aK:G.ah)(pQ:Int)(pR:Int):Option (Bool):=
 (G.c5 aK).bind fun r8=>
 if r8 then
  if decide ((0:Int)≤pQ) then
   if decide (pQ<(Sh.len aK.au)) then
    if decide ((0:Int)≤pR) then
     some (decide (pR<(Sh.len aK.au)))
    else
     some false
   else
    some false
  else
   some false
 else
  some false

def jO:Option (Bool):=
 some false

def gK(i141:Int):Option ((Int)⊕(Bool)):=
 Sh.next (fL (i141+1))

def gL(aK:G.ah)(cW:List G.aa)(i141:Int)(ZN:Bool):Option ((Int)⊕(Bool)):=
 if ZN then
  G.gK i141
 else
  (Sh.idx cW i141).bind fun aaj=>
  (G.jb aK aaj).bind fun yM=>
  if yM then
   Sh.exit (some true)
  else
   G.gK i141

def gH(aK:G.ah)(cW:List G.aa)(gE:Int)(ey:Int)(i141:Int):Option ((Int)⊕(Bool)):=
 if decide (i141<(Sh.len cW)) then
  (Sh.idx cW i141).bind fun TU=>
  if decide (TU.A≠gE) then
   G.gL aK cW i141 true
  else
   (Sh.idx cW i141).bind fun TV=>
   G.gL aK cW i141 (decide (TV.B≠ey))
 else
  Sh.exit (G.jO)

def gJ(aK:G.ah)(cW:List G.aa)(gE:Int)(ey:Int):Option (Bool):=
 Sh.loop (fun(p:Int)=>G.gH aK cW gE ey p) 0

def gI(aK:G.ah)(cW:List G.aa)(gE:Int)(ey:Int)(i190:Int):Option ((Int)⊕(Bool)):=
 (Sh.idx aK.au ey).bind fun VZ=>
 if decide (i190<(Sh.len VZ.Reads)) then
  (Sh.idx aK.au ey).bind fun V0=>
  (Sh.idx V0.Reads i190).bind fun V1=>
  if decide (V1.bH=gE) then
   Sh.exit (some true)
  else
   Sh.next (fL (i190+1))
 else
  Sh.exit (G.gJ aK cW gE ey)

def fB(aK:G.ah)(cW:List G.aa)(gE:Int)(ey:Int)(v71:Bool):Option (Bool):=
 if v71 then
  some true
 else
  Sh.loop (fun(p:Int)=>G.gI aK cW gE ey p) 0

def fK(aK:G.ah)(cW:List G.aa)(gE:Int)(ey:Int):Option (Bool):=
 (G.lB aK gE ey).bind fun r58=>
 if !r58 then
  some false
 else
  if decide (gE<ey) then
   (Sh.idx aK.au gE).bind fun TZ=>
   (Sh.idx aK.au ey).bind fun T0=>
   G.fB aK cW gE ey (decide (TZ.bt=T0.bt))
  else
   G.fB aK cW gE ey false

def mg:Option (Bool):=
 some false

def fk(i128:Int)(ZO:Bool):Option ((Int)⊕(Bool)):=
 if ZO then
  Sh.exit (some true)
 else
  Sh.next (fL (i128+1))

def jc(aK:G.ah)(cW:List G.aa)(gE:Int)(ey:Int)(i128:Int):Option ((Int)⊕(Bool)):=
 (Sh.idx aK.au gE).bind fun VV=>
 if decide (i128<(Sh.len VV.Reads)) then
  (Sh.idx aK.au gE).bind fun VW=>
  (Sh.idx VW.Reads i128).bind fun tj=>
  (Sh.idx aK.au ey).bind fun aag=>
  (G.eg aag tj.Key).bind fun Vh=>
  (G.oq cW (G.aa.mk tj.Key tj.bH ey)).bind fun Vi=>
  if Vh then
   if decide (tj.bH=(-1)) then
    G.fk i128 true
   else
    if Vi then
     G.fk i128 (decide (tj.bH≠ey))
    else
     G.fk i128 false
  else
   G.fk i128 false
 else
  Sh.exit (G.mg)

def gy(aK:G.ah)(cW:List G.aa)(gE:Int)(ey:Int)(v53:Bool):Option (Bool):=
 if v53 then
  some false
 else
  Sh.loop (fun(p:Int)=>G.jc aK cW gE ey p) 0

def jN(aK:G.ah)(cW:List G.aa)(gE:Int)(ey:Int):Option (Bool):=
 (G.lB aK gE ey).bind fun Nn=>
 if !Nn then
  G.gy aK cW gE ey true
 else
  G.gy aK cW gE ey (decide (gE=ey))

def nW:Option (Bool):=
 some false

def lz(P7:Int):Option ((Int)⊕(Bool)):=
 Sh.next (fL (P7+1))

def lq(aK:G.ah)(bL:List G.aa)(xT:Int)(wO:Int)(P7:Int):Option ((Int)⊕(Bool)):=
 if decide (P7<(Sh.len aK.au)) then
  (G.fK aK bL xT P7).bind fun Vr=>
  if !Vr then
   G.lz P7
  else
   (G.jN aK bL P7 wO).bind fun r46=>
   if r46 then
    Sh.exit (some true)
   else
    G.lz P7
 else
  Sh.exit (G.nW)

def lu(aK:G.ah)(aE:Int)(bL:List G.aa)(xT:Int)(wO:Int)(ZM:Bool):Option (Bool):=
 if ZM then
  some false
 else
  (G.fK aK bL xT wO).bind fun vi=>
  if vi then
   some true
  else
   if decide (aE=0) then
    (G.jN aK bL xT wO).bind fun G_=>
    some G_
   else
    Sh.loop (fun(p:Int)=>G.lq aK bL xT wO p) 0

def ov(aK:G.ah)(aE:Int)(bL:List G.aa)(xT:Int)(wO:Int):Option (Bool):=
 if decide (aE≠0) then
  G.lu aK aE bL xT wO (decide (aE≠1))
 else
  G.lu aK aE bL xT wO false

def kM(cY:List Int):Option (Bool):=
 some (decide ((0:Int)<(Sh.len cY)))

def kN(i124:Int):Option ((Int)⊕(Bool)):=
 Sh.next (fL (i124+1))

def ig(aK:G.ah)(aE:Int)(bL:List G.aa)(cY:List Int)(i124:Int):Option ((Int)⊕(Bool)):=
 (Sh.idx cY i124).bind fun aah=>
 (Sh.rem (fL (i124+1)) (Sh.len cY)).bind fun Zn=>
 (Sh.idx cY Zn).bind fun aak=>
 (G.ov aK aE bL aah aak).bind fun Vj=>
 if !Vj then
  Sh.exit (some false)
 else
  G.kN i124

def ie(aK:G.ah)(aE:Int)(bL:List G.aa)(cY:List Int)(i124:Int)(SU:Int):Option ((Int)⊕((Int)⊕(Bool))):=
 if decide (SU<i124) then
  (Sh.idx cY SU).bind fun VX=>
  (Sh.idx cY i124).bind fun VY=>
  if decide (VX=VY) then
   Sh.exit (Sh.exit (some false))
  else
   Sh.next (fL (SU+1))
 else
  Sh.exit (G.ig aK aE bL cY i124)

def ic(aK:G.ah)(aE:Int)(bL:List G.aa)(cY:List Int)(i124:Int):Option ((Int)⊕(Bool)):=
 if decide (i124<(Sh.len cY)) then
  Sh.loop (fun(p:Int)=>G.ie aK aE bL cY i124 p) 0
 else
  Sh.exit (G.kM cY)

def lp(aK:G.ah)(aE:Int)(bL:List G.aa)(cY:List Int):Option (Bool):=
 Sh.loop (fun(p:Int)=>G.ic aK aE bL cY p) 0
end G
end

section
/- What the functions of a package compute, as plain functions. -/
open Go Go.Av
set_option linter.unusedVariables false
namespace G
def vB(aK:G.ah)(aE:Int):Option (Bool):=
 (G.iD aK).bind fun r8=>
 if r8 then
  if decide (aE=0) then
   some true
  else
   some (decide (aE=1))
 else
  some false

def kR(uZ:Int)(eO:G.ah)(jB:G.aa):Option (Bool):=
 if decide ((0:Int)≤uZ) then
  if decide (uZ<(Sh.len eO.au)) then
   (Sh.idx eO.au uZ).bind fun x14=>
   (G.cM x14.br jB.Key).bind fun xY=>
   some xY
  else
   some false
 else
  some false

def sJ(aK:G.ah)(cK:G.aa):Option (Bool):=
 if decide (cK.A≠cK.B) then
  (G.kR cK.A aK cK).bind fun uw=>
  if uw then
   (G.kR cK.B aK cK).bind fun xX=>
   some xX
  else
   some false
 else
  some false

def nv(bg:G.bC):Option (Bool):=
 if decide (bg.f.I=0) then
  if decide (bg.f.J=0) then
   (G.oB bg.h [] bg.f.C.A bg.f.C.B).bind fun Vb=>
   some Vb
  else
   some false
 else
  some false

def e_(bg:G.bC)(NA:Bool):Option (Bool):=
 if NA then
  some false
 else
  (Sh.idx bg.l bg.f.I).bind fun Cs=>
  (Sh.idx bg.l bg.f.J).bind fun Em=>
  if decide (Cs.C.B=Em.C.A) then
   if decide (Cs.C.Key=Em.C.Key) then
    Sh.Y7 (decide (bg.f.C=(G.aa.mk Cs.C.Key Cs.C.A Em.C.B))) fun G0=>
    some G0
   else
    some false
  else
   some false

def mD(bg:G.bC):Option (Bool):=
 if decide ((Sh.min bg.f.I bg.f.J)<0) then
  G.e_ bg true
 else
  G.e_ bg (decide ((Sh.len bg.l)≤(Sh.max bg.f.I bg.f.J)))

def dA(bg:G.bC)(v18:Bool):Option (Bool):=
 if v18 then
  some false
 else
  (Sh.idx bg.h.au bg.f.I).bind fun x23=>
  (G.c4 x23.Reads (G.aC.mk bg.f.C.Key bg.f.C.B)).bind fun Pq=>
  if Pq then
   (G.oB bg.h [] bg.f.C.A bg.f.I).bind fun wK=>
   some wK
  else
   some false

def og(bg:G.bC):Option (Bool):=
 if decide (bg.f.J≠0) then
  G.dA bg true
 else
  if decide (bg.f.I=bg.f.C.A) then
   G.dA bg true
  else
   if decide (bg.f.I<0) then
    G.dA bg true
   else
    G.dA bg (decide ((Sh.len bg.h.au)≤bg.f.I))

def pW(CV:List G.aa):Option ((List G.aa)):=
 some CV

def od(eB:List G.az)(vL:List G.aa)(ZW:Int):Option (((List G.aa)×Int)⊕((List G.aa))):=
 if decide (ZW<(Sh.len eB)) then
  (Sh.idx eB ZW).bind fun Oq=>
  (Sh.app 24 vL ([Oq.C]:List G.aa)).bind fun Iv=>
  Sh.next (Iv,fL (ZW+1))
 else
  Sh.exit (G.pW vL)

def qX(eB:List G.az):Option ((List G.aa)):=
 Sh.loop (fun(p:(List G.aa)×Int)=>G.od eB p.1 p.2) ([],0)

def mC(bg:G.bC):Option (Bool):=
 (G.qX bg.l).bind fun r9=>
 (Sh.app 24 r9 ([(G.aa.mk bg.f.C.Key bg.f.C.B bg.f.C.A)]:List G.aa)).bind fun l10=>
 if decide (bg.f.I=0) then
  if decide (bg.f.J=0) then
   (G.tF bg.h bg.level l10 bg.f.bI).bind fun xY=>
   some xY
  else
   some false
 else
  some false

def u6:Option (Unit):=
 some ()

def rN:Option (Bool):=
 some false

def lQ(aK:G.ah)(aE:Int)(bL:List G.az)(bG:G.az)(v23:Bool):Option (Bool):=
 if v23 then
  some false
 else
  (G.u6).bind fun Ts=>
  if decide ((1:Int)=bG.Kind) then
   (G.nv (G.bC.mk (G.ah.mk aK.au) aE bL (G.az.mk (G.aa.mk bG.C.Key bG.C.A bG.C.B) bG.Kind bG.I bG.J bG.bI))).bind fun r39=>
   some r39
  else
   if decide ((2:Int)=bG.Kind) then
    (G.mD (G.bC.mk (G.ah.mk aK.au) aE bL (G.az.mk (G.aa.mk bG.C.Key bG.C.A bG.C.B) bG.Kind bG.I bG.J bG.bI))).bind fun Vr=>
    some Vr
   else
    if decide ((3:Int)=bG.Kind) then
     (G.og (G.bC.mk (G.ah.mk aK.au) aE bL (G.az.mk (G.aa.mk bG.C.Key bG.C.A bG.C.B) bG.Kind bG.I bG.J bG.bI))).bind fun Vs=>
     some Vs
    else
     if decide ((4:Int)=bG.Kind) then
      (G.mC (G.bC.mk (G.ah.mk aK.au) aE bL (G.az.mk (G.aa.mk bG.C.Key bG.C.A bG.C.B) bG.Kind bG.I bG.J bG.bI))).bind fun r51=>
      some r51
     else
      G.rN

def tH(aK:G.ah)(aE:Int)(bL:List G.az)(bG:G.az):Option (Bool):=
 (G.vB aK aE).bind fun E8=>
 if !E8 then
  G.lQ aK aE bL bG true
 else
  (G.sJ aK bG.C).bind fun No=>
  if !No then
   G.lQ aK aE bL bG true
  else
   if decide (bG.Kind≠4) then
    G.lQ aK aE bL bG (decide ((0:Int)<(Sh.len bG.bI)))
   else
    G.lQ aK aE bL bG false

def qy(aK:G.ah)(aE:Int):Option (Bool):=
 (G.vB aK aE).bind fun Ts=>
 some Ts

def nG(aK:G.ah)(aE:Int)(bL:List G.az)(Xr:Int):Option ((Int)⊕(Bool)):=
 if decide (Xr<(Sh.len bL)) then
  (Sh.idx bL Xr).bind fun Qb=>
  (Sh.sub bL 0 Xr).bind fun JP=>
  (G.tH aK aE JP Qb).bind fun No=>
  if !No then
   Sh.exit (some false)
  else
   Sh.next (fL (Xr+1))
 else
  Sh.exit (G.qy aK aE)

def sI(aK:G.ah)(aE:Int)(bL:List G.az):Option (Bool):=
 Sh.loop (fun(p:Int)=>G.nG aK aE bL p) 0
end G
end

section
/- What the functions of a package compute, as plain functions. -/
open Go Go.Av
set_option linter.unusedVariables false
namespace G
def je(CV:List G.aa):Option ((List G.aa)):=
 some CV

def fY(eB:List G.aA)(vL:List G.aa)(i37:Int):Option (((List G.aa)×Int)⊕((List G.aa))):=
 if decide (i37<(Sh.len eB)) then
  (Sh.idx eB i37).bind fun x42=>
  (Sh.app 24 vL ([x42.C]:List G.aa)).bind fun AI=>
  Sh.next (AI,fL (i37+1))
 else
  Sh.exit (G.je vL)

def jd(eB:List G.aA):Option ((List G.aa)):=
 Sh.loop (fun(p:(List G.aa)×Int)=>G.fY eB p.1 p.2) ([],0)

def jQ(aK:G.ah)(pQ:Int)(pR:Int):Option (Bool):=
 (G.fK aK [] pQ pR).bind fun r3=>
 some r3

def cS(eB:List G.aA)(cL:G.aA)(v21:Bool):Option (Bool):=
 if v21 then
  some false
 else
  (Sh.idx eB cL.I).bind fun HQ=>
  (Sh.idx eB cL.J).bind fun G0=>
  if decide (HQ.C.Key=cL.C.Key) then
   if decide (G0.C.Key=cL.C.Key) then
    if decide (HQ.C.A=cL.C.A) then
     if decide (G0.C.B=cL.C.B) then
      some (decide (HQ.C.B=G0.C.A))
     else
      some false
    else
     some false
   else
    some false
  else
   some false

def kj(eB:List G.aA)(cL:G.aA):Option (Bool):=
 if decide (cL.I<0) then
  G.cS eB cL true
 else
  if decide ((Sh.len eB)≤cL.I) then
   G.cS eB cL true
  else
   if decide (cL.J<0) then
    G.cS eB cL true
   else
    G.cS eB cL (decide ((Sh.len eB)≤cL.J))

def fm(aK:G.ah)(cL:G.aA)(v23:Bool):Option (Bool):=
 if v23 then
  some false
 else
  (G.jQ aK cL.C.A cL.I).bind fun EI=>
  some EI

def c9(aK:G.ah)(cL:G.aA)(ZM:Bool):Option (Bool):=
 if ZM then
  some false
 else
  (G.jK aK cL.I cL.C.Key).bind fun vi=>
  if !vi.2 then
   G.fm aK cL true
  else
   G.fm aK cL (decide (vi.1≠cL.C.B))

def mG(aK:G.ah)(cL:G.aA):Option (Bool):=
 if decide (cL.I<0) then
  G.c9 aK cL true
 else
  if decide ((Sh.len aK.au)≤cL.I) then
   G.c9 aK cL true
  else
   if decide (cL.I=cL.C.A) then
    G.c9 aK cL true
   else
    G.c9 aK cL (decide (cL.J≠0))

def eN(aK:G.ah)(aE:Int)(bL:List G.aA)(bG:G.aA)(v38:Bool):Option (Bool):=
 if v38 then
  some false
 else
  if decide (bG.Kind=1) then
   (G.jQ aK bG.C.A bG.C.B).bind fun r55=>
   if r55 then
    if decide (bG.I=0) then
     some (decide (bG.J=0))
    else
     some false
   else
    some false
  else
   if decide (bG.Kind=2) then
    (G.kj bL bG).bind fun r62=>
    some r62
   else
    if decide (bG.Kind=3) then
     (G.mG aK bG).bind fun r65=>
     some r65
    else
     if decide (bG.Kind=4) then
      (G.jd bL).bind fun r68=>
      (G.jM bG.C).bind fun r71=>
      (Sh.app 24 r68 ([r71]:List G.aa)).bind fun c72=>
      (G.lp aK aE c72 bG.bI).bind fun r74=>
      if r74 then
       if decide (bG.I=0) then
        some (decide (bG.J=0))
       else
        some false
      else
       some false
     else
      some false

def dX(aK:G.ah)(aE:Int)(bL:List G.aA)(bG:G.aA)(VN:Bool):Option (Bool):=
 if VN then
  some false
 else
  (G.jb aK bG.C).bind fun Pr=>
  if !Pr then
   G.eN aK aE bL bG true
  else
   if decide (bG.Kind≠4) then
    G.eN aK aE bL bG (decide ((0:Int)<(Sh.len bG.bI)))
   else
    G.eN aK aE bL bG false

def lC(aK:G.ah)(aE:Int)(bL:List G.aA)(bG:G.aA):Option (Bool):=
 (G.c5 aK).bind fun BJ=>
 if !BJ then
  G.dX aK aE bL bG true
 else
  if decide (aE≠0) then
   G.dX aK aE bL bG (decide (aE≠1))
  else
   G.dX aK aE bL bG false

def jP:Option (Bool):=
 some true

def fC(aK:G.ah)(aE:Int)(bL:List G.aA)(i51:Int):Option ((Int)⊕(Bool)):=
 if decide (i51<(Sh.len bL)) then
  (Sh.sub bL 0 i51).bind fun JQ=>
  (Sh.idx bL i51).bind fun Ud=>
  (G.lC aK aE JQ Ud).bind fun r64=>
  if !r64 then
   Sh.exit (some false)
  else
   Sh.next (fL (i51+1))
 else
  Sh.exit (G.jP)

def ez(aK:G.ah)(aE:Int)(bL:List G.aA)(v26:Bool):Option (Bool):=
 if v26 then
  some false
 else
  Sh.loop (fun(p:Int)=>G.fC aK aE bL p) 0

def kg(aK:G.ah)(aE:Int)(bL:List G.aA):Option (Bool):=
 (G.c5 aK).bind fun JS=>
 if !JS then
  G.ez aK aE bL true
 else
  if decide (aE≠0) then
   G.ez aK aE bL (decide (aE≠1))
  else
   G.ez aK aE bL false
end G
end

section
/- What the functions of a package compute, as plain functions. -/
open Go Go.Av
set_option linter.unusedVariables false
namespace G
def sW(EL:List Int):Option ((List Int)):=
 (Sh.whole 64 EL).bind fun alB=>
 (Sh.whole 64 EL).bind fun alC=>
 (Sh.whole 64 EL).bind fun alD=>
 some EL

def sX(wj:Int)(FM:BitVec 64)(ZY:List Int):Option (((List Int)×(BitVec 64)×Int)⊕((List Int))):=
 Sh.next (ZY,FM,fL (wj+1))

def sY(wj:Int)(EY:BitVec 64)(VP:List Int):Option (((List Int)×(BitVec 64)×Int)⊕((List Int))):=
 G.sX wj EY VP

def pK(GY:Int)(XK:List Int)(JI:BitVec 64):Option (((List Int)×(BitVec 64)×Int)⊕(((List Int)×(BitVec 64)×Int)⊕((List Int)))):=
 Sh.next (XK,JI,fL (GY+1))

def pJ(gF:G.af)(wj:Int)(CY:(List Int))(CD:List Int)(rX:BitVec 64)(GY:Int):Option (((List Int)×(BitVec 64)×Int)⊕(((List Int)×(BitVec 64)×Int)⊕((List Int)))):=
 if decide (GY<(Sh.len CY)) then
  (Sh.idx CY GY).bind fun NI=>
  (Sh.IQ 64 CD NI).bind fun Wd=>
  if decide (Wd=0) then
   (Sh.IQ 64 CD NI).bind fun alN=>
   (Sh.idx gF.Rows NI).bind fun Ml=>
   (G.nt [rX,Ml]).bind fun Vt=>
   G.pK GY (Sh.set CD NI wj) Vt
  else
   G.pK GY CD rX
 else
  Sh.exit (G.sY wj rX CD)

def qT(gF:G.af)(QE:List Int)(xA:BitVec 64)(wj:Int):Option (((List Int)×(BitVec 64)×Int)⊕((List Int))):=
 if decide (xA≠0#64) then
  (G.mz xA).bind fun CY=>
  Sh.loop (fun(p:(List Int)×(BitVec 64)×Int)=>G.pJ gF wj CY p.1 p.2.1 p.2.2) (QE,0#64,0)
 else
  Sh.exit (G.sW QE)

def qS(gF:G.af)(jw:Int):Option ((List Int)):=
 (Sh.idx gF.Rows jw).bind fun aad=>
 Sh.loop (fun(p:(List Int)×(BitVec 64)×Int)=>G.qT gF p.1 p.2.1 p.2.2) ((List.replicate 64 0),aad,1)

def rJ:Option ((List Int)):=
 some []

def rK(Cp:Int):Option ((Int)⊕((List Int))):=
 Sh.next (fL (Cp+1))

def rL(JM:List Int):Option ((Int)⊕((List Int))):=
 Sh.exit (some JM)

def p9(nZ:Int)(Nj:List Int):Option (((List Int)×Int)⊕((Int)⊕((List Int)))):=
 Sh.next (Nj,fL (nZ - 1))

def p8(uP:(List Int))(o_:List Int)(nZ:Int)(EJ:(List Int))(TS:Int):Option ((Int)⊕(((List Int)×Int)⊕((Int)⊕((List Int))))):=
 if decide (TS<(Sh.len EJ)) then
  (Sh.idx EJ TS).bind fun P3=>
  (Sh.IQ 64 uP P3).bind fun Wj=>
  if decide (Wj=nZ) then
   (Sh.app 8 o_ [P3]).bind fun Cm=>
   Sh.exit (G.p9 nZ Cm)
  else
   Sh.next (fL (TS+1))
 else
  Sh.exit (G.p9 nZ o_)

def oJ(bR:G.af)(uP:(List Int))(o_:List Int)(nZ:Int):Option (((List Int)×Int)⊕((Int)⊕((List Int)))):=
 if decide ((0:Int)<nZ) then
  (Sh.idx o_ (fL ((Sh.len o_) - 1))).bind fun aaC=>
  (Sh.idx bR.Rows aaC).bind fun aaD=>
  (G.mz aaD).bind fun EJ=>
  Sh.loop (fun(p:Int)=>G.p8 uP o_ nZ EJ p) 0
 else
  Sh.exit (G.rL o_)

def ni(bR:G.af)(xe:G.af×Int)(Cp:Int):Option ((Int)⊕((List Int))):=
 if decide (Cp<bR.N) then
  (G.qS xe.1 Cp).bind fun uP=>
  (Sh.whole 64 (List.replicate 64 0)).bind fun alE=>
  (Sh.whole 64 uP).bind fun alF=>
  (Sh.IQ 64 uP Cp).bind fun Wi=>
  if decide (Wi=0) then
   G.rK Cp
  else
   (Sh.IQ 64 uP Cp).bind fun aaz=>
   Sh.loop (fun(p:(List Int)×Int)=>G.oJ bR uP p.1 p.2) ([Cp],fL (aaz - 1))
 else
  Sh.exit (G.rJ)

def r5(bR:G.af):Option ((List Int)):=
 (G.qG bR).bind fun xe=>
 if decide (xe.2≠0) then
  some []
 else
  Sh.loop (fun(p:Int)=>G.ni bR xe p) 0
end G
end

section
/- What the functions of a package compute, as plain functions. -/
open Go Go.Av
set_option linter.unusedVariables false
namespace G
def mY(Ur:List Int):Option ((List Int)):=
 some Ur

def mZ(jS:Int)(QB:List Int):Option (((List Int)×Int)⊕((List Int))):=
 Sh.next (QB,fL (jS+1))

def fJ(nr:Int)(QC:List Int):Option (((List Int)×Int)⊕(((List Int)×Int)⊕((List Int)))):=
 Sh.next (QC,fL (nr+1))

def ei(pZ:Int)(QD:List Int):Option (((List Int)×Int)⊕(((List Int)×Int)⊕(((List Int)×Int)⊕((List Int))))):=
 Sh.next (QD,fL (pZ+1))

def ej(jS:Int)(nr:Int)(nF:List Int)(pZ:Int)(TN:Bool):Option (((List Int)×Int)⊕(((List Int)×Int)⊕(((List Int)×Int)⊕((List Int))))):=
 if TN then
  (Sh.idx nF nr).bind fun ah5=>
  G.ei pZ (Sh.set nF nr (fL (jS+1)))
 else
  G.ei pZ nF

def dH(bR:G.ak)(jS:Int)(nr:Int)(nF:List Int)(pZ:Int)(TM:Bool):Option (((List Int)×Int)⊕(((List Int)×Int)⊕(((List Int)×Int)⊕((List Int))))):=
 if TM then
  (G.ew bR nr pZ).bind fun Oc=>
  if Oc then
   (Sh.idx nF pZ).bind fun Mg=>
   G.ej jS nr nF pZ (decide (Mg=jS))
  else
   G.ej jS nr nF pZ false
 else
  Sh.exit (G.fJ nr nF)

def eU(bR:G.ak)(jS:Int)(nr:Int)(nF:List Int)(pZ:Int):Option (((List Int)×Int)⊕(((List Int)×Int)⊕(((List Int)×Int)⊕((List Int))))):=
 if decide (pZ<bR.N) then
  (Sh.idx nF nr).bind fun Mh=>
  G.dH bR jS nr nF pZ (decide (Mh=0))
 else
  G.dH bR jS nr nF pZ false

def gW(bR:G.ak)(jS:Int)(Kx:List Int)(nr:Int):Option (((List Int)×Int)⊕(((List Int)×Int)⊕((List Int)))):=
 if decide (nr<bR.N) then
  Sh.loop (fun(p:(List Int)×Int)=>G.eU bR jS nr p.1 p.2) (Kx,0)
 else
  Sh.exit (G.mZ jS Kx)

def j_(bR:G.ak)(Kw:List Int)(jS:Int):Option (((List Int)×Int)⊕((List Int))):=
 if decide (jS<bR.N) then
  Sh.loop (fun(p:(List Int)×Int)=>G.gW bR jS p.1 p.2) (Kw,0)
 else
  Sh.exit (G.mY Kw)

def mX(bR:G.ak)(XJ:List Int):Option ((List Int)):=
 Sh.loop (fun(p:(List Int)×Int)=>G.j_ bR p.1 p.2) (XJ,1)

def kf(xx:List Int)(zf:Int)(LO:Int):Option (((List Int)×Int)⊕((List Int))):=
 (Sh.app 8 xx [LO]).bind fun H_=>
 Sh.next (H_,fL (zf+1))

def ke(bR:G.ak)(jw:Int)(xx:List Int)(zf:Int):Option (((List Int)×Int)⊕((List Int))):=
 if decide (zf<bR.N) then
  (G.ew bR zf jw).bind fun Tl=>
  if Tl then
   G.kf xx zf 1
  else
   G.kf xx zf 0
 else
  Sh.exit (G.mX bR xx)

def nD(bR:G.ak)(jw:Int):Option ((List Int)):=
 Sh.loop (fun(p:(List Int)×Int)=>G.ke bR jw p.1 p.2) ([],0)

def l5:Option ((List Int)):=
 some []

def l6(BN:Int):Option ((Int)⊕((List Int))):=
 Sh.next (fL (BN+1))

def l7(JL:List Int):Option ((Int)⊕((List Int))):=
 Sh.exit (some JL)

def l9(jo:Int)(aaA:Int)(Ni:List Int):Option (((List Int)×Int×Int)⊕((Int)⊕((List Int)))):=
 Sh.next (Ni,aaA,fL (jo - 1))

def l_(n8:List Int)(jo:Int)(yI:Int):Option (((List Int)×Int×Int)⊕((Int)⊕((List Int)))):=
 (Sh.app 8 n8 [yI]).bind fun GF=>
 G.l9 jo yI GF

def fe(xU:Int)(JJ:Int):Option ((Int×Int)⊕(((List Int)×Int×Int)⊕((Int)⊕((List Int))))):=
 Sh.next (JJ,fL (xU - 1))

def gw(rY:Int)(xU:Int)(Z7:Bool):Option ((Int×Int)⊕(((List Int)×Int×Int)⊕((Int)⊕((List Int))))):=
 if Z7 then
  G.fe xU xU
 else
  G.fe xU rY

def iX(bR:G.ak)(vR:(List Int))(n8:List Int)(HS:Int)(jo:Int)(rY:Int)(xU:Int):Option ((Int×Int)⊕(((List Int)×Int×Int)⊕((Int)⊕((List Int))))):=
 if decide ((0:Int)≤xU) then
  (G.ew bR HS xU).bind fun Vw=>
  if Vw then
   (Sh.idx vR xU).bind fun T7=>
   G.gw rY xU (decide (T7=jo))
  else
   G.gw rY xU false
 else
  Sh.exit (G.l_ n8 jo rY)

def gv(bR:G.ak)(vR:(List Int))(n8:List Int)(HS:Int)(jo:Int):Option (((List Int)×Int×Int)⊕((Int)⊕((List Int)))):=
 if decide ((0:Int)<jo) then
  Sh.loop (fun(p:Int×Int)=>G.iX bR vR n8 HS jo p.1 p.2) ((-1),fL (bR.N - 1))
 else
  Sh.exit (G.l7 n8)

def fc(bR:G.ak)(BN:Int):Option ((Int)⊕((List Int))):=
 if decide (BN<bR.N) then
  (G.nD bR BN).bind fun vR=>
  (Sh.idx vR BN).bind fun Wh=>
  if decide (Wh=0) then
   G.l6 BN
  else
   (Sh.idx vR BN).bind fun aay=>
   Sh.loop (fun(p:(List Int)×Int×Int)=>G.gv bR vR p.1 p.2.1 p.2.2) ([BN],BN,fL (aay - 1))
 else
  Sh.exit (G.l5)

def jL(bR:G.ak):Option ((List Int)):=
 (G.iF bR).bind fun Vk=>
 if !Vk then
  some []
 else
  Sh.loop (fun(p:Int)=>G.fc bR p) 0
end G
end

section
/- What the functions of a package compute, as plain functions. -/
open Go Go.Av
set_option linter.unusedVariables false
namespace G
def qC(GC:List G.aB):Option ((List G.aB)×Int):=
 some (GC,0)

def oU(aK:G.ah)(aE:Int)(bL:List G.az)(xb:List G.aB)(yV:Int):Option (((List G.aB)×Int)⊕((List G.aB)×Int)):=
 if decide (yV<(Sh.len bL)) then
  (Sh.sub bL 0 (fL ((fL ((fL ((Sh.len bL) - 1)) - yV))+1))).bind fun Be=>
  (G.qX Be).bind fun zL=>
  (Sh.idx zL (fL ((fL ((Sh.len bL) - 1)) - yV))).bind fun Mj=>
  (Sh.idx zL (fL ((fL ((Sh.len bL) - 1)) - yV))).bind fun jx=>
  (Sh.idx zL (fL ((fL ((Sh.len bL) - 1)) - yV))).bind fun D3=>
  (Sh.idx (Sh.set zL (fL ((fL ((Sh.len bL) - 1)) - yV)) (G.aa.mk D3.Key Mj.B D3.B)) (fL ((fL ((Sh.len bL) - 1)) - yV))).bind fun NH=>
  (G.sG aK aE (Sh.set (Sh.set zL (fL ((fL ((Sh.len bL) - 1)) - yV)) (G.aa.mk D3.Key Mj.B D3.B)) (fL ((fL ((Sh.len bL) - 1)) - yV)) (G.aa.mk NH.Key NH.A jx.A))).bind fun HI=>
  (G.r5 HI.1).bind fun Pp=>
  (Sh.app 48 xb ([(G.aB.mk (G.aa.mk 0 0 0) Pp)]:List G.aB)).bind fun DV=>
  Sh.next (DV,fL (yV+1))
 else
  Sh.exit (G.qC xb)

def qB(aK:G.ah)(aE:Int)(bL:List G.az)(Ng:List G.aB):Option ((List G.aB)×Int):=
 Sh.loop (fun(p:(List G.aB)×Int)=>G.oU aK aE bL p.1 p.2) (Ng,0)

def oV(aK:G.ah)(aE:Int)(bL:List G.az)(cP:List G.aB)(yK:List G.aB)(NB:Int):Option (((List G.aB)×Int)⊕((List G.aB)×Int)):=
 if decide (NB<(Sh.len cP)) then
  (Sh.idx cP NB).bind fun sO=>
  (Sh.app 8 [] sO.bI).bind fun LI=>
  (Sh.app 48 yK ([(G.aB.mk (G.aa.mk sO.C.Key sO.C.A sO.C.B) LI)]:List G.aB)).bind fun DW=>
  Sh.next (DW,fL (NB+1))
 else
  Sh.exit (G.qB aK aE bL yK)

def qA(aK:G.ah)(aE:Int)(bL:List G.az)(cP:List G.aB)(S9:List G.aB):Option ((List G.aB)×Int):=
 Sh.loop (fun(p:(List G.aB)×Int)=>G.oV aK aE bL cP p.1 p.2) (S9,0)

def oW(aK:G.ah)(aE:Int)(bL:List G.az)(cP:List G.aB)(AH:List G.aB)(NC:Int):Option (((List G.aB)×Int)⊕((List G.aB)×Int)):=
 if decide (NC<(Sh.len bL)) then
  (Sh.idx bL NC).bind fun uE=>
  (Sh.app 48 AH ([(G.aB.mk (G.aa.mk uE.C.Key uE.C.A uE.C.B) [])]:List G.aB)).bind fun DX=>
  Sh.next (DX,fL (NC+1))
 else
  Sh.exit (G.qA aK aE bL cP AH)

def pq(aK:G.ah)(aE:Int)(bL:List G.az)(cP:List G.aB):Option ((List G.aB)×Int):=
 if decide ((20000:Int)≤(Sh.len bL)) then
  some ([],4)
 else
  (G.sI aK aE bL).bind fun Vu=>
  if !Vu then
   some ([],17)
  else
   (Sh.mk 48 0 (fL ((Sh.len cP)+(fL (2*(Sh.len bL))))) (G.aB.mk (G.aa.mk 0 0 0) [])).bind fun JF=>
   Sh.loop (fun(p:(List G.aB)×Int)=>G.oW aK aE bL cP p.1 p.2) (JF,0)
end G
end

section
/- What the functions of a package compute, as plain functions. -/
open Go Go.Av
set_option linter.unusedVariables false
namespace G
def kP(LR:List G.aq):Option ((List G.aq)×Int):=
 some (LR,0)

def ij(aK:G.ah)(aE:Int)(bL:List G.aA)(AG:List G.aq)(i120:Int):Option (((List G.aq)×Int)⊕((List G.aq)×Int)):=
 if decide ((0:Int)≤i120) then
  (Sh.sub bL 0 i120).bind fun Bd=>
  (G.jd Bd).bind fun HH=>
  (Sh.idx bL i120).bind fun aae=>
  (G.jM aae.C).bind fun Tm=>
  (Sh.app 24 HH ([Tm]:List G.aa)).bind fun B5=>
  (G.mF aK aE B5).bind fun Zo=>
  (G.jL Zo).bind fun Po=>
  (Sh.app 48 AG ([(G.aq.mk (G.aa.mk 0 0 0) Po)]:List G.aq)).bind fun uO=>
  Sh.next (uO,fL (i120 - 1))
 else
  Sh.exit (G.kP AG)

def kO(aK:G.ah)(aE:Int)(bL:List G.aA)(cP:List G.aq)(vM:List G.aq):Option ((List G.aq)×Int):=
 (Sh.app 48 vM cP).bind fun Ix=>
 Sh.loop (fun(p:(List G.aq)×Int)=>G.ij aK aE bL p.1 p.2) (Ix,fL ((Sh.len bL) - 1))

def iq(aK:G.ah)(aE:Int)(bL:List G.aA)(cP:List G.aq)(DR:List G.aq)(i155:Int):Option (((List G.aq)×Int)⊕((List G.aq)×Int)):=
 if decide (i155<(Sh.len bL)) then
  (Sh.idx bL i155).bind fun AY=>
  (Sh.app 48 DR ([(G.aq.mk (G.aa.mk AY.C.Key AY.C.A AY.C.B) [])]:List G.aq)).bind fun DS=>
  Sh.next (DS,fL (i155+1))
 else
  Sh.exit (G.kO aK aE bL cP DR)

def lD(aK:G.ah)(aE:Int)(bL:List G.aA)(cP:List G.aq):Option ((List G.aq)×Int):=
 if decide ((20000:Int)≤(Sh.len bL)) then
  some ([],4)
 else
  (G.kg aK aE bL).bind fun Nn=>
  if !Nn then
   some ([],17)
  else
   Sh.loop (fun(p:(List G.aq)×Int)=>G.iq aK aE bL cP p.1 p.2) ([],0)
end G
end

section
/- What the functions of a package compute, as plain functions. -/
open Go Go.Av
set_option linter.unusedVariables false
namespace G
def mh:Option (Bool):=
 some true

def mj(tM:Int):Option ((Int)⊕(Bool)):=
 Sh.next (fL (tM+1))

def jg(bg:List G.aq)(dz:List G.aq)(tM:Int)(OX:Int):Option ((Int)⊕((Int)⊕(Bool))):=
 (Sh.idx bg tM).bind fun V9=>
 if decide (OX<(Sh.len V9.bI)) then
  (Sh.idx bg tM).bind fun V_=>
  (Sh.idx V_.bI OX).bind fun Wa=>
  (Sh.idx dz tM).bind fun Wb=>
  (Sh.idx Wb.bI OX).bind fun Wc=>
  if decide (Wa≠Wc) then
   Sh.exit (Sh.exit (some false))
  else
   Sh.next (fL (OX+1))
 else
  Sh.exit (G.mj tM)

def jh(bg:List G.aq)(dz:List G.aq)(tM:Int)(Z0:Bool):Option ((Int)⊕(Bool)):=
 if Z0 then
  Sh.exit (some false)
 else
  Sh.loop (fun(p:Int)=>G.jg bg dz tM p) 0

def jf(bg:List G.aq)(dz:List G.aq)(tM:Int):Option ((Int)⊕(Bool)):=
 if decide (tM<(Sh.len bg)) then
  (Sh.idx bg tM).bind fun PX=>
  (Sh.idx dz tM).bind fun PY=>
  if !decide (PX.C=PY.C) then
   G.jh bg dz tM true
  else
   (Sh.idx bg tM).bind fun PZ=>
   (Sh.idx dz tM).bind fun P0=>
   G.jh bg dz tM (decide ((Sh.len PZ.bI)≠(Sh.len P0.bI)))
 else
  Sh.exit (G.mh)

def jR(bg:List G.aq)(dz:List G.aq):Option (Bool):=
 if decide ((Sh.len bg)≠(Sh.len dz)) then
  some false
 else
  Sh.loop (fun(p:Int)=>G.jf bg dz p) 0
end G
end

section
/- What the functions of a package compute, as plain functions. -/
open Go Go.Av
set_option linter.unusedVariables false
namespace G
def kF(CW:List G.aq):Option ((List G.aq)):=
 some CW

def gZ(eB:List G.aB)(rz:List G.aq)(i53:Int):Option (((List G.aq)×Int)⊕((List G.aq))):=
 if decide (i53<(Sh.len eB)) then
  (Sh.idx eB i53).bind fun Ot=>
  (Sh.idx eB i53).bind fun Ud=>
  (Sh.app 48 rz ([(G.aq.mk (G.aa.mk Ot.C.Key Ot.C.A Ot.C.B) Ud.bI)]:List G.aq)).bind fun vM=>
  Sh.next (vM,fL (i53+1))
 else
  Sh.exit (G.kF rz)

def gp(eB:List G.aB):Option ((List G.aq)):=
 Sh.loop (fun(p:(List G.aq)×Int)=>G.gZ eB p.1 p.2) ([],0)

def nN:Option (Bool):=
 (G.pq (G.ah.mk ([(G.ai.mk 0 [2] []),(G.ai.mk 0 [2] [])]:List G.ai)) 0 ([(G.az.mk (G.aa.mk 2 0 1) 1 0 0 [])]:List G.az) ([(G.aB.mk (G.aa.mk 0 0 0) [5])]:List G.aB)).bind fun r9=>
 (G.pq (G.ah.mk ([(G.ai.mk 0 [2] []),(G.ai.mk 0 [2] [])]:List G.ai)) 0 ([(G.az.mk (G.aa.mk 2 1 0) 1 0 0 [])]:List G.az) []).bind fun uw=>
 if decide (r9.2=0) then
  (G.gp r9.1).bind fun AK=>
  (G.jR AK ([(G.aq.mk (G.aa.mk 2 0 1) []),(G.aq.mk (G.aa.mk 0 0 0) [5]),(G.aq.mk (G.aa.mk 0 0 0) [0,1])]:List G.aq)).bind fun E7=>
  if E7 then
   some (decide (uw.2=17))
  else
   some false
 else
  some false

def mT:Option (Bool):=
 some true

def gR(jy:G.bz)(i51:Int):Option ((Int)⊕(Bool)):=
 if decide (i51<(Sh.len jy.Tree)) then
  (Sh.idx jy.Tree i51).bind fun x57=>
  if decide ((40:Int)<(Sh.len x57.bI)) then
   Sh.exit (some false)
  else
   Sh.next (fL (i51+1))
 else
  Sh.exit (G.mT)

def mR(jy:G.bz):Option (Bool):=
 Sh.loop (fun(p:Int)=>G.gR jy p) 0

def j0(jy:G.bz)(i65:Int):Option ((Int)⊕(Bool)):=
 if decide (i65<(Sh.len jy.L)) then
  (Sh.idx jy.L i65).bind fun x71=>
  if decide ((40:Int)<(Sh.len x71.bI)) then
   Sh.exit (some false)
  else
   Sh.next (fL (i65+1))
 else
  Sh.exit (G.mR jy)

def gT(jy:G.bz)(ZQ:Bool):Option (Bool):=
 if ZQ then
  some false
 else
  Sh.loop (fun(p:Int)=>G.j0 jy p) 0

def nA(jy:G.bz)(yU:Int):Option (Bool):=
 (G.nB jy.H yU).bind fun Nm=>
 if !Nm then
  G.gT jy true
 else
  if decide ((20:Int)<(Sh.len jy.L)) then
   G.gT jy true
  else
   G.gT jy (decide ((60:Int)<(Sh.len jy.Tree)))

def kE(Oa:List G.aA):Option ((List G.aA)):=
 some Oa

def gY(eB:List G.az)(DP:List G.aA)(i101:Int):Option (((List G.aA)×Int)⊕((List G.aA))):=
 if decide (i101<(Sh.len eB)) then
  (Sh.idx eB i101).bind fun Dj=>
  (Sh.idx eB i101).bind fun PO=>
  (Sh.idx eB i101).bind fun PS=>
  (Sh.idx eB i101).bind fun PT=>
  (Sh.idx eB i101).bind fun AX=>
  (Sh.app 72 DP ([(G.aA.mk (G.aa.mk Dj.C.Key Dj.C.A Dj.C.B) PO.Kind PS.I PT.J AX.bI)]:List G.aA)).bind fun DQ=>
  Sh.next (DQ,fL (i101+1))
 else
  Sh.exit (G.kE DP)

def kW(eB:List G.az):Option ((List G.aA)):=
 Sh.loop (fun(p:(List G.aA)×Int)=>G.gY eB p.1 p.2) ([],0)

def iN(jy:G.bz):Option (Bool):=
 (G.nN).bind fun Ei=>
 if !Ei then
  some false
 else
  (G.nA jy 8).bind fun P9=>
  if !P9 then
   some true
  else
   (G.pq jy.H jy.Level jy.L jy.Tree).bind fun E7=>
   (G.kW jy.L).bind fun Nm=>
   (G.gp jy.Tree).bind fun BJ=>
   (G.lD jy.H jy.Level Nm BJ).bind fun G_=>
   (G.gp E7.1).bind fun Tr=>
   (G.jR Tr G_.1).bind fun wK=>
   if wK then
    some (decide (E7.2=G_.2))
   else
    some false
end G
end
