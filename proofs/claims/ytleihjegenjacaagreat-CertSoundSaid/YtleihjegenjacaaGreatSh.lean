/- What the functions compute, as plain functions. -/
import Derived.Test.YtleihjegenjacaaGreatBase2
set_option linter.unusedSimpArgs false
set_option linter.unusedVariables false
section
/- The plain types. -/
open Go Go.Av
namespace G
structure aa where
 Key:Int
 A:Int
 B:Int
 deriving DecidableEq,Inhabited
def aa.av(x:aa):AV:=.agg [J x.Key,J x.A,J x.B]
@[simp] theorem aa.Ad(x:aa):b_ (aa.av x):=by simp[aa.av]
@[simp] theorem aa.eY(x:aa):AV.eY (aa.av x)=true:=rfl
@[simp] theorem aa.Hh(x:aa):Fu (aa.av x):=by simp[aa.av]
@[simp] theorem aa.flat(x:aa):(aa.av x).flat.length=3:=rfl
structure ak where
 Key:Int
 bY:Int
 deriving DecidableEq,Inhabited
def ak.av(x:ak):AV:=.agg [J x.Key,J x.bY]
@[simp] theorem ak.Ad(x:ak):b_ (ak.av x):=by simp[ak.av]
@[simp] theorem ak.eY(x:ak):AV.eY (ak.av x)=true:=rfl
@[simp] theorem ak.Hh(x:ak):Fu (ak.av x):=by simp[ak.av]
@[simp] theorem ak.flat(x:ak):(ak.av x).flat.length=2:=rfl
structure ah where
 bw:Int
 bA:List Int
 Reads:List G.ak
 deriving DecidableEq,Inhabited
def ah.av(x:ah):AV:=.agg [J x.bw,.sl (List.map J x.bA),.sl (List.map G.ak.av x.Reads)]
@[simp] theorem ah.Ad(x:ah):b_ (ah.av x):=by simp[ah.av]
@[simp] theorem ah.eY(x:ah):AV.eY (ah.av x)=true:=rfl
@[simp] theorem ah.flat(x:ah):(ah.av x).flat.length=3:=rfl
structure af where
 az:List G.ah
 deriving DecidableEq,Inhabited
def af.av(x:af):AV:=.agg [.sl (List.map G.ah.av x.az)]
@[simp] theorem af.Ad(x:af):b_ (af.av x):=by simp[af.av]
@[simp] theorem af.eY(x:af):AV.eY (af.av x)=true:=rfl
@[simp] theorem af.flat(x:af):(af.av x).flat.length=1:=rfl
structure aA where
 Key:Int
 L:List Int
 deriving DecidableEq,Inhabited
def aA.av(x:aA):AV:=.agg [J x.Key,.sl (List.map J x.L)]
@[simp] theorem aA.Ad(x:aA):b_ (aA.av x):=by simp[aA.av]
@[simp] theorem aA.eY(x:aA):AV.eY (aA.av x)=true:=rfl
@[simp] theorem aA.flat(x:aA):(aA.av x).flat.length=2:=rfl
structure aq where
 C:G.aa
 dY:List Int
 deriving DecidableEq,Inhabited
def aq.av(x:aq):AV:=.agg [J x.C.Key,J x.C.A,J x.C.B,.sl (List.map J x.dY)]
@[simp] theorem aq.Ad(x:aq):b_ (aq.av x):=by simp[aq.av]
@[simp] theorem aq.eY(x:aq):AV.eY (aq.av x)=true:=rfl
@[simp] theorem aq.flat(x:aq):(aq.av x).flat.length=4:=rfl
structure bn where
 Level:Int
 pL:Bool
 Order:List Int
 Rows:List G.aA
 Tree:List G.aq
 deriving DecidableEq,Inhabited
def bn.av(x:bn):AV:=.agg [J x.Level,bl x.pL,.sl (List.map J x.Order),.sl (List.map G.aA.av x.Rows),.sl (List.map G.aq.av x.Tree)]
@[simp] theorem bn.Ad(x:bn):b_ (bn.av x):=by simp[bn.av]
@[simp] theorem bn.eY(x:bn):AV.eY (bn.av x)=true:=rfl
@[simp] theorem bn.flat(x:bn):(bn.av x).flat.length=5:=rfl
structure bU where
 deriving DecidableEq,Inhabited
def bU.av(x:bU):AV:=.agg []
@[simp] theorem bU.Ad(x:bU):b_ (bU.av x):=by simp[bU.av]
@[simp] theorem bU.eY(x:bU):AV.eY (bU.av x)=true:=rfl
@[simp] theorem bU.Hh(x:bU):Fu (bU.av x):=by simp[bU.av]
@[simp] theorem bU.flat(x:bU):(bU.av x).flat.length=0:=rfl
structure bC where
 deriving DecidableEq,Inhabited
def bC.av(x:bC):AV:=.agg []
@[simp] theorem bC.Ad(x:bC):b_ (bC.av x):=by simp[bC.av]
@[simp] theorem bC.eY(x:bC):AV.eY (bC.av x)=true:=rfl
@[simp] theorem bC.Hh(x:bC):Fu (bC.av x):=by simp[bC.av]
@[simp] theorem bC.flat(x:bC):(bC.av x).flat.length=0:=rfl
structure aj where
 N:Int
 Rows:List (BitVec 64)
 deriving DecidableEq,Inhabited
def aj.av(x:aj):AV:=.agg [J x.N,.sl (List.map u64 x.Rows)]
@[simp] theorem aj.Ad(x:aj):b_ (aj.av x):=by simp[aj.av]
@[simp] theorem aj.eY(x:aj):AV.eY (aj.av x)=true:=rfl
@[simp] theorem aj.flat(x:aj):(aj.av x).flat.length=2:=rfl
structure aQ where
 Key:Int
 L:List Int
 deriving DecidableEq,Inhabited
def aQ.av(x:aQ):AV:=.agg [J x.Key,.sl (List.map J x.L)]
@[simp] theorem aQ.Ad(x:aQ):b_ (aQ.av x):=by simp[aQ.av]
@[simp] theorem aQ.eY(x:aQ):AV.eY (aQ.av x)=true:=rfl
@[simp] theorem aQ.flat(x:aQ):(aQ.av x).flat.length=2:=rfl
structure aS where
 C:G.aa
 dY:List Int
 deriving DecidableEq,Inhabited
def aS.av(x:aS):AV:=.agg [J x.C.Key,J x.C.A,J x.C.B,.sl (List.map J x.dY)]
@[simp] theorem aS.Ad(x:aS):b_ (aS.av x):=by simp[aS.av]
@[simp] theorem aS.eY(x:aS):AV.eY (aS.av x)=true:=rfl
@[simp] theorem aS.flat(x:aS):(aS.av x).flat.length=4:=rfl
structure bT where
 Level:Int
 pL:Bool
 Order:List Int
 Rows:List G.aQ
 Tree:List G.aS
 deriving DecidableEq,Inhabited
def bT.av(x:bT):AV:=.agg [J x.Level,bl x.pL,.sl (List.map J x.Order),.sl (List.map G.aQ.av x.Rows),.sl (List.map G.aS.av x.Tree)]
@[simp] theorem bT.Ad(x:bT):b_ (bT.av x):=by simp[bT.av]
@[simp] theorem bT.eY(x:bT):AV.eY (bT.av x)=true:=rfl
@[simp] theorem bT.flat(x:bT):(bT.av x).flat.length=5:=rfl
structure aF where
 left:List G.aq
 deriving DecidableEq,Inhabited
def aF.av(x:aF):AV:=.agg [.sl (List.map G.aq.av x.left)]
@[simp] theorem aF.Ad(x:aF):b_ (aF.av x):=by simp[aF.av]
@[simp] theorem aF.eY(x:aF):AV.eY (aF.av x)=true:=rfl
@[simp] theorem aF.flat(x:aF):(aF.av x).flat.length=1:=rfl
end G
end

section
/- What the functions of a package compute, as plain functions. -/
open Go Go.Av
set_option linter.unusedVariables false
namespace G
def iB(b7:List Int):Option (Unit):=
 some ()

def mz:Option (Int):=
 some (-1)

def jA(b7:List Int)(uD:Int)(v22:Int):Option ((Int)⊕(Int)):=
 if decide (v22<(Sh.len b7)) then
  (Sh.idx b7 v22).bind fun Kd=>
  if decide (uD=Kd) then
   Sh.exit (some v22)
  else
   Sh.next (gJ (v22+1))
 else
  Sh.exit (G.mz)

def jy(b7:List Int)(uD:Int):Option (Int):=
 Sh.loop (fun(p:Int)=>G.jA b7 uD p) 0

def dG(b7:List Int)(uD:Int):Option (Bool):=
 (G.jy b7 uD).bind fun r3=>
 some (decide ((0:Int)≤r3))

def pJ(b7:List Int):Option (List Int):=Sh.app 8 [] b7

def gl:Option (Bool):=
 some true

def ew(qw:List G.ak)(sH:List G.ak)(v39:Int):Option ((Int)⊕(Bool)):=
 if decide (v39<(Sh.len qw)) then
  (Sh.idx qw v39).bind fun Jw=>
  (Sh.idx sH v39).bind fun F2=>
  if !decide (Jw=F2) then
   Sh.exit (some false)
  else
   Sh.next (gJ (v39+1))
 else
  Sh.exit (G.gl)

def eT(qw:List G.ak)(sH:List G.ak):Option (Bool):=
 if decide ((Sh.len qw)≠(Sh.len sH)) then
  some false
 else
  Sh.loop (fun(p:Int)=>G.ew qw sH p) 0

def mw:Option (Bool):=
 some true

def gH(qw:List Int)(sH:List Int)(v39:Int):Option ((Int)⊕(Bool)):=
 if decide (v39<(Sh.len qw)) then
  (Sh.idx qw v39).bind fun Jw=>
  (Sh.idx sH v39).bind fun F2=>
  if decide (Jw≠F2) then
   Sh.exit (some false)
  else
   Sh.next (gJ (v39+1))
 else
  Sh.exit (G.mw)

def jx(qw:List Int)(sH:List Int):Option (Bool):=
 if decide ((Sh.len qw)≠(Sh.len sH)) then
  some false
 else
  Sh.loop (fun(p:Int)=>G.gH qw sH p) 0

def fJ:Option (Int):=
 some (-1)

def eF(b7:List G.aa)(uD:G.aa)(v22:Int):Option ((Int)⊕(Int)):=
 if decide (v22<(Sh.len b7)) then
  (Sh.idx b7 v22).bind fun Kd=>
  if decide (uD=Kd) then
   Sh.exit (some v22)
  else
   Sh.next (gJ (v22+1))
 else
  Sh.exit (G.fJ)

def e8(b7:List G.aa)(uD:G.aa):Option (Int):=
 Sh.loop (fun(p:Int)=>G.eF b7 uD p) 0

def dR(b7:List G.aa)(uD:G.aa):Option (Bool):=
 (G.e8 b7 uD).bind fun r3=>
 some (decide ((0:Int)≤r3))

def eu(b7:List G.aa):Option ((List G.aa)):=
 (Sh.sub b7 0 (Sh.len b7)).bind fun JW=>
 some JW
end G
end

section
/- What the functions of a package compute, as plain functions. -/
open Go Go.Av
set_option linter.unusedVariables false
namespace G
def xT(aO:G.af):Option (Unit):=
 some ()

def iD(bM:Bool)(ru:Bool):Option (Bool×Bool):=
 if !ru then
  some (false,false)
 else
  some (bM,true)

def fD(iI:Int)(abM:Bool):Option ((Bool×Int)⊕(Bool×Bool)):=
 Sh.next (abM,gJ (iI+1))

def dg(iI:Int)(cZ:G.ah)(Vh:Bool):Option ((Bool×Int)⊕(Bool×Bool)):=
 if decide ((0:Int)≤cZ.bw) then
  (G.iD Vh (decide (cZ.bw<8))).bind fun IV=>
  if IV.2 then
   G.fD iI IV.1
  else
   Sh.exit (some (IV.1,false))
 else
  (G.iD Vh false).bind fun IW=>
  if IW.2 then
   G.fD iI IW.1
  else
   Sh.exit (some (IW.1,false))

def eL(vY:Int)(gR:G.ak)(abO:Bool):Option ((Bool×Int×Int)⊕((Bool×Int)⊕(Bool×Bool))):=
 Sh.next (abO,gR.Key,gJ (vY+1))

def cS(AP:Bool)(s6:Int)(vY:Int)(gR:G.ak)(zy:Bool):Option ((Bool×Int×Int)⊕((Bool×Int)⊕(Bool×Bool))):=
 if decide (s6<gR.Key) then
  if decide (gR.Key<16) then
   (G.iD AP zy).bind fun IX=>
   if IX.2 then
    G.eL vY gR IX.1
   else
    Sh.exit (Sh.exit (some (IX.1,false)))
  else
   (G.iD AP false).bind fun IY=>
   if IY.2 then
    G.eL vY gR IY.1
   else
    Sh.exit (Sh.exit (some (IY.1,false)))
 else
  (G.iD AP false).bind fun IZ=>
  if IZ.2 then
   G.eL vY gR IZ.1
  else
   Sh.exit (Sh.exit (some (IZ.1,false)))

def fC(bX:G.af)(iI:Int)(cZ:G.ah)(AP:Bool)(s6:Int)(vY:Int):Option ((Bool×Int×Int)⊕((Bool×Int)⊕(Bool×Bool))):=
 if decide (vY<(Sh.len cZ.Reads)) then
  (Sh.idx cZ.Reads vY).bind fun gR=>
  if decide (gR.bY=(-1)) then
   G.cS AP s6 vY gR true
  else
   if decide ((0:Int)≤gR.bY) then
    if decide (gR.bY<(Sh.len bX.az)) then
     if decide (gR.bY≠iI) then
      (Sh.idx bX.az gR.bY).bind fun VA=>
      (G.dG VA.bA gR.Key).bind fun Ro=>
      G.cS AP s6 vY gR Ro
     else
      G.cS AP s6 vY gR false
    else
     G.cS AP s6 vY gR false
   else
    G.cS AP s6 vY gR false
 else
  Sh.exit (G.dg iI cZ AP)

def de(bX:G.af)(iI:Int)(cZ:G.ah)(ahB:Bool):Option ((Bool×Int)⊕(Bool×Bool)):=
 Sh.loop (fun(p:Bool×Int×Int)=>G.fC bX iI cZ p.1 p.2.1 p.2.2) (ahB,(-1),0)

def fE(FZ:Int)(yP:Int)(abP:Bool):Option ((Bool×Int×Int)⊕((Bool×Int)⊕(Bool×Bool))):=
 Sh.next (abP,yP,gJ (FZ+1))

def eH(bX:G.af)(iI:Int)(cZ:G.ah)(Ot:Bool)(KK:Int)(FZ:Int):Option ((Bool×Int×Int)⊕((Bool×Int)⊕(Bool×Bool))):=
 if decide (FZ<(Sh.len cZ.bA)) then
  (Sh.idx cZ.bA FZ).bind fun yP=>
  if decide (KK<yP) then
   (G.iD Ot (decide (yP<16))).bind fun I4=>
   if I4.2 then
    G.fE FZ yP I4.1
   else
    Sh.exit (Sh.exit (some (I4.1,false)))
  else
   (G.iD Ot false).bind fun I5=>
   if I5.2 then
    G.fE FZ yP I5.1
   else
    Sh.exit (Sh.exit (some (I5.1,false)))
 else
  Sh.exit (G.de bX iI cZ Ot)

def eG(bX:G.af)(VW:Bool)(iI:Int):Option ((Bool×Int)⊕(Bool×Bool)):=
 if decide (iI<(Sh.len bX.az)) then
  (Sh.idx bX.az iI).bind fun cZ=>
  Sh.loop (fun(p:Bool×Int×Int)=>G.eH bX iI cZ p.1 p.2.1 p.2.2) (VW,(-1),0)
 else
  Sh.exit (some (VW,true))

def iL(bM:Bool)(bX:G.af):Option (Bool×Bool):=
 (G.iD bM (decide ((Sh.len bX.az)≤32))).bind fun Jx=>
 if Jx.2 then
  Sh.loop (fun(p:Bool×Int)=>G.eG bX p.1 p.2) (Jx.1,0)
 else
  some (Jx.1,false)

def nJ(aO:G.af):Option (Bool):=
 (G.xT aO).bind fun r8=>
 (G.iL false aO).bind fun Ya=>
 if Ya.2 then
  some true
 else
  some Ya.1
end G
end

section
/- What the functions of a package compute, as plain functions. -/
open Go Go.Av
set_option linter.unusedVariables false
namespace G
def pT:Option (Bool):=
 some true

def mN(i55:Int)(v68:Bool):Option ((Int)⊕(Bool)):=
 if v68 then
  Sh.exit (some false)
 else
  Sh.next (gJ (i55+1))

def mM(aO:G.af)(i55:Int):Option ((Int)⊕(Bool)):=
 if decide (i55<(Sh.len aO.az)) then
  (Sh.idx aO.az i55).bind fun Vz=>
  if decide ((20:Int)<(Sh.len Vz.bA)) then
   G.mN i55 true
  else
   (Sh.idx aO.az i55).bind fun x73=>
   G.mN i55 (decide ((20:Int)<(Sh.len x73.Reads)))
 else
  Sh.exit (G.pT)

def nu(aO:G.af)(Ab:Int):Option (Bool):=
 if decide (Ab<(Sh.len aO.az)) then
  some false
 else
  Sh.loop (fun(p:Int)=>G.mM aO p) 0

def mZ:Option (Bool):=
 some false

def jL(Bm:G.ah)(eM:Int)(i22:Int):Option ((Int)⊕(Bool)):=
 if decide (i22<(Sh.len Bm.bA)) then
  (Sh.idx Bm.bA i22).bind fun Kd=>
  if decide (Kd=eM) then
   Sh.exit (some true)
  else
   Sh.next (gJ (i22+1))
 else
  Sh.exit (G.mZ)

def fH(Bm:G.ah)(eM:Int):Option (Bool):=
 Sh.loop (fun(p:Int)=>G.jL Bm eM p) 0

def pU:Option (Bool):=
 some true

def jR(i195:Int):Option ((Int)⊕(Bool)):=
 Sh.next (gJ (i195+1))

def cU(aO:G.af)(i195:Int)(l6:G.ak)(ahu:Bool):Option ((Int)⊕(Bool)):=
 if ahu then
  Sh.exit (some false)
 else
  if decide (l6.bY<0) then
   G.jR i195
  else
   (Sh.idx aO.az l6.bY).bind fun aaQ=>
   (G.fH aaQ l6.Key).bind fun WI=>
   if !WI then
    Sh.exit (some false)
   else
    G.jR i195

def mO(aO:G.af)(sK:Int)(qx:G.ah)(i195:Int):Option ((Int)⊕(Bool)):=
 if decide (i195<(Sh.len qx.Reads)) then
  (Sh.idx qx.Reads i195).bind fun l6=>
  if decide (l6.Key<0) then
   G.cU aO i195 l6 true
  else
   if decide ((15:Int)<l6.Key) then
    G.cU aO i195 l6 true
   else
    if decide ((0:Int)<i195) then
     (Sh.idx qx.Reads (gJ (i195 - 1))).bind fun W8=>
     if decide (l6.Key≤W8.Key) then
      G.cU aO i195 l6 true
     else
      if decide (l6.bY<(-1)) then
       G.cU aO i195 l6 true
      else
       if decide ((Sh.len aO.az)≤l6.bY) then
        G.cU aO i195 l6 true
       else
        G.cU aO i195 l6 (decide (l6.bY=sK))
    else
     if decide (l6.bY<(-1)) then
      G.cU aO i195 l6 true
     else
      if decide ((Sh.len aO.az)≤l6.bY) then
       G.cU aO i195 l6 true
      else
       G.cU aO i195 l6 (decide (l6.bY=sK))
 else
  Sh.exit (G.pU)

def mQ(aO:G.af)(sK:Int)(qx:G.ah):Option (Bool):=
 Sh.loop (fun(p:Int)=>G.mO aO sK qx p) 0

def gq(Df:Int)(ahv:Bool):Option ((Int)⊕(Bool)):=
 if ahv then
  Sh.exit (some false)
 else
  Sh.next (gJ (Df+1))

def ic(aO:G.af)(sK:Int)(qx:G.ah)(Df:Int):Option ((Int)⊕(Bool)):=
 if decide (Df<(Sh.len qx.bA)) then
  (Sh.idx qx.bA Df).bind fun W9=>
  if decide (W9<0) then
   G.gq Df true
  else
   (Sh.idx qx.bA Df).bind fun W_=>
   if decide ((15:Int)<W_) then
    G.gq Df true
   else
    if decide ((0:Int)<Df) then
     (Sh.idx qx.bA (gJ (Df - 1))).bind fun Xa=>
     (Sh.idx qx.bA Df).bind fun Xb=>
     G.gq Df (decide (Xb≤Xa))
    else
     G.gq Df false
 else
  Sh.exit (G.mQ aO sK qx)

def mP(aO:G.af)(sK:Int)(qx:G.ah)(v89:Bool):Option (Bool):=
 if v89 then
  some false
 else
  Sh.loop (fun(p:Int)=>G.ic aO sK qx p) 0

def nv(aO:G.af)(sK:Int):Option (Bool):=
 (Sh.idx aO.az sK).bind fun qx=>
 if decide (qx.bw<0) then
  G.mP aO sK qx true
 else
  G.mP aO sK qx (decide ((7:Int)<qx.bw))

def oo:Option (Bool):=
 some true

def iq(aO:G.af)(n15:Int):Option ((Int)⊕(Bool)):=
 if decide (n15<(Sh.len aO.az)) then
  (G.nv aO n15).bind fun D9=>
  if !D9 then
   Sh.exit (some false)
  else
   Sh.next (gJ (n15+1))
 else
  Sh.exit (G.oo)

def fk(aO:G.af):Option (Bool):=
 if decide ((32:Int)<(Sh.len aO.az)) then
  some false
 else
  Sh.loop (fun(p:Int)=>G.iq aO p) 0
end G
end

section
/- What the functions of a package compute, as plain functions. -/
open Go Go.Av
set_option linter.unusedVariables false
namespace G
def oO(dV:G.bC)(uZ:G.af)(rZ:Int)(rB:Int):Option (Bool):=
 if decide (rZ<rB) then
  (Sh.idx uZ.az rZ).bind fun x13=>
  (Sh.idx uZ.az rB).bind fun x15=>
  some (decide (x13.bw=x15.bw))
 else
  some false

def gZ(yC:G.bC)(gd:G.af)(j6:Int)(qP:Int):Option (Bool):=
 (G.oO yC gd j6 qP).bind fun r3=>
 some r3

def oZ(qv:G.ak)(gd:Int):Option (Bool):=
 some (decide (qv.bY=gd))

def dy:Option (Int):=
 some (-1)

def cK(b7:List G.ak)(fK:Int)(v30:Int):Option ((Int)⊕(Int)):=
 if decide (v30<(Sh.len b7)) then
  (Sh.idx b7 v30).bind fun DK=>
  (G.oZ DK fK).bind fun xb=>
  if xb then
   Sh.exit (some v30)
  else
   Sh.next (gJ (v30+1))
 else
  Sh.exit (G.dy)

def cW(b7:List G.ak)(fK:Int):Option (Int):=
 Sh.loop (fun(p:Int)=>G.cK b7 fK p) 0

def cH(b7:List G.ak)(fK:Int):Option (Bool):=
 (G.cW b7 fK).bind fun r3=>
 some (decide ((0:Int)≤r3))

def sv(dV:G.bU)(uZ:G.af)(rZ:Int)(rB:Int):Option (Bool):=
 (Sh.idx uZ.az rB).bind fun x7=>
 (G.cH x7.Reads rZ).bind fun r9=>
 some r9

def jJ(yC:G.bU)(gd:G.af)(j6:Int)(qP:Int):Option (Bool):=
 (G.sv yC gd j6 qP).bind fun r3=>
 some r3

def qg(aO:G.af)(Fo:Int)(oK:Int):Option (Bool):=
 (Sh.idx aO.az Fo).bind fun x7=>
 (G.dG x7.bA oK).bind fun r9=>
 some r9

def i_(bM:G.aa)(gd:Int)(j6:Int)(qP:G.af):Option (Bool):=
 if decide (bM.A=gd) then
  if decide (bM.B=j6) then
   if decide (gd≠j6) then
    (G.qg qP gd bM.Key).bind fun Ct=>
    if Ct then
     (G.qg qP j6 bM.Key).bind fun D9=>
     some D9
    else
     some false
   else
    some false
  else
   some false
 else
  some false

def cN:Option (Int):=
 some (-1)

def b9(b7:List G.aa)(fK:Int)(oh:Int)(mX:G.af)(v30:Int):Option ((Int)⊕(Int)):=
 if decide (v30<(Sh.len b7)) then
  (Sh.idx b7 v30).bind fun DK=>
  (G.i_ DK fK oh mX).bind fun xb=>
  if xb then
   Sh.exit (some v30)
  else
   Sh.next (gJ (v30+1))
 else
  Sh.exit (G.cN)

def ct(b7:List G.aa)(fK:Int)(oh:Int)(mX:G.af):Option (Int):=
 Sh.loop (fun(p:Int)=>G.b9 b7 fK oh mX p) 0

def b8(b7:List G.aa)(fK:Int)(oh:Int)(mX:G.af):Option (Bool):=
 (G.ct b7 fK oh mX).bind fun r3=>
 some (decide ((0:Int)≤r3))

def oP(fW:List G.aa)(uZ:G.af)(rZ:Int)(rB:Int):Option (Bool):=
 (G.b8 fW rZ rB uZ).bind fun r3=>
 some r3

def g_(yC:List G.aa)(gd:G.af)(j6:Int)(qP:Int):Option (Bool):=
 (G.oP yC gd j6 qP).bind fun r3=>
 some r3

def c6:Option (Int):=
 some (-1)

def cF(b7:G.bC)(Jn:G.bU)(Jo:List G.aa)(mX:G.af)(Fq:Int)(Fs:Int):Option (Int):=
 (G.gZ b7 mX Fq Fs).bind fun zB=>
 if zB then
  some 0
 else
  (G.jJ Jn mX Fq Fs).bind fun Bl=>
  if Bl then
   some 1
  else
   (G.g_ Jo mX Fq Fs).bind fun uG=>
   if uG then
    some 2
   else
    G.c6

def cz(b7:G.bC)(Jn:G.bU)(Jo:List G.aa)(mX:G.af)(Fq:Int)(Fs:Int):Option (Bool):=
 (G.cF b7 Jn Jo mX Fq Fs).bind fun r3=>
 some (decide ((0:Int)≤r3))

def kJ(aO:G.af)(vZ:Int)(v7:Int)(fI:G.bC)(pW:G.bU)(pX:List G.aa)(Yr:Bool):Option (Bool):=
 if Yr then
  some false
 else
  (G.cz fI pW pX aO vZ v7).bind fun Bl=>
  some Bl

def qC(aO:G.af)(vZ:Int)(v7:Int)(fI:G.bC)(pW:G.bU)(pX:List G.aa):Option (Bool):=
 (G.nJ aO).bind fun Ct=>
 if !Ct then
  G.kJ aO vZ v7 fI pW pX true
 else
  if decide ((Sh.min vZ v7)<0) then
   G.kJ aO vZ v7 fI pW pX true
  else
   G.kJ aO vZ v7 fI pW pX (decide ((Sh.len aO.az)≤(Sh.max vZ v7)))

def rF(aO:G.af)(fZ:List G.aa)(rZ:Int)(rB:Int):Option (Bool):=
 (G.qC aO rZ rB G.bC.mk G.bU.mk fZ).bind fun r3=>
 some r3

def l_(qv:G.ak)(gd:G.af)(j6:Int)(qP:List G.aa):Option (Bool):=
 (G.qg gd j6 qv.Key).bind fun zB=>
 if zB then
  if decide (qv.bY<0) then
   some true
  else
   if decide (qv.bY≠j6) then
    (G.dR qP (G.aa.mk qv.Key qv.bY j6)).bind fun Bl=>
    some Bl
   else
    some false
 else
  some false

def dw:Option (Int):=
 some (-1)

def cI(b7:List G.ak)(fK:G.af)(oh:Int)(mX:List G.aa)(v30:Int):Option ((Int)⊕(Int)):=
 if decide (v30<(Sh.len b7)) then
  (Sh.idx b7 v30).bind fun DK=>
  (G.l_ DK fK oh mX).bind fun xb=>
  if xb then
   Sh.exit (some v30)
  else
   Sh.next (gJ (v30+1))
 else
  Sh.exit (G.dw)

def cV(b7:List G.ak)(fK:G.af)(oh:Int)(mX:List G.aa):Option (Int):=
 Sh.loop (fun(p:Int)=>G.cI b7 fK oh mX p) 0

def cG(b7:List G.ak)(fK:G.af)(oh:Int)(mX:List G.aa):Option (Bool):=
 (G.cV b7 fK oh mX).bind fun r3=>
 some (decide ((0:Int)≤r3))

def su(fW:List G.aa)(uZ:G.af)(rZ:Int)(rB:Int):Option (Bool):=
 if decide (rZ≠rB) then
  (Sh.idx uZ.az rZ).bind fun x11=>
  (G.cG x11.Reads uZ rB fW).bind fun DG=>
  some DG
 else
  some false

def jI(yC:List G.aa)(gd:G.af)(j6:Int)(qP:Int):Option (Bool):=
 (G.su yC gd j6 qP).bind fun r3=>
 some r3

def c5:Option (Int):=
 some (-1)

def cE(b7:List G.aa)(fK:G.af)(oh:Int)(mX:Int):Option (Int):=
 (G.jI b7 fK oh mX).bind fun r6=>
 if r6 then
  some 0
 else
  G.c5

def cw(b7:List G.aa)(fK:G.af)(oh:Int)(mX:Int):Option (Bool):=
 (G.cE b7 fK oh mX).bind fun r3=>
 some (decide ((0:Int)≤r3))

def kI(aO:G.af)(vZ:Int)(v7:Int)(fI:List G.aa)(Yr:Bool):Option (Bool):=
 if Yr then
  some false
 else
  (G.cw fI aO vZ v7).bind fun Bl=>
  some Bl

def qB(aO:G.af)(vZ:Int)(v7:Int)(fI:List G.aa):Option (Bool):=
 (G.nJ aO).bind fun Ct=>
 if !Ct then
  G.kI aO vZ v7 fI true
 else
  if decide ((Sh.min vZ v7)<0) then
   G.kI aO vZ v7 fI true
  else
   G.kI aO vZ v7 fI (decide ((Sh.len aO.az)≤(Sh.max vZ v7)))

def uU(aO:G.af)(fZ:List G.aa)(rZ:Int)(rB:Int):Option (Bool):=
 (G.qB aO rZ rB fZ).bind fun r3=>
 some r3

def uW:Option (Bool):=
 some false

def uX(Ft:Int)(v73:Bool):Option ((Int)⊕(Bool)):=
 if v73 then
  Sh.exit (some true)
 else
  Sh.next (gJ (Ft+1))

def wO(aO:G.af)(mI:List G.aa)(Oh:Int)(Lu:Int)(Ft:Int):Option ((Int)⊕(Bool)):=
 if decide (Ft<(Sh.len aO.az)) then
  (G.rF aO mI Oh Ft).bind fun iJ=>
  if iJ then
   if decide (Ft=Lu) then
    G.uX Ft true
   else
    (G.uU aO mI Ft Lu).bind fun r78=>
    G.uX Ft r78
  else
   G.uX Ft false
 else
  Sh.exit (G.uW)

def CO(aO:G.af)(bh:Int)(mI:List G.aa)(Oh:Int)(Lu:Int):Option (Bool):=
 if decide (bh=0) then
  (G.rF aO mI Oh Lu).bind fun r47=>
  if r47 then
   some true
  else
   (G.uU aO mI Oh Lu).bind fun r49=>
   some r49
 else
  if decide (bh=1) then
   Sh.loop (fun(p:Int)=>G.wO aO mI Oh Lu p) 0
  else
   G.uW

def vh(lW:List Int):Option (Bool):=
 some (decide ((0:Int)<(Sh.len lW)))

def qK(Vi:Int)(v109:Bool):Option ((Int)⊕(Bool)):=
 if v109 then
  Sh.exit (some false)
 else
  Sh.next (gJ (Vi+1))

def sO(aO:G.af)(bh:Int)(mI:List G.aa)(lW:List Int)(Vi:Int):Option ((Int)⊕(Bool)):=
 if decide (Vi<(Sh.len lW)) then
  (Sh.idx lW Vi).bind fun W6=>
  (Sh.sub lW 0 Vi).bind fun GY=>
  (G.dG GY W6).bind fun WE=>
  if WE then
   G.qK Vi true
  else
   (Sh.rem (gJ (Vi+1)) (Sh.len lW)).bind fun Z_=>
   (Sh.idx lW Z_).bind fun aaI=>
   (G.CO aO bh mI W6 aaI).bind fun UC=>
   G.qK Vi (!UC)
 else
  Sh.exit (G.vh lW)

def uV(aO:G.af)(bh:Int)(mI:List G.aa)(lW:List Int):Option (Bool):=
 Sh.loop (fun(p:Int)=>G.sO aO bh mI lW p) 0
end G
end

section
/- What the functions of a package compute, as plain functions. -/
open Go Go.Av
set_option linter.unusedVariables false
namespace G
def wz:Option (Bool):=
 some true

def sB(uq:List Bool)(VJ:Int)(Ek:Int)(ahp:Bool):Option (((List Bool)×Int)⊕(Bool)):=
 if ahp then
  Sh.exit (some false)
 else
  (Sh.I9 32 uq Ek).bind fun aln=>
  Sh.next (Sh.set uq Ek true,gJ (VJ+1))

def uw(aG:List Int)(uq:List Bool)(VJ:Int):Option (((List Bool)×Int)⊕(Bool)):=
 if decide (VJ<(Sh.len aG)) then
  (Sh.idx aG VJ).bind fun Ek=>
  if decide (Ek<0) then
   G.sB uq VJ Ek true
  else
   if decide ((Sh.len aG)≤Ek) then
    G.sB uq VJ Ek true
   else
    (Sh.I9 32 uq Ek).bind fun IT=>
    G.sB uq VJ Ek IT
 else
  Sh.exit (G.wz)

def uy(aG:List Int)(v40:Bool):Option (Bool):=
 if v40 then
  some false
 else
  Sh.loop (fun(p:(List Bool)×Int)=>G.uw aG p.1 p.2) ((List.replicate 32 false),0)

def u_(aO:G.af)(aG:List Int):Option (Bool):=
 (G.nJ aO).bind fun UF=>
 if !UF then
  G.uy aG true
 else
  G.uy aG (decide ((Sh.len aG)≠(Sh.len aO.az)))

def ya(O1:List (List G.ak)):Option ((List (List G.ak))):=
 some O1

def yb(xH:Int)(Ug:List (List G.ak))(ahz:List Int):Option (((List Int)×(List (List G.ak))×Int)⊕((List (List G.ak)))):=
 Sh.next (ahz,Ug,gJ (xH+1))

def vJ(xH:Int)(vQ:Int)(Af:List (List G.ak))(IU:G.ah)(z_:List Int)(W2:Int):Option (((List Int)×Int)⊕(((List Int)×(List (List G.ak))×Int)⊕((List (List G.ak))))):=
 if decide (W2<(Sh.len IU.bA)) then
  (Sh.idx IU.bA W2).bind fun Xj=>
  (Sh.I9 16 z_ Xj).bind fun alu=>
  Sh.next (Sh.set z_ Xj (gJ (vQ+1)),gJ (W2+1))
 else
  Sh.exit (G.yb xH Af z_)

def vL(aO:G.af)(qs:List Int)(xH:Int)(vQ:Int)(Af:List (List G.ak)):Option (((List Int)×(List (List G.ak))×Int)⊕((List (List G.ak)))):=
 (Sh.idx aO.az vQ).bind fun IU=>
 Sh.loop (fun(p:(List Int)×Int)=>G.vJ xH vQ Af IU p.1 p.2) (qs,0)

def vK(aO:G.af)(qs:List Int)(xH:Int)(vQ:Int)(CG:G.ah)(rV:List (List G.ak))(RH:Int):Option (((List (List G.ak))×Int)⊕(((List Int)×(List (List G.ak))×Int)⊕((List (List G.ak))))):=
 if decide (RH<(Sh.len CG.Reads)) then
  (Sh.idx CG.Reads RH).bind fun GC=>
  (Sh.idx rV vQ).bind fun RQ=>
  (Sh.I9 16 qs GC.Key).bind fun RR=>
  (Sh.app 16 RQ ([(G.ak.mk GC.Key (gJ (RR - 1)))]:List G.ak)).bind fun OT=>
  (Sh.idx rV vQ).bind fun alv=>
  Sh.next (Sh.set rV vQ OT,gJ (RH+1))
 else
  Sh.exit (G.vL aO qs xH vQ rV)

def vI(aO:G.af)(aG:List Int)(qs:List Int)(KQ:List (List G.ak))(xH:Int):Option (((List Int)×(List (List G.ak))×Int)⊕((List (List G.ak)))):=
 if decide (xH<(Sh.len aG)) then
  (Sh.idx aG xH).bind fun vQ=>
  (Sh.idx aO.az vQ).bind fun CG=>
  Sh.loop (fun(p:(List (List G.ak))×Int)=>G.vK aO qs xH vQ CG p.1 p.2) (KQ,0)
 else
  Sh.exit (G.ya KQ)

def zk(aO:G.af)(aG:List Int):Option ((List (List G.ak))):=
 (G.u_ aO aG).bind fun WG=>
 if !WG then
  some []
 else
  (Sh.mk 24 (Sh.len aG) (Sh.len aG) []).bind fun GU=>
  Sh.loop (fun(p:(List Int)×(List (List G.ak))×Int)=>G.vI aO aG p.1 p.2.1 p.2.2) ((List.replicate 16 0),GU,0)

def wv:Option (Bool):=
 some true

def ur(aO:G.af)(aG:List Int)(xU:List Int)(v117:Int):Option (((List Int)×Int)⊕(Bool)):=
 if decide (v117<(Sh.len aG)) then
  (Sh.idx aG v117).bind fun RP=>
  (Sh.idx aO.az RP).bind fun Vo=>
  (Sh.I9 8 xU Vo.bw).bind fun aaN=>
  if decide (RP<aaN) then
   Sh.exit (some false)
  else
   (Sh.I9 8 xU Vo.bw).bind fun alp=>
   Sh.next (Sh.set xU Vo.bw (gJ (RP+1)),gJ (v117+1))
 else
  Sh.exit (G.wv)

def uv(aO:G.af)(aG:List Int):Option (Bool):=
 Sh.loop (fun(p:(List Int)×Int)=>G.ur aO aG p.1 p.2) ((List.replicate 8 0),0)

def uu(aO:G.af)(aG:List Int)(Is:(List (List G.ak)))(v157:Int):Option ((Int)⊕(Bool)):=
 if decide (v157<(Sh.len Is)) then
  (Sh.idx Is v157).bind fun aaO=>
  (Sh.idx aO.az v157).bind fun aaP=>
  (G.eT aaO aaP.Reads).bind fun WH=>
  if !WH then
   Sh.exit (some false)
  else
   Sh.next (gJ (v157+1))
 else
  Sh.exit (G.uv aO aG)

def wG(aO:G.af)(aG:List Int):Option (Bool):=
 (G.u_ aO aG).bind fun WL=>
 if !WL then
  some false
 else
  (G.zk aO aG).bind fun Is=>
  Sh.loop (fun(p:Int)=>G.uu aO aG Is p) 0
end G
end

section
/- What the functions of a package compute, as plain functions. -/
open Go Go.Av
set_option linter.unusedVariables false
namespace G
def jf(Uj:List Int):Option ((List Int)):=
 some Uj

def gE(t86:Int)(H9:Bool)(Yi:List Int):Option (((List Int)×Bool×Int)⊕((List Int))):=
 Sh.next (Yi,H9,gJ (t86+1))

def fL(aO:G.af)(eM:Int)(rW:List Int)(t86:Int)(H9:Bool)(v92:Bool):Option (((List Int)×Bool×Int)⊕((List Int))):=
 if v92 then
  (Sh.idx aO.az t86).bind fun aaH=>
  (G.fH aaH eM).bind fun aaa=>
  if aaa then
   (Sh.app 8 rW [t86]).bind fun Ae=>
   G.gE t86 H9 Ae
  else
   G.gE t86 H9 rW
 else
  Sh.exit (G.jf rW)

def gD(aO:G.af)(eM:Int)(rW:List Int)(T6:Bool)(t86:Int):Option (((List Int)×Bool×Int)⊕((List Int))):=
 if T6 then
  G.fL aO eM rW t86 true (decide (t86<(Sh.len aO.az)))
 else
  G.fL aO eM rW t86 false false

def je(aO:G.af)(eM:Int):Option ((List Int)):=
 (G.fk aO).bind fun Qf=>
 Sh.loop (fun(p:(List Int)×Bool×Int)=>G.gD aO eM p.1 p.2.1 p.2.2) ([],Qf,0)

def o5:Option (Int×Bool):=
 some (0,false)

def lG(oK:Int)(Og:G.ah)(i57:Int):Option ((Int)⊕(Int×Bool)):=
 if decide (i57<(Sh.len Og.Reads)) then
  (Sh.idx Og.Reads i57).bind fun x65=>
  if decide (x65.Key=oK) then
   (Sh.idx Og.Reads i57).bind fun Vz=>
   Sh.exit (some (Vz.bY,true))
  else
   Sh.next (gJ (i57+1))
 else
  Sh.exit (G.o5)

def fh(aO:G.af)(Fo:Int)(oK:Int)(v28:Bool):Option (Int×Bool):=
 if v28 then
  some (0,false)
 else
  (Sh.idx aO.az Fo).bind fun Og=>
  Sh.loop (fun(p:Int)=>G.lG oK Og p) 0

def mc(aO:G.af)(Fo:Int)(oK:Int):Option (Int×Bool):=
 (G.fk aO).bind fun wq=>
 if !wq then
  G.fh aO Fo oK true
 else
  if decide (Fo<0) then
   G.fh aO Fo oK true
  else
   G.fh aO Fo oK (decide ((Sh.len aO.az)≤Fo))

def me(Ib:List Int):Option ((List Int)):=
 some Ib

def gB(t53:Int)(Nn:List Int):Option (((List Int)×Int)⊕((List Int))):=
 Sh.next (Nn,gJ (t53+1))

def gC(rU:List Int)(t53:Int)(v63:Bool):Option (((List Int)×Int)⊕((List Int))):=
 if v63 then
  (Sh.app 8 rU [t53]).bind fun No=>
  G.gB t53 No
 else
  G.gB t53 rU

def jd(aO:G.af)(eM:Int)(rI:Int)(rU:List Int)(t53:Int):Option (((List Int)×Int)⊕((List Int))):=
 if decide (t53<(Sh.len aO.az)) then
  (G.mc aO t53 eM).bind fun VH=>
  if VH.2 then
   G.gC rU t53 (decide (VH.1=rI))
  else
   G.gC rU t53 false
 else
  Sh.exit (G.me rU)

def jc(aO:G.af)(eM:Int)(rI:Int):Option ((List Int)):=
 Sh.loop (fun(p:(List Int)×Int)=>G.jd aO eM rI p.1 p.2) ([],0)

def oq(O2:List G.aa):Option ((List G.aa)):=
 some O2

def ot(oM:Int)(Uh:List G.aa):Option (((List G.aa)×Int)⊕((List G.aa))):=
 Sh.next (Uh,gJ (oM+1))

def ou(ET:Int)(Ui:List G.aa):Option (((List G.aa)×Int)⊕(((List G.aa)×Int)⊕((List G.aa)))):=
 Sh.next (Ui,gJ (ET+1))

def j_(oM:Int)(yG:(List Int))(ET:Int)(Ie:List G.aa)(TX:Int):Option (((List G.aa)×Int)⊕(((List G.aa)×Int)⊕(((List G.aa)×Int)⊕((List G.aa))))):=
 if decide (TX<(Sh.len yG)) then
  (Sh.idx yG ET).bind fun RS=>
  (Sh.idx yG TX).bind fun RT=>
  (Sh.app 24 Ie ([(G.aa.mk oM RS RT)]:List G.aa)).bind fun FL=>
  Sh.next (FL,gJ (TX+1))
 else
  Sh.exit (G.ou ET Ie)

def j9(oM:Int)(yG:(List Int))(KS:List G.aa)(ET:Int):Option (((List G.aa)×Int)⊕(((List G.aa)×Int)⊕((List G.aa)))):=
 if decide (ET<(Sh.len yG)) then
  Sh.loop (fun(p:(List G.aa)×Int)=>G.j_ oM yG ET p.1 p.2) (KS,gJ (ET+1))
 else
  Sh.exit (G.ot oM KS)

def j8(aO:G.af)(KR:List G.aa)(oM:Int):Option (((List G.aa)×Int)⊕((List G.aa))):=
 if decide (oM<16) then
  (G.je aO oM).bind fun yG=>
  Sh.loop (fun(p:(List G.aa)×Int)=>G.j9 oM yG p.1 p.2) (KR,0)
 else
  Sh.exit (G.oq KR)

def iS(aO:G.af):Option ((List G.aa)):=
 Sh.loop (fun(p:(List G.aa)×Int)=>G.j8 aO p.1 p.2) ([],0)
end G
end

section
/- What the functions of a package compute, as plain functions. -/
open Go Go.Av
set_option linter.unusedVariables false
namespace G
def mB(GP:Int):Option (Bool):=
 if decide ((0:Int)≤GP) then
  some (decide (GP≤63))
 else
  some false

def ov(n9:BitVec 64):Option ((BitVec 64)):=
 some n9

def kf(GP:Int)(n12:BitVec 64)(k13:Int):Option (((BitVec 64)×Int)⊕((BitVec 64))):=
 if decide (k13<GP) then
  Sh.next (n12+n12,gJ (k13+1))
 else
  Sh.exit (G.ov n12)

def iT(GP:Int):Option ((BitVec 64)):=
 Sh.loop (fun(p:(BitVec 64)×Int)=>G.kf GP p.1 p.2) (1#64,0)

def jg(b7:BitVec 64)(Gu:Int):Option (Bool):=
 (G.mB Gu).bind fun r7=>
 if !r7 then
  some false
 else
  (G.iT Gu).bind fun zB=>
  (Sh.udiv b7 zB).bind fun q13=>
  (Sh.umod q13 2#64).bind fun q14=>
  some (decide (q14=1#64))

def lH(b7:BitVec 64)(Gu:Int)(Yr:Bool):Option ((BitVec 64)):=
 if Yr then
  some b7
 else
  (G.iT Gu).bind fun Bl=>
  some (b7+Bl)

def eD(b7:BitVec 64)(Gu:Int):Option ((BitVec 64)):=
 (G.jg b7 Gu).bind fun r7=>
 if r7 then
  G.lH b7 Gu true
 else
  (G.mB Gu).bind fun zC=>
  G.lH b7 Gu (!zC)
end G
end

section
/- What the functions of a package compute, as plain functions. -/
open Go Go.Av
set_option linter.unusedVariables false
namespace G
def ow:Option (Bool):=
 some true

def oz(i104:Int):Option ((Int)⊕(Bool)):=
 Sh.next (gJ (i104+1))

def iu(gV:G.aj)(i104:Int)(TW:Int):Option ((Int)⊕((Int)⊕(Bool))):=
 if decide (TW<64) then
  (Sh.idx gV.Rows i104).bind fun aaM=>
  (G.jg aaM TW).bind fun aab=>
  if aab then
   Sh.exit (Sh.exit (some false))
  else
   Sh.next (gJ (TW+1))
 else
  Sh.exit (G.oz i104)

def ir(gV:G.aj)(i104:Int):Option ((Int)⊕(Bool)):=
 if decide (i104<gV.N) then
  Sh.loop (fun(p:Int)=>G.iu gV i104 p) gV.N
 else
  Sh.exit (G.ow)

def iw(gV:G.aj)(v44:Bool):Option (Bool):=
 if v44 then
  some false
 else
  Sh.loop (fun(p:Int)=>G.ir gV p) 0

def iU(gV:G.aj):Option (Bool):=
 if decide (gV.N<0) then
  G.iw gV true
 else
  if decide ((64:Int)<gV.N) then
   G.iw gV true
  else
   G.iw gV (decide ((Sh.len gV.Rows)≠gV.N))

def eS(gV:G.aj)(gd:Int)(On:Int):Option (Bool):=
 (Sh.idx gV.Rows gd).bind fun x7=>
 (G.jg x7 On).bind fun r9=>
 some r9

def pV(DE:Int)(Yu:List (BitVec 64)):Option (G.aj):=
 some (G.aj.mk DE Yu)

def mR(DE:Int)(CR:List (BitVec 64))(i21:Int):Option (((List (BitVec 64))×Int)⊕(G.aj)):=
 if decide (i21<DE) then
  (Sh.app 8 CR [0#64]).bind fun ZR=>
  Sh.next (ZR,gJ (i21+1))
 else
  Sh.exit (G.pV DE CR)

def fM(DE:Int):Option (G.aj):=
 Sh.loop (fun(p:(List (BitVec 64))×Int)=>G.mR DE p.1 p.2) ([],0)

def oA(ig:G.aj)(CD:List (BitVec 64)):Option (G.aj):=
 some (G.aj.mk ig.N CD)

def oB(xq:Int)(Vf:List (BitVec 64)):Option (((List (BitVec 64))×Int)⊕(G.aj)):=
 Sh.next (Vf,gJ (xq+1))

def kn(Dy:Int)(outRows359:List (BitVec 64)):Option (((List (BitVec 64))×Int)⊕(((List (BitVec 64))×Int)⊕(G.aj))):=
 Sh.next (outRows359,gJ (Dy+1))

def ko(xq:Int)(outRows347:List (BitVec 64))(Dy:Int)(ahx:Bool):Option (((List (BitVec 64))×Int)⊕(((List (BitVec 64))×Int)⊕(G.aj))):=
 if ahx then
  (Sh.idx outRows347 xq).bind fun aaU=>
  (G.eD aaU Dy).bind fun UM=>
  (Sh.idx outRows347 xq).bind fun alq=>
  G.kn Dy (Sh.set outRows347 xq UM)
 else
  G.kn Dy outRows347

def kj(dV:G.aj)(eU:G.aj)(xq:Int)(outRows347:List (BitVec 64))(Dy:Int):Option (((List (BitVec 64))×Int)⊕(((List (BitVec 64))×Int)⊕(G.aj))):=
 if decide (Dy<dV.N) then
  (G.eS dV xq Dy).bind fun WJ=>
  (G.eS eU xq Dy).bind fun WK=>
  if WJ then
   G.ko xq outRows347 Dy true
  else
   G.ko xq outRows347 Dy WK
 else
  Sh.exit (G.oB xq outRows347)

def kg(dV:G.aj)(eU:G.aj)(ig:G.aj)(outRows287:List (BitVec 64))(xq:Int):Option (((List (BitVec 64))×Int)⊕(G.aj)):=
 if decide (xq<dV.N) then
  Sh.loop (fun(p:(List (BitVec 64))×Int)=>G.kj dV eU xq p.1 p.2) (outRows287,0)
 else
  Sh.exit (G.oA ig outRows287)

def gL(dV:G.aj)(eU:G.aj):Option (G.aj):=
 (G.fM dV.N).bind fun ig=>
 Sh.loop (fun(p:(List (BitVec 64))×Int)=>G.kg dV eU ig p.1 p.2) (ig.Rows,0)

def mg(th:G.aj)(N6:List (BitVec 64)):Option (G.aj):=
 some (G.aj.mk th.N N6)

def mh(xI:Int)(ahC:List (BitVec 64)):Option (((List (BitVec 64))×Int)⊕(G.aj)):=
 Sh.next (ahC,gJ (xI+1))

def gF(El:Int)(outRows869:List (BitVec 64)):Option (((List (BitVec 64))×Int)⊕(((List (BitVec 64))×Int)⊕(G.aj))):=
 Sh.next (outRows869,gJ (El+1))

def jl(Jy:Int)(outRows898:List (BitVec 64)):Option (((List (BitVec 64))×Int)⊕(((List (BitVec 64))×Int)⊕(((List (BitVec 64))×Int)⊕(G.aj)))):=
 Sh.next (outRows898,gJ (Jy+1))

def jk(dV:G.aj)(eU:G.aj)(xI:Int)(El:Int)(outRows889:List (BitVec 64))(Jy:Int):Option (((List (BitVec 64))×Int)⊕(((List (BitVec 64))×Int)⊕(((List (BitVec 64))×Int)⊕(G.aj)))):=
 if decide (Jy<dV.N) then
  (G.eS eU El Jy).bind fun aaj=>
  if aaj then
   (Sh.idx outRows889 xI).bind fun aa4=>
   (G.eD aa4 Jy).bind fun UR=>
   (Sh.idx outRows889 xI).bind fun alA=>
   G.jl Jy (Sh.set outRows889 xI UR)
  else
   G.jl Jy outRows889
 else
  Sh.exit (G.gF El outRows889)

def jj(dV:G.aj)(eU:G.aj)(xI:Int)(outRows840:List (BitVec 64))(El:Int):Option (((List (BitVec 64))×Int)⊕(((List (BitVec 64))×Int)⊕(G.aj))):=
 if decide (El<dV.N) then
  (G.eS dV xI El).bind fun WM=>
  if !WM then
   G.gF El outRows840
  else
   Sh.loop (fun(p:(List (BitVec 64))×Int)=>G.jk dV eU xI El p.1 p.2) (outRows840,0)
 else
  Sh.exit (G.mh xI outRows840)

def ji(dV:G.aj)(eU:G.aj)(th:G.aj)(outRows695:List (BitVec 64))(xI:Int):Option (((List (BitVec 64))×Int)⊕(G.aj)):=
 if decide (xI<dV.N) then
  Sh.loop (fun(p:(List (BitVec 64))×Int)=>G.jj dV eU xI p.1 p.2) (outRows695,0)
 else
  Sh.exit (G.mg th outRows695)

def jh(dV:G.aj)(eU:G.aj):Option (G.aj):=
 (G.fM dV.N).bind fun th=>
 Sh.loop (fun(p:(List (BitVec 64))×Int)=>G.ji dV eU th p.1 p.2) (th.Rows,0)
end G
end

section
/- What the functions of a package compute, as plain functions. -/
open Go Go.Av
set_option linter.unusedVariables false
namespace G
def oC(Pu:G.aj):Option (G.aj):=
 some Pu

def oD(nX:Int)(Yp:Int)(Yq:List (BitVec 64)):Option ((Int×(List (BitVec 64))×Int)⊕(G.aj)):=
 Sh.next (Yp,Yq,gJ (nX+1))

def oE(nX:Int)(pQ:G.aj)(N2:List (BitVec 64)):Option ((Int×(List (BitVec 64))×Int)⊕(G.aj)):=
 G.oD nX pQ.N N2

def oF(oL:Int)(Ys:List (BitVec 64)):Option (((List (BitVec 64))×Int)⊕((Int×(List (BitVec 64))×Int)⊕(G.aj))):=
 Sh.next (Ys,gJ (oL+1))

def kz(r_:Int)(JH:List (BitVec 64)):Option (((List (BitVec 64))×Int)⊕(((List (BitVec 64))×Int)⊕((Int×(List (BitVec 64))×Int)⊕(G.aj)))):=
 Sh.next (JH,gJ (r_+1))

def iy(oL:Int)(fT:List (BitVec 64))(r_:Int)(Yt:Bool):Option (((List (BitVec 64))×Int)⊕(((List (BitVec 64))×Int)⊕((Int×(List (BitVec 64))×Int)⊕(G.aj)))):=
 if Yt then
  (Sh.idx fT oL).bind fun Vp=>
  (G.eD Vp r_).bind fun NA=>
  (Sh.idx fT oL).bind fun ahG=>
  G.kz r_ (Sh.set fT oL NA)
 else
  G.kz r_ fT

def ku(gV:G.aj)(gW:Int)(dL:List (BitVec 64))(nX:Int)(oL:Int)(fT:List (BitVec 64))(r_:Int):Option (((List (BitVec 64))×Int)⊕(((List (BitVec 64))×Int)⊕((Int×(List (BitVec 64))×Int)⊕(G.aj)))):=
 if decide (r_<gV.N) then
  (G.eS (G.aj.mk gW dL) oL r_).bind fun Qb=>
  (G.eS (G.aj.mk gW dL) oL nX).bind fun Qc=>
  (G.eS (G.aj.mk gW dL) nX r_).bind fun Qd=>
  if Qb then
   G.iy oL fT r_ true
  else
   if Qc then
    G.iy oL fT r_ Qd
   else
    G.iy oL fT r_ false
 else
  Sh.exit (G.oF oL fT)

def kr(gV:G.aj)(gW:Int)(dL:List (BitVec 64))(nX:Int)(pQ:G.aj)(CL:List (BitVec 64))(oL:Int):Option (((List (BitVec 64))×Int)⊕((Int×(List (BitVec 64))×Int)⊕(G.aj))):=
 if decide (oL<gV.N) then
  Sh.loop (fun(p:(List (BitVec 64))×Int)=>G.ku gV gW dL nX oL p.1 p.2) (CL,0)
 else
  Sh.exit (G.oE nX pQ CL)

def kq(gV:G.aj)(gW:Int)(dL:List (BitVec 64))(nX:Int):Option ((Int×(List (BitVec 64))×Int)⊕(G.aj)):=
 if decide (nX<gV.N) then
  (G.fM gV.N).bind fun pQ=>
  Sh.loop (fun(p:(List (BitVec 64))×Int)=>G.kr gV gW dL nX pQ p.1 p.2) (pQ.Rows,0)
 else
  Sh.exit (G.oC (G.aj.mk gW dL))

def kL(gV:G.aj):Option (G.aj):=
 Sh.loop (fun(p:Int×(List (BitVec 64))×Int)=>G.kq gV p.1 p.2.1 p.2.2) (gV.N,gV.Rows,0)

def ng:Option (Bool):=
 some false

def jM(gV:G.aj)(zB:G.aj)(x21:Int):Option ((Int)⊕(Bool)):=
 if decide (x21<gV.N) then
  (G.eS zB x21 x21).bind fun Pa=>
  if Pa then
   Sh.exit (some true)
  else
   Sh.next (gJ (x21+1))
 else
  Sh.exit (G.ng)

def jS(gV:G.aj):Option (Bool):=
 (G.iU gV).bind fun r9=>
 if !r9 then
  some false
 else
  (G.kL gV).bind fun zB=>
  Sh.loop (fun(p:Int)=>G.jM gV zB p) 0
end G
end

section
/- What the functions of a package compute, as plain functions. -/
open Go Go.Av
set_option linter.unusedVariables false
namespace G
def qk(ig:G.aj)(CD:List (BitVec 64)):Option (G.aj):=
 some (G.aj.mk ig.N CD)

def ql(AO:Int)(Vf:List (BitVec 64)):Option (((List (BitVec 64))×Int)⊕(G.aj)):=
 Sh.next (Vf,gJ (AO+1))

def nP(I_:Int)(L9:List (BitVec 64)):Option (((List (BitVec 64))×Int)⊕(((List (BitVec 64))×Int)⊕(G.aj))):=
 Sh.next (L9,gJ (I_+1))

def nO(aO:G.af)(ig:G.aj)(AO:Int)(nG:List (BitVec 64))(I_:Int):Option (((List (BitVec 64))×Int)⊕(((List (BitVec 64))×Int)⊕(G.aj))):=
 if decide (I_<ig.N) then
  (Sh.idx aO.az AO).bind fun Xe=>
  (Sh.idx aO.az I_).bind fun Xf=>
  if decide (Xe.bw=Xf.bw) then
   (Sh.idx nG AO).bind fun aaV=>
   (G.eD aaV I_).bind fun UN=>
   (Sh.idx nG AO).bind fun alr=>
   G.nP I_ (Sh.set nG AO UN)
  else
   G.nP I_ nG
 else
  Sh.exit (G.ql AO nG)

def nN(aO:G.af)(ig:G.aj)(EH:List (BitVec 64))(AO:Int):Option (((List (BitVec 64))×Int)⊕(G.aj)):=
 if decide (AO<ig.N) then
  Sh.loop (fun(p:(List (BitVec 64))×Int)=>G.nO aO ig AO p.1 p.2) (EH,gJ (AO+1))
 else
  Sh.exit (G.qk ig EH)

def oR(aO:G.af):Option (G.aj):=
 (G.fM (Sh.len aO.az)).bind fun ig=>
 Sh.loop (fun(p:(List (BitVec 64))×Int)=>G.nN aO ig p.1 p.2) (ig.Rows,0)

def qm(tg:G.aj)(N4:List (BitVec 64)):Option (G.aj):=
 some (G.aj.mk tg.N N4)

def qn(Fm:Int)(ahy:List (BitVec 64)):Option (((List (BitVec 64))×Int)⊕(G.aj)):=
 Sh.next (ahy,gJ (Fm+1))

def nS(HT:Int)(L_:List (BitVec 64)):Option (((List (BitVec 64))×Int)⊕(((List (BitVec 64))×Int)⊕(G.aj))):=
 Sh.next (L_,gJ (HT+1))

def nR(Fm:Int)(Dx:G.ah)(nH:List (BitVec 64))(HT:Int):Option (((List (BitVec 64))×Int)⊕(((List (BitVec 64))×Int)⊕(G.aj))):=
 if decide (HT<(Sh.len Dx.Reads)) then
  (Sh.idx Dx.Reads HT).bind fun aaW=>
  if decide ((0:Int)≤aaW.bY) then
   (Sh.idx Dx.Reads HT).bind fun Vx=>
   (Sh.idx Dx.Reads HT).bind fun aaX=>
   (Sh.idx nH aaX.bY).bind fun aaY=>
   (G.eD aaY Fm).bind fun UO=>
   (Sh.idx nH Vx.bY).bind fun als=>
   G.nS HT (Sh.set nH Vx.bY UO)
  else
   G.nS HT nH
 else
  Sh.exit (G.qn Fm nH)

def nQ(aO:G.af)(tg:G.aj)(EI:List (BitVec 64))(Fm:Int):Option (((List (BitVec 64))×Int)⊕(G.aj)):=
 if decide (Fm<tg.N) then
  (Sh.idx aO.az Fm).bind fun Dx=>
  Sh.loop (fun(p:(List (BitVec 64))×Int)=>G.nR Fm Dx p.1 p.2) (EI,0)
 else
  Sh.exit (G.qm tg EI)

def oS(aO:G.af):Option (G.aj):=
 (G.fM (Sh.len aO.az)).bind fun tg=>
 Sh.loop (fun(p:(List (BitVec 64))×Int)=>G.nQ aO tg p.1 p.2) (tg.Rows,0)

def mj(aO:G.af):Option (G.aj):=
 (G.oR aO).bind fun r7=>
 (G.oS aO).bind fun r8=>
 (G.gL r7 r8).bind fun r9=>
 some r9

def o7(pR:G.aj)(Gj:List (BitVec 64)):Option (G.aj):=
 some (G.aj.mk pR.N Gj)

def o8(oc:Int)(Yv:List (BitVec 64)):Option (((List (BitVec 64))×Int)⊕(G.aj)):=
 Sh.next (Yv,gJ (oc+1))

def o9(wY:Int)(Yw:List (BitVec 64)):Option (((List (BitVec 64))×Int)⊕(((List (BitVec 64))×Int)⊕(G.aj))):=
 Sh.next (Yw,gJ (wY+1))

def lM(uB:Int)(JO:List (BitVec 64)):Option (((List (BitVec 64))×Int)⊕(((List (BitVec 64))×Int)⊕(((List (BitVec 64))×Int)⊕(G.aj)))):=
 Sh.next (JO,gJ (uB+1))

def gM(oc:Int)(fU:List (BitVec 64))(uB:Int)(Yx:Bool):Option (((List (BitVec 64))×Int)⊕(((List (BitVec 64))×Int)⊕(((List (BitVec 64))×Int)⊕(G.aj)))):=
 if Yx then
  (Sh.idx fU oc).bind fun Vt=>
  (G.eD Vt uB).bind fun NB=>
  (Sh.idx fU oc).bind fun ahI=>
  G.lM uB (Sh.set fU oc NB)
 else
  G.lM uB fU

def lK(aO:G.af)(pR:G.aj)(oc:Int)(tO:G.ah)(wY:Int)(fU:List (BitVec 64))(uB:Int):Option (((List (BitVec 64))×Int)⊕(((List (BitVec 64))×Int)⊕(((List (BitVec 64))×Int)⊕(G.aj)))):=
 if decide (uB<pR.N) then
  (Sh.idx aO.az uB).bind fun Vr=>
  (Sh.idx tO.Reads wY).bind fun Vs=>
  (G.fH Vr Vs.Key).bind fun Qe=>
  if Qe then
   (Sh.idx tO.Reads wY).bind fun Oa=>
   if decide (Oa.bY=(-1)) then
    G.gM oc fU uB (decide (uB≠oc))
   else
    G.gM oc fU uB false
  else
   G.gM oc fU uB false
 else
  Sh.exit (G.o9 wY fU)

def lJ(aO:G.af)(pR:G.aj)(oc:Int)(tO:G.ah)(CQ:List (BitVec 64))(wY:Int):Option (((List (BitVec 64))×Int)⊕(((List (BitVec 64))×Int)⊕(G.aj))):=
 if decide (wY<(Sh.len tO.Reads)) then
  Sh.loop (fun(p:(List (BitVec 64))×Int)=>G.lK aO pR oc tO wY p.1 p.2) (CQ,0)
 else
  Sh.exit (G.o8 oc CQ)

def lI(aO:G.af)(pR:G.aj)(CP:List (BitVec 64))(oc:Int):Option (((List (BitVec 64))×Int)⊕(G.aj)):=
 if decide (oc<pR.N) then
  (Sh.idx aO.az oc).bind fun tO=>
  Sh.loop (fun(p:(List (BitVec 64))×Int)=>G.lJ aO pR oc tO p.1 p.2) (CP,0)
 else
  Sh.exit (G.o7 pR CP)

def o6(aO:G.af):Option (G.aj):=
 (G.fM (Sh.len aO.az)).bind fun pR=>
 Sh.loop (fun(p:(List (BitVec 64))×Int)=>G.lI aO pR p.1 p.2) (pR.Rows,0)
end G
end

section
/- What the functions of a package compute, as plain functions. -/
open Go Go.Av
set_option linter.unusedVariables false
namespace G
def o_(bM:G.aa):Option (G.aa):=
 some (G.aa.mk bM.Key bM.B bM.A)

def oG:Option (Int):=
 some (-1)

def kB(fW:List Int)(sK:Int)(i22:Int):Option ((Int)⊕(Int)):=
 if decide (i22<(Sh.len fW)) then
  (Sh.idx fW i22).bind fun Kd=>
  if decide (Kd=sK) then
   Sh.exit (some i22)
  else
   Sh.next (gJ (i22+1))
 else
  Sh.exit (G.oG)

def kM(fW:List Int)(sK:Int):Option (Int):=
 Sh.loop (fun(p:Int)=>G.kB fW sK p) 0

def pe:Option (Bool):=
 some true

def jo(fW:List Int)(sK:Int)(i15:Int):Option ((Int)⊕(Bool)):=
 if decide (i15<sK) then
  (G.kM fW i15).bind fun D9=>
  if decide (D9<0) then
   Sh.exit (some false)
  else
   Sh.next (gJ (i15+1))
 else
  Sh.exit (G.pe)

def jN(fW:List Int)(sK:Int):Option (Bool):=
 if decide ((Sh.len fW)≠sK) then
  some false
 else
  Sh.loop (fun(p:Int)=>G.jo fW sK p) 0

def qq(xb:G.aj)(v78:List (BitVec 64)):Option (G.aj):=
 some (G.aj.mk xb.N v78)

def nW(fZ:List G.aa)(xb:G.aj)(o4:List (BitVec 64))(i104:Int):Option (((List (BitVec 64))×Int)⊕(G.aj)):=
 if decide (i104<(Sh.len fZ)) then
  (Sh.idx fZ i104).bind fun RO=>
  (Sh.idx fZ i104).bind fun aaJ=>
  (Sh.idx o4 aaJ.A).bind fun aaK=>
  (Sh.idx fZ i104).bind fun aaL=>
  (G.eD aaK aaL.B).bind fun Rf=>
  (Sh.idx o4 RO.A).bind fun N_=>
  Sh.next (Sh.set o4 RO.A Rf,gJ (i104+1))
 else
  Sh.exit (G.qq xb o4)

def oU(aO:G.af)(fZ:List G.aa):Option (G.aj):=
 (G.fM (Sh.len aO.az)).bind fun xb=>
 Sh.loop (fun(p:(List (BitVec 64))×Int)=>G.nW fZ xb p.1 p.2) (xb.Rows,0)

def qo(uj:G.aj)(N5:List (BitVec 64)):Option (G.aj):=
 some (G.aj.mk uj.N N5)

def qp(Dg:Int)(ahA:List (BitVec 64)):Option (((List (BitVec 64))×Int)⊕(G.aj)):=
 Sh.next (ahA,gJ (Dg+1))

def nV(HY:Int)(Ma:List (BitVec 64)):Option (((List (BitVec 64))×Int)⊕(((List (BitVec 64))×Int)⊕(G.aj))):=
 Sh.next (Ma,gJ (HY+1))

def nU(fZ:List G.aa)(Dg:Int)(Ds:(List Int))(nI:List (BitVec 64))(HY:Int):Option (((List (BitVec 64))×Int)⊕(((List (BitVec 64))×Int)⊕(G.aj))):=
 if decide (HY<(Sh.len Ds)) then
  (Sh.idx Ds HY).bind fun Xk=>
  (Sh.idx fZ Dg).bind fun Xl=>
  if decide (Xk≠Xl.B) then
   (Sh.idx Ds HY).bind fun Vy=>
   (Sh.idx Ds HY).bind fun aa1=>
   (Sh.idx nI aa1).bind fun aa2=>
   (Sh.idx fZ Dg).bind fun aa3=>
   (G.eD aa2 aa3.B).bind fun UP=>
   (Sh.idx nI Vy).bind fun RQ=>
   G.nV HY (Sh.set nI Vy UP)
  else
   G.nV HY nI
 else
  Sh.exit (G.qp Dg nI)

def nT(aO:G.af)(fZ:List G.aa)(uj:G.aj)(EJ:List (BitVec 64))(Dg:Int):Option (((List (BitVec 64))×Int)⊕(G.aj)):=
 if decide (Dg<(Sh.len fZ)) then
  (Sh.idx fZ Dg).bind fun aaZ=>
  (Sh.idx fZ Dg).bind fun aa0=>
  (G.jc aO aaZ.Key aa0.A).bind fun Ds=>
  Sh.loop (fun(p:(List (BitVec 64))×Int)=>G.nU fZ Dg Ds p.1 p.2) (EJ,0)
 else
  Sh.exit (G.qo uj EJ)

def oT(aO:G.af)(fZ:List G.aa):Option (G.aj):=
 (G.o6 aO).bind fun uj=>
 Sh.loop (fun(p:(List (BitVec 64))×Int)=>G.nT aO fZ uj p.1 p.2) (uj.Rows,0)

def jm(DG:G.aj)(Ct:G.aj):Option (G.aj):=
 (G.gL DG Ct).bind fun D9=>
 some (G.aj.mk D9.N D9.Rows)

def mm(aO:G.af)(bh:Int)(mI:List G.aa):Option (G.aj):=
 (G.mj aO).bind fun Oc=>
 (G.oU aO mI).bind fun zB=>
 (G.gL Oc zB).bind fun DG=>
 (G.oT aO mI).bind fun AJ=>
 if decide (bh=1) then
  (G.jh DG AJ).bind fun r21=>
  G.jm DG r21
 else
  G.jm DG AJ

def mo(aO:G.af)(bh:Int)(mI:List G.aa):Option (Bool):=
 (G.mm aO bh mI).bind fun r5=>
 (G.jS r5).bind fun r6=>
 some (!r6)
end G
end

section
/- What the functions of a package compute, as plain functions. -/
open Go Go.Av
set_option linter.unusedVariables false
namespace G
def rL:Option (Int):=
 some (-1)

def jq(aO:G.af)(aG:List Int)(y_:Int)(i62:Int):Option ((Int)⊕(Int)):=
 if decide ((0:Int)≤i62) then
  (Sh.idx aG i62).bind fun x76=>
  (Sh.idx aO.az x76).bind fun Xm=>
  (G.fH Xm y_).bind fun r80=>
  if r80 then
   (Sh.idx aG i62).bind fun qx=>
   Sh.exit (some qx)
  else
   Sh.next (gJ (i62 - 1))
 else
  Sh.exit (G.rL)

def mu(aO:G.af)(aG:List Int)(Ko:Int)(y_:Int):Option (Int):=
 Sh.loop (fun(p:Int)=>G.jq aO aG y_ p) (gJ (Ko - 1))

def pg(O0:List (List G.ak)):Option ((List (List G.ak))):=
 some O0

def pn(uH:Int)(Uf:List (List G.ak)):Option (((List (List G.ak))×Int)⊕((List (List G.ak)))):=
 Sh.next (Uf,gJ (uH+1))

def pq(kQ:List (List G.ak))(uH:Int)(Wr:List G.ak):Option (((List (List G.ak))×Int)⊕((List (List G.ak)))):=
 (Sh.app 24 kQ ([Wr]:List (List G.ak))).bind fun Ic=>
 G.pn uH Ic

def lP(aO:G.af)(aG:List Int)(kQ:List (List G.ak))(uH:Int)(G7:Int)(TZ:List G.ak)(TT:Int):Option (((List G.ak)×Int)⊕(((List (List G.ak))×Int)⊕((List (List G.ak))))):=
 (Sh.idx aO.az uH).bind fun Xg=>
 if decide (TT<(Sh.len Xg.Reads)) then
  (Sh.idx aO.az uH).bind fun Xh=>
  (Sh.idx Xh.Reads TT).bind fun Py=>
  (G.mu aO aG G7 Py.Key).bind fun Rm=>
  (Sh.app 16 TZ ([(G.ak.mk Py.Key Rm)]:List G.ak)).bind fun Q1=>
  Sh.next (Q1,gJ (TT+1))
 else
  Sh.exit (G.pq kQ uH TZ)

def lS(aO:G.af)(aG:List Int)(kQ:List (List G.ak))(uH:Int)(G7:Int):Option (((List (List G.ak))×Int)⊕((List (List G.ak)))):=
 Sh.loop (fun(p:(List G.ak)×Int)=>G.lP aO aG kQ uH G7 p.1 p.2) ([],0)

def lQ(aO:G.af)(aG:List Int)(kQ:List (List G.ak))(uH:Int)(LO:Int):Option ((Int)⊕(((List (List G.ak))×Int)⊕((List (List G.ak))))):=
 (Sh.idx aG LO).bind fun Fp=>
 if decide (Fp≠uH) then
  Sh.next (gJ (LO+1))
 else
  Sh.exit (G.lS aO aG kQ uH LO)

def lN(aO:G.af)(aG:List Int)(kQ:List (List G.ak))(uH:Int):Option (((List (List G.ak))×Int)⊕((List (List G.ak)))):=
 if decide (uH<(Sh.len aO.az)) then
  Sh.loop (fun(p:Int)=>G.lQ aO aG kQ uH p) 0
 else
  Sh.exit (G.pg kQ)

def lR(aO:G.af)(aG:List Int)(ahq:Bool):Option ((List (List G.ak))):=
 if ahq then
  some []
 else
  Sh.loop (fun(p:(List (List G.ak))×Int)=>G.lN aO aG p.1 p.2) ([],0)

def mq(aO:G.af)(aG:List Int):Option ((List (List G.ak))):=
 (G.fk aO).bind fun UD=>
 (G.jN aG (Sh.len aO.az)).bind fun UE=>
 if !UD then
  G.lR aO aG true
 else
  G.lR aO aG (!UE)

def oI:Option (Bool):=
 some true

def iA(dV:List G.ak)(eU:List G.ak)(i39:Int):Option ((Int)⊕(Bool)):=
 if decide (i39<(Sh.len dV)) then
  (Sh.idx dV i39).bind fun Jw=>
  (Sh.idx eU i39).bind fun F2=>
  if !decide (Jw=F2) then
   Sh.exit (some false)
  else
   Sh.next (gJ (i39+1))
 else
  Sh.exit (G.oI)

def kO(dV:List G.ak)(eU:List G.ak):Option (Bool):=
 if decide ((Sh.len dV)≠(Sh.len eU)) then
  some false
 else
  Sh.loop (fun(p:Int)=>G.iA dV eU p) 0

def lg:Option (Bool):=
 some true

def lp(i226:Int):Option ((Int)⊕(Bool)):=
 Sh.next (gJ (i226+1))

def iF(Ji:Int)(ahw:Bool):Option ((Int)⊕((Int)⊕(Bool))):=
 if ahw then
  Sh.exit (Sh.exit (some false))
 else
  Sh.next (gJ (Ji+1))

def iE(aO:G.af)(aG:List Int)(i226:Int)(Ji:Int):Option ((Int)⊕((Int)⊕(Bool))):=
 if decide (Ji<i226) then
  (Sh.idx aG Ji).bind fun Xc=>
  (Sh.idx aG i226).bind fun Xd=>
  if decide (Xd<Xc) then
   (Sh.idx aG Ji).bind fun aaS=>
   (Sh.idx aO.az aaS).bind fun Vv=>
   (Sh.idx aG i226).bind fun aaT=>
   (Sh.idx aO.az aaT).bind fun Vw=>
   G.iF Ji (decide (Vv.bw=Vw.bw))
  else
   G.iF Ji false
 else
  Sh.exit (G.lp i226)

def gm(aO:G.af)(aG:List Int)(i226:Int):Option ((Int)⊕(Bool)):=
 if decide (i226<(Sh.len aG)) then
  Sh.loop (fun(p:Int)=>G.iE aO aG i226 p) 0
 else
  Sh.exit (G.lg)

def iz(aO:G.af)(aG:List Int):Option (Bool):=
 Sh.loop (fun(p:Int)=>G.gm aO aG p) 0

def oH(aO:G.af)(aG:List Int):Option (Bool):=
 (G.iz aO aG).bind fun r53=>
 some r53

def kC(aO:G.af)(aG:List Int)(Pb:(List (List G.ak)))(t65:Int):Option ((Int)⊕(Bool)):=
 if decide (t65<(Sh.len aO.az)) then
  (Sh.idx aO.az t65).bind fun x77=>
  (Sh.idx Pb t65).bind fun x79=>
  (G.kO x77.Reads x79).bind fun r81=>
  if !r81 then
   Sh.exit (some false)
  else
   Sh.next (gJ (t65+1))
 else
  Sh.exit (G.oH aO aG)

def kD(aO:G.af)(aG:List Int)(v31:Bool):Option (Bool):=
 if v31 then
  some false
 else
  (G.mq aO aG).bind fun Pb=>
  Sh.loop (fun(p:Int)=>G.kC aO aG Pb p) 0

def kN(aO:G.af)(aG:List Int):Option (Bool):=
 (G.fk aO).bind fun Pa=>
 (G.jN aG (Sh.len aO.az)).bind fun r27=>
 if !Pa then
  G.kD aO aG true
 else
  G.kD aO aG (!r27)

def pz:Option (Bool):=
 some false

def js(t147:Int):Option ((Int)⊕(Bool)):=
 Sh.next (gJ (t147+1))

def jt(self:G.af→(List Int)→Option (Bool))(aO:G.af)(aG:List Int)(t147:Int)(NZ:Bool):Option ((Int)⊕(Bool)):=
 if NZ then
  G.js t147
 else
  (Sh.app 8 [] aG).bind fun EV=>
  (Sh.app 8 EV [t147]).bind fun EW=>
  (self aO EW).bind fun aaf=>
  if aaf then
   Sh.exit (some true)
  else
   G.js t147

def lT(i198:Int)(N0:Bool):Option ((Bool×Int)⊕((Int)⊕(Bool))):=
 Sh.next (N0,gJ (i198+1))

def jr(self:G.af→(List Int)→Option (Bool))(aO:G.af)(aG:List Int)(t147:Int)(CA:Bool)(i198:Int):Option ((Bool×Int)⊕((Int)⊕(Bool))):=
 if decide (i198<(Sh.len aG)) then
  if CA then
   G.lT i198 true
  else
   (Sh.idx aG i198).bind fun Vu=>
   G.lT i198 (decide (Vu=t147))
 else
  Sh.exit (G.jt self aO aG t147 CA)

def fQ(self:G.af→(List Int)→Option (Bool))(aO:G.af)(aG:List Int)(t147:Int):Option ((Int)⊕(Bool)):=
 if decide (t147<(Sh.len aO.az)) then
  Sh.loop (fun(p:Bool×Int)=>G.jr self aO aG t147 p.1 p.2) (false,0)
 else
  Sh.exit (G.pz)

def jO(self:G.af→(List Int)→Option (Bool))(aO:G.af)(aG:List Int):Option (Bool):=
 if decide ((Sh.len aG)=(Sh.len aO.az)) then
  (G.kN aO aG).bind fun r58=>
  some r58
 else
  Sh.loop (fun(p:Int)=>G.fQ self aO aG p) 0

def e7:Nat→G.af→(List Int)→Option (Bool)
 |0=>fun _ _=>none
 |n+1=>G.jO (e7 n)

def ud(aO:G.af)(aG:List Int):Option (Bool):=G.e7 Sh.sL aO aG

def ny(aO:G.af):Option (Bool):=
 (G.ud aO []).bind fun r3=>
 some r3
end G
end

section
/- What the functions of a package compute, as plain functions. -/
open Go Go.Av
set_option linter.unusedVariables false
namespace G
def vo(Ib:List Int):Option ((List Int)):=
 some Ib

def sW(v53:Int)(Nn:List Int):Option (((List Int)×Int)⊕((List Int))):=
 Sh.next (Nn,gJ (v53+1))

def sV(aO:G.af)(eM:Int)(rU:List Int)(v53:Int):Option (((List Int)×Int)⊕((List Int))):=
 if decide (v53<(Sh.len aO.az)) then
  (Sh.idx aO.az v53).bind fun YA=>
  (G.dG YA.bA eM).bind fun r65=>
  if r65 then
   (Sh.app 8 rU [v53]).bind fun Np=>
   G.sW v53 Np
  else
   G.sW v53 rU
 else
  Sh.exit (G.vo rU)

def tq(aO:G.af)(eM:Int):Option ((List Int)):=
 Sh.loop (fun(p:(List Int)×Int)=>G.sV aO eM p.1 p.2) ([],0)

def jB(fW:List Int)(ru:Int):Option ((List Int)):=
 (Sh.app 8 fW [ru]).bind fun l3=>
 some l3

def cD(bX:List Int)(c23:List Int)(v24:Int):Option (((List Int)×Int)⊕((List Int))):=
 if decide (v24<(Sh.len bX)) then
  (Sh.idx bX v24).bind fun x31=>
  (G.jB c23 x31).bind fun y34=>
  Sh.next (y34,gJ (v24+1))
 else
  Sh.exit (some c23)

def cO(fW:List Int)(bX:List Int):Option ((List Int)):=
 Sh.loop (fun(p:(List Int)×Int)=>G.cD bX p.1 p.2) (fW,0)

def dW(qF:List Int):Option ((List Int)):=
 (G.cO [] qF).bind fun R1=>
 some R1

def eE(qF:List Int):Option ((List Int)):=
 (G.dW qF).bind fun r3=>
 some r3

def cB(qF:List Int):Option ((List Int)):=
 (G.eE qF).bind fun r5=>
 (Sh.sort r5).bind fun J6=>
 some J6

def Ed(Uk:List G.aA):Option ((List G.aA)):=
 some Uk

def Aq(v85:Int)(Yh:List G.aA):Option (((List G.aA)×Int)⊕((List G.aA))):=
 Sh.next (Yh,gJ (v85+1))

def Ea(aO:G.af)(aG:List Int)(rW:List G.aA)(v85:Int):Option (((List G.aA)×Int)⊕((List G.aA))):=
 if decide (v85<16) then
  (G.tq aO v85).bind fun VI=>
  if decide ((Sh.len VI)=0) then
   G.Aq v85 rW
  else
   (Sh.Fh aG VI).bind fun sorted97=>
   (Sh.app 32 rW ([(G.aA.mk v85 sorted97)]:List G.aA)).bind fun Nq=>
   G.Aq v85 Nq
 else
  Sh.exit (G.Ed rW)

def Ec(aO:G.af)(aG:List Int):Option ((List G.aA)):=
 Sh.loop (fun(p:(List G.aA)×Int)=>G.Ea aO aG p.1 p.2) ([],0)

def Eb(aO:G.af)(aG:List Int)(Oe:(List Int))(v105:Int):Option ((Int)⊕((List G.aA))):=
 if decide (v105<(Sh.len Oe)) then
  (Sh.idx Oe v105).bind fun W7=>
  if decide (v105≠W7) then
   Sh.exit (some [])
  else
   Sh.next (gJ (v105+1))
 else
  Sh.exit (G.Ec aO aG)

def Ap(aO:G.af)(aG:List Int)(Oe:(List Int))(v42:Bool):Option ((List G.aA)):=
 if v42 then
  some []
 else
  Sh.loop (fun(p:Int)=>G.Eb aO aG Oe p) 0

def Lh(aO:G.af)(aG:List Int):Option ((List G.aA)):=
 (G.iB aG).bind fun r35=>
 (G.cB aG).bind fun Oe=>
 (G.nJ aO).bind fun UB=>
 if !UB then
  G.Ap aO aG Oe true
 else
  G.Ap aO aG Oe (decide ((Sh.len aG)≠(Sh.len aO.az)))

def vN(fZ:List G.aA)(n86:Int):Option (Bool):=
 some (decide (n86=(Sh.len fZ)))

def tM(Bj:Int)(n127:Int):Option ((Int×Int)⊕(Bool)):=
 Sh.next (n127,gJ (Bj+1))

def pH(n113:Int)(Bj:Int)(ahs:Bool):Option ((Int×Int)⊕(Bool)):=
 if ahs then
  Sh.exit (some false)
 else
  G.tM Bj (gJ (n113+1))

def nq(aO:G.af)(fZ:List G.aA)(n113:Int)(Bj:Int):Option ((Int×Int)⊕(Bool)):=
 if decide (Bj<16) then
  (G.tq aO Bj).bind fun Rg=>
  if decide ((Sh.len Rg)=0) then
   G.tM Bj n113
  else
   if decide (n113=(Sh.len fZ)) then
    G.pH n113 Bj true
   else
    (Sh.idx fZ n113).bind fun Vq=>
    if decide (Vq.Key≠Bj) then
     G.pH n113 Bj true
    else
     (Sh.idx fZ n113).bind fun Lo=>
     (G.iB Lo.L).bind fun ald=>
     (G.cB Lo.L).bind fun aac=>
     (G.jx Rg aac).bind fun UG=>
     G.pH n113 Bj (!UG)
 else
  Sh.exit (G.vN fZ n113)

def zp(aO:G.af)(fZ:List G.aA):Option (Bool):=
 (G.nJ aO).bind fun r44=>
 if !r44 then
  some false
 else
  Sh.loop (fun(p:Int×Int)=>G.nq aO fZ p.1 p.2) (0,0)

def mT(qv:G.ak)(gd:Int):Option (Bool):=
 some (decide (qv.bY=gd))

def c8:Option (Int):=
 some (-1)

def cC(b7:List G.ak)(fK:Int)(v30:Int):Option ((Int)⊕(Int)):=
 if decide (v30<(Sh.len b7)) then
  (Sh.idx b7 v30).bind fun DK=>
  (G.mT DK fK).bind fun xb=>
  if xb then
   Sh.exit (some v30)
  else
   Sh.next (gJ (v30+1))
 else
  Sh.exit (G.c8)

def cM(b7:List G.ak)(fK:Int):Option (Int):=
 Sh.loop (fun(p:Int)=>G.cC b7 fK p) 0

def b6(b7:List G.ak)(fK:Int):Option (Bool):=
 (G.cM b7 fK).bind fun r3=>
 some (decide ((0:Int)≤r3))

def nC(w8:Int)(gd:Int)(On:Int)(iY:List G.ah)(yh:List Int):Option (Bool):=
 (Sh.lim 16 w8).bind fun k18=>
 (Sh.lim 32 On).bind fun k19=>
 (Sh.IP yh (k18*32+k19)).bind fun x20=>
 if decide ((0:Int)<x20) then
  if decide (gd<0) then
   some true
  else
   (Sh.lim 16 w8).bind fun k32=>
   (Sh.lim 32 gd).bind fun k33=>
   (Sh.IP yh (k32*32+k33)).bind fun x34=>
   if decide ((0:Int)<x34) then
    (Sh.lim 16 w8).bind fun k36=>
    (Sh.lim 32 gd).bind fun k37=>
    (Sh.IP yh (k36*32+k37)).bind fun DK=>
    some (decide (DK<x20))
   else
    some false
 else
  some false

def p6(w8:Int)(gd:Int)(j6:Int)(iY:List G.ah)(yh:List Int):Option (Bool):=
 (G.nC w8 gd j6 iY yh).bind fun r4=>
 some r4

def eA:Option (Int):=
 some (-1)

def dm(b7:List Int)(fK:Int)(oh:Int)(iY:List G.ah)(yh:List Int)(v31:Int):Option ((Int)⊕(Int)):=
 if decide (v31<(Sh.len b7)) then
  (Sh.idx b7 v31).bind fun Qn=>
  (G.p6 Qn fK oh iY yh).bind fun Of=>
  if Of then
   Sh.exit (some v31)
  else
   Sh.next (gJ (v31+1))
 else
  Sh.exit (G.eA)

def eO(b7:List Int)(fK:Int)(oh:Int)(iY:List G.ah)(yh:List Int):Option (Int):=
 Sh.loop (fun(p:Int)=>G.dm b7 fK oh iY yh p) 0

def di(b7:List Int)(fK:Int)(oh:Int)(iY:List G.ah)(yh:List Int):Option (Bool):=
 (G.eO b7 fK oh iY yh).bind fun r4=>
 some (decide ((0:Int)≤r4))

def jv(nD:Int)(ru:Int)(gU:List G.ah)(iY:List Int)(v27:Bool):Option (Bool):=
 if v27 then
  some true
 else
  (Sh.idx gU ru).bind fun Og=>
  (G.b6 Og.Reads nD).bind fun Pb=>
  if Pb then
   some true
  else
   (Sh.idx gU nD).bind fun x40=>
   (G.di x40.bA nD ru gU iY).bind fun wE=>
   some wE

def pI(nD:Int)(ru:Int)(gU:List G.ah)(iY:List Int):Option (Bool):=
 if decide (nD<ru) then
  (Sh.idx gU nD).bind fun x44=>
  (Sh.idx gU ru).bind fun Xi=>
  G.jv nD ru gU iY (decide (x44.bw=Xi.bw))
 else
  G.jv nD ru gU iY false

def rj(qv:G.ak)(gd:Int)(gU:List G.ah)(iY:List Int):Option (Bool):=
 (G.nC qv.Key qv.bY gd gU iY).bind fun r4=>
 some r4

def dz:Option (Int):=
 some (-1)

def cL(b7:List G.ak)(fK:Int)(gU:List G.ah)(iY:List Int)(v31:Int):Option ((Int)⊕(Int)):=
 if decide (v31<(Sh.len b7)) then
  (Sh.idx b7 v31).bind fun Qn=>
  (G.rj Qn fK gU iY).bind fun Of=>
  if Of then
   Sh.exit (some v31)
  else
   Sh.next (gJ (v31+1))
 else
  Sh.exit (G.dz)

def dQ(b7:List G.ak)(fK:Int)(gU:List G.ah)(iY:List Int):Option (Int):=
 Sh.loop (fun(p:Int)=>G.cL b7 fK gU iY p) 0

def dr(b7:List G.ak)(fK:Int)(gU:List G.ah)(iY:List Int):Option (Bool):=
 (G.dQ b7 fK gU iY).bind fun r4=>
 some (decide ((0:Int)≤r4))

def qG(nD:Int)(ru:Int)(gU:List G.ah)(iY:List Int):Option (Bool):=
 if decide (nD≠ru) then
  (Sh.idx gU nD).bind fun x12=>
  (G.dr x12.Reads ru gU iY).bind fun Od=>
  some Od
 else
  some false

def tn(Ae:List Int):Option ((List Int)):=
 some Ae

def kS(tQ:Int)(Ud:List Int):Option (((List Int)×Int)⊕((List Int))):=
 Sh.next (Ud,gJ (tQ+1))

def kT(v175:Int)(Ue:List Int):Option (((List Int)×Int)⊕(((List Int)×Int)⊕((List Int)))):=
 Sh.next (Ue,gJ (v175+1))

def oa(bX:List G.ah)(gU:List Int)(tQ:Int)(yF:List Int)(v175:Int):Option (((List Int)×Int)⊕(((List Int)×Int)⊕((List Int)))):=
 if decide (v175<(Sh.len bX)) then
  (G.qG tQ v175 bX gU).bind fun UJ=>
  if UJ then
   (Sh.app 8 yF [v175]).bind fun Ia=>
   G.kT v175 Ia
  else
   G.kT v175 yF
 else
  Sh.exit (G.kS tQ yF)

def n_(nD:Int)(bX:List G.ah)(gU:List Int)(yE:List Int)(tQ:Int):Option (((List Int)×Int)⊕((List Int))):=
 if decide (tQ<(Sh.len bX)) then
  (G.pI nD tQ bX gU).bind fun Rk=>
  if !Rk then
   G.kS tQ yE
  else
   (Sh.app 8 yE [tQ]).bind fun FK=>
   Sh.loop (fun(p:(List Int)×Int)=>G.oa bX gU tQ p.1 p.2) (FK,0)
 else
  Sh.exit (G.tn yE)

def mE(nD:Int)(bX:List G.ah)(gU:List Int):Option ((List Int)):=
 Sh.loop (fun(p:(List Int)×Int)=>G.n_ nD bX gU p.1 p.2) ([],0)

def qe(nD:Int)(Yy:List Int):Option ((List Int)×Bool):=
 (Sh.idx Yy nD).bind fun x74=>
 some (Sh.set Yy nD 2,true)

def kR(self:Int→(List G.ah)→(List Int)→(List Int)→Option ((List Int)×Bool))(nD:Int)(bX:List G.ah)(gU:List Int)(KY:(List Int))(c86:List Int)(v87:Int):Option (((List Int)×Int)⊕((List Int)×Bool)):=
 if decide (v87<(Sh.len KY)) then
  (Sh.idx KY v87).bind fun x94=>
  (self x94 bX gU c86).bind fun R5=>
  if !R5.2 then
   Sh.exit (some (R5.1,false))
  else
   Sh.next (R5.1,gJ (v87+1))
 else
  Sh.exit (G.qe nD c86)

def n4(self:Int→(List G.ah)→(List Int)→(List Int)→Option ((List Int)×Bool))(nD:Int)(bX:List G.ah)(gU:List Int)(q_:List Int):Option ((List Int)×Bool):=
 (Sh.idx q_ nD).bind fun Xi=>
 if decide ((0:Int)<Xi) then
  (Sh.idx q_ nD).bind fun F2=>
  some (q_,decide (F2=2))
 else
  (Sh.idx q_ nD).bind fun x55=>
  (G.mE nD bX gU).bind fun KY=>
  Sh.loop (fun(p:(List Int)×Int)=>G.kR self nD bX gU KY p.1 p.2) (Sh.set q_ nD 1,0)

def mD:Nat→Int→(List G.ah)→(List Int)→(List Int)→Option ((List Int)×Bool)
 |0=>fun _ _ _ _=>none
 |n+1=>G.n4 (mD n)

def yI(nD:Int)(bX:List G.ah)(gU:List Int)(q_:List Int):Option ((List Int)×Bool):=G.mD Sh.sL nD bX gU q_

def yc:Option (Bool):=
 some true

def rY(aO:G.af)(v148:List Int)(lq:List Int)(GL:List Int)(N3:Int):Option (((List Int)×Int)⊕(Bool)):=
 if decide (N3<(Sh.len lq)) then
  (G.yI N3 aO.az v148 GL).bind fun Iu=>
  if !Iu.2 then
   Sh.exit (some false)
  else
   Sh.next (Iu.1,gJ (N3+1))
 else
  Sh.exit (G.yc)

def tL(aO:G.af)(v148:List Int):Option (Bool):=
 (Sh.mk 8 (Sh.len aO.az) (Sh.len aO.az) 0).bind fun lq=>
 Sh.loop (fun(p:(List Int)×Int)=>G.rY aO v148 lq p.1 p.2) (lq,0)

def vM(FY:Int)(aht:List Int):Option (((List Int)×Int)⊕(Bool)):=
 Sh.next (aht,gJ (FY+1))

def tK(FY:Int)(Ay:G.aA)(Wu:List Int)(Ve:Int):Option (((List Int)×Int)⊕(((List Int)×Int)⊕(Bool))):=
 if decide (Ve<(Sh.len Ay.L)) then
  (Sh.idx Ay.L Ve).bind fun aaR=>
  (Sh.lim 16 Ay.Key).bind fun agS=>
  (Sh.lim 32 aaR).bind fun agT=>
  (Sh.RD Wu (agS*32+agT) (gJ (Ve+1))).bind fun NX=>
  Sh.next (NX,gJ (Ve+1))
 else
  Sh.exit (G.vM FY Wu)

def tJ(aO:G.af)(fZ:List G.aA)(T4:List Int)(FY:Int):Option (((List Int)×Int)⊕(Bool)):=
 if decide (FY<(Sh.len fZ)) then
  (Sh.idx fZ FY).bind fun Ay=>
  Sh.loop (fun(p:(List Int)×Int)=>G.tK FY Ay p.1 p.2) (T4,0)
 else
  Sh.exit (G.tL aO T4)

def zm(aO:G.af)(fZ:List G.aA):Option (Bool):=
 (G.zp aO fZ).bind fun fF=>
 if !fF then
  some false
 else
  Sh.loop (fun(p:(List Int)×Int)=>G.tJ aO fZ p.1 p.2) ((List.replicate 512 0),0)
end G
end

section
/- What the functions of a package compute, as plain functions. -/
open Go Go.Av
set_option linter.unusedVariables false
namespace G
def rO:Option (Bool):=
 some true

def rP(nK:Int):Option ((Int)⊕(Bool)):=
 Sh.next (gJ (nK+1))

def rN(dV:List G.aQ)(eU:List G.aQ)(nK:Int)(HX:Int):Option ((Int)⊕((Int)⊕(Bool))):=
 (Sh.idx dV nK).bind fun Lp=>
 if decide (HX<(Sh.len Lp.L)) then
  (Sh.idx dV nK).bind fun Lr=>
  (Sh.idx Lr.L HX).bind fun Fp=>
  (Sh.idx eU nK).bind fun Ls=>
  (Sh.idx Ls.L HX).bind fun Lt=>
  if decide (Fp≠Lt) then
   Sh.exit (Sh.exit (some false))
  else
   Sh.next (gJ (HX+1))
 else
  Sh.exit (G.rP nK)

def pE(dV:List G.aQ)(eU:List G.aQ)(nK:Int)(Vg:Bool):Option ((Int)⊕(Bool)):=
 if Vg then
  Sh.exit (some false)
 else
  Sh.loop (fun(p:Int)=>G.rN dV eU nK p) 0

def rM(dV:List G.aQ)(eU:List G.aQ)(nK:Int):Option ((Int)⊕(Bool)):=
 if decide (nK<(Sh.len dV)) then
  (Sh.idx dV nK).bind fun GA=>
  (Sh.idx eU nK).bind fun GB=>
  if decide (GA.Key≠GB.Key) then
   G.pE dV eU nK true
  else
   (Sh.idx dV nK).bind fun F0=>
   (Sh.idx eU nK).bind fun F1=>
   G.pE dV eU nK (decide ((Sh.len F0.L)≠(Sh.len F1.L)))
 else
  Sh.exit (G.rO)

def qZ(dV:List G.aQ)(eU:List G.aQ):Option (Bool):=
 if decide ((Sh.len dV)≠(Sh.len eU)) then
  some false
 else
  Sh.loop (fun(p:Int)=>G.rM dV eU p) 0

def jP(self:G.af→Int→(List G.aa)→(List G.aa)→Option (Bool))(aO:G.af)(bh:Int)(CX:List G.aa)(q_:List G.aa):Option (Bool):=
 if decide ((Sh.len q_)=(Sh.len CX)) then
  (G.mo aO bh q_).bind fun Od=>
  some Od
 else
  (Sh.idx CX (Sh.len q_)).bind fun Px=>
  (Sh.app 24 [] q_).bind fun Nj=>
  (Sh.app 24 Nj ([Px]:List G.aa)).bind fun xX=>
  (self aO bh CX xX).bind fun I6=>
  if I6 then
   some true
  else
   (G.o_ Px).bind fun r29=>
   (Sh.idx xX (Sh.len q_)).bind fun x30=>
   (self aO bh CX (Sh.set xX (Sh.len q_) r29)).bind fun Qf=>
   some Qf

def jT:Nat→G.af→Int→(List G.aa)→(List G.aa)→Option (Bool)
 |0=>fun _ _ _ _=>none
 |n+1=>G.jP (jT n)

def ue(aO:G.af)(bh:Int)(CX:List G.aa)(q_:List G.aa):Option (Bool):=G.jT Sh.sL aO bh CX q_

def nA(aO:G.af)(bh:Int):Option (Bool):=
 (G.iS aO).bind fun r5=>
 (G.ue aO bh r5 []).bind fun r6=>
 some r6
end G
end

section
/- What the functions of a package compute, as plain functions. -/
open Go Go.Av
set_option linter.unusedVariables false
namespace G
def dJ(bM:G.aF):Option (G.aq×G.aF):=
 if decide ((Sh.len bM.left)=0) then
  none
 else
  (Sh.idx bM.left 0).bind fun x9=>
  (Sh.sub bM.left 1 (Sh.len bM.left)).bind fun Ik=>
  some (x9,(G.aF.mk Ik))

def dZ(self:G.aF→Option (G.aF×Int×Int))(bM:G.aF):Option (G.aF×Int×Int):=
 (G.dJ bM).bind fun Ct=>
 if decide ((0:Int)<(Sh.len Ct.1.dY)) then
  some (Ct.2,1,0)
 else
  (self Ct.2).bind fun uG=>
  (self uG.1).bind fun wq=>
  some (wq.1,gJ (uG.2.1+wq.2.1),gJ (1+(Sh.max uG.2.2 wq.2.2)))

def cg:Nat→G.aF→Option (G.aF×Int×Int)
 |0=>fun _=>none
 |n+1=>G.dZ (cg n)

def pG(bM:G.aF):Option (Unit):=
 if decide ((0:Int)<(Sh.len bM.left)) then
  none
 else
  some ()

def uk(vW:List G.aq):Option (Int×Int×Bool):=
 some (match G.cg (vW.length+1) (G.aF.mk vW) with
  |some r=>if decide ((0:Int)<Sh.len r.1.left) then(0,0,false) else(r.2.1,r.2.2,true)
  |none=>(0,0,false))

def vF(bM:G.aa):Option (G.aa):=
 some (G.aa.mk bM.Key bM.B bM.A)

def iW(Bm:Int)(gd:G.af)(j6:G.aa):Option (Bool):=
 if decide ((0:Int)≤Bm) then
  if decide (Bm<(Sh.len gd.az)) then
   (Sh.idx gd.az Bm).bind fun x14=>
   (G.dG x14.bA j6.Key).bind fun Bl=>
   some Bl
  else
   some false
 else
  some false

def qN(aO:G.af)(bX:G.aa):Option (Bool):=
 if decide (bX.A≠bX.B) then
  (G.iW bX.A aO bX).bind fun Oc=>
  if Oc then
   (G.iW bX.B aO bX).bind fun DG=>
   some DG
  else
   some false
 else
  some false

def gO(self:G.af→Int→(List G.aa)→G.aF→Option (G.aF×Bool))(aO:G.af)(bh:Int)(mI:List G.aa)(iY:G.aF):Option (G.aF×Bool):=
 (G.dJ iY).bind fun wE=>
 if decide ((0:Int)<(Sh.len wE.1.dY)) then
  if decide (wE.1.C=(G.aa.mk 0 0 0)) then
   (G.uV aO bh mI wE.1.dY).bind fun WL=>
   some (wE.2,WL)
  else
   some (wE.2,false)
 else
  (G.eu mI).bind fun Yl=>
  (Sh.app 24 Yl ([wE.1.C]:List G.aa)).bind fun Yc=>
  (self aO bh Yc wE.2).bind fun GZ=>
  (G.vF wE.1.C).bind fun r60=>
  (Sh.app 24 Yl ([r60]:List G.aa)).bind fun Yd=>
  (self aO bh Yd GZ.1).bind fun UQ=>
  if GZ.2 then
   if UQ.2 then
    (G.qN aO wE.1.C).bind fun r68=>
    some (UQ.1,r68)
   else
    some (UQ.1,false)
  else
   some (UQ.1,false)

def gG:Nat→G.af→Int→(List G.aa)→G.aF→Option (G.aF×Bool)
 |0=>fun _ _ _ _=>none
 |n+1=>G.gO (gG n)

def qV(aO:G.af)(bh:Int)(mI:List G.aa)(iY:G.aF):Option (G.aF×Bool):=G.gG Sh.sL aO bh mI iY

def gi(aO:G.af)(bh:Int)(mI:List G.aa)(pO:List G.aq)(v20:Bool):Option (Bool):=
 if v20 then
  some false
 else
  (G.qV aO bh mI (G.aF.mk pO)).bind fun r23=>
  some r23.2

def sA(aO:G.af)(bh:Int)(mI:List G.aa)(pO:List G.aq):Option (Bool):=
 (G.uk pO).bind fun AJ=>
 if !AJ.2.2 then
  G.gi aO bh mI pO true
 else
  (G.nJ aO).bind fun Pa=>
  if !Pa then
   G.gi aO bh mI pO true
  else
   if decide (bh≠0) then
    G.gi aO bh mI pO (decide (bh≠1))
   else
    G.gi aO bh mI pO false
end G
end

section
/- What the functions of a package compute, as plain functions. -/
open Go Go.Av
set_option linter.unusedVariables false
namespace G
def rS:Option (Bool):=
 some true

def rT(nK:Int):Option ((Int)⊕(Bool)):=
 Sh.next (gJ (nK+1))

def rR(dV:List G.aS)(eU:List G.aS)(nK:Int)(HX:Int):Option ((Int)⊕((Int)⊕(Bool))):=
 (Sh.idx dV nK).bind fun Lp=>
 if decide (HX<(Sh.len Lp.dY)) then
  (Sh.idx dV nK).bind fun Lr=>
  (Sh.idx Lr.dY HX).bind fun Fp=>
  (Sh.idx eU nK).bind fun Ls=>
  (Sh.idx Ls.dY HX).bind fun Lt=>
  if decide (Fp≠Lt) then
   Sh.exit (Sh.exit (some false))
  else
   Sh.next (gJ (HX+1))
 else
  Sh.exit (G.rT nK)

def pF(dV:List G.aS)(eU:List G.aS)(nK:Int)(Vg:Bool):Option ((Int)⊕(Bool)):=
 if Vg then
  Sh.exit (some false)
 else
  Sh.loop (fun(p:Int)=>G.rR dV eU nK p) 0

def rQ(dV:List G.aS)(eU:List G.aS)(nK:Int):Option ((Int)⊕(Bool)):=
 if decide (nK<(Sh.len dV)) then
  (Sh.idx dV nK).bind fun GA=>
  (Sh.idx eU nK).bind fun GB=>
  if !decide (GA.C=GB.C) then
   G.pF dV eU nK true
  else
   (Sh.idx dV nK).bind fun F0=>
   (Sh.idx eU nK).bind fun F1=>
   G.pF dV eU nK (decide ((Sh.len F0.dY)≠(Sh.len F1.dY)))
 else
  Sh.exit (G.rS)

def q8(dV:List G.aS)(eU:List G.aS):Option (Bool):=
 if decide ((Sh.len dV)≠(Sh.len eU)) then
  some false
 else
  Sh.loop (fun(p:Int)=>G.rQ dV eU p) 0
end G
end

section
/- What the functions of a package compute, as plain functions. -/
open Go Go.Av
set_option linter.unusedVariables false
namespace G
def kP(aO:G.af)(Aw:Int)(vm:Int):Option (Bool):=
 (G.nu aO Aw).bind fun r8=>
 (G.fk aO).bind fun Ny=>
 (G.iS aO).bind fun zB=>
 if r8 then
  if Ny then
   some (decide ((Sh.len zB)≤vm))
  else
   some false
 else
  some false
end G
end

section
/- What the functions of a package compute, as plain functions. -/
open Go Go.Av
set_option linter.unusedVariables false
namespace G
def x6(DE:Int):Option (Unit):=
 some ()

def xY(fW:List Int)(ru:Int):Option ((List Int)):=
 (Sh.app 1 fW [ru]).bind fun l3=>
 some l3

def lV(W1:List Int)(v30:Int):Option ((List Int)):=
 (G.xY W1 (IntKind.u8.wrap v30)).bind fun Xn=>
 some Xn

def lU(QD:List Int)(v41:Int):Option (((List Int)×Int)⊕((List Int))):=
 if decide ((128:Int)≤v41) then
  (Sh.rem v41 128).bind fun O9=>
  (G.xY QD (Sh.Kr .u8 (IntKind.u8.wrap O9) 128)).bind fun RU=>
  (Sh.Wo .i64 v41 ((7#64).toNat:Int)).bind fun WR=>
  Sh.next (RU,WR)
 else
  Sh.exit (G.lV QD v41)

def nZ(fW:List Int)(bX:Int):Option ((List Int)):=
 Sh.loop (fun(p:(List Int)×Int)=>G.lU p.1 p.2) (fW,bX)

def vl(fW:List Int)(ru:Int):Option ((List Int)):=
 (Sh.app 1 fW [ru]).bind fun l3=>
 some l3

def j0(W1:List Int)(v30:Int):Option ((List Int)):=
 (G.vl W1 (IntKind.u8.wrap v30)).bind fun Xn=>
 some Xn

def jZ(QD:List Int)(v41:Int):Option (((List Int)×Int)⊕((List Int))):=
 if decide ((128:Int)≤v41) then
  (Sh.rem v41 128).bind fun O9=>
  (G.vl QD (Sh.Kr .u8 (IntKind.u8.wrap O9) 128)).bind fun RU=>
  (Sh.Wo .i64 v41 ((7#64).toNat:Int)).bind fun WR=>
  Sh.next (RU,WR)
 else
  Sh.exit (G.j0 QD v41)

def mC(fW:List Int)(bX:Int):Option ((List Int)):=
 Sh.loop (fun(p:(List Int)×Int)=>G.jZ p.1 p.2) (fW,bX)

def Cq(Ft:List Int):Option ((List UInt8)×Int):=
 some (Sh.str Ft,0)

def xZ(wg:List Int)(v80:Int)(Lz:Int)(v96:Bool):Option (((List Int)×Int)⊕((List UInt8)×Int)):=
 if v96 then
  Sh.exit (some ([],1))
 else
  (G.x6 (gJ (Lz+1))).bind fun r99=>
  (G.mC wg (gJ (Lz+1))).bind fun Ga=>
  Sh.next (Ga,gJ (v80+1))

def Cp(fW:List Int)(wg:List Int)(v80:Int):Option (((List Int)×Int)⊕((List UInt8)×Int)):=
 if decide (v80<(Sh.len fW)) then
  (Sh.idx fW v80).bind fun Lz=>
  if decide (Lz<(-1)) then
   G.xZ wg v80 Lz true
  else
   G.xZ wg v80 Lz (decide ((2147483647:Int)<Lz))
 else
  Sh.exit (G.Cq wg)

def EZ(fW:List Int):Option ((List UInt8)×Int):=
 if decide ((100000:Int)<(Sh.len fW)) then
  some ([],4)
 else
  (G.x6 (Sh.len fW)).bind fun Pb=>
  (G.nZ [] (Sh.len fW)).bind fun M5=>
  Sh.loop (fun(p:(List Int)×Int)=>G.Cp fW p.1 p.2) (M5,0)

def Ah:Option (Int×(List UInt8)×Int):=
 some (0,[],2)

def ug(b7:List UInt8)(n63:Int)(i65:Int)(NG:Int)(v91:Bool):Option ((Int×Int)⊕(Int×(List UInt8)×Int)):=
 if v91 then
  Sh.exit (some (0,[],2))
 else
  (Sh.sub b7 (gJ (i65+1)) (Sh.len b7)).bind fun Im=>
  Sh.exit (some (Sh.Kr .i64 n63 NG,Im,0))

def Ag(b7:List UInt8)(tc:Int)(n63:Int)(i65:Int):Option ((Int×Int)⊕(Int×(List UInt8)×Int)):=
 if decide (i65<5) then
  if decide (i65=(Sh.len b7)) then
   Sh.exit (some (0,[],16))
  else
   (Sh.idx b7 i65).bind fun Xm=>
   (Sh.ZQ .i64 (gJ (Sh.VV .u8 ((Xm).toNat:Int) 127)) (gJ (7*i65))).bind fun NG=>
   (Sh.idx b7 i65).bind fun x82=>
   if decide ((128:Int)≤((x82).toNat:Int)) then
    Sh.next (Sh.Kr .i64 n63 NG,gJ (i65+1))
   else
    if decide ((0:Int)<i65) then
     (Sh.idx b7 i65).bind fun x96=>
     if decide (((x96).toNat:Int)=0) then
      G.ug b7 n63 i65 NG true
     else
      G.ug b7 n63 i65 NG (decide (tc<(Sh.Kr .i64 n63 NG)))
    else
     G.ug b7 n63 i65 NG (decide (tc<(Sh.Kr .i64 n63 NG)))
 else
  Sh.exit (G.Ah)

def zf(b7:List UInt8)(tc:Int):Option (Int×(List UInt8)×Int):=
 Sh.loop (fun(p:Int×Int)=>G.Ag b7 tc p.1 p.2) (0,0)

def Cn(s29:List UInt8)(P7:List Int):Option ((List Int)×Int):=
 if !decide (s29=[]) then
  some ([],2)
 else
  some (P7,0)

def Cm(AJ:Int×(List UInt8)×Int)(s39:List UInt8)(Nl:List Int)(v41:Int):Option (((List UInt8)×(List Int)×Int)⊕((List Int)×Int)):=
 if decide (v41<AJ.1) then
  (G.zf s39 2147483648).bind fun Lx=>
  if decide (Lx.2.2≠0) then
   Sh.exit (some ([],Lx.2.2))
  else
   (Sh.app 8 Nl [gJ (Lx.1 - 1)]).bind fun JU=>
   Sh.next (Lx.2.1,JU,gJ (v41+1))
 else
  Sh.exit (G.Cn s39 Nl)

def EY(b7:List UInt8):Option ((List Int)×Int):=
 (G.zf b7 100000).bind fun AJ=>
 if decide (AJ.2.2≠0) then
  some ([],AJ.2.2)
 else
  Sh.loop (fun(p:(List UInt8)×(List Int)×Int)=>G.Cm AJ p.1 p.2.1 p.2.2) (AJ.2.1,[],0)
end G
end

section
/- What the functions of a package compute, as plain functions. -/
open Go Go.Av
set_option linter.unusedVariables false
namespace G
def sN(fW:List Int)(fZ:List Int):Option ((List Int)):=
 (Sh.app 8 fZ [Sh.len fW]).bind fun l4=>
 (Sh.app 8 l4 fW).bind fun l5=>
 some l5

def BG(v81:List Int):Option ((List UInt8)×Int):=
 (G.EZ v81).bind fun Rn=>
 some (Rn.1,Rn.2)

def BD(bM:G.bn)(Ge:List Int)(v95:Int):Option (((List Int)×Int)⊕((List UInt8)×Int)):=
 if decide (v95<(Sh.len bM.Tree)) then
  (Sh.idx bM.Tree v95).bind fun uC=>
  (Sh.app 8 Ge [uC.C.Key,uC.C.A,uC.C.B]).bind fun KI=>
  (G.sN uC.dY KI).bind fun Re=>
  Sh.next (Re,gJ (v95+1))
 else
  Sh.exit (G.BG Ge)

def BF(bM:G.bn)(Ft:List Int):Option ((List UInt8)×Int):=
 (Sh.app 8 Ft [Sh.len bM.Tree]).bind fun ZV=>
 Sh.loop (fun(p:(List Int)×Int)=>G.BD bM p.1 p.2) (ZV,0)

def BE(bM:G.bn)(Cj:List Int)(Pt:Int):Option (((List Int)×Int)⊕((List UInt8)×Int)):=
 if decide (Pt<(Sh.len bM.Rows)) then
  (Sh.idx bM.Rows Pt).bind fun CF=>
  (Sh.app 8 Cj [CF.Key]).bind fun KJ=>
  (G.sN CF.L KJ).bind fun Ri=>
  Sh.next (Ri,gJ (Pt+1))
 else
  Sh.exit (G.BF bM Cj)

def xR(bM:G.bn)(Qp:Int):Option ((List UInt8)×Int):=
 (Sh.app 8 [] [bM.Level,Qp]).bind fun ZS=>
 (G.sN bM.Order ZS).bind fun Rl=>
 (Sh.app 8 Rl [Sh.len bM.Rows]).bind fun ZT=>
 Sh.loop (fun(p:(List Int)×Int)=>G.BE bM p.1 p.2) (ZT,0)

def Ez(bM:G.bn):Option ((List UInt8)×Int):=
 if bM.pL then
  G.xR bM 1
 else
  G.xR bM 0

def kZ(bM:List Int)(bX:Bool):Option ((List Int)×Bool×Int):=
 if decide ((Sh.len bM)=0) then
  some (bM,false,0)
 else
  (Sh.idx bM 0).bind fun x10=>
  (Sh.sub bM 1 (Sh.len bM)).bind fun Il=>
  some (Il,bX,x10)

def sn(r8:(List Int)×Bool×Int)(c10:Bool):Option (Int×Bool×(List Int)):=
 some (r8.2.2,c10,r8.1)

def qJ(bM:Bool)(bX:List Int):Option (Int×Bool×(List Int)):=
 (G.kZ bX bM).bind fun r8=>
 if r8.2.1 then
  G.sn r8 (decide ((0:Int)≤r8.2.2))
 else
  G.sn r8 false

def uT(l52:List Int)(v53:Bool)(v54:List Int):Option ((List Int)×Bool×(List Int)):=
 some (l52,v53,v54)

def sq(VD:List Int)(R2:List Int)(n74:Int)(c79:Bool)(v80:Bool):Option ((Bool×(List Int)×(List Int)×Int)⊕((List Int)×Bool×(List Int))):=
 if v80 then
  (G.kZ VD c79).bind fun R4=>
  (Sh.app 8 R2 [R4.2.2]).bind fun l85=>
  Sh.next (R4.2.1,R4.1,l85,gJ (n74 - 1))
 else
  Sh.exit (G.uT R2 c79 VD)

def uS(c71:Bool)(VD:List Int)(R2:List Int)(n74:Int):Option ((Bool×(List Int)×(List Int)×Int)⊕((List Int)×Bool×(List Int))):=
 if c71 then
  G.sq VD R2 n74 true (decide ((0:Int)<n74))
 else
  G.sq VD R2 n74 false false

def sM(bM:Bool)(bX:List Int):Option ((List Int)×Bool×(List Int)):=
 (G.qJ bM bX).bind fun GZ=>
 Sh.loop (fun(p:Bool×(List Int)×(List Int)×Int)=>G.uS p.1 p.2.1 p.2.2.1 p.2.2.2) (GZ.2.1,GZ.2.2,[],GZ.1)

def xO(jD:(List Int)×Bool×Int)(iJ:Int×Bool×(List Int))(fF:(List Int)×Bool×(List Int))(v109:List G.aA)(v145:List G.aq)(ahr:Bool):Option (G.bn×Int):=
 if ahr then
  some ((G.bn.mk 0 false [] [] []),2)
 else
  some ((G.bn.mk jD.2.2 (decide (iJ.1=1)) fF.1 v109 v145),0)

def BC(jD:(List Int)×Bool×Int)(iJ:Int×Bool×(List Int))(fF:(List Int)×Bool×(List Int))(v109:List G.aA)(v143:List Int)(Vd:Bool)(v145:List G.aq):Option (G.bn×Int):=
 if !Vd then
  G.xO jD iJ fF v109 v145 true
 else
  G.xO jD iJ fF v109 v145 (decide ((0:Int)<(Sh.len v143)))

def xP(jD:(List Int)×Bool×Int)(iJ:Int×Bool×(List Int))(fF:(List Int)×Bool×(List Int))(v109:List G.aA)(vk:List Int)(fA:List G.aq)(n177:Int)(EM:Bool)(v183:Bool):Option (((List Int)×Bool×(List G.aq)×Int)⊕(G.bn×Int)):=
 if v183 then
  (G.kZ vk EM).bind fun vD=>
  (G.kZ vD.1 vD.2.1).bind fun w_=>
  (G.kZ w_.1 w_.2.1).bind fun zh=>
  (G.sM zh.2.1 zh.1).bind fun Bh=>
  (Sh.app 48 fA ([(G.aq.mk (G.aa.mk vD.2.2 w_.2.2 zh.2.2) Bh.1)]:List G.aq)).bind fun OS=>
  Sh.next (Bh.2.2,Bh.2.1,OS,gJ (n177 - 1))
 else
  Sh.exit (G.BC jD iJ fF v109 vk EM fA)

def Bz(jD:(List Int)×Bool×Int)(iJ:Int×Bool×(List Int))(fF:(List Int)×Bool×(List Int))(v109:List G.aA)(vk:List Int)(GN:Bool)(fA:List G.aq)(n177:Int):Option (((List Int)×Bool×(List G.aq)×Int)⊕(G.bn×Int)):=
 if GN then
  G.xP jD iJ fF v109 vk fA n177 true (decide ((0:Int)<n177))
 else
  G.xP jD iJ fF v109 vk fA n177 false false

def BB(jD:(List Int)×Bool×Int)(iJ:Int×Bool×(List Int))(fF:(List Int)×Bool×(List Int))(v107:List Int)(aaF:Bool)(v109:List G.aA):Option (G.bn×Int):=
 (G.qJ aaF v107).bind fun It=>
 Sh.loop (fun(p:(List Int)×Bool×(List G.aq)×Int)=>G.Bz jD iJ fF v109 p.1 p.2.1 p.2.2.1 p.2.2.2) (It.2.2,It.2.1,[],It.1)

def xQ(jD:(List Int)×Bool×Int)(iJ:Int×Bool×(List Int))(fF:(List Int)×Bool×(List Int))(qt:List Int)(bD:List G.aA)(n221:Int)(vi:Bool)(v227:Bool):Option (((List Int)×Bool×(List G.aA)×Int)⊕(G.bn×Int)):=
 if v227 then
  (G.kZ qt vi).bind fun er=>
  (G.sM er.2.1 er.1).bind fun cQ=>
  (Sh.app 32 bD ([(G.aA.mk er.2.2 cQ.1)]:List G.aA)).bind fun nh=>
  Sh.next (cQ.2.2,cQ.2.1,nh,gJ (n221 - 1))
 else
  Sh.exit (G.BB jD iJ fF qt vi bD)

def BA(jD:(List Int)×Bool×Int)(iJ:Int×Bool×(List Int))(fF:(List Int)×Bool×(List Int))(qt:List Int)(GO:Bool)(bD:List G.aA)(n221:Int):Option (((List Int)×Bool×(List G.aA)×Int)⊕(G.bn×Int)):=
 if GO then
  G.xQ jD iJ fF qt bD n221 true (decide ((0:Int)<n221))
 else
  G.xQ jD iJ fF qt bD n221 false false

def xN(jD:(List Int)×Bool×Int)(iJ:Int×Bool×(List Int))(OB:Bool):Option (G.bn×Int):=
 (G.sM OB iJ.2.2).bind fun fF=>
 (G.qJ fF.2.1 fF.2.2).bind fun Iv=>
 Sh.loop (fun(p:(List Int)×Bool×(List G.aA)×Int)=>G.BA jD iJ fF p.1 p.2.1 p.2.2.1 p.2.2.2) (Iv.2.2,Iv.2.1,[],Iv.1)

def Ey(b7:List UInt8):Option (G.bn×Int):=
 (G.EY b7).bind fun Qg=>
 if decide (Qg.2≠0) then
  some ((G.bn.mk 0 false [] [] []),Qg.2)
 else
  (G.kZ Qg.1 true).bind fun jD=>
  (G.qJ jD.2.1 jD.1).bind fun iJ=>
  if iJ.2.1 then
   G.xN jD iJ (decide (iJ.1≤1))
  else
   G.xN jD iJ false

def xS(bh:Int)(cOrder7:List Int)(By:List G.aA):Option (G.bn):=
 some (G.bn.mk bh true cOrder7 By [])

def EA(aO:G.af)(bh:Int)(qu:List Int):Option (G.bn):=
 if decide (bh=0) then
  (G.pJ qu).bind fun Ny=>
  G.xS bh Ny []
 else
  (G.Lh aO qu).bind fun Oc=>
  G.xS bh [] Oc

def DP(ij:Int)(v33:List G.aq):Option (G.bn):=
 some (G.bn.mk ij false [] [] v33)

def DO(ij:Int)(og:List G.aq)(xM:List G.aq)(v45:Int):Option (((List G.aq)×Int)⊕(G.bn)):=
 if decide (v45<(Sh.len og)) then
  (Sh.idx og v45).bind fun I7=>
  (G.pJ I7.dY).bind fun r55=>
  (Sh.app 48 xM ([(G.aq.mk (G.aa.mk I7.C.Key I7.C.A I7.C.B) r55)]:List G.aq)).bind fun ZU=>
  Sh.next (ZU,gJ (v45+1))
 else
  Sh.exit (G.DP ij xM)

def GI(ij:Int)(og:List G.aq):Option (G.bn):=
 Sh.loop (fun(p:(List G.aq)×Int)=>G.DO ij og p.1 p.2) ([],0)

def rD(aO:G.af)(bX:G.bn):Option (Bool):=
 if !bX.pL then
  if decide ((Sh.len bX.Order)=0) then
   if decide ((Sh.len bX.Rows)=0) then
    (G.sA aO bX.Level [] bX.Tree).bind fun VE=>
    some VE
   else
    some false
  else
   some false
 else
  if decide (bX.Level=0) then
   if decide ((Sh.len bX.Rows)=0) then
    if decide ((Sh.len bX.Tree)=0) then
     (G.wG aO bX.Order).bind fun VF=>
     some VF
    else
     some false
   else
    some false
  else
   if decide (bX.Level=1) then
    if decide ((Sh.len bX.Order)=0) then
     if decide ((Sh.len bX.Tree)=0) then
      (G.zm aO bX.Rows).bind fun VG=>
      some VG
     else
      some false
    else
     some false
   else
    some false
end G
end

section
/- What the functions of a package compute, as plain functions. -/
open Go Go.Av
set_option linter.unusedVariables false
namespace G
def rK:Option (Bool):=
 some true

def rJ(dV:List Int)(eU:List Int)(i39:Int):Option ((Int)⊕(Bool)):=
 if decide (i39<(Sh.len dV)) then
  (Sh.idx dV i39).bind fun Jw=>
  (Sh.idx eU i39).bind fun F2=>
  if decide (Jw≠F2) then
   Sh.exit (some false)
  else
   Sh.next (gJ (i39+1))
 else
  Sh.exit (G.rK)

def qY(dV:List Int)(eU:List Int):Option (Bool):=
 if decide ((Sh.len dV)≠(Sh.len eU)) then
  some false
 else
  Sh.loop (fun(p:Int)=>G.rJ dV eU p) 0
end G
end

section
/- What the functions of a package compute, as plain functions. -/
open Go Go.Av
set_option linter.unusedVariables false
namespace G
def q9(dV:G.bT)(eU:G.bT):Option (Bool):=
 (G.qY dV.Order eU.Order).bind fun Ny=>
 (G.qZ dV.Rows eU.Rows).bind fun zB=>
 (G.q8 dV.Tree eU.Tree).bind fun Od=>
 if decide (dV.Level=eU.Level) then
  if dV.pL==eU.pL then
   if Ny then
    if zB then
     some Od
    else
     some false
   else
    some false
  else
   some false
 else
  some false
end G
end

section
/- What the functions of a package compute, as plain functions. -/
open Go Go.Av
set_option linter.unusedVariables false
namespace G
def qT(bM:G.bn)(v58:List G.aQ)(v78:List G.aS):Option (G.bT):=
 some (G.bT.mk bM.Level bM.pL bM.Order v58 v78)

def qQ(bM:G.bn)(v58:List G.aQ)(outTree91:List G.aS)(i92:Int):Option (((List G.aS)×Int)⊕(G.bT)):=
 if decide (i92<(Sh.len bM.Tree)) then
  (Sh.idx bM.Tree i92).bind fun Qo=>
  (Sh.idx bM.Tree i92).bind fun RN=>
  (Sh.app 48 outTree91 ([(G.aS.mk (G.aa.mk Qo.C.Key Qo.C.A Qo.C.B) RN.dY)]:List G.aS)).bind fun OQ=>
  Sh.next (OQ,gJ (i92+1))
 else
  Sh.exit (G.qT bM v58 outTree91)

def qS(bM:G.bn)(v58:List G.aQ):Option (G.bT):=
 Sh.loop (fun(p:(List G.aS)×Int)=>G.qQ bM v58 p.1 p.2) ([],0)

def qR(bM:G.bn)(outRows116:List G.aQ)(i117:Int):Option (((List G.aQ)×Int)⊕(G.bT)):=
 if decide (i117<(Sh.len bM.Rows)) then
  (Sh.idx bM.Rows i117).bind fun IT=>
  (Sh.idx bM.Rows i117).bind fun N_=>
  (Sh.app 32 outRows116 ([(G.aQ.mk IT.Key N_.L)]:List G.aQ)).bind fun OR=>
  Sh.next (OR,gJ (i117+1))
 else
  Sh.exit (G.qS bM outRows116)

def nL(bM:G.bn):Option (G.bT):=
 Sh.loop (fun(p:(List G.aQ)×Int)=>G.qR bM p.1 p.2) ([],0)

def nM:Option (Bool):=
 (G.EA (G.af.mk ([(G.ah.mk 1 [] ([(G.ak.mk 0 1)]:List G.ak)),(G.ah.mk 0 [0] [])]:List G.ah)) 0 [1,0]).bind fun zC=>
 (G.Ez zC).bind fun uG=>
 (G.Ey uG.1).bind fun wq=>
 (G.GI 0 []).bind fun I6=>
 if decide (uG.2=0) then
  if decide (uG.1=([7,1,2,3,2,1,1,1]:List UInt8)) then
   if decide (wq.2=0) then
    (G.nL zC).bind fun r39=>
    (G.nL wq.1).bind fun xb=>
    (G.q9 r39 xb).bind fun Of=>
    if Of then
     (G.rD (G.af.mk ([(G.ah.mk 1 [] ([(G.ak.mk 0 1)]:List G.ak)),(G.ah.mk 0 [0] [])]:List G.ah)) zC).bind fun Rl=>
     if Rl then
      (G.rD (G.af.mk ([(G.ah.mk 1 [] ([(G.ak.mk 0 1)]:List G.ak)),(G.ah.mk 0 [0] [])]:List G.ah)) I6).bind fun VG=>
      if !VG then
       some (!I6.pL)
      else
       some false
     else
      some false
    else
     some false
   else
    some false
  else
   some false
 else
  some false

def pS:Option (Bool):=
 some true

def mJ(bM:G.bn)(i49:Int):Option ((Int)⊕(Bool)):=
 if decide (i49<(Sh.len bM.Tree)) then
  (Sh.idx bM.Tree i49).bind fun x55=>
  if decide ((40:Int)<(Sh.len x55.dY)) then
   Sh.exit (some false)
  else
   Sh.next (gJ (i49+1))
 else
  Sh.exit (G.pS)

def mL(bM:G.bn):Option (Bool):=
 Sh.loop (fun(p:Int)=>G.mJ bM p) 0

def mK(bM:G.bn)(i63:Int):Option ((Int)⊕(Bool)):=
 if decide (i63<(Sh.len bM.Rows)) then
  (Sh.idx bM.Rows i63).bind fun x69=>
  if decide ((40:Int)<(Sh.len x69.L)) then
   Sh.exit (some false)
  else
   Sh.next (gJ (i63+1))
 else
  Sh.exit (G.mL bM)

def gp(bM:G.bn)(v25:Bool):Option (Bool):=
 if v25 then
  some false
 else
  Sh.loop (fun(p:Int)=>G.mK bM p) 0

def nt(bM:G.bn):Option (Bool):=
 if decide ((40:Int)<(Sh.len bM.Order)) then
  G.gp bM true
 else
  if decide ((20:Int)<(Sh.len bM.Rows)) then
   G.gp bM true
  else
   G.gp bM (decide ((80:Int)<(Sh.len bM.Tree)))

def fc(aO:G.af)(bX:G.bn)(v26:Bool):Option (Bool):=
 if v26 then
  some true
 else
  if decide (bX.Level=0) then
   (G.ny aO).bind fun VE=>
   some (bX.pL==VE)
  else
   (G.nA aO bX.Level).bind fun Qf=>
   if bX.pL==Qf then
    some (decide (bX.Level=1))
   else
    some false

def jK(aO:G.af)(bX:G.bn):Option (Bool):=
 (G.nM).bind fun DG=>
 if !DG then
  some false
 else
  (G.kP aO 5 6).bind fun Bl=>
  (G.nt bX).bind fun zC=>
  if !Bl then
   G.fc aO bX true
  else
   if !zC then
    G.fc aO bX true
   else
    (G.rD aO bX).bind fun VF=>
    G.fc aO bX (!VF)
end G
end
