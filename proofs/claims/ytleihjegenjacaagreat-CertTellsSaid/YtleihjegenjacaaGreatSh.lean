/- What the functions compute, as plain functions. -/
import Derived.Test.YtleihjegenjacaaGreatBase2
set_option linter.unusedSimpArgs false
set_option linter.unusedVariables false
section
/- The plain types. -/
open Go Go.Av
namespace G
structure aa where
 Key:Int
 A:Int
 B:Int
 deriving DecidableEq,Inhabited
def aa.av(x:aa):AV:=.agg [J x.Key,J x.A,J x.B]
@[simp] theorem aa.B0(x:aa):b6 (aa.av x):=by simp[aa.av]
@[simp] theorem aa.dH(x:aa):AV.dH (aa.av x)=true:=rfl
@[simp] theorem aa.dry(x:aa):G6 (aa.av x):=by simp[aa.av]
@[simp] theorem aa.flat(x:aa):(aa.av x).flat.length=3:=rfl
structure an where
 Key:Int
 bT:Int
 deriving DecidableEq,Inhabited
def an.av(x:an):AV:=.agg [J x.Key,J x.bT]
@[simp] theorem an.B0(x:an):b6 (an.av x):=by simp[an.av]
@[simp] theorem an.dH(x:an):AV.dH (an.av x)=true:=rfl
@[simp] theorem an.dry(x:an):G6 (an.av x):=by simp[an.av]
@[simp] theorem an.flat(x:an):(an.av x).flat.length=2:=rfl
structure ai where
 bB:Int
 bH:List Int
 Reads:List G.an
 deriving DecidableEq,Inhabited
def ai.av(x:ai):AV:=.agg [J x.bB,.sl (List.map J x.bH),.sl (List.map G.an.av x.Reads)]
@[simp] theorem ai.B0(x:ai):b6 (ai.av x):=by simp[ai.av]
@[simp] theorem ai.dH(x:ai):AV.dH (ai.av x)=true:=rfl
@[simp] theorem ai.flat(x:ai):(ai.av x).flat.length=3:=rfl
structure af where
 aC:List G.ai
 deriving DecidableEq,Inhabited
def af.av(x:af):AV:=.agg [.sl (List.map G.ai.av x.aC)]
@[simp] theorem af.B0(x:af):b6 (af.av x):=by simp[af.av]
@[simp] theorem af.dH(x:af):AV.dH (af.av x)=true:=rfl
@[simp] theorem af.flat(x:af):(af.av x).flat.length=1:=rfl
structure aP where
 Key:Int
 L:List Int
 deriving DecidableEq,Inhabited
def aP.av(x:aP):AV:=.agg [J x.Key,.sl (List.map J x.L)]
@[simp] theorem aP.B0(x:aP):b6 (aP.av x):=by simp[aP.av]
@[simp] theorem aP.dH(x:aP):AV.dH (aP.av x)=true:=rfl
@[simp] theorem aP.flat(x:aP):(aP.av x).flat.length=2:=rfl
structure au where
 C:G.aa
 bR:List Int
 deriving DecidableEq,Inhabited
def au.av(x:au):AV:=.agg [J x.C.Key,J x.C.A,J x.C.B,.sl (List.map J x.bR)]
@[simp] theorem au.B0(x:au):b6 (au.av x):=by simp[au.av]
@[simp] theorem au.dH(x:au):AV.dH (au.av x)=true:=rfl
@[simp] theorem au.flat(x:au):(au.av x).flat.length=4:=rfl
structure bh where
 Level:Int
 j9:Bool
 Order:List Int
 Rows:List G.aP
 Tree:List G.au
 deriving DecidableEq,Inhabited
def bh.av(x:bh):AV:=.agg [J x.Level,bl x.j9,.sl (List.map J x.Order),.sl (List.map G.aP.av x.Rows),.sl (List.map G.au.av x.Tree)]
@[simp] theorem bh.B0(x:bh):b6 (bh.av x):=by simp[bh.av]
@[simp] theorem bh.dH(x:bh):AV.dH (bh.av x)=true:=rfl
@[simp] theorem bh.flat(x:bh):(bh.av x).flat.length=5:=rfl
structure cF where
 deriving DecidableEq,Inhabited
def cF.av(x:cF):AV:=.agg []
@[simp] theorem cF.B0(x:cF):b6 (cF.av x):=by simp[cF.av]
@[simp] theorem cF.dH(x:cF):AV.dH (cF.av x)=true:=rfl
@[simp] theorem cF.dry(x:cF):G6 (cF.av x):=by simp[cF.av]
@[simp] theorem cF.flat(x:cF):(cF.av x).flat.length=0:=rfl
structure bO where
 deriving DecidableEq,Inhabited
def bO.av(x:bO):AV:=.agg []
@[simp] theorem bO.B0(x:bO):b6 (bO.av x):=by simp[bO.av]
@[simp] theorem bO.dH(x:bO):AV.dH (bO.av x)=true:=rfl
@[simp] theorem bO.dry(x:bO):G6 (bO.av x):=by simp[bO.av]
@[simp] theorem bO.flat(x:bO):(bO.av x).flat.length=0:=rfl
structure aq where
 N:Int
 Rows:List (BitVec 64)
 deriving DecidableEq,Inhabited
def aq.av(x:aq):AV:=.agg [J x.N,.sl (List.map u64 x.Rows)]
@[simp] theorem aq.B0(x:aq):b6 (aq.av x):=by simp[aq.av]
@[simp] theorem aq.dH(x:aq):AV.dH (aq.av x)=true:=rfl
@[simp] theorem aq.flat(x:aq):(aq.av x).flat.length=2:=rfl
structure aj where
 Key:Int
 L:List Int
 deriving DecidableEq,Inhabited
def aj.av(x:aj):AV:=.agg [J x.Key,.sl (List.map J x.L)]
@[simp] theorem aj.B0(x:aj):b6 (aj.av x):=by simp[aj.av]
@[simp] theorem aj.dH(x:aj):AV.dH (aj.av x)=true:=rfl
@[simp] theorem aj.flat(x:aj):(aj.av x).flat.length=2:=rfl
structure ak where
 C:G.aa
 bR:List Int
 deriving DecidableEq,Inhabited
def ak.av(x:ak):AV:=.agg [J x.C.Key,J x.C.A,J x.C.B,.sl (List.map J x.bR)]
@[simp] theorem ak.B0(x:ak):b6 (ak.av x):=by simp[ak.av]
@[simp] theorem ak.dH(x:ak):AV.dH (ak.av x)=true:=rfl
@[simp] theorem ak.flat(x:ak):(ak.av x).flat.length=4:=rfl
structure aY where
 Level:Int
 j9:Bool
 Order:List Int
 Rows:List G.aj
 Tree:List G.ak
 deriving DecidableEq,Inhabited
def aY.av(x:aY):AV:=.agg [J x.Level,bl x.j9,.sl (List.map J x.Order),.sl (List.map G.aj.av x.Rows),.sl (List.map G.ak.av x.Tree)]
@[simp] theorem aY.B0(x:aY):b6 (aY.av x):=by simp[aY.av]
@[simp] theorem aY.dH(x:aY):AV.dH (aY.av x)=true:=rfl
@[simp] theorem aY.flat(x:aY):(aY.av x).flat.length=5:=rfl
structure aI where
 left:List G.au
 deriving DecidableEq,Inhabited
def aI.av(x:aI):AV:=.agg [.sl (List.map G.au.av x.left)]
@[simp] theorem aI.B0(x:aI):b6 (aI.av x):=by simp[aI.av]
@[simp] theorem aI.dH(x:aI):AV.dH (aI.av x)=true:=rfl
@[simp] theorem aI.flat(x:aI):(aI.av x).flat.length=1:=rfl
end G
end

section
/- What the functions of a package compute, as plain functions. -/
open Go Go.Av
set_option linter.unusedVariables false
namespace G
def fB(b8:List Int):Option (Unit):=
 some ()

def nT:Option (Int):=
 some (-1)

def jJ(b8:List Int)(BC:Int)(v22:Int):Option ((Int)⊕(Int)):=
 if decide (v22<(Sh.len b8)) then
  (Sh.idx b8 v22).bind fun HS=>
  if decide (BC=HS) then
   Sh.exit (some v22)
  else
   Sh.next (dz (v22+1))
 else
  Sh.exit (G.nT)

def nB(b8:List Int)(BC:Int):Option (Int):=
 Sh.loop (fun(p:Int)=>G.jJ b8 BC p) 0

def dJ(b8:List Int)(BC:Int):Option (Bool):=
 (G.nB b8 BC).bind fun r3=>
 some (decide ((0:Int)≤r3))

def jH(b8:List Int):Option (List Int):=Sh.app 8 [] b8

def gf:Option (Bool):=
 some true

def dS(wD:List G.an)(zX:List G.an)(v39:Int):Option ((Int)⊕(Bool)):=
 if decide (v39<(Sh.len wD)) then
  (Sh.idx wD v39).bind fun Qm=>
  (Sh.idx zX v39).bind fun KW=>
  if !decide (Qm=KW) then
   Sh.exit (some false)
  else
   Sh.next (dz (v39+1))
 else
  Sh.exit (G.gf)

def fH(wD:List G.an)(zX:List G.an):Option (Bool):=
 if decide ((Sh.len wD)≠(Sh.len zX)) then
  some false
 else
  Sh.loop (fun(p:Int)=>G.dS wD zX p) 0

def nS:Option (Bool):=
 some true

def gJ(wD:List Int)(zX:List Int)(v39:Int):Option ((Int)⊕(Bool)):=
 if decide (v39<(Sh.len wD)) then
  (Sh.idx wD v39).bind fun Qm=>
  (Sh.idx zX v39).bind fun KW=>
  if decide (Qm≠KW) then
   Sh.exit (some false)
  else
   Sh.next (dz (v39+1))
 else
  Sh.exit (G.nS)

def nA(wD:List Int)(zX:List Int):Option (Bool):=
 if decide ((Sh.len wD)≠(Sh.len zX)) then
  some false
 else
  Sh.loop (fun(p:Int)=>G.gJ wD zX p) 0

def fE:Option (Int):=
 some (-1)

def er(b8:List G.aa)(BC:G.aa)(v22:Int):Option ((Int)⊕(Int)):=
 if decide (v22<(Sh.len b8)) then
  (Sh.idx b8 v22).bind fun HS=>
  if decide (BC=HS) then
   Sh.exit (some v22)
  else
   Sh.next (dz (v22+1))
 else
  Sh.exit (G.fE)

def gi(b8:List G.aa)(BC:G.aa):Option (Int):=
 Sh.loop (fun(p:Int)=>G.er b8 BC p) 0

def ef(b8:List G.aa)(BC:G.aa):Option (Bool):=
 (G.gi b8 BC).bind fun r3=>
 some (decide ((0:Int)≤r3))

def eW(b8:List G.aa):Option ((List G.aa)):=
 (Sh.sub b8 0 (Sh.len b8)).bind fun SH=>
 some SH
end G
end

section
/- What the functions of a package compute, as plain functions. -/
open Go Go.Av
set_option linter.unusedVariables false
namespace G
def Ar(aQ:G.af):Option (Unit):=
 some ()

def iL(bJ:Bool)(wX:Bool):Option (Bool×Bool):=
 if !wX then
  some (false,false)
 else
  some (bJ,true)

def fk(iT:Int)(agN:Bool):Option ((Bool×Int)⊕(Bool×Bool)):=
 Sh.next (agN,dz (iT+1))

def cU(iT:Int)(cZ:G.ai)(Ye:Bool):Option ((Bool×Int)⊕(Bool×Bool)):=
 if decide ((0:Int)≤cZ.bB) then
  (G.iL Ye (decide (cZ.bB<8))).bind fun KM=>
  if KM.2 then
   G.fk iT KM.1
  else
   Sh.exit (some (KM.1,false))
 else
  (G.iL Ye false).bind fun KN=>
  if KN.2 then
   G.fk iT KN.1
  else
   Sh.exit (some (KN.1,false))

def eA(yI:Int)(jK:G.an)(agQ:Bool):Option ((Bool×Int×Int)⊕((Bool×Int)⊕(Bool×Bool))):=
 Sh.next (agQ,jK.Key,dz (yI+1))

def cG(Cx:Bool)(u7:Int)(yI:Int)(jK:G.an)(BB:Bool):Option ((Bool×Int×Int)⊕((Bool×Int)⊕(Bool×Bool))):=
 if decide (u7<jK.Key) then
  if decide (jK.Key<16) then
   (G.iL Cx BB).bind fun KO=>
   if KO.2 then
    G.eA yI jK KO.1
   else
    Sh.exit (Sh.exit (some (KO.1,false)))
  else
   (G.iL Cx false).bind fun KP=>
   if KP.2 then
    G.eA yI jK KP.1
   else
    Sh.exit (Sh.exit (some (KP.1,false)))
 else
  (G.iL Cx false).bind fun KQ=>
  if KQ.2 then
   G.eA yI jK KQ.1
  else
   Sh.exit (Sh.exit (some (KQ.1,false)))

def fh(bL:G.af)(iT:Int)(cZ:G.ai)(Cx:Bool)(u7:Int)(yI:Int):Option ((Bool×Int×Int)⊕((Bool×Int)⊕(Bool×Bool))):=
 if decide (yI<(Sh.len cZ.Reads)) then
  (Sh.idx cZ.Reads yI).bind fun jK=>
  if decide (jK.bT=(-1)) then
   G.cG Cx u7 yI jK true
  else
   if decide ((0:Int)≤jK.bT) then
    if decide (jK.bT<(Sh.len bL.aC)) then
     if decide (jK.bT≠iT) then
      (Sh.idx bL.aC jK.bT).bind fun aaC=>
      (G.dJ aaC.bH jK.Key).bind fun TX=>
      G.cG Cx u7 yI jK TX
     else
      G.cG Cx u7 yI jK false
    else
     G.cG Cx u7 yI jK false
   else
    G.cG Cx u7 yI jK false
 else
  Sh.exit (G.cU iT cZ Cx)

def cT(bL:G.af)(iT:Int)(cZ:G.ai)(am9:Bool):Option ((Bool×Int)⊕(Bool×Bool)):=
 Sh.loop (fun(p:Bool×Int×Int)=>G.fh bL iT cZ p.1 p.2.1 p.2.2) (am9,(-1),0)

def fm(HQ:Int)(BE:Int)(agR:Bool):Option ((Bool×Int×Int)⊕((Bool×Int)⊕(Bool×Bool))):=
 Sh.next (agR,BE,dz (HQ+1))

def ew(bL:G.af)(iT:Int)(cZ:G.ai)(QA:Bool)(Nf:Int)(HQ:Int):Option ((Bool×Int×Int)⊕((Bool×Int)⊕(Bool×Bool))):=
 if decide (HQ<(Sh.len cZ.bH)) then
  (Sh.idx cZ.bH HQ).bind fun BE=>
  if decide (Nf<BE) then
   (G.iL QA (decide (BE<16))).bind fun KR=>
   if KR.2 then
    G.fm HQ BE KR.1
   else
    Sh.exit (Sh.exit (some (KR.1,false)))
  else
   (G.iL QA false).bind fun KS=>
   if KS.2 then
    G.fm HQ BE KS.1
   else
    Sh.exit (Sh.exit (some (KS.1,false)))
 else
  Sh.exit (G.cT bL iT cZ QA)

def eu(bL:G.af)(YZ:Bool)(iT:Int):Option ((Bool×Int)⊕(Bool×Bool)):=
 if decide (iT<(Sh.len bL.aC)) then
  (Sh.idx bL.aC iT).bind fun cZ=>
  Sh.loop (fun(p:Bool×Int×Int)=>G.ew bL iT cZ p.1 p.2.1 p.2.2) (YZ,(-1),0)
 else
  Sh.exit (some (YZ,true))

def iR(bJ:Bool)(bL:G.af):Option (Bool×Bool):=
 (G.iL bJ (decide ((Sh.len bL.aC)≤32))).bind fun LG=>
 if LG.2 then
  Sh.loop (fun(p:Bool×Int)=>G.eu bL p.1 p.2) (LG.1,0)
 else
  some (LG.1,false)

def rO(aQ:G.af):Option (Bool):=
 (G.Ar aQ).bind fun r8=>
 (G.iR false aQ).bind fun it9=>
 if it9.2 then
  some true
 else
  some it9.1
end G
end

section
/- What the functions of a package compute, as plain functions. -/
open Go Go.Av
set_option linter.unusedVariables false
namespace G
def rU:Option (Bool):=
 some true

def og(i55:Int)(v68:Bool):Option ((Int)⊕(Bool)):=
 if v68 then
  Sh.exit (some false)
 else
  Sh.next (dz (i55+1))

def od(aQ:G.af)(i55:Int):Option ((Int)⊕(Bool)):=
 if decide (i55<(Sh.len aQ.aC)) then
  (Sh.idx aQ.aC i55).bind fun x70=>
  if decide ((20:Int)<(Sh.len x70.bH)) then
   G.og i55 true
  else
   (Sh.idx aQ.aC i55).bind fun x73=>
   G.og i55 (decide ((20:Int)<(Sh.len x73.Reads)))
 else
  Sh.exit (G.rU)

def sn(aQ:G.af)(JS:Int):Option (Bool):=
 if decide (JS<(Sh.len aQ.aC)) then
  some false
 else
  Sh.loop (fun(p:Int)=>G.od aQ p) 0

def oJ:Option (Bool):=
 some false

def jQ(Io:G.ai)(e_:Int)(i22:Int):Option ((Int)⊕(Bool)):=
 if decide (i22<(Sh.len Io.bH)) then
  (Sh.idx Io.bH i22).bind fun HS=>
  if decide (HS=e_) then
   Sh.exit (some true)
  else
   Sh.next (dz (i22+1))
 else
  Sh.exit (G.oJ)

def dP(Io:G.ai)(e_:Int):Option (Bool):=
 Sh.loop (fun(p:Int)=>G.jQ Io e_ p) 0

def rV:Option (Bool):=
 some true

def j_(i195:Int):Option ((Int)⊕(Bool)):=
 Sh.next (dz (i195+1))

def cH(aQ:G.af)(i195:Int)(sG:G.an)(am1:Bool):Option ((Int)⊕(Bool)):=
 if am1 then
  Sh.exit (some false)
 else
  if decide (sG.bT<0) then
   G.j_ i195
  else
   (Sh.idx aQ.aC sG.bT).bind fun afH=>
   (G.dP afH sG.Key).bind fun ae0=>
   if !ae0 then
    Sh.exit (some false)
   else
    G.j_ i195

def oh(aQ:G.af)(wj:Int)(uM:G.ai)(i195:Int):Option ((Int)⊕(Bool)):=
 if decide (i195<(Sh.len uM.Reads)) then
  (Sh.idx uM.Reads i195).bind fun sG=>
  if decide (sG.Key<0) then
   G.cH aQ i195 sG true
  else
   if decide ((15:Int)<sG.Key) then
    G.cH aQ i195 sG true
   else
    if decide ((0:Int)<i195) then
     (Sh.idx uM.Reads (dz (i195 - 1))).bind fun afI=>
     if decide (sG.Key≤afI.Key) then
      G.cH aQ i195 sG true
     else
      if decide (sG.bT<(-1)) then
       G.cH aQ i195 sG true
      else
       if decide ((Sh.len aQ.aC)≤sG.bT) then
        G.cH aQ i195 sG true
       else
        G.cH aQ i195 sG (decide (sG.bT=wj))
    else
     if decide (sG.bT<(-1)) then
      G.cH aQ i195 sG true
     else
      if decide ((Sh.len aQ.aC)≤sG.bT) then
       G.cH aQ i195 sG true
      else
       G.cH aQ i195 sG (decide (sG.bT=wj))
 else
  Sh.exit (G.rV)

def oo(aQ:G.af)(wj:Int)(uM:G.ai):Option (Bool):=
 Sh.loop (fun(p:Int)=>G.oh aQ wj uM p) 0

def gq(EA:Int)(am3:Bool):Option ((Int)⊕(Bool)):=
 if am3 then
  Sh.exit (some false)
 else
  Sh.next (dz (EA+1))

def ir(aQ:G.af)(wj:Int)(uM:G.ai)(EA:Int):Option ((Int)⊕(Bool)):=
 if decide (EA<(Sh.len uM.bH)) then
  (Sh.idx uM.bH EA).bind fun afK=>
  if decide (afK<0) then
   G.gq EA true
  else
   (Sh.idx uM.bH EA).bind fun afL=>
   if decide ((15:Int)<afL) then
    G.gq EA true
   else
    if decide ((0:Int)<EA) then
     (Sh.idx uM.bH (dz (EA - 1))).bind fun afM=>
     (Sh.idx uM.bH EA).bind fun afN=>
     G.gq EA (decide (afN≤afM))
    else
     G.gq EA false
 else
  Sh.exit (G.oo aQ wj uM)

def om(aQ:G.af)(wj:Int)(uM:G.ai)(v89:Bool):Option (Bool):=
 if v89 then
  some false
 else
  Sh.loop (fun(p:Int)=>G.ir aQ wj uM p) 0

def sq(aQ:G.af)(wj:Int):Option (Bool):=
 (Sh.idx aQ.aC wj).bind fun uM=>
 if decide (uM.bB<0) then
  G.om aQ wj uM true
 else
  G.om aQ wj uM (decide ((7:Int)<uM.bB))

def p_:Option (Bool):=
 some true

def iE(aQ:G.af)(n15:Int):Option ((Int)⊕(Bool)):=
 if decide (n15<(Sh.len aQ.aC)) then
  (G.sq aQ n15).bind fun FL=>
  if !FL then
   Sh.exit (some false)
  else
   Sh.next (dz (n15+1))
 else
  Sh.exit (G.p_)

def cn(aQ:G.af):Option (Bool):=
 if decide ((32:Int)<(Sh.len aQ.aC)) then
  some false
 else
  Sh.loop (fun(p:Int)=>G.iE aQ p) 0
end G
end

section
/- What the functions of a package compute, as plain functions. -/
open Go Go.Av
set_option linter.unusedVariables false
namespace G
def tc(eM:G.bO)(Dl:G.af)(oO:Int)(nE:Int):Option (Bool):=
 if decide (oO<nE) then
  (Sh.idx Dl.aC oO).bind fun x13=>
  (Sh.idx Dl.aC nE).bind fun x15=>
  some (decide (x13.bB=x15.bB))
 else
  some false

def kC(Hv:G.bO)(oD:G.af)(uN:Int)(yX:Int):Option (Bool):=
 (G.tc Hv oD uN yX).bind fun r3=>
 some r3

def tO(yC:G.an)(oD:Int):Option (Bool):=
 some (decide (yC.bT=oD))

def dc:Option (Int):=
 some (-1)

def cz(b8:List G.an)(jO:Int)(v30:Int):Option ((Int)⊕(Int)):=
 if decide (v30<(Sh.len b8)) then
  (Sh.idx b8 v30).bind fun Ff=>
  (G.tO Ff jO).bind fun yx=>
  if yx then
   Sh.exit (some v30)
  else
   Sh.next (dz (v30+1))
 else
  Sh.exit (G.dc)

def dw(b8:List G.an)(jO:Int):Option (Int):=
 Sh.loop (fun(p:Int)=>G.cz b8 jO p) 0

def c8(b8:List G.an)(jO:Int):Option (Bool):=
 (G.dw b8 jO).bind fun r3=>
 some (decide ((0:Int)≤r3))

def vV(eM:G.cF)(Dl:G.af)(oO:Int)(nE:Int):Option (Bool):=
 (Sh.idx Dl.aC nE).bind fun x7=>
 (G.c8 x7.Reads oO).bind fun r9=>
 some r9

def oF(Hv:G.cF)(oD:G.af)(uN:Int)(yX:Int):Option (Bool):=
 (G.vV Hv oD uN yX).bind fun r3=>
 some r3

def tY(aQ:G.af)(Lw:Int)(uS:Int):Option (Bool):=
 (Sh.idx aQ.aC Lw).bind fun x7=>
 (G.dJ x7.bH uS).bind fun r9=>
 some r9

def mA(bJ:G.aa)(oD:Int)(uN:Int)(yX:G.af):Option (Bool):=
 if decide (bJ.A=oD) then
  if decide (bJ.B=uN) then
   if decide (oD≠uN) then
    (G.tY yX oD bJ.Key).bind fun ER=>
    if ER then
     (G.tY yX uN bJ.Key).bind fun FL=>
     some FL
    else
     some false
   else
    some false
  else
   some false
 else
  some false

def cD:Option (Int):=
 some (-1)

def bY(b8:List G.aa)(jO:Int)(uL:Int)(uF:G.af)(v30:Int):Option ((Int)⊕(Int)):=
 if decide (v30<(Sh.len b8)) then
  (Sh.idx b8 v30).bind fun Ff=>
  (G.mA Ff jO uL uF).bind fun yx=>
  if yx then
   Sh.exit (some v30)
  else
   Sh.next (dz (v30+1))
 else
  Sh.exit (G.cD)

def cI(b8:List G.aa)(jO:Int)(uL:Int)(uF:G.af):Option (Int):=
 Sh.loop (fun(p:Int)=>G.bY b8 jO uL uF p) 0

def cC(b8:List G.aa)(jO:Int)(uL:Int)(uF:G.af):Option (Bool):=
 (G.cI b8 jO uL uF).bind fun r3=>
 some (decide ((0:Int)≤r3))

def tg(cK:List G.aa)(Dl:G.af)(oO:Int)(nE:Int):Option (Bool):=
 (G.cC cK oO nE Dl).bind fun r3=>
 some r3

def kD(Hv:List G.aa)(oD:G.af)(uN:Int)(yX:Int):Option (Bool):=
 (G.tg Hv oD uN yX).bind fun r3=>
 some r3

def cO:Option (Int):=
 some (-1)

def cW(b8:G.bO)(T4:G.cF)(Fa:List G.aa)(uF:G.af)(LY:Int)(LZ:Int):Option (Int):=
 (G.kC b8 uF LY LZ).bind fun Cs=>
 if Cs then
  some 0
 else
  (G.oF T4 uF LY LZ).bind fun IF=>
  if IF then
   some 1
  else
   (G.kD Fa uF LY LZ).bind fun xK=>
   if xK then
    some 2
   else
    G.cO

def cM(b8:G.bO)(T4:G.cF)(Fa:List G.aa)(uF:G.af)(LY:Int)(LZ:Int):Option (Bool):=
 (G.cW b8 T4 Fa uF LY LZ).bind fun r3=>
 some (decide ((0:Int)≤r3))

def lJ(aQ:G.af)(zp:Int)(Ad:Int)(j3:G.bO)(we:G.cF)(wg:List G.aa)(v13:Bool):Option (Bool):=
 if v13 then
  some false
 else
  (G.cM j3 we wg aQ zp Ad).bind fun IF=>
  some IF

def u6(aQ:G.af)(zp:Int)(Ad:Int)(j3:G.bO)(we:G.cF)(wg:List G.aa):Option (Bool):=
 (G.rO aQ).bind fun ER=>
 if !ER then
  G.lJ aQ zp Ad j3 we wg true
 else
  if decide ((Sh.min zp Ad)<0) then
   G.lJ aQ zp Ad j3 we wg true
  else
   G.lJ aQ zp Ad j3 we wg (decide ((Sh.len aQ.aC)≤(Sh.max zp Ad)))

def vr(aQ:G.af)(di:List G.aa)(oO:Int)(nE:Int):Option (Bool):=
 (G.u6 aQ oO nE G.bO.mk G.cF.mk di).bind fun r3=>
 some r3

def qN(yC:G.an)(oD:G.af)(uN:Int)(yX:List G.aa):Option (Bool):=
 (G.tY oD uN yC.Key).bind fun Cs=>
 if Cs then
  if decide (yC.bT<0) then
   some true
  else
   if decide (yC.bT≠uN) then
    (G.ef yX (G.aa.mk yC.Key yC.bT uN)).bind fun IF=>
    some IF
   else
    some false
 else
  some false

def c_:Option (Int):=
 some (-1)

def cw(b8:List G.an)(jO:G.af)(uL:Int)(uF:List G.aa)(v30:Int):Option ((Int)⊕(Int)):=
 if decide (v30<(Sh.len b8)) then
  (Sh.idx b8 v30).bind fun Ff=>
  (G.qN Ff jO uL uF).bind fun yx=>
  if yx then
   Sh.exit (some v30)
  else
   Sh.next (dz (v30+1))
 else
  Sh.exit (G.c_)

def dr(b8:List G.an)(jO:G.af)(uL:Int)(uF:List G.aa):Option (Int):=
 Sh.loop (fun(p:Int)=>G.cw b8 jO uL uF p) 0

def c7(b8:List G.an)(jO:G.af)(uL:Int)(uF:List G.aa):Option (Bool):=
 (G.dr b8 jO uL uF).bind fun r3=>
 some (decide ((0:Int)≤r3))

def vU(cK:List G.aa)(Dl:G.af)(oO:Int)(nE:Int):Option (Bool):=
 if decide (oO≠nE) then
  (Sh.idx Dl.aC oO).bind fun x11=>
  (G.c7 x11.Reads Dl nE cK).bind fun IE=>
  some IE
 else
  some false

def oE(Hv:List G.aa)(oD:G.af)(uN:Int)(yX:Int):Option (Bool):=
 (G.vU Hv oD uN yX).bind fun r3=>
 some r3

def cN:Option (Int):=
 some (-1)

def cV(b8:List G.aa)(jO:G.af)(uL:Int)(uF:Int):Option (Int):=
 (G.oE b8 jO uL uF).bind fun r6=>
 if r6 then
  some 0
 else
  G.cN

def cL(b8:List G.aa)(jO:G.af)(uL:Int)(uF:Int):Option (Bool):=
 (G.cV b8 jO uL uF).bind fun r3=>
 some (decide ((0:Int)≤r3))

def lI(aQ:G.af)(zp:Int)(Ad:Int)(j3:List G.aa)(v13:Bool):Option (Bool):=
 if v13 then
  some false
 else
  (G.cL j3 aQ zp Ad).bind fun IF=>
  some IF

def u5(aQ:G.af)(zp:Int)(Ad:Int)(j3:List G.aa):Option (Bool):=
 (G.rO aQ).bind fun ER=>
 if !ER then
  G.lI aQ zp Ad j3 true
 else
  if decide ((Sh.min zp Ad)<0) then
   G.lI aQ zp Ad j3 true
  else
   G.lI aQ zp Ad j3 (decide ((Sh.len aQ.aC)≤(Sh.max zp Ad)))

def zj(aQ:G.af)(di:List G.aa)(oO:Int)(nE:Int):Option (Bool):=
 (G.u5 aQ oO nE di).bind fun r3=>
 some r3

def xl:Option (Bool):=
 some false

def xm(IL:Int)(v73:Bool):Option ((Int)⊕(Bool)):=
 if v73 then
  Sh.exit (some true)
 else
  Sh.next (dz (IL+1))

def zH(aQ:G.af)(gz:List G.aa)(F4:Int)(Fg:Int)(IL:Int):Option ((Int)⊕(Bool)):=
 if decide (IL<(Sh.len aQ.aC)) then
  (G.vr aQ gz F4 IL).bind fun qw=>
  if qw then
   if decide (IL=Fg) then
    G.xm IL true
   else
    (G.zj aQ gz IL Fg).bind fun r78=>
    G.xm IL r78
  else
   G.xm IL false
 else
  Sh.exit (G.xl)

def Gj(aQ:G.af)(bf:Int)(gz:List G.aa)(F4:Int)(Fg:Int):Option (Bool):=
 if decide (bf=0) then
  (G.vr aQ gz F4 Fg).bind fun KV=>
  if KV then
   some true
  else
   (G.zj aQ gz F4 Fg).bind fun Ii=>
   some Ii
 else
  if decide (bf=1) then
   Sh.loop (fun(p:Int)=>G.zH aQ gz F4 Fg p) 0
  else
   G.xl

def xG(eH:List Int):Option (Bool):=
 some (decide ((0:Int)<(Sh.len eH)))

def tE(Yg:Int)(v109:Bool):Option ((Int)⊕(Bool)):=
 if v109 then
  Sh.exit (some false)
 else
  Sh.next (dz (Yg+1))

def uP(aQ:G.af)(bf:Int)(gz:List G.aa)(eH:List Int)(Yg:Int):Option ((Int)⊕(Bool)):=
 if decide (Yg<(Sh.len eH)) then
  (Sh.idx eH Yg).bind fun afx=>
  (Sh.sub eH 0 Yg).bind fun Jg=>
  (G.dJ Jg afx).bind fun ZY=>
  if ZY then
   G.tE Yg true
  else
   (Sh.rem (dz (Yg+1)) (Sh.len eH)).bind fun aeO=>
   (Sh.idx eH aeO).bind fun ane=>
   (G.Gj aQ bf gz afx ane).bind fun Z0=>
   G.tE Yg (!Z0)
 else
  Sh.exit (G.xG eH)

def zG(aQ:G.af)(bf:Int)(gz:List G.aa)(eH:List Int):Option (Bool):=
 Sh.loop (fun(p:Int)=>G.uP aQ bf gz eH p) 0
end G
end

section
/- What the functions of a package compute, as plain functions. -/
open Go Go.Av
set_option linter.unusedVariables false
namespace G
def ji(W9:List Int):Option ((List Int)):=
 some W9

def gG(t86:Int)(JV:Bool)(Ie:List Int):Option (((List Int)×Bool×Int)⊕((List Int))):=
 Sh.next (Ie,JV,dz (t86+1))

def fF(aQ:G.af)(e_:Int)(uf:List Int)(t86:Int)(JV:Bool)(v92:Bool):Option (((List Int)×Bool×Int)⊕((List Int))):=
 if v92 then
  (Sh.idx aQ.aC t86).bind fun Qj=>
  (G.dP Qj e_).bind fun aeR=>
  if aeR then
   (Sh.app 8 uf [t86]).bind fun B3=>
   G.gG t86 JV B3
  else
   G.gG t86 JV uf
 else
  Sh.exit (G.ji uf)

def gF(aQ:G.af)(e_:Int)(uf:List Int)(WO:Bool)(t86:Int):Option (((List Int)×Bool×Int)⊕((List Int))):=
 if WO then
  G.fF aQ e_ uf t86 true (decide (t86<(Sh.len aQ.aC)))
 else
  G.fF aQ e_ uf t86 false false

def fL(aQ:G.af)(e_:Int):Option ((List Int)):=
 (G.cn aQ).bind fun Qq=>
 Sh.loop (fun(p:(List Int)×Bool×Int)=>G.gF aQ e_ p.1 p.2.1 p.2.2) ([],Qq,0)

def tZ(W2:List Int):Option ((List Int)):=
 some W2

def mE(Cn:Int)(GB:List Int):Option (((List Int)×Int)⊕((List Int))):=
 Sh.next (GB,dz (Cn+1))

def mD(aQ:G.af)(J2:List Int)(Cn:Int):Option (((List Int)×Int)⊕((List Int))):=
 if decide (Cn<16) then
  (G.fL aQ Cn).bind fun Lm=>
  if decide ((0:Int)<(Sh.len Lm)) then
   (Sh.app 8 J2 [Cn]).bind fun Pj=>
   G.mE Cn Pj
  else
   G.mE Cn J2
 else
  Sh.exit (G.tZ J2)

def jR(aQ:G.af):Option ((List Int)):=
 Sh.loop (fun(p:(List Int)×Int)=>G.mD aQ p.1 p.2) ([],0)

def qS:Option (Int×Bool):=
 some (0,false)

def mC(uS:Int)(SX:G.ai)(i57:Int):Option ((Int)⊕(Int×Bool)):=
 if decide (i57<(Sh.len SX.Reads)) then
  (Sh.idx SX.Reads i57).bind fun x65=>
  if decide (x65.Key=uS) then
   (Sh.idx SX.Reads i57).bind fun x70=>
   Sh.exit (some (x70.bT,true))
  else
   Sh.next (dz (i57+1))
 else
  Sh.exit (G.qS)

def e7(aQ:G.af)(Lw:Int)(uS:Int)(v28:Bool):Option (Int×Bool):=
 if v28 then
  some (0,false)
 else
  (Sh.idx aQ.aC Lw).bind fun SX=>
  Sh.loop (fun(p:Int)=>G.mC uS SX p) 0

def qR(aQ:G.af)(Lw:Int)(uS:Int):Option (Int×Bool):=
 (G.cn aQ).bind fun yA=>
 if !yA then
  G.e7 aQ Lw uS true
 else
  if decide (Lw<0) then
   G.e7 aQ Lw uS true
  else
   G.e7 aQ Lw uS (decide ((Sh.len aQ.aC)≤Lw))

def nH(zT:List Int):Option ((List Int)):=
 some zT

def gD(t53:Int)(Pk:List Int):Option (((List Int)×Int)⊕((List Int))):=
 Sh.next (Pk,dz (t53+1))

def gE(ud:List Int)(t53:Int)(v63:Bool):Option (((List Int)×Int)⊕((List Int))):=
 if v63 then
  (Sh.app 8 ud [t53]).bind fun GC=>
  G.gD t53 GC
 else
  G.gD t53 ud

def jh(aQ:G.af)(e_:Int)(vc:Int)(ud:List Int)(t53:Int):Option (((List Int)×Int)⊕((List Int))):=
 if decide (t53<(Sh.len aQ.aC)) then
  (G.qR aQ t53 e_).bind fun Ln=>
  if Ln.2 then
   G.gE ud t53 (decide (Ln.1=vc))
  else
   G.gE ud t53 false
 else
  Sh.exit (G.nH ud)

def jg(aQ:G.af)(e_:Int)(vc:Int):Option ((List Int)):=
 Sh.loop (fun(p:(List Int)×Int)=>G.jh aQ e_ vc p.1 p.2) ([],0)

def qa(Rj:List G.aa):Option ((List G.aa)):=
 some Rj

def qb(qB:Int)(W7:List G.aa):Option (((List G.aa)×Int)⊕((List G.aa))):=
 Sh.next (W7,dz (qB+1))

def qc(Gz:Int)(W8:List G.aa):Option (((List G.aa)×Int)⊕(((List G.aa)×Int)⊕((List G.aa)))):=
 Sh.next (W8,dz (Gz+1))

def kL(qB:Int)(Bo:(List Int))(Gz:Int)(J6:List G.aa)(WE:Int):Option (((List G.aa)×Int)⊕(((List G.aa)×Int)⊕(((List G.aa)×Int)⊕((List G.aa))))):=
 if decide (WE<(Sh.len Bo)) then
  (Sh.idx Bo Gz).bind fun Yu=>
  (Sh.idx Bo WE).bind fun Uu=>
  (Sh.app 24 J6 ([(G.aa.mk qB Yu Uu)]:List G.aa)).bind fun HB=>
  Sh.next (HB,dz (WE+1))
 else
  Sh.exit (G.qc Gz J6)

def kK(qB:Int)(Bo:(List Int))(No:List G.aa)(Gz:Int):Option (((List G.aa)×Int)⊕(((List G.aa)×Int)⊕((List G.aa)))):=
 if decide (Gz<(Sh.len Bo)) then
  Sh.loop (fun(p:(List G.aa)×Int)=>G.kL qB Bo Gz p.1 p.2) (No,dz (Gz+1))
 else
  Sh.exit (G.qb qB No)

def kJ(aQ:G.af)(Nn:List G.aa)(qB:Int):Option (((List G.aa)×Int)⊕((List G.aa))):=
 if decide (qB<16) then
  (G.fL aQ qB).bind fun Bo=>
  Sh.loop (fun(p:(List G.aa)×Int)=>G.kK qB Bo p.1 p.2) (Nn,0)
 else
  Sh.exit (G.qa Nn)

def lM(aQ:G.af):Option ((List G.aa)):=
 Sh.loop (fun(p:(List G.aa)×Int)=>G.kJ aQ p.1 p.2) ([],0)
end G
end

section
/- What the functions of a package compute, as plain functions. -/
open Go Go.Av
set_option linter.unusedVariables false
namespace G
def qE(Q2:Int):Option (Bool):=
 if decide ((0:Int)≤Q2) then
  some (decide (Q2≤63))
 else
  some false

def qd(n9:BitVec 64):Option ((BitVec 64)):=
 some n9

def kM(Q2:Int)(n12:BitVec 64)(k13:Int):Option (((BitVec 64)×Int)⊕((BitVec 64))):=
 if decide (k13<Q2) then
  Sh.next (n12+n12,dz (k13+1))
 else
  Sh.exit (G.qd n12)

def lP(Q2:Int):Option ((BitVec 64)):=
 Sh.loop (fun(p:(BitVec 64)×Int)=>G.kM Q2 p.1 p.2) (1#64,0)

def lN(b8:BitVec 64)(OY:Int):Option (Bool):=
 (G.qE OY).bind fun r7=>
 if !r7 then
  some false
 else
  (G.lP OY).bind fun Cs=>
  (Sh.udiv b8 Cs).bind fun q13=>
  (Sh.umod q13 2#64).bind fun q14=>
  some (decide (q14=1#64))

def mF(b8:BitVec 64)(OY:Int)(v13:Bool):Option ((BitVec 64)):=
 if v13 then
  some b8
 else
  (G.lP OY).bind fun IF=>
  some (b8+IF)

def eL(b8:BitVec 64)(OY:Int):Option ((BitVec 64)):=
 (G.lN b8 OY).bind fun r7=>
 if r7 then
  G.mF b8 OY true
 else
  (G.qE OY).bind fun E9=>
  G.mF b8 OY (!E9)
end G
end

section
/- What the functions of a package compute, as plain functions. -/
open Go Go.Av
set_option linter.unusedVariables false
namespace G
def qe:Option (Bool):=
 some true

def qf(i104:Int):Option ((Int)⊕(Bool)):=
 Sh.next (dz (i104+1))

def iG(lD:G.aq)(i104:Int)(WD:Int):Option ((Int)⊕((Int)⊕(Bool))):=
 if decide (WD<64) then
  (Sh.idx lD.Rows i104).bind fun ang=>
  (G.lN ang WD).bind fun aeS=>
  if aeS then
   Sh.exit (Sh.exit (some false))
  else
   Sh.next (dz (WD+1))
 else
  Sh.exit (G.qf i104)

def iF(lD:G.aq)(i104:Int):Option ((Int)⊕(Bool)):=
 if decide (i104<lD.N) then
  Sh.loop (fun(p:Int)=>G.iG lD i104 p) lD.N
 else
  Sh.exit (G.qe)

def iH(lD:G.aq)(v44:Bool):Option (Bool):=
 if v44 then
  some false
 else
  Sh.loop (fun(p:Int)=>G.iF lD p) 0

def lQ(lD:G.aq):Option (Bool):=
 if decide (lD.N<0) then
  G.iH lD true
 else
  if decide ((64:Int)<lD.N) then
   G.iH lD true
  else
   G.iH lD (decide ((Sh.len lD.Rows)≠lD.N))

def eY(lD:G.aq)(oD:Int)(Yx:Int):Option (Bool):=
 (Sh.idx lD.Rows oD).bind fun x7=>
 (G.lN x7 Yx).bind fun r9=>
 some r9

def rW(yw:Int)(v15:List (BitVec 64)):Option (G.aq):=
 some (G.aq.mk yw v15)

def oq(yw:Int)(Ee:List (BitVec 64))(i21:Int):Option (((List (BitVec 64))×Int)⊕(G.aq)):=
 if decide (i21<yw) then
  (Sh.app 8 Ee [0#64]).bind fun l24=>
  Sh.next (l24,dz (i21+1))
 else
  Sh.exit (G.rW yw Ee)

def fG(yw:Int):Option (G.aq):=
 Sh.loop (fun(p:(List (BitVec 64))×Int)=>G.oq yw p.1 p.2) ([],0)

def qg(jb:G.aq)(FV:List (BitVec 64)):Option (G.aq):=
 some (G.aq.mk jb.N FV)

def qh(Ac:Int)(X_:List (BitVec 64)):Option (((List (BitVec 64))×Int)⊕(G.aq)):=
 Sh.next (X_,dz (Ac+1))

def kP(EY:Int)(outRows359:List (BitVec 64)):Option (((List (BitVec 64))×Int)⊕(((List (BitVec 64))×Int)⊕(G.aq))):=
 Sh.next (outRows359,dz (EY+1))

def kQ(Ac:Int)(outRows347:List (BitVec 64))(EY:Int)(am5:Bool):Option (((List (BitVec 64))×Int)⊕(((List (BitVec 64))×Int)⊕(G.aq))):=
 if am5 then
  (Sh.idx outRows347 Ac).bind fun afU=>
  (G.eL afU EY).bind fun Xy=>
  (Sh.idx outRows347 Ac).bind fun ars=>
  G.kP EY (Sh.set outRows347 Ac Xy)
 else
  G.kP EY outRows347

def kO(eM:G.aq)(fK:G.aq)(Ac:Int)(outRows347:List (BitVec 64))(EY:Int):Option (((List (BitVec 64))×Int)⊕(((List (BitVec 64))×Int)⊕(G.aq))):=
 if decide (EY<eM.N) then
  (G.eY eM Ac EY).bind fun Z6=>
  (G.eY fK Ac EY).bind fun Z7=>
  if Z6 then
   G.kQ Ac outRows347 EY true
  else
   G.kQ Ac outRows347 EY Z7
 else
  Sh.exit (G.qh Ac outRows347)

def kN(eM:G.aq)(fK:G.aq)(jb:G.aq)(outRows287:List (BitVec 64))(Ac:Int):Option (((List (BitVec 64))×Int)⊕(G.aq)):=
 if decide (Ac<eM.N) then
  Sh.loop (fun(p:(List (BitVec 64))×Int)=>G.kO eM fK Ac p.1 p.2) (outRows287,0)
 else
  Sh.exit (G.qg jb outRows287)

def gN(eM:G.aq)(fK:G.aq):Option (G.aq):=
 (G.fG eM.N).bind fun jb=>
 Sh.loop (fun(p:(List (BitVec 64))×Int)=>G.kN eM fK jb p.1 p.2) (jb.Rows,0)

def nI(vM:G.aq)(RR:List (BitVec 64)):Option (G.aq):=
 some (G.aq.mk vM.N RR)

def nJ(Ak:Int)(ana:List (BitVec 64)):Option (((List (BitVec 64))×Int)⊕(G.aq)):=
 Sh.next (ana,dz (Ak+1))

def gH(FX:Int)(outRows869:List (BitVec 64)):Option (((List (BitVec 64))×Int)⊕(((List (BitVec 64))×Int)⊕(G.aq))):=
 Sh.next (outRows869,dz (FX+1))

def jo(LH:Int)(outRows898:List (BitVec 64)):Option (((List (BitVec 64))×Int)⊕(((List (BitVec 64))×Int)⊕(((List (BitVec 64))×Int)⊕(G.aq)))):=
 Sh.next (outRows898,dz (LH+1))

def jm(eM:G.aq)(fK:G.aq)(Ak:Int)(FX:Int)(outRows889:List (BitVec 64))(LH:Int):Option (((List (BitVec 64))×Int)⊕(((List (BitVec 64))×Int)⊕(((List (BitVec 64))×Int)⊕(G.aq)))):=
 if decide (LH<eM.N) then
  (G.eY fK FX LH).bind fun ae8=>
  if ae8 then
   (Sh.idx outRows889 Ak).bind fun af7=>
   (G.eL af7 LH).bind fun XE=>
   (Sh.idx outRows889 Ak).bind fun arB=>
   G.jo LH (Sh.set outRows889 Ak XE)
  else
   G.jo LH outRows889
 else
  Sh.exit (G.gH FX outRows889)

def jl(eM:G.aq)(fK:G.aq)(Ak:Int)(outRows840:List (BitVec 64))(FX:Int):Option (((List (BitVec 64))×Int)⊕(((List (BitVec 64))×Int)⊕(G.aq))):=
 if decide (FX<eM.N) then
  (G.eY eM Ak FX).bind fun ae7=>
  if !ae7 then
   G.gH FX outRows840
  else
   Sh.loop (fun(p:(List (BitVec 64))×Int)=>G.jm eM fK Ak FX p.1 p.2) (outRows840,0)
 else
  Sh.exit (G.nJ Ak outRows840)

def jk(eM:G.aq)(fK:G.aq)(vM:G.aq)(outRows695:List (BitVec 64))(Ak:Int):Option (((List (BitVec 64))×Int)⊕(G.aq)):=
 if decide (Ak<eM.N) then
  Sh.loop (fun(p:(List (BitVec 64))×Int)=>G.jl eM fK Ak p.1 p.2) (outRows695,0)
 else
  Sh.exit (G.nI vM outRows695)

def jj(eM:G.aq)(fK:G.aq):Option (G.aq):=
 (G.fG eM.N).bind fun vM=>
 Sh.loop (fun(p:(List (BitVec 64))×Int)=>G.jk eM fK vM p.1 p.2) (vM.Rows,0)
end G
end

section
/- What the functions of a package compute, as plain functions. -/
open Go Go.Av
set_option linter.unusedVariables false
namespace G
def qi(Yf:G.aq):Option (G.aq):=
 some Yf

def qj(pX:Int)(acH:Int)(acI:List (BitVec 64)):Option ((Int×(List (BitVec 64))×Int)⊕(G.aq)):=
 Sh.next (acH,acI,dz (pX+1))

def qk(pX:Int)(rS:G.aq)(Qf:List (BitVec 64)):Option ((Int×(List (BitVec 64))×Int)⊕(G.aq)):=
 G.qj pX rS.N Qf

def ql(qy:Int)(acK:List (BitVec 64)):Option (((List (BitVec 64))×Int)⊕((Int×(List (BitVec 64))×Int)⊕(G.aq))):=
 Sh.next (acK,dz (qy+1))

def kU(uo:Int)(LV:List (BitVec 64)):Option (((List (BitVec 64))×Int)⊕(((List (BitVec 64))×Int)⊕((Int×(List (BitVec 64))×Int)⊕(G.aq)))):=
 Sh.next (LV,dz (uo+1))

def iI(qy:Int)(fR:List (BitVec 64))(uo:Int)(acL:Bool):Option (((List (BitVec 64))×Int)⊕(((List (BitVec 64))×Int)⊕((Int×(List (BitVec 64))×Int)⊕(G.aq)))):=
 if acL then
  (Sh.idx fR qy).bind fun Yk=>
  (G.eL Yk uo).bind fun PC=>
  (Sh.idx fR qy).bind fun anh=>
  G.kU uo (Sh.set fR qy PC)
 else
  G.kU uo fR

def kT(lD:G.aq)(iY:Int)(dO:List (BitVec 64))(pX:Int)(qy:Int)(fR:List (BitVec 64))(uo:Int):Option (((List (BitVec 64))×Int)⊕(((List (BitVec 64))×Int)⊕((Int×(List (BitVec 64))×Int)⊕(G.aq)))):=
 if decide (uo<lD.N) then
  (G.eY (G.aq.mk iY dO) qy uo).bind fun SI=>
  (G.eY (G.aq.mk iY dO) qy pX).bind fun SJ=>
  (G.eY (G.aq.mk iY dO) pX uo).bind fun SK=>
  if SI then
   G.iI qy fR uo true
  else
   if SJ then
    G.iI qy fR uo SK
   else
    G.iI qy fR uo false
 else
  Sh.exit (G.ql qy fR)

def kS(lD:G.aq)(iY:Int)(dO:List (BitVec 64))(pX:Int)(rS:G.aq)(D7:List (BitVec 64))(qy:Int):Option (((List (BitVec 64))×Int)⊕((Int×(List (BitVec 64))×Int)⊕(G.aq))):=
 if decide (qy<lD.N) then
  Sh.loop (fun(p:(List (BitVec 64))×Int)=>G.kT lD iY dO pX qy p.1 p.2) (D7,0)
 else
  Sh.exit (G.qk pX rS D7)

def kR(lD:G.aq)(iY:Int)(dO:List (BitVec 64))(pX:Int):Option ((Int×(List (BitVec 64))×Int)⊕(G.aq)):=
 if decide (pX<lD.N) then
  (G.fG lD.N).bind fun rS=>
  Sh.loop (fun(p:(List (BitVec 64))×Int)=>G.kS lD iY dO pX rS p.1 p.2) (rS.Rows,0)
 else
  Sh.exit (G.qi (G.aq.mk iY dO))

def pg(lD:G.aq):Option (G.aq):=
 Sh.loop (fun(p:Int×(List (BitVec 64))×Int)=>G.kR lD p.1 p.2.1 p.2.2) (lD.N,lD.Rows,0)

def oK:Option (Bool):=
 some false

def jS(lD:G.aq)(Cs:G.aq)(x21:Int):Option ((Int)⊕(Bool)):=
 if decide (x21<lD.N) then
  (G.eY Cs x21 x21).bind fun TV=>
  if TV then
   Sh.exit (some true)
  else
   Sh.next (dz (x21+1))
 else
  Sh.exit (G.oK)

def ot(lD:G.aq):Option (Bool):=
 (G.lQ lD).bind fun r9=>
 if !r9 then
  some false
 else
  (G.pg lD).bind fun Cs=>
  Sh.loop (fun(p:Int)=>G.jS lD Cs p) 0
end G
end

section
/- What the functions of a package compute, as plain functions. -/
open Go Go.Av
set_option linter.unusedVariables false
namespace G
def sQ(jb:G.aq)(FV:List (BitVec 64)):Option (G.aq):=
 some (G.aq.mk jb.N FV)

def sR(Cw:Int)(X_:List (BitVec 64)):Option (((List (BitVec 64))×Int)⊕(G.aq)):=
 Sh.next (X_,dz (Cw+1))

def pz(KZ:Int)(OD:List (BitVec 64)):Option (((List (BitVec 64))×Int)⊕(((List (BitVec 64))×Int)⊕(G.aq))):=
 Sh.next (OD,dz (KZ+1))

def pq(aQ:G.af)(jb:G.aq)(Cw:Int)(o8:List (BitVec 64))(KZ:Int):Option (((List (BitVec 64))×Int)⊕(((List (BitVec 64))×Int)⊕(G.aq))):=
 if decide (KZ<jb.N) then
  (Sh.idx aQ.aC Cw).bind fun anr=>
  (Sh.idx aQ.aC KZ).bind fun ans=>
  if decide (anr.bB=ans.bB) then
   (Sh.idx o8 Cw).bind fun afV=>
   (G.eL afV KZ).bind fun Xz=>
   (Sh.idx o8 Cw).bind fun art=>
   G.pz KZ (Sh.set o8 Cw Xz)
  else
   G.pz KZ o8
 else
  Sh.exit (G.sR Cw o8)

def pn(aQ:G.af)(jb:G.aq)(Gm:List (BitVec 64))(Cw:Int):Option (((List (BitVec 64))×Int)⊕(G.aq)):=
 if decide (Cw<jb.N) then
  Sh.loop (fun(p:(List (BitVec 64))×Int)=>G.pq aQ jb Cw p.1 p.2) (Gm,dz (Cw+1))
 else
  Sh.exit (G.sQ jb Gm)

def qF(aQ:G.af):Option (G.aq):=
 (G.fG (Sh.len aQ.aC)).bind fun jb=>
 Sh.loop (fun(p:(List (BitVec 64))×Int)=>G.pn aQ jb p.1 p.2) (jb.Rows,0)

def sS(uA:G.aq)(RP:List (BitVec 64)):Option (G.aq):=
 some (G.aq.mk uA.N RP)

def sU(G2:Int)(am6:List (BitVec 64)):Option (((List (BitVec 64))×Int)⊕(G.aq)):=
 Sh.next (am6,dz (G2+1))

def pG(JI:Int)(OE:List (BitVec 64)):Option (((List (BitVec 64))×Int)⊕(((List (BitVec 64))×Int)⊕(G.aq))):=
 Sh.next (OE,dz (JI+1))

def pF(G2:Int)(FW:G.ai)(o9:List (BitVec 64))(JI:Int):Option (((List (BitVec 64))×Int)⊕(((List (BitVec 64))×Int)⊕(G.aq))):=
 if decide (JI<(Sh.len FW.Reads)) then
  (Sh.idx FW.Reads JI).bind fun anu=>
  if decide ((0:Int)≤anu.bT) then
   (Sh.idx FW.Reads JI).bind fun Ys=>
   (Sh.idx FW.Reads JI).bind fun afX=>
   (Sh.idx o9 afX.bT).bind fun afY=>
   (G.eL afY G2).bind fun XA=>
   (Sh.idx o9 Ys.bT).bind fun aru=>
   G.pG JI (Sh.set o9 Ys.bT XA)
  else
   G.pG JI o9
 else
  Sh.exit (G.sU G2 o9)

def pE(aQ:G.af)(uA:G.aq)(Gn:List (BitVec 64))(G2:Int):Option (((List (BitVec 64))×Int)⊕(G.aq)):=
 if decide (G2<uA.N) then
  (Sh.idx aQ.aC G2).bind fun FW=>
  Sh.loop (fun(p:(List (BitVec 64))×Int)=>G.pF G2 FW p.1 p.2) (Gn,0)
 else
  Sh.exit (G.sS uA Gn)

def qG(aQ:G.af):Option (G.aq):=
 (G.fG (Sh.len aQ.aC)).bind fun uA=>
 Sh.loop (fun(p:(List (BitVec 64))×Int)=>G.pE aQ uA p.1 p.2) (uA.Rows,0)

def qX(aQ:G.af):Option (G.aq):=
 (G.qF aQ).bind fun r7=>
 (G.qG aQ).bind fun r8=>
 (G.gN r7 r8).bind fun r9=>
 some r9

def qU(s_:G.aq)(KD:List (BitVec 64)):Option (G.aq):=
 some (G.aq.mk s_.N KD)

def qV(qx:Int)(acM:List (BitVec 64)):Option (((List (BitVec 64))×Int)⊕(G.aq)):=
 Sh.next (acM,dz (qx+1))

def qW(zM:Int)(acN:List (BitVec 64)):Option (((List (BitVec 64))×Int)⊕(((List (BitVec 64))×Int)⊕(G.aq))):=
 Sh.next (acN,dz (zM+1))

def mJ(xd:Int)(L7:List (BitVec 64)):Option (((List (BitVec 64))×Int)⊕(((List (BitVec 64))×Int)⊕(((List (BitVec 64))×Int)⊕(G.aq)))):=
 Sh.next (L7,dz (xd+1))

def gO(qx:Int)(fS:List (BitVec 64))(xd:Int)(acO:Bool):Option (((List (BitVec 64))×Int)⊕(((List (BitVec 64))×Int)⊕(((List (BitVec 64))×Int)⊕(G.aq)))):=
 if acO then
  (Sh.idx fS qx).bind fun Yp=>
  (G.eL Yp xd).bind fun PD=>
  (Sh.idx fS qx).bind fun anj=>
  G.mJ xd (Sh.set fS qx PD)
 else
  G.mJ xd fS

def mI(aQ:G.af)(s_:G.aq)(qx:Int)(wO:G.ai)(zM:Int)(fS:List (BitVec 64))(xd:Int):Option (((List (BitVec 64))×Int)⊕(((List (BitVec 64))×Int)⊕(((List (BitVec 64))×Int)⊕(G.aq)))):=
 if decide (xd<s_.N) then
  (Sh.idx aQ.aC xd).bind fun Yn=>
  (Sh.idx wO.Reads zM).bind fun Yo=>
  (G.dP Yn Yo.Key).bind fun SL=>
  if SL then
   (Sh.idx wO.Reads zM).bind fun Yq=>
   if decide (Yq.bT=(-1)) then
    G.gO qx fS xd (decide (xd≠qx))
   else
    G.gO qx fS xd false
  else
   G.gO qx fS xd false
 else
  Sh.exit (G.qW zM fS)

def mH(aQ:G.af)(s_:G.aq)(qx:Int)(wO:G.ai)(Ed:List (BitVec 64))(zM:Int):Option (((List (BitVec 64))×Int)⊕(((List (BitVec 64))×Int)⊕(G.aq))):=
 if decide (zM<(Sh.len wO.Reads)) then
  Sh.loop (fun(p:(List (BitVec 64))×Int)=>G.mI aQ s_ qx wO zM p.1 p.2) (Ed,0)
 else
  Sh.exit (G.qV qx Ed)

def mG(aQ:G.af)(s_:G.aq)(Ec:List (BitVec 64))(qx:Int):Option (((List (BitVec 64))×Int)⊕(G.aq)):=
 if decide (qx<s_.N) then
  (Sh.idx aQ.aC qx).bind fun wO=>
  Sh.loop (fun(p:(List (BitVec 64))×Int)=>G.mH aQ s_ qx wO p.1 p.2) (Ec,0)
 else
  Sh.exit (G.qU s_ Ec)

def qT(aQ:G.af):Option (G.aq):=
 (G.fG (Sh.len aQ.aC)).bind fun s_=>
 Sh.loop (fun(p:(List (BitVec 64))×Int)=>G.mG aQ s_ p.1 p.2) (s_.Rows,0)
end G
end

section
/- What the functions of a package compute, as plain functions. -/
open Go Go.Av
set_option linter.unusedVariables false
namespace G
def nK(bJ:G.aa):Option (G.aa):=
 some (G.aa.mk bJ.Key bJ.B bJ.A)

def dA(aQ:G.af)(bL:G.aa)(v23:Bool):Option (Bool):=
 if v23 then
  some false
 else
  (Sh.idx aQ.aC bL.A).bind fun HS=>
  (G.dP HS bL.Key).bind fun Ai=>
  (Sh.idx aQ.aC bL.B).bind fun x34=>
  (G.dP x34 bL.Key).bind fun IG=>
  if Ai then
   some IG
  else
   some false

def lR(aQ:G.af)(bL:G.aa):Option (Bool):=
 if decide (bL.A=bL.B) then
  G.dA aQ bL true
 else
  if decide (bL.A<0) then
   G.dA aQ bL true
  else
   if decide ((Sh.len aQ.aC)≤bL.A) then
    G.dA aQ bL true
   else
    if decide (bL.B<0) then
     G.dA aQ bL true
    else
     G.dA aQ bL (decide ((Sh.len aQ.aC)≤bL.B))

def sV:Option (Bool):=
 some false

def pH(cK:List G.aa)(bL:G.aa)(i22:Int):Option ((Int)⊕(Bool)):=
 if decide (i22<(Sh.len cK)) then
  (Sh.idx cK i22).bind fun HS=>
  if decide (HS=bL) then
   Sh.exit (some true)
  else
   Sh.next (dz (i22+1))
 else
  Sh.exit (G.sV)

def tn(cK:List G.aa)(bL:G.aa):Option (Bool):=
 Sh.loop (fun(p:Int)=>G.pH cK bL p) 0

def qm:Option (Int):=
 some (-1)

def kV(cK:List Int)(wj:Int)(i22:Int):Option ((Int)⊕(Int)):=
 if decide (i22<(Sh.len cK)) then
  (Sh.idx cK i22).bind fun HS=>
  if decide (HS=wj) then
   Sh.exit (some i22)
  else
   Sh.next (dz (i22+1))
 else
  Sh.exit (G.qm)

def pM(cK:List Int)(wj:Int):Option (Int):=
 Sh.loop (fun(p:Int)=>G.kV cK wj p) 0

def qZ:Option (Bool):=
 some true

def jr(cK:List Int)(wj:Int)(i15:Int):Option ((Int)⊕(Bool)):=
 if decide (i15<wj) then
  (G.pM cK i15).bind fun FL=>
  if decide (FL<0) then
   Sh.exit (some false)
  else
   Sh.next (dz (i15+1))
 else
  Sh.exit (G.qZ)

def jT(cK:List Int)(wj:Int):Option (Bool):=
 if decide ((Sh.len cK)≠wj) then
  some false
 else
  Sh.loop (fun(p:Int)=>G.jr cK wj p) 0

def sY(yx:G.aq)(v78:List (BitVec 64)):Option (G.aq):=
 some (G.aq.mk yx.N v78)

def pL(di:List G.aa)(yx:G.aq)(qO:List (BitVec 64))(i104:Int):Option (((List (BitVec 64))×Int)⊕(G.aq)):=
 if decide (i104<(Sh.len di)) then
  (Sh.idx di i104).bind fun Up=>
  (Sh.idx di i104).bind fun Lz=>
  (Sh.idx qO Lz.A).bind fun afy=>
  (Sh.idx di i104).bind fun anf=>
  (G.eL afy anf.B).bind fun TR=>
  (Sh.idx qO Up.A).bind fun IP=>
  Sh.next (Sh.set qO Up.A TR,dz (i104+1))
 else
  Sh.exit (G.sY yx qO)

def qI(aQ:G.af)(di:List G.aa):Option (G.aq):=
 (G.fG (Sh.len aQ.aC)).bind fun yx=>
 Sh.loop (fun(p:(List (BitVec 64))×Int)=>G.pL di yx p.1 p.2) (yx.Rows,0)

def sW(wV:G.aq)(RQ:List (BitVec 64)):Option (G.aq):=
 some (G.aq.mk wV.N RQ)

def sX(EB:Int)(am8:List (BitVec 64)):Option (((List (BitVec 64))×Int)⊕(G.aq)):=
 Sh.next (am8,dz (EB+1))

def pK(JM:Int)(OF:List (BitVec 64)):Option (((List (BitVec 64))×Int)⊕(((List (BitVec 64))×Int)⊕(G.aq))):=
 Sh.next (OF,dz (JM+1))

def pJ(di:List G.aa)(EB:Int)(ES:(List Int))(o_:List (BitVec 64))(JM:Int):Option (((List (BitVec 64))×Int)⊕(((List (BitVec 64))×Int)⊕(G.aq))):=
 if decide (JM<(Sh.len ES)) then
  (Sh.idx ES JM).bind fun anA=>
  (Sh.idx di EB).bind fun anB=>
  if decide (anA≠anB.B) then
   (Sh.idx ES JM).bind fun aaz=>
   (Sh.idx ES JM).bind fun anC=>
   (Sh.idx o_ anC).bind fun af2=>
   (Sh.idx di EB).bind fun af3=>
   (G.eL af2 af3.B).bind fun XB=>
   (Sh.idx o_ aaz).bind fun Us=>
   G.pK JM (Sh.set o_ aaz XB)
  else
   G.pK JM o_
 else
  Sh.exit (G.sX EB o_)

def pI(aQ:G.af)(di:List G.aa)(wV:G.aq)(Gp:List (BitVec 64))(EB:Int):Option (((List (BitVec 64))×Int)⊕(G.aq)):=
 if decide (EB<(Sh.len di)) then
  (Sh.idx di EB).bind fun anx=>
  (Sh.idx di EB).bind fun af0=>
  (G.jg aQ anx.Key af0.A).bind fun ES=>
  Sh.loop (fun(p:(List (BitVec 64))×Int)=>G.pJ di EB ES p.1 p.2) (Gp,0)
 else
  Sh.exit (G.sW wV Gp)

def qH(aQ:G.af)(di:List G.aa):Option (G.aq):=
 (G.qT aQ).bind fun wV=>
 Sh.loop (fun(p:(List (BitVec 64))×Int)=>G.pI aQ di wV p.1 p.2) (wV.Rows,0)

def jq(IE:G.aq)(ER:G.aq):Option (G.aq):=
 (G.gN IE ER).bind fun FL=>
 some (G.aq.mk FL.N FL.Rows)

def nL(aQ:G.af)(bf:Int)(gz:List G.aa):Option (G.aq):=
 (G.qX aQ).bind fun Ll=>
 (G.qI aQ gz).bind fun Cs=>
 (G.gN Ll Cs).bind fun IE=>
 (G.qH aQ gz).bind fun yd=>
 if decide (bf=1) then
  (G.jj IE yd).bind fun r21=>
  G.jq IE r21
 else
  G.jq IE yd

def qY(aQ:G.af)(bf:Int)(gz:List G.aa):Option (Bool):=
 (G.nL aQ bf gz).bind fun r5=>
 (G.ot r5).bind fun r6=>
 some (!r6)
end G
end

section
/- What the functions of a package compute, as plain functions. -/
open Go Go.Av
set_option linter.unusedVariables false
namespace G
def o4(aQ:G.af)(zp:Int)(Ad:Int):Option (Bool):=
 (G.cn aQ).bind fun r8=>
 if r8 then
  if decide ((0:Int)≤zp) then
   if decide (zp<(Sh.len aQ.aC)) then
    if decide ((0:Int)≤Ad) then
     some (decide (Ad<(Sh.len aQ.aC)))
    else
     some false
   else
    some false
  else
   some false
 else
  some false

def oL:Option (Bool):=
 some false

def jX(i141:Int):Option ((Int)⊕(Bool)):=
 Sh.next (dz (i141+1))

def jY(aQ:G.af)(di:List G.aa)(i141:Int)(KE:Bool):Option ((Int)⊕(Bool)):=
 if KE then
  G.jX i141
 else
  (Sh.idx di i141).bind fun afB=>
  (G.lR aQ afB).bind fun Rs=>
  if Rs then
   Sh.exit (some true)
  else
   G.jX i141

def jU(aQ:G.af)(di:List G.aa)(oO:Int)(nE:Int)(i141:Int):Option ((Int)⊕(Bool)):=
 if decide (i141<(Sh.len di)) then
  (Sh.idx di i141).bind fun aas=>
  if decide (aas.A≠oO) then
   G.jY aQ di i141 true
  else
   (Sh.idx di i141).bind fun afD=>
   G.jY aQ di i141 (decide (afD.B≠nE))
 else
  Sh.exit (G.oL)

def jW(aQ:G.af)(di:List G.aa)(oO:Int)(nE:Int):Option (Bool):=
 Sh.loop (fun(p:Int)=>G.jU aQ di oO nE p) 0

def jV(aQ:G.af)(di:List G.aa)(oO:Int)(nE:Int)(i190:Int):Option ((Int)⊕(Bool)):=
 (Sh.idx aQ.aC nE).bind fun aat=>
 if decide (i190<(Sh.len aat.Reads)) then
  (Sh.idx aQ.aC nE).bind fun afE=>
  (Sh.idx afE.Reads i190).bind fun anm=>
  if decide (anm.bT=oO) then
   Sh.exit (some true)
  else
   Sh.next (dz (i190+1))
 else
  Sh.exit (G.jW aQ di oO nE)

def gZ(aQ:G.af)(di:List G.aa)(oO:Int)(nE:Int)(Yd:Bool):Option (Bool):=
 if Yd then
  some true
 else
  Sh.loop (fun(p:Int)=>G.jV aQ di oO nE p) 0

def kf(aQ:G.af)(di:List G.aa)(oO:Int)(nE:Int):Option (Bool):=
 (G.o4 aQ oO nE).bind fun r58=>
 if !r58 then
  some false
 else
  if decide (oO<nE) then
   (Sh.idx aQ.aC oO).bind fun afF=>
   (Sh.idx aQ.aC nE).bind fun afG=>
   G.gZ aQ di oO nE (decide (afF.bB=afG.bB))
  else
   G.gZ aQ di oO nE false

def q8:Option (Bool):=
 some false

def gP(i128:Int)(v167:Bool):Option ((Int)⊕(Bool)):=
 if v167 then
  Sh.exit (some true)
 else
  Sh.next (dz (i128+1))

def mK(aQ:G.af)(di:List G.aa)(oO:Int)(nE:Int)(i128:Int):Option ((Int)⊕(Bool)):=
 (Sh.idx aQ.aC oO).bind fun NS=>
 if decide (i128<(Sh.len NS.Reads)) then
  (Sh.idx aQ.aC oO).bind fun afA=>
  (Sh.idx afA.Reads i128).bind fun A3=>
  (Sh.idx aQ.aC nE).bind fun NU=>
  (G.dP NU A3.Key).bind fun Z4=>
  (G.tn di (G.aa.mk A3.Key A3.bT nE)).bind fun Z5=>
  if Z4 then
   if decide (A3.bT=(-1)) then
    G.gP i128 true
   else
    if Z5 then
     G.gP i128 (decide (A3.bT≠nE))
    else
     G.gP i128 false
  else
   G.gP i128 false
 else
  Sh.exit (G.q8)

def js(aQ:G.af)(di:List G.aa)(oO:Int)(nE:Int)(v53:Bool):Option (Bool):=
 if v53 then
  some false
 else
  Sh.loop (fun(p:Int)=>G.mK aQ di oO nE p) 0

def nM(aQ:G.af)(di:List G.aa)(oO:Int)(nE:Int):Option (Bool):=
 (G.o4 aQ oO nE).bind fun Ii=>
 if !Ii then
  G.js aQ di oO nE true
 else
  G.js aQ di oO nE (decide (oO=nE))

def sZ:Option (Bool):=
 some false

def pQ(YD:Int):Option ((Int)⊕(Bool)):=
 Sh.next (dz (YD+1))

def pO(aQ:G.af)(gz:List G.aa)(F4:Int)(Fg:Int)(YD:Int):Option ((Int)⊕(Bool)):=
 if decide (YD<(Sh.len aQ.aC)) then
  (G.kf aQ gz F4 YD).bind fun Lm=>
  if !Lm then
   G.pQ YD
  else
   (G.nM aQ gz YD Fg).bind fun DP=>
   if DP then
    Sh.exit (some true)
   else
    G.pQ YD
 else
  Sh.exit (G.sZ)

def pP(aQ:G.af)(bf:Int)(gz:List G.aa)(F4:Int)(Fg:Int)(v16:Bool):Option (Bool):=
 if v16 then
  some false
 else
  (G.kf aQ gz F4 Fg).bind fun FL=>
  if FL then
   some true
  else
   if decide (bf=0) then
    (G.nM aQ gz F4 Fg).bind fun Kl=>
    some Kl
   else
    Sh.loop (fun(p:Int)=>G.pO aQ gz F4 Fg p) 0

def tq(aQ:G.af)(bf:Int)(gz:List G.aa)(F4:Int)(Fg:Int):Option (Bool):=
 if decide (bf≠0) then
  G.pP aQ bf gz F4 Fg (decide (bf≠1))
 else
  G.pP aQ bf gz F4 Fg false

def qn(eH:List Int):Option (Bool):=
 some (decide ((0:Int)<(Sh.len eH)))

def qo(i124:Int):Option ((Int)⊕(Bool)):=
 Sh.next (dz (i124+1))

def kY(aQ:G.af)(bf:Int)(gz:List G.aa)(eH:List Int)(i124:Int):Option ((Int)⊕(Bool)):=
 (Sh.idx eH i124).bind fun Ym=>
 (Sh.rem (dz (i124+1)) (Sh.len eH)).bind fun aeP=>
 (Sh.idx eH aeP).bind fun ani=>
 (G.tq aQ bf gz Ym ani).bind fun aeU=>
 if !aeU then
  Sh.exit (some false)
 else
  G.qo i124

def kX(aQ:G.af)(bf:Int)(gz:List G.aa)(eH:List Int)(i124:Int)(ZF:Int):Option ((Int)⊕((Int)⊕(Bool))):=
 if decide (ZF<i124) then
  (Sh.idx eH ZF).bind fun ank=>
  (Sh.idx eH i124).bind fun anl=>
  if decide (ank=anl) then
   Sh.exit (Sh.exit (some false))
  else
   Sh.next (dz (ZF+1))
 else
  Sh.exit (G.kY aQ bf gz eH i124)

def kW(aQ:G.af)(bf:Int)(gz:List G.aa)(eH:List Int)(i124:Int):Option ((Int)⊕(Bool)):=
 if decide (i124<(Sh.len eH)) then
  Sh.loop (fun(p:Int)=>G.kX aQ bf gz eH i124 p) 0
 else
  Sh.exit (G.qn eH)

def pN(aQ:G.af)(bf:Int)(gz:List G.aa)(eH:List Int):Option (Bool):=
 Sh.loop (fun(p:Int)=>G.kW aQ bf gz eH p) 0
end G
end

section
/- What the functions of a package compute, as plain functions. -/
open Go Go.Av
set_option linter.unusedVariables false
namespace G
def zd:Option (Bool):=
 some true

def uB(wE:List Bool)(YJ:Int)(G4:Int)(amU:Bool):Option (((List Bool)×Int)⊕(Bool)):=
 if amU then
  Sh.exit (some false)
 else
  (Sh.KY 32 wE G4).bind fun arp=>
  Sh.next (Sh.set wE G4 true,dz (YJ+1))

def wI(aN:List Int)(wE:List Bool)(YJ:Int):Option (((List Bool)×Int)⊕(Bool)):=
 if decide (YJ<(Sh.len aN)) then
  (Sh.idx aN YJ).bind fun G4=>
  if decide (G4<0) then
   G.uB wE YJ G4 true
  else
   if decide ((Sh.len aN)≤G4) then
    G.uB wE YJ G4 true
   else
    (Sh.KY 32 wE G4).bind fun LA=>
    G.uB wE YJ G4 LA
 else
  Sh.exit (G.zd)

def wJ(aN:List Int)(v40:Bool):Option (Bool):=
 if v40 then
  some false
 else
  Sh.loop (fun(p:(List Bool)×Int)=>G.wI aN p.1 p.2) ((List.replicate 32 false),0)

def zn(aQ:G.af)(aN:List Int):Option (Bool):=
 (G.rO aQ).bind fun Z2=>
 if !Z2 then
  G.wJ aN true
 else
  G.wJ aN (decide ((Sh.len aN)≠(Sh.len aQ.aC)))

def AD(Ri:List (List G.an)):Option ((List (List G.an))):=
 some Ri

def AE(Aj:Int)(W5:List (List G.an))(am7:List Int):Option (((List Int)×(List (List G.an))×Int)⊕((List (List G.an)))):=
 Sh.next (am7,W5,dz (Aj+1))

def yj(Aj:Int)(yK:Int)(B4:List (List G.an))(LF:G.ai)(BY:List Int)(aao:Int):Option (((List Int)×Int)⊕(((List Int)×(List (List G.an))×Int)⊕((List (List G.an))))):=
 if decide (aao<(Sh.len LF.bH)) then
  (Sh.idx LF.bH aao).bind fun af1=>
  (Sh.KY 16 BY af1).bind fun arv=>
  Sh.next (Sh.set BY af1 (dz (yK+1)),dz (aao+1))
 else
  Sh.exit (G.AE Aj B4 BY)

def ym(aQ:G.af)(s5:List Int)(Aj:Int)(yK:Int)(B4:List (List G.an)):Option (((List Int)×(List (List G.an))×Int)⊕((List (List G.an)))):=
 (Sh.idx aQ.aC yK).bind fun LF=>
 Sh.loop (fun(p:(List Int)×Int)=>G.yj Aj yK B4 LF p.1 p.2) (s5,0)

def yl(aQ:G.af)(s5:List Int)(Aj:Int)(yK:Int)(EX:G.ai)(ue:List (List G.an))(Uh:Int):Option (((List (List G.an))×Int)⊕(((List Int)×(List (List G.an))×Int)⊕((List (List G.an))))):=
 if decide (Uh<(Sh.len EX.Reads)) then
  (Sh.idx EX.Reads Uh).bind fun KL=>
  (Sh.idx ue yK).bind fun Us=>
  (Sh.KY 16 s5 KL.Key).bind fun Ut=>
  (Sh.app 16 Us ([(G.an.mk KL.Key (dz (Ut - 1)))]:List G.an)).bind fun Q9=>
  (Sh.idx ue yK).bind fun arw=>
  Sh.next (Sh.set ue yK Q9,dz (Uh+1))
 else
  Sh.exit (G.ym aQ s5 Aj yK ue)

def yh(aQ:G.af)(aN:List Int)(s5:List Int)(Nl:List (List G.an))(Aj:Int):Option (((List Int)×(List (List G.an))×Int)⊕((List (List G.an)))):=
 if decide (Aj<(Sh.len aN)) then
  (Sh.idx aN Aj).bind fun yK=>
  (Sh.idx aQ.aC yK).bind fun EX=>
  Sh.loop (fun(p:(List (List G.an))×Int)=>G.yl aQ s5 Aj yK EX p.1 p.2) (Nl,0)
 else
  Sh.exit (G.AD Nl)

def Bs(aQ:G.af)(aN:List Int):Option ((List (List G.an))):=
 (G.zn aQ aN).bind fun Rs=>
 if !Rs then
  some []
 else
  (Sh.mk 24 (Sh.len aN) (Sh.len aN) []).bind fun Jc=>
  Sh.loop (fun(p:(List Int)×(List (List G.an))×Int)=>G.yh aQ aN p.1 p.2.1 p.2.2) ((List.replicate 16 0),Jc,0)

def zc:Option (Bool):=
 some true

def wF(aQ:G.af)(aN:List Int)(As:List Int)(v117:Int):Option (((List Int)×Int)⊕(Bool)):=
 if decide (v117<(Sh.len aN)) then
  (Sh.idx aN v117).bind fun NR=>
  (Sh.idx aQ.aC NR).bind fun NS=>
  (Sh.KY 8 As NS.bB).bind fun afz=>
  if decide (NR<afz) then
   Sh.exit (some false)
  else
   (Sh.KY 8 As NS.bB).bind fun arq=>
   Sh.next (Sh.set As NS.bB (dz (NR+1)),dz (v117+1))
 else
  Sh.exit (G.zc)

def wH(aQ:G.af)(aN:List Int):Option (Bool):=
 Sh.loop (fun(p:(List Int)×Int)=>G.wF aQ aN p.1 p.2) ((List.replicate 8 0),0)

def wG(aQ:G.af)(aN:List Int)(Kh:(List (List G.an)))(v157:Int):Option ((Int)⊕(Bool)):=
 if decide (v157<(Sh.len Kh)) then
  (Sh.idx Kh v157).bind fun Ym=>
  (Sh.idx aQ.aC v157).bind fun NV=>
  (G.fH Ym NV.Reads).bind fun aeV=>
  if !aeV then
   Sh.exit (some false)
  else
   Sh.next (dz (v157+1))
 else
  Sh.exit (G.wH aQ aN)

def Br(aQ:G.af)(aN:List Int):Option (Bool):=
 (G.zn aQ aN).bind fun r50=>
 if !r50 then
  some false
 else
  (G.Bs aQ aN).bind fun Kh=>
  Sh.loop (fun(p:Int)=>G.wG aQ aN Kh p) 0
end G
end

section
/- What the functions of a package compute, as plain functions. -/
open Go Go.Av
set_option linter.unusedVariables false
namespace G
def ua:Option (Int):=
 some (-1)

def jt(aQ:G.af)(aN:List Int)(GA:Int)(i62:Int):Option ((Int)⊕(Int)):=
 if decide ((0:Int)≤i62) then
  (Sh.idx aN i62).bind fun x76=>
  (Sh.idx aQ.aC x76).bind fun x78=>
  (G.dP x78 GA).bind fun r80=>
  if r80 then
   (Sh.idx aN i62).bind fun uM=>
   Sh.exit (some uM)
  else
   Sh.next (dz (i62 - 1))
 else
  Sh.exit (G.ua)

def rj(aQ:G.af)(aN:List Int)(UP:Int)(GA:Int):Option (Int):=
 Sh.loop (fun(p:Int)=>G.jt aQ aN GA p) (dz (UP - 1))

def q9(Rg:List (List G.an)):Option ((List (List G.an))):=
 some Rg

def q_(xC:Int)(W3:List (List G.an)):Option (((List (List G.an))×Int)⊕((List (List G.an)))):=
 Sh.next (W3,dz (xC+1))

def ri(lX:List (List G.an))(xC:Int)(ZI:List G.an):Option (((List (List G.an))×Int)⊕((List (List G.an)))):=
 (Sh.app 24 lX ([ZI]:List (List G.an))).bind fun J3=>
 G.q_ xC J3

def mM(aQ:G.af)(aN:List Int)(lX:List (List G.an))(xC:Int)(Jp:Int)(WH:List G.an)(Wx:Int):Option (((List G.an)×Int)⊕(((List (List G.an))×Int)⊕((List (List G.an))))):=
 (Sh.idx aQ.aC xC).bind fun aaw=>
 if decide (Wx<(Sh.len aaw.Reads)) then
  (Sh.idx aQ.aC xC).bind fun afW=>
  (Sh.idx afW.Reads Wx).bind fun Ur=>
  (G.rj aQ aN Jp Ur.Key).bind fun TW=>
  (Sh.app 16 WH ([(G.an.mk Ur.Key TW)]:List G.an)).bind fun Tz=>
  Sh.next (Tz,dz (Wx+1))
 else
  Sh.exit (G.ri lX xC WH)

def mP(aQ:G.af)(aN:List Int)(lX:List (List G.an))(xC:Int)(Jp:Int):Option (((List (List G.an))×Int)⊕((List (List G.an)))):=
 Sh.loop (fun(p:(List G.an)×Int)=>G.mM aQ aN lX xC Jp p.1 p.2) ([],0)

def mN(aQ:G.af)(aN:List Int)(lX:List (List G.an))(xC:Int)(Oa:Int):Option ((Int)⊕(((List (List G.an))×Int)⊕((List (List G.an))))):=
 (Sh.idx aN Oa).bind fun Ql=>
 if decide (Ql≠xC) then
  Sh.next (dz (Oa+1))
 else
  Sh.exit (G.mP aQ aN lX xC Oa)

def mL(aQ:G.af)(aN:List Int)(lX:List (List G.an))(xC:Int):Option (((List (List G.an))×Int)⊕((List (List G.an)))):=
 if decide (xC<(Sh.len aQ.aC)) then
  Sh.loop (fun(p:Int)=>G.mN aQ aN lX xC p) 0
 else
  Sh.exit (G.q9 lX)

def mO(aQ:G.af)(aN:List Int)(amW:Bool):Option ((List (List G.an))):=
 if amW then
  some []
 else
  Sh.loop (fun(p:(List (List G.an))×Int)=>G.mL aQ aN p.1 p.2) ([],0)

def nO(aQ:G.af)(aN:List Int):Option ((List (List G.an))):=
 (G.cn aQ).bind fun Z1=>
 (G.jT aN (Sh.len aQ.aC)).bind fun PA=>
 if !Z1 then
  G.mO aQ aN true
 else
  G.mO aQ aN (!PA)

def qq:Option (Bool):=
 some true

def iJ(eM:List G.an)(fK:List G.an)(i39:Int):Option ((Int)⊕(Bool)):=
 if decide (i39<(Sh.len eM)) then
  (Sh.idx eM i39).bind fun Qm=>
  (Sh.idx fK i39).bind fun KW=>
  if !decide (Qm=KW) then
   Sh.exit (some false)
  else
   Sh.next (dz (i39+1))
 else
  Sh.exit (G.qq)

def pS(eM:List G.an)(fK:List G.an):Option (Bool):=
 if decide ((Sh.len eM)≠(Sh.len fK)) then
  some false
 else
  Sh.loop (fun(p:Int)=>G.iJ eM fK p) 0

def mg:Option (Bool):=
 some true

def mh(i226:Int):Option ((Int)⊕(Bool)):=
 Sh.next (dz (i226+1))

def iN(Li:Int)(am4:Bool):Option ((Int)⊕((Int)⊕(Bool))):=
 if am4 then
  Sh.exit (Sh.exit (some false))
 else
  Sh.next (dz (Li+1))

def iM(aQ:G.af)(aN:List Int)(i226:Int)(Li:Int):Option ((Int)⊕((Int)⊕(Bool))):=
 if decide (Li<i226) then
  (Sh.idx aN Li).bind fun afO=>
  (Sh.idx aN i226).bind fun afP=>
  if decide (afP<afO) then
   (Sh.idx aN Li).bind fun afQ=>
   (Sh.idx aQ.aC afQ).bind fun afR=>
   (Sh.idx aN i226).bind fun afS=>
   (Sh.idx aQ.aC afS).bind fun afT=>
   G.iN Li (decide (afR.bB=afT.bB))
  else
   G.iN Li false
 else
  Sh.exit (G.mh i226)

def gj(aQ:G.af)(aN:List Int)(i226:Int):Option ((Int)⊕(Bool)):=
 if decide (i226<(Sh.len aN)) then
  Sh.loop (fun(p:Int)=>G.iM aQ aN i226 p) 0
 else
  Sh.exit (G.mg)

def k9(aQ:G.af)(aN:List Int):Option (Bool):=
 Sh.loop (fun(p:Int)=>G.gj aQ aN p) 0

def qp(aQ:G.af)(aN:List Int):Option (Bool):=
 (G.k9 aQ aN).bind fun E_=>
 some E_

def kZ(aQ:G.af)(aN:List Int)(Az:(List (List G.an)))(t65:Int):Option ((Int)⊕(Bool)):=
 if decide (t65<(Sh.len aQ.aC)) then
  (Sh.idx aQ.aC t65).bind fun x77=>
  (Sh.idx Az t65).bind fun x79=>
  (G.pS x77.Reads x79).bind fun r81=>
  if !r81 then
   Sh.exit (some false)
  else
   Sh.next (dz (t65+1))
 else
  Sh.exit (G.qp aQ aN)

def k7(aQ:G.af)(aN:List Int)(v31:Bool):Option (Bool):=
 if v31 then
  some false
 else
  (G.nO aQ aN).bind fun Az=>
  Sh.loop (fun(p:Int)=>G.kZ aQ aN Az p) 0

def pR(aQ:G.af)(aN:List Int):Option (Bool):=
 (G.cn aQ).bind fun TV=>
 (G.jT aN (Sh.len aQ.aC)).bind fun r27=>
 if !TV then
  G.k7 aQ aN true
 else
  G.k7 aQ aN (!r27)
end G
end

section
/- What the functions of a package compute, as plain functions. -/
open Go Go.Av
set_option linter.unusedVariables false
namespace G
def xM(zT:List Int):Option ((List Int)):=
 some zT

def uY(v53:Int)(Pk:List Int):Option (((List Int)×Int)⊕((List Int))):=
 Sh.next (Pk,dz (v53+1))

def uX(aQ:G.af)(e_:Int)(ud:List Int)(v53:Int):Option (((List Int)×Int)⊕((List Int))):=
 if decide (v53<(Sh.len aQ.aC)) then
  (Sh.idx aQ.aC v53).bind fun x62=>
  (G.dJ x62.bH e_).bind fun r65=>
  if r65 then
   (Sh.app 8 ud [v53]).bind fun Pm=>
   G.uY v53 Pm
  else
   G.uY v53 ud
 else
  Sh.exit (G.xM ud)

def vj(aQ:G.af)(e_:Int):Option ((List Int)):=
 Sh.loop (fun(p:(List Int)×Int)=>G.uX aQ e_ p.1 p.2) ([],0)

def jM(cK:List Int)(wX:Int):Option ((List Int)):=
 (Sh.app 8 cK [wX]).bind fun l3=>
 some l3

def cu(bL:List Int)(c23:List Int)(v24:Int):Option (((List Int)×Int)⊕((List Int))):=
 if decide (v24<(Sh.len bL)) then
  (Sh.idx bL v24).bind fun x31=>
  (G.jM c23 x31).bind fun y34=>
  Sh.next (y34,dz (v24+1))
 else
  Sh.exit (some c23)

def cE(cK:List Int)(bL:List Int):Option ((List Int)):=
 Sh.loop (fun(p:(List Int)×Int)=>G.cu bL p.1 p.2) (cK,0)

def dG(uE:List Int):Option ((List Int)):=
 (G.cE [] uE).bind fun Ux=>
 some Ux

def ee(uE:List Int):Option ((List Int)):=
 (G.dG uE).bind fun r3=>
 some r3

def cq(uE:List Int):Option ((List Int)):=
 (G.ee uE).bind fun r5=>
 (Sh.sort r5).bind fun Mq=>
 some Mq

def Cc(W_:List G.aP):Option ((List G.aP)):=
 some W_

def xz(v85:Int)(acu:List G.aP):Option (((List G.aP)×Int)⊕((List G.aP))):=
 Sh.next (acu,dz (v85+1))

def zY(aQ:G.af)(aN:List Int)(uf:List G.aP)(v85:Int):Option (((List G.aP)×Int)⊕((List G.aP))):=
 if decide (v85<16) then
  (G.vj aQ v85).bind fun r93=>
  if decide ((Sh.len r93)=0) then
   G.xz v85 uf
  else
   (Sh.Cd aN r93).bind fun sorted97=>
   (Sh.app 32 uf ([(G.aP.mk v85 sorted97)]:List G.aP)).bind fun GF=>
   G.xz v85 GF
 else
  Sh.exit (G.Cc uf)

def zZ(aQ:G.af)(aN:List Int):Option ((List G.aP)):=
 Sh.loop (fun(p:(List G.aP)×Int)=>G.zY aQ aN p.1 p.2) ([],0)

def um(aQ:G.af)(aN:List Int)(IG:(List Int))(v105:Int):Option ((Int)⊕((List G.aP))):=
 if decide (v105<(Sh.len IG)) then
  (Sh.idx IG v105).bind fun NQ=>
  if decide (v105≠NQ) then
   Sh.exit (some [])
  else
   Sh.next (dz (v105+1))
 else
  Sh.exit (G.zZ aQ aN)

def xy(aQ:G.af)(aN:List Int)(IG:(List Int))(v42:Bool):Option ((List G.aP)):=
 if v42 then
  some []
 else
  Sh.loop (fun(p:Int)=>G.um aQ aN IG p) 0

def GX(aQ:G.af)(aN:List Int):Option ((List G.aP)):=
 (G.fB aN).bind fun r35=>
 (G.cq aN).bind fun IG=>
 (G.rO aQ).bind fun ZZ=>
 if !ZZ then
  G.xy aQ aN IG true
 else
  G.xy aQ aN IG (decide ((Sh.len aN)≠(Sh.len aQ.aC)))

def yq(di:List G.aP)(n86:Int):Option (Bool):=
 some (decide (n86=(Sh.len di)))

def vG(DZ:Int)(n127:Int):Option ((Int×Int)⊕(Bool)):=
 Sh.next (n127,dz (DZ+1))

def rI(n113:Int)(DZ:Int)(amZ:Bool):Option ((Int×Int)⊕(Bool)):=
 if amZ then
  Sh.exit (some false)
 else
  G.vG DZ (dz (n113+1))

def oU(aQ:G.af)(di:List G.aP)(n113:Int)(DZ:Int):Option ((Int×Int)⊕(Bool)):=
 if decide (DZ<16) then
  (G.vj aQ DZ).bind fun Xr=>
  if decide ((Sh.len Xr)=0) then
   G.vG DZ n113
  else
   if decide (n113=(Sh.len di)) then
    G.rI n113 DZ true
   else
    (Sh.idx di n113).bind fun NT=>
    if decide (NT.Key≠DZ) then
     G.rI n113 DZ true
    else
     (Sh.idx di n113).bind fun Qk=>
     (G.fB Qk.L).bind fun aq_=>
     (G.cq Qk.L).bind fun aeT=>
     (G.nA Xr aeT).bind fun Z3=>
     G.rI n113 DZ (!Z3)
 else
  Sh.exit (G.yq di n113)

def DT(aQ:G.af)(di:List G.aP):Option (Bool):=
 (G.rO aQ).bind fun r44=>
 if !r44 then
  some false
 else
  Sh.loop (fun(p:Int×Int)=>G.oU aQ di p.1 p.2) (0,0)

def r_(yC:G.an)(oD:Int):Option (Bool):=
 some (decide (yC.bT=oD))

def cS:Option (Int):=
 some (-1)

def ct(b8:List G.an)(jO:Int)(v30:Int):Option ((Int)⊕(Int)):=
 if decide (v30<(Sh.len b8)) then
  (Sh.idx b8 v30).bind fun Ff=>
  (G.r_ Ff jO).bind fun yx=>
  if yx then
   Sh.exit (some v30)
  else
   Sh.next (dz (v30+1))
 else
  Sh.exit (G.cS)

def dm(b8:List G.an)(jO:Int):Option (Int):=
 Sh.loop (fun(p:Int)=>G.ct b8 jO p) 0

def cr(b8:List G.an)(jO:Int):Option (Bool):=
 (G.dm b8 jO).bind fun r3=>
 some (decide ((0:Int)≤r3))

def o7(Bf:Int)(oD:Int)(Yx:Int)(ko:List G.ai)(BL:List Int):Option (Bool):=
 (Sh.lim 16 Bf).bind fun k18=>
 (Sh.lim 32 Yx).bind fun k19=>
 (Sh.KB BL (k18*32+k19)).bind fun x20=>
 if decide ((0:Int)<x20) then
  if decide (oD<0) then
   some true
  else
   (Sh.lim 16 Bf).bind fun k32=>
   (Sh.lim 32 oD).bind fun k33=>
   (Sh.KB BL (k32*32+k33)).bind fun x34=>
   if decide ((0:Int)<x34) then
    (Sh.lim 16 Bf).bind fun k36=>
    (Sh.lim 32 oD).bind fun k37=>
    (Sh.KB BL (k36*32+k37)).bind fun Ff=>
    some (decide (Ff<x20))
   else
    some false
 else
  some false

def sg(Bf:Int)(oD:Int)(uN:Int)(ko:List G.ai)(BL:List Int):Option (Bool):=
 (G.o7 Bf oD uN ko BL).bind fun r4=>
 some r4

def dV:Option (Int):=
 some (-1)

def c5(b8:List Int)(jO:Int)(uL:Int)(ko:List G.ai)(BL:List Int)(v31:Int):Option ((Int)⊕(Int)):=
 if decide (v31<(Sh.len b8)) then
  (Sh.idx b8 v31).bind fun Uq=>
  (G.sg Uq jO uL ko BL).bind fun Qr=>
  if Qr then
   Sh.exit (some v31)
  else
   Sh.next (dz (v31+1))
 else
  Sh.exit (G.dV)

def eF(b8:List Int)(jO:Int)(uL:Int)(ko:List G.ai)(BL:List Int):Option (Int):=
 Sh.loop (fun(p:Int)=>G.c5 b8 jO uL ko BL p) 0

def c4(b8:List Int)(jO:Int)(uL:Int)(ko:List G.ai)(BL:List Int):Option (Bool):=
 (G.eF b8 jO uL ko BL).bind fun r4=>
 some (decide ((0:Int)≤r4))

def jG(qJ:Int)(wX:Int)(iB:List G.ai)(ko:List Int)(v27:Bool):Option (Bool):=
 if v27 then
  some true
 else
  (Sh.idx iB wX).bind fun SX=>
  (G.cr SX.Reads qJ).bind fun Az=>
  if Az then
   some true
  else
   (Sh.idx iB qJ).bind fun x40=>
   (G.c4 x40.bH qJ wX iB ko).bind fun zl=>
   some zl

def rJ(qJ:Int)(wX:Int)(iB:List G.ai)(ko:List Int):Option (Bool):=
 if decide (qJ<wX) then
  (Sh.idx iB qJ).bind fun x44=>
  (Sh.idx iB wX).bind fun Ew=>
  G.jG qJ wX iB ko (decide (x44.bB=Ew.bB))
 else
  G.jG qJ wX iB ko false

def tQ(yC:G.an)(oD:Int)(iB:List G.ai)(ko:List Int):Option (Bool):=
 (G.o7 yC.Key yC.bT oD iB ko).bind fun r4=>
 some r4

def de:Option (Int):=
 some (-1)

def cA(b8:List G.an)(jO:Int)(iB:List G.ai)(ko:List Int)(v31:Int):Option ((Int)⊕(Int)):=
 if decide (v31<(Sh.len b8)) then
  (Sh.idx b8 v31).bind fun Uq=>
  (G.tQ Uq jO iB ko).bind fun Qr=>
  if Qr then
   Sh.exit (some v31)
  else
   Sh.next (dz (v31+1))
 else
  Sh.exit (G.de)

def dy(b8:List G.an)(jO:Int)(iB:List G.ai)(ko:List Int):Option (Int):=
 Sh.loop (fun(p:Int)=>G.cA b8 jO iB ko p) 0

def c9(b8:List G.an)(jO:Int)(iB:List G.ai)(ko:List Int):Option (Bool):=
 (G.dy b8 jO iB ko).bind fun r4=>
 some (decide ((0:Int)≤r4))

def tA(qJ:Int)(wX:Int)(iB:List G.ai)(ko:List Int):Option (Bool):=
 if decide (qJ≠wX) then
  (Sh.idx iB qJ).bind fun x12=>
  (G.c9 x12.Reads wX iB ko).bind fun YE=>
  some YE
 else
  some false

def vi(B3:List Int):Option ((List Int)):=
 some B3

def l6(vO:Int)(WZ:List Int):Option (((List Int)×Int)⊕((List Int))):=
 Sh.next (WZ,dz (vO+1))

def l7(v175:Int)(W1:List Int):Option (((List Int)×Int)⊕(((List Int)×Int)⊕((List Int)))):=
 Sh.next (W1,dz (v175+1))

def p6(bL:List G.ai)(iB:List Int)(vO:Int)(AZ:List Int)(v175:Int):Option (((List Int)×Int)⊕(((List Int)×Int)⊕((List Int)))):=
 if decide (v175<(Sh.len bL)) then
  (G.tA vO v175 bL iB).bind fun Xu=>
  if Xu then
   (Sh.app 8 AZ [v175]).bind fun JZ=>
   G.l7 v175 JZ
  else
   G.l7 v175 AZ
 else
  Sh.exit (G.l6 vO AZ)

def pZ(qJ:Int)(bL:List G.ai)(iB:List Int)(AY:List Int)(vO:Int):Option (((List Int)×Int)⊕((List Int))):=
 if decide (vO<(Sh.len bL)) then
  (G.rJ qJ vO bL iB).bind fun TU=>
  if !TU then
   G.l6 vO AY
  else
   (Sh.app 8 AY [vO]).bind fun Hz=>
   Sh.loop (fun(p:(List Int)×Int)=>G.p6 bL iB vO p.1 p.2) (Hz,0)
 else
  Sh.exit (G.vi AY)

def nY(qJ:Int)(bL:List G.ai)(iB:List Int):Option ((List Int)):=
 Sh.loop (fun(p:(List Int)×Int)=>G.pZ qJ bL iB p.1 p.2) ([],0)

def sD(qJ:Int)(Yd:List Int):Option ((List Int)×Bool):=
 (Sh.idx Yd qJ).bind fun x74=>
 some (Sh.set Yd qJ 2,true)

def lZ(self:Int→(List G.ai)→(List Int)→(List Int)→Option ((List Int)×Bool))(qJ:Int)(bL:List G.ai)(iB:List Int)(N0:(List Int))(c86:List Int)(v87:Int):Option (((List Int)×Int)⊕((List Int)×Bool)):=
 if decide (v87<(Sh.len N0)) then
  (Sh.idx N0 v87).bind fun x94=>
  (self x94 bL iB c86).bind fun UB=>
  if !UB.2 then
   Sh.exit (some (UB.1,false))
  else
   Sh.next (UB.1,dz (v87+1))
 else
  Sh.exit (G.sD qJ c86)

def pY(self:Int→(List G.ai)→(List Int)→(List Int)→Option ((List Int)×Bool))(qJ:Int)(bL:List G.ai)(iB:List Int)(Co:List Int):Option ((List Int)×Bool):=
 (Sh.idx Co qJ).bind fun Ew=>
 if decide ((0:Int)<Ew) then
  (Sh.idx Co qJ).bind fun KW=>
  some (Co,decide (KW=2))
 else
  (Sh.idx Co qJ).bind fun x55=>
  (G.nY qJ bL iB).bind fun N0=>
  Sh.loop (fun(p:(List Int)×Int)=>G.lZ self qJ bL iB N0 p.1 p.2) (Sh.set Co qJ 1,0)

def nX:Nat→Int→(List G.ai)→(List Int)→(List Int)→Option ((List Int)×Bool)
 |0=>fun _ _ _ _=>none
 |n+1=>G.pY (nX n)

def A1(qJ:Int)(bL:List G.ai)(iB:List Int)(Co:List Int):Option ((List Int)×Bool):=G.nX Sh.nU qJ bL iB Co

def AG:Option (Bool):=
 some true

def uk(aQ:G.af)(v148:List Int)(mj:List Int)(IZ:List Int)(KE:Int):Option (((List Int)×Int)⊕(Bool)):=
 if decide (KE<(Sh.len mj)) then
  (G.A1 KE aQ.aC v148 IZ).bind fun Kj=>
  if !Kj.2 then
   Sh.exit (some false)
  else
   Sh.next (Kj.1,dz (KE+1))
 else
  Sh.exit (G.AG)

def vF(aQ:G.af)(v148:List Int):Option (Bool):=
 (Sh.mk 8 (Sh.len aQ.aC) (Sh.len aQ.aC) 0).bind fun mj=>
 Sh.loop (fun(p:(List Int)×Int)=>G.uk aQ v148 mj p.1 p.2) (mj,0)

def yp(HP:Int)(am0:List Int):Option (((List Int)×Int)⊕(Bool)):=
 Sh.next (am0,dz (HP+1))

def vE(HP:Int)(C7:G.aP)(ZL:List Int)(X9:Int):Option (((List Int)×Int)⊕(((List Int)×Int)⊕(Bool))):=
 if decide (X9<(Sh.len C7.L)) then
  (Sh.idx C7.L X9).bind fun ano=>
  (Sh.lim 16 C7.Key).bind fun al_=>
  (Sh.lim 32 ano).bind fun ama=>
  (Sh.Ud ZL (al_*32+ama) (dz (X9+1))).bind fun Qa=>
  Sh.next (Qa,dz (X9+1))
 else
  Sh.exit (G.yp HP ZL)

def vD(aQ:G.af)(di:List G.aP)(WL:List Int)(HP:Int):Option (((List Int)×Int)⊕(Bool)):=
 if decide (HP<(Sh.len di)) then
  (Sh.idx di HP).bind fun C7=>
  Sh.loop (fun(p:(List Int)×Int)=>G.vE HP C7 p.1 p.2) (WL,0)
 else
  Sh.exit (G.vF aQ WL)

def Bt(aQ:G.af)(di:List G.aP):Option (Bool):=
 (G.DT aQ di).bind fun oN=>
 if !oN then
  some false
 else
  Sh.loop (fun(p:(List Int)×Int)=>G.vD aQ di p.1 p.2) ((List.replicate 512 0),0)
end G
end

section
/- What the functions of a package compute, as plain functions. -/
open Go Go.Av
set_option linter.unusedVariables false
namespace G
def rA:Option (Bool):=
 some true

def mY(pe:Int):Option ((Int)⊕(Bool)):=
 Sh.next (dz (pe+1))

def mX(eM:List G.aj)(fK:List G.aj)(pe:Int)(JL:Int):Option ((Int)⊕((Int)⊕(Bool))):=
 (Sh.idx eM pe).bind fun RU=>
 if decide (JL<(Sh.len RU.L)) then
  (Sh.idx eM pe).bind fun RV=>
  (Sh.idx RV.L JL).bind fun Ql=>
  (Sh.idx fK pe).bind fun NW=>
  (Sh.idx NW.L JL).bind fun Yt=>
  if decide (Ql≠Yt) then
   Sh.exit (Sh.exit (some false))
  else
   Sh.next (dz (JL+1))
 else
  Sh.exit (G.mY pe)

def mZ(eM:List G.aj)(fK:List G.aj)(pe:Int)(Ya:Bool):Option ((Int)⊕(Bool)):=
 if Ya then
  Sh.exit (some false)
 else
  Sh.loop (fun(p:Int)=>G.mX eM fK pe p) 0

def mW(eM:List G.aj)(fK:List G.aj)(pe:Int):Option ((Int)⊕(Bool)):=
 if decide (pe<(Sh.len eM)) then
  (Sh.idx eM pe).bind fun LB=>
  (Sh.idx fK pe).bind fun LC=>
  if decide (LB.Key≠LC.Key) then
   G.mZ eM fK pe true
  else
   (Sh.idx eM pe).bind fun KJ=>
   (Sh.idx fK pe).bind fun KK=>
   G.mZ eM fK pe (decide ((Sh.len KJ.L)≠(Sh.len KK.L)))
 else
  Sh.exit (G.rA)

def rz(eM:List G.aj)(fK:List G.aj):Option (Bool):=
 if decide ((Sh.len eM)≠(Sh.len fK)) then
  some false
 else
  Sh.loop (fun(p:Int)=>G.mW eM fK p) 0

def qt:Option (Int):=
 some (-1)

def lz(cK:List Int)(wj:Int)(i22:Int):Option ((Int)⊕(Int)):=
 if decide (i22<(Sh.len cK)) then
  (Sh.idx cK i22).bind fun HS=>
  if decide (HS=wj) then
   Sh.exit (some i22)
  else
   Sh.next (dz (i22+1))
 else
  Sh.exit (G.qt)

def i_(cK:List Int)(wj:Int):Option (Int):=
 Sh.loop (fun(p:Int)=>G.lz cK wj p) 0

def qs:Option (Bool):=
 some true

def lq(i243:Int):Option ((Int)⊕(Bool)):=
 Sh.next (dz (i243+1))

def lg(di:List G.aj)(i243:Int)(CY:(List Int))(ZG:Int):Option ((Int)⊕((Int)⊕(Bool))):=
 if decide (ZG<(Sh.len CY)) then
  (Sh.idx di i243).bind fun anp=>
  (Sh.idx CY ZG).bind fun anq=>
  (G.i_ anp.L anq).bind fun ae2=>
  if decide (ae2<0) then
   Sh.exit (Sh.exit (some false))
  else
   Sh.next (dz (ZG+1))
 else
  Sh.exit (G.lq i243)

def lu(di:List G.aj)(i243:Int)(CY:(List Int))(am2:Bool):Option ((Int)⊕(Bool)):=
 if am2 then
  Sh.exit (some false)
 else
  Sh.loop (fun(p:Int)=>G.lg di i243 CY p) 0

def k_(aQ:G.af)(di:List G.aj)(Lo:(List Int))(i243:Int):Option ((Int)⊕(Bool)):=
 if decide (i243<(Sh.len di)) then
  (Sh.idx Lo i243).bind fun afJ=>
  (G.fL aQ afJ).bind fun CY=>
  (Sh.idx di i243).bind fun aau=>
  (Sh.idx Lo i243).bind fun aav=>
  if decide (aau.Key≠aav) then
   G.lu di i243 CY true
  else
   (Sh.idx di i243).bind fun Yr=>
   G.lu di i243 CY (decide ((Sh.len Yr.L)≠(Sh.len CY)))
 else
  Sh.exit (G.qs)

def lp(aQ:G.af)(di:List G.aj)(Lo:(List Int))(v98:Bool):Option (Bool):=
 if v98 then
  some false
 else
  Sh.loop (fun(p:Int)=>G.k_ aQ di Lo p) 0

def lS(aQ:G.af)(di:List G.aj):Option (Bool):=
 (G.cn aQ).bind fun r92=>
 (G.jR aQ).bind fun Lo=>
 if !r92 then
  G.lp aQ di Lo true
 else
  G.lp aQ di Lo (decide ((Sh.len di)≠(Sh.len Lo)))

def nP(Rk:List G.aa):Option ((List G.aa)):=
 some Rk

def nQ(yy:Int)(W6:List G.aa):Option (((List G.aa)×Int)⊕((List G.aa))):=
 Sh.next (W6,dz (yy+1))

def jy(s6:List G.aa)(yy:Int)(Yc:G.aa):Option (((List G.aa)×Int)⊕((List G.aa))):=
 (Sh.app 24 s6 ([Yc]:List G.aa)).bind fun J5=>
 G.nQ yy J5

def jA(EP:Int)(agO:G.aa):Option ((G.aa×Int)⊕(((List G.aa)×Int)⊕((List G.aa)))):=
 Sh.next (agO,dz (EP+1))

def jB(wW:(List G.aa))(yy:Int)(Hi:G.aa)(EP:Int)(am_:Bool):Option ((G.aa×Int)⊕(((List G.aa)×Int)⊕((List G.aa)))):=
 if am_ then
  (Sh.idx wW yy).bind fun af5=>
  (G.nK af5).bind fun XD=>
  G.jA EP XD
 else
  G.jA EP Hi

def jx(di:List G.aj)(wW:(List G.aa))(s6:List G.aa)(yy:Int)(Hi:G.aa)(EP:Int):Option ((G.aa×Int)⊕(((List G.aa)×Int)⊕((List G.aa)))):=
 if decide (EP<(Sh.len di)) then
  (Sh.idx di EP).bind fun aaA=>
  if decide (aaA.Key=Hi.Key) then
   (Sh.idx di EP).bind fun anD=>
   (Sh.idx wW yy).bind fun af6=>
   (G.i_ anD.L af6.A).bind fun Z9=>
   (Sh.idx di EP).bind fun anE=>
   (Sh.idx wW yy).bind fun anF=>
   (G.i_ anE.L anF.B).bind fun Z_=>
   G.jB wW yy Hi EP (decide (Z_<Z9))
  else
   G.jB wW yy Hi EP false
 else
  Sh.exit (G.jy s6 yy Hi)

def jw(di:List G.aj)(wW:(List G.aa))(s6:List G.aa)(yy:Int):Option (((List G.aa)×Int)⊕((List G.aa))):=
 if decide (yy<(Sh.len wW)) then
  (Sh.idx wW yy).bind fun aay=>
  Sh.loop (fun(p:G.aa×Int)=>G.jx di wW s6 yy p.1 p.2) (aay,0)
 else
  Sh.exit (G.nP s6)

def jv(aQ:G.af)(di:List G.aj):Option ((List G.aa)):=
 (G.lS aQ di).bind fun vL=>
 if !vL then
  some []
 else
  (G.lM aQ).bind fun wW=>
  Sh.loop (fun(p:(List G.aa)×Int)=>G.jw di wW p.1 p.2) ([],0)

def pT(aQ:G.af)(di:List G.aj):Option (Bool):=
 (G.lS aQ di).bind fun r5=>
 if !r5 then
  some false
 else
  (G.jv aQ di).bind fun r9=>
  (G.qY aQ 1 r9).bind fun Qp=>
  some Qp

def rq(Rh:List G.aj):Option ((List G.aj)):=
 some Rh

def ru(CB:Int)(W4:List G.aj):Option (((List G.aj)×Int)⊕((List G.aj))):=
 Sh.next (W4,dz (CB+1))

def mU(uc:List G.aj)(CB:Int)(Yb:G.aj):Option (((List G.aj)×Int)⊕((List G.aj))):=
 (Sh.app 32 uc ([Yb]:List G.aj)).bind fun J4=>
 G.ru CB J4

def mV(IC:Int)(acU:List Int):Option (((List Int)×Int)⊕(((List G.aj)×Int)⊕((List G.aj)))):=
 Sh.next (acU,dz (IC+1))

def mR(aQ:G.af)(aN:List Int)(B7:(List Int))(uc:List G.aj)(CB:Int)(IQ:Int)(Ir:List Int)(IC:Int):Option (((List Int)×Int)⊕(((List G.aj)×Int)⊕((List G.aj)))):=
 if decide (IC<(Sh.len aN)) then
  (Sh.idx aN IC).bind fun anv=>
  (Sh.idx aQ.aC anv).bind fun afZ=>
  (Sh.idx B7 CB).bind fun anw=>
  (G.dP afZ anw).bind fun ae4=>
  if ae4 then
   (Sh.idx aN IC).bind fun aax=>
   (Sh.app 8 Ir [aax]).bind fun TA=>
   G.mV IC TA
  else
   G.mV IC Ir
 else
  Sh.exit (G.mU uc CB (G.aj.mk IQ Ir))

def mQ(aQ:G.af)(aN:List Int)(B7:(List Int))(uc:List G.aj)(CB:Int):Option (((List G.aj)×Int)⊕((List G.aj))):=
 if decide (CB<(Sh.len B7)) then
  (Sh.idx B7 CB).bind fun IQ=>
  Sh.loop (fun(p:(List Int)×Int)=>G.mR aQ aN B7 uc CB IQ p.1 p.2) ([],0)
 else
  Sh.exit (G.rq uc)

def mT(aQ:G.af)(aN:List Int)(amX:Bool):Option ((List G.aj)):=
 if amX then
  some []
 else
  (G.jR aQ).bind fun B7=>
  Sh.loop (fun(p:(List G.aj)×Int)=>G.mQ aQ aN B7 p.1 p.2) ([],0)

def nR(aQ:G.af)(aN:List Int):Option ((List G.aj)):=
 (G.cn aQ).bind fun Kg=>
 (G.jT aN (Sh.len aQ.aC)).bind fun uA=>
 if !Kg then
  G.mT aQ aN true
 else
  G.mT aQ aN (!uA)
end G
end

section
/- What the functions of a package compute, as plain functions. -/
open Go Go.Av
set_option linter.unusedVariables false
namespace G
def dn(bJ:G.aI):Option (G.au×G.aI):=
 if decide ((Sh.len bJ.left)=0) then
  none
 else
  (Sh.idx bJ.left 0).bind fun x9=>
  (Sh.sub bJ.left 1 (Sh.len bJ.left)).bind fun Kb=>
  some (x9,(G.aI.mk Kb))

def dN(self:G.aI→Option (G.aI×Int×Int))(bJ:G.aI):Option (G.aI×Int×Int):=
 (G.dn bJ).bind fun ER=>
 if decide ((0:Int)<(Sh.len ER.1.bR)) then
  some (ER.2,1,0)
 else
  (self ER.2).bind fun xK=>
  (self xK.1).bind fun yA=>
  some (yA.1,dz (xK.2.1+yA.2.1),dz (1+(Sh.max xK.2.2 yA.2.2)))

def bZ:Nat→G.aI→Option (G.aI×Int×Int)
 |0=>fun _=>none
 |n+1=>G.dN (bZ n)

def rH(bJ:G.aI):Option (Unit):=
 if decide ((0:Int)<(Sh.len bJ.left)) then
  none
 else
  some ()

def wz(eG:List G.au):Option (Int×Int×Bool):=
 some (match G.bZ (eG.length+1) (G.aI.mk eG) with
  |some r=>if decide ((0:Int)<Sh.len r.1.left) then(0,0,false) else(r.2.1,r.2.2,true)
  |none=>(0,0,false))

def AB(bJ:G.aa):Option (G.aa):=
 some (G.aa.mk bJ.Key bJ.B bJ.A)

def lY(Io:Int)(oD:G.af)(uN:G.aa):Option (Bool):=
 if decide ((0:Int)≤Io) then
  if decide (Io<(Sh.len oD.aC)) then
   (Sh.idx oD.aC Io).bind fun x14=>
   (G.dJ x14.bH uN.Key).bind fun IF=>
   some IF
  else
   some false
 else
  some false

def uV(aQ:G.af)(bL:G.aa):Option (Bool):=
 if decide (bL.A≠bL.B) then
  (G.lY bL.A aQ bL).bind fun Ll=>
  if Ll then
   (G.lY bL.B aQ bL).bind fun IE=>
   some IE
  else
   some false
 else
  some false

def gQ(self:G.af→Int→(List G.aa)→G.aI→Option (G.aI×Bool))(aQ:G.af)(bf:Int)(gz:List G.aa)(ko:G.aI):Option (G.aI×Bool):=
 (G.dn ko).bind fun zl=>
 if decide ((0:Int)<(Sh.len zl.1.bR)) then
  if decide (zl.1.C=(G.aa.mk 0 0 0)) then
   (G.zG aQ bf gz zl.1.bR).bind fun r50=>
   some (zl.2,r50)
  else
   some (zl.2,false)
 else
  (G.eW gz).bind fun r52=>
  (Sh.app 24 r52 ([zl.1.C]:List G.aa)).bind fun l55=>
  (self aQ bf l55 zl.2).bind fun G7=>
  (G.AB zl.1.C).bind fun Z8=>
  (Sh.app 24 r52 ([Z8]:List G.aa)).bind fun l61=>
  (self aQ bf l61 G7.1).bind fun XC=>
  if G7.2 then
   if XC.2 then
    (G.uV aQ zl.1.C).bind fun r68=>
    some (XC.1,r68)
   else
    some (XC.1,false)
  else
   some (XC.1,false)

def gI:Nat→G.af→Int→(List G.aa)→G.aI→Option (G.aI×Bool)
 |0=>fun _ _ _ _=>none
 |n+1=>G.gQ (gI n)

def tL(aQ:G.af)(bf:Int)(gz:List G.aa)(ko:G.aI):Option (G.aI×Bool):=G.gI Sh.nU aQ bf gz ko

def fZ(aQ:G.af)(bf:Int)(gz:List G.aa)(dB:List G.au)(v20:Bool):Option (Bool):=
 if v20 then
  some false
 else
  (G.tL aQ bf gz (G.aI.mk dB)).bind fun Xx=>
  some Xx.2

def wv(aQ:G.af)(bf:Int)(gz:List G.aa)(dB:List G.au):Option (Bool):=
 (G.wz dB).bind fun yd=>
 if !yd.2.2 then
  G.fZ aQ bf gz dB true
 else
  (G.rO aQ).bind fun TV=>
  if !TV then
   G.fZ aQ bf gz dB true
  else
   if decide (bf≠0) then
    G.fZ aQ bf gz dB (decide (bf≠1))
   else
    G.fZ aQ bf gz dB false
end G
end

section
/- What the functions of a package compute, as plain functions. -/
open Go Go.Av
set_option linter.unusedVariables false
namespace G
def rC:Option (Bool):=
 some true

def nh(pe:Int):Option ((Int)⊕(Bool)):=
 Sh.next (dz (pe+1))

def ng(eM:List G.ak)(fK:List G.ak)(pe:Int)(JL:Int):Option ((Int)⊕((Int)⊕(Bool))):=
 (Sh.idx eM pe).bind fun RU=>
 if decide (JL<(Sh.len RU.bR)) then
  (Sh.idx eM pe).bind fun RV=>
  (Sh.idx RV.bR JL).bind fun Ql=>
  (Sh.idx fK pe).bind fun NW=>
  (Sh.idx NW.bR JL).bind fun Yt=>
  if decide (Ql≠Yt) then
   Sh.exit (Sh.exit (some false))
  else
   Sh.next (dz (JL+1))
 else
  Sh.exit (G.nh pe)

def ni(eM:List G.ak)(fK:List G.ak)(pe:Int)(Ya:Bool):Option ((Int)⊕(Bool)):=
 if Ya then
  Sh.exit (some false)
 else
  Sh.loop (fun(p:Int)=>G.ng eM fK pe p) 0

def m_(eM:List G.ak)(fK:List G.ak)(pe:Int):Option ((Int)⊕(Bool)):=
 if decide (pe<(Sh.len eM)) then
  (Sh.idx eM pe).bind fun LB=>
  (Sh.idx fK pe).bind fun LC=>
  if !decide (LB.C=LC.C) then
   G.ni eM fK pe true
  else
   (Sh.idx eM pe).bind fun KJ=>
   (Sh.idx fK pe).bind fun KK=>
   G.ni eM fK pe (decide ((Sh.len KJ.bR)≠(Sh.len KK.bR)))
 else
  Sh.exit (G.rC)

def rB(eM:List G.ak)(fK:List G.ak):Option (Bool):=
 if decide ((Sh.len eM)≠(Sh.len fK)) then
  some false
 else
  Sh.loop (fun(p:Int)=>G.m_ eM fK p) 0

def gv(self:(List G.ak)→Int→Option (Int))(eG:List G.ak)(eN:Int)(v10:Bool):Option (Int):=
 if v10 then
  some (-1)
 else
  (Sh.idx eG eN).bind fun x16=>
  if decide ((0:Int)<(Sh.len x16.bR)) then
   some (dz (eN+1))
  else
   (self eG (dz (eN+1))).bind fun xK=>
   (self eG xK).bind fun yA=>
   some yA

def gy(self:(List G.ak)→Int→Option (Int))(eG:List G.ak)(eN:Int):Option (Int):=
 if decide (eN<0) then
  G.gv self eG eN true
 else
  G.gv self eG eN (decide ((Sh.len eG)≤eN))

def fT:Nat→(List G.ak)→Int→Option (Int)
 |0=>fun _ _=>none
 |n+1=>G.gy (fT n)

def uw(eG:List G.ak)(eN:Int):Option (Int):=G.fT Sh.nU eG eN

def tr(eG:List G.ak):Option (Bool):=
 (G.uw eG 0).bind fun r5=>
 if decide ((0:Int)<(Sh.len eG)) then
  some (decide (r5=(Sh.len eG)))
 else
  some false

def jD(self:G.af→Int→(List G.aa)→(List G.ak)→Int→Option (Bool))(aQ:G.af)(bf:Int)(gz:List G.aa)(dB:List G.ak)(yZ:Int):Option (Bool):=
 (Sh.idx dB yZ).bind fun G8=>
 if decide ((0:Int)<(Sh.len G8.bR)) then
  (G.pN aQ bf gz G8.bR).bind fun Kl=>
  if Kl then
   some (decide (G8.C=(G.aa.mk 0 0 0)))
  else
   some false
 else
  (G.lR aQ G8.C).bind fun r28=>
  if !r28 then
   some false
  else
   (Sh.app 24 [] gz).bind fun JW=>
   (Sh.app 24 JW ([G8.C]:List G.aa)).bind fun wh=>
   (self aQ bf wh dB (dz (yZ+1))).bind fun r35=>
   if !r35 then
    some false
   else
    (G.nK G8.C).bind fun yx=>
    (Sh.idx wh (Sh.len gz)).bind fun x41=>
    (G.uw dB (dz (yZ+1))).bind fun yB=>
    (self aQ bf (Sh.set wh (Sh.len gz) yx) dB yB).bind fun DP=>
    some DP

def jC:Nat→G.af→Int→(List G.aa)→(List G.ak)→Int→Option (Bool)
 |0=>fun _ _ _ _ _=>none
 |n+1=>G.jD (jC n)

def vg(aQ:G.af)(bf:Int)(gz:List G.aa)(dB:List G.ak)(yZ:Int):Option (Bool):=G.jC Sh.nU aQ bf gz dB yZ

def dL(aQ:G.af)(bf:Int)(gz:List G.aa)(dB:List G.ak)(v19:Bool):Option (Bool):=
 if v19 then
  some false
 else
  (G.vg aQ bf gz dB 0).bind fun yA=>
  some yA

def pU(aQ:G.af)(bf:Int)(gz:List G.aa)(dB:List G.ak):Option (Bool):=
 (G.cn aQ).bind fun r9=>
 (G.tr dB).bind fun Ll=>
 if !r9 then
  G.dL aQ bf gz dB true
 else
  if !Ll then
   G.dL aQ bf gz dB true
  else
   if decide (bf≠0) then
    G.dL aQ bf gz dB (decide (bf≠1))
   else
    G.dL aQ bf gz dB false
end G
end

section
/- What the functions of a package compute, as plain functions. -/
open Go Go.Av
set_option linter.unusedVariables false
namespace G
def vw(yw:Int):Option (Unit):=
 some ()

def vv(cK:List Int)(wX:Int):Option ((List Int)):=
 (Sh.app 1 cK [wX]).bind fun l3=>
 some l3

def fO(v29:List Int)(v30:Int):Option ((List Int)):=
 (G.vv v29 (IntKind.u8.wrap v30)).bind fun y31=>
 some y31

def eT(Td:List Int)(v41:Int):Option (((List Int)×Int)⊕((List Int))):=
 if decide ((128:Int)≤v41) then
  (Sh.rem v41 128).bind fun Rq=>
  (G.vv Td (Sh.KU .u8 (IntKind.u8.wrap Rq) 128)).bind fun Uv=>
  (Sh.Tw .i64 v41 ((7#64).toNat:Int)).bind fun s49=>
  Sh.next (Uv,s49)
 else
  Sh.exit (G.fO Td v41)

def j7(cK:List Int)(bL:Int):Option ((List Int)):=
 Sh.loop (fun(p:(List Int)×Int)=>G.eT p.1 p.2) (cK,bL)

def xJ(cK:List Int)(wX:Int):Option ((List Int)):=
 (Sh.app 1 cK [wX]).bind fun l3=>
 some l3

def ku(v29:List Int)(v30:Int):Option ((List Int)):=
 (G.xJ v29 (IntKind.u8.wrap v30)).bind fun y31=>
 some y31

def kr(Td:List Int)(v41:Int):Option (((List Int)×Int)⊕((List Int))):=
 if decide ((128:Int)≤v41) then
  (Sh.rem v41 128).bind fun Rq=>
  (G.xJ Td (Sh.KU .u8 (IntKind.u8.wrap Rq) 128)).bind fun Uv=>
  (Sh.Tw .i64 v41 ((7#64).toNat:Int)).bind fun s49=>
  Sh.next (Uv,s49)
 else
  Sh.exit (G.ku Td v41)

def iS(cK:List Int)(bL:Int):Option ((List Int)):=
 Sh.loop (fun(p:(List Int)×Int)=>G.kr p.1 p.2) (cK,bL)

def Aw(IL:List Int):Option ((List UInt8)×Int):=
 some (Sh.str IL,0)

def ya(yS:List Int)(v80:Int)(Qn:Int)(v96:Bool):Option (((List Int)×Int)⊕((List UInt8)×Int)):=
 if v96 then
  Sh.exit (some ([],1))
 else
  (G.vw (dz (Qn+1))).bind fun r99=>
  (G.iS yS (dz (Qn+1))).bind fun Ia=>
  Sh.next (Ia,dz (v80+1))

def rF(cK:List Int)(yS:List Int)(v80:Int):Option (((List Int)×Int)⊕((List UInt8)×Int)):=
 if decide (v80<(Sh.len cK)) then
  (Sh.idx cK v80).bind fun Qn=>
  if decide (Qn<(-1)) then
   G.ya yS v80 Qn true
  else
   G.ya yS v80 Qn (decide ((2147483647:Int)<Qn))
 else
  Sh.exit (G.Aw yS)

def DK(cK:List Int):Option ((List UInt8)×Int):=
 if decide ((100000:Int)<(Sh.len cK)) then
  some ([],4)
 else
  (G.vw (Sh.len cK)).bind fun Az=>
  (G.j7 [] (Sh.len cK)).bind fun O3=>
  Sh.loop (fun(p:(List Int)×Int)=>G.rF cK p.1 p.2) (O3,0)

def y_:Option (Int×(List UInt8)×Int):=
 some (0,[],2)

def s7(b8:List UInt8)(n63:Int)(i65:Int)(Qt:Int)(v91:Bool):Option ((Int×Int)⊕(Int×(List UInt8)×Int)):=
 if v91 then
  Sh.exit (some (0,[],2))
 else
  (Sh.sub b8 (dz (i65+1)) (Sh.len b8)).bind fun Nt=>
  Sh.exit (some (Sh.KU .i64 n63 Qt,Nt,0))

def rG(b8:List UInt8)(zR:Int)(n63:Int)(i65:Int):Option ((Int×Int)⊕(Int×(List UInt8)×Int)):=
 if decide (i65<5) then
  if decide (i65=(Sh.len b8)) then
   Sh.exit (some (0,[],16))
  else
   (Sh.idx b8 i65).bind fun x78=>
   (Sh.WA .i64 (dz (Sh.Tc .u8 ((x78).toNat:Int) 127)) (dz (7*i65))).bind fun Qt=>
   (Sh.idx b8 i65).bind fun x82=>
   if decide ((128:Int)≤((x82).toNat:Int)) then
    Sh.next (Sh.KU .i64 n63 Qt,dz (i65+1))
   else
    if decide ((0:Int)<i65) then
     (Sh.idx b8 i65).bind fun x96=>
     if decide (((x96).toNat:Int)=0) then
      G.s7 b8 n63 i65 Qt true
     else
      G.s7 b8 n63 i65 Qt (decide (zR<(Sh.KU .i64 n63 Qt)))
    else
     G.s7 b8 n63 i65 Qt (decide (zR<(Sh.KU .i64 n63 Qt)))
 else
  Sh.exit (G.y_)

def vz(b8:List UInt8)(zR:Int):Option (Int×(List UInt8)×Int):=
 Sh.loop (fun(p:Int×Int)=>G.rG b8 zR p.1 p.2) (0,0)

def x_(s29:List UInt8)(J1:List Int):Option ((List Int)×Int):=
 if !decide (s29=[]) then
  some ([],2)
 else
  some (J1,0)

def ug(yd:Int×(List UInt8)×Int)(s39:List UInt8)(DJ:List Int)(v41:Int):Option (((List UInt8)×(List Int)×Int)⊕((List Int)×Int)):=
 if decide (v41<yd.1) then
  (G.vz s39 2147483648).bind fun DP=>
  if decide (DP.2.2≠0) then
   Sh.exit (some ([],DP.2.2))
  else
   (Sh.app 8 DJ [dz (DP.1 - 1)]).bind fun Mg=>
   Sh.next (DP.2.1,Mg,dz (v41+1))
 else
  Sh.exit (G.x_ s39 DJ)

def Bk(b8:List UInt8):Option ((List Int)×Int):=
 (G.vz b8 100000).bind fun yd=>
 if decide (yd.2.2≠0) then
  some ([],yd.2.2)
 else
  Sh.loop (fun(p:(List UInt8)×(List Int)×Int)=>G.ug yd p.1 p.2.1 p.2.2) (yd.2.1,[],0)
end G
end

section
/- What the functions of a package compute, as plain functions. -/
open Go Go.Av
set_option linter.unusedVariables false
namespace G
def rM(cK:List Int)(di:List Int):Option ((List Int)):=
 (Sh.app 8 di [Sh.len cK]).bind fun l4=>
 (Sh.app 8 l4 cK).bind fun l5=>
 some l5

def xT(v81:List Int):Option ((List UInt8)×Int):=
 (G.DK v81).bind fun YG=>
 some (YG.1,YG.2)

def xQ(bJ:G.bh)(J8:List Int)(v95:Int):Option (((List Int)×Int)⊕((List UInt8)×Int)):=
 if decide (v95<(Sh.len bJ.Tree)) then
  (Sh.idx bJ.Tree v95).bind fun yJ=>
  (Sh.app 8 J8 [yJ.C.Key,yJ.C.A,yJ.C.B]).bind fun Nc=>
  (G.rM yJ.bR Nc).bind fun TQ=>
  Sh.next (TQ,dz (v95+1))
 else
  Sh.exit (G.xT J8)

def xS(bJ:G.bh)(IL:List Int):Option ((List UInt8)×Int):=
 (Sh.app 8 IL [Sh.len bJ.Tree]).bind fun l64=>
 Sh.loop (fun(p:(List Int)×Int)=>G.xQ bJ p.1 p.2) (l64,0)

def xR(bJ:G.bh)(FE:List Int)(RO:Int):Option (((List Int)×Int)⊕((List UInt8)×Int)):=
 if decide (RO<(Sh.len bJ.Rows)) then
  (Sh.idx bJ.Rows RO).bind fun G5=>
  (Sh.app 8 FE [G5.Key]).bind fun Nd=>
  (G.rM G5.L Nd).bind fun Kg=>
  Sh.next (Kg,dz (RO+1))
 else
  Sh.exit (G.xS bJ FE)

def vp(bJ:G.bh)(SZ:Int):Option ((List UInt8)×Int):=
 (Sh.app 8 [] [bJ.Level,SZ]).bind fun l41=>
 (G.rM bJ.Order l41).bind fun Lm=>
 (Sh.app 8 Lm [Sh.len bJ.Rows]).bind fun l45=>
 Sh.loop (fun(p:(List Int)×Int)=>G.xR bJ p.1 p.2) (l45,0)

def zD(bJ:G.bh):Option ((List UInt8)×Int):=
 if bJ.j9 then
  G.vp bJ 1
 else
  G.vp bJ 0

def iK(bJ:List Int)(bL:Bool):Option ((List Int)×Bool×Int):=
 if decide ((Sh.len bJ)=0) then
  some (bJ,false,0)
 else
  (Sh.idx bJ 0).bind fun x10=>
  (Sh.sub bJ 1 (Sh.len bJ)).bind fun zU=>
  some (zU,bL,x10)

def si(r8:(List Int)×Bool×Int)(c10:Bool):Option (Int×Bool×(List Int)):=
 some (r8.2.2,c10,r8.1)

def oQ(bJ:Bool)(bL:List Int):Option (Int×Bool×(List Int)):=
 (G.iK bL bJ).bind fun r8=>
 if r8.2.1 then
  G.si r8 (decide ((0:Int)≤r8.2.2))
 else
  G.si r8 false

def uu(l52:List Int)(v53:Bool)(v54:List Int):Option ((List Int)×Bool×(List Int)):=
 some (l52,v53,v54)

def lH(Yy:List Int)(Uy:List Int)(n74:Int)(c79:Bool)(v80:Bool):Option ((Bool×(List Int)×(List Int)×Int)⊕((List Int)×Bool×(List Int))):=
 if v80 then
  (G.iK Yy c79).bind fun Qs=>
  (Sh.app 8 Uy [Qs.2.2]).bind fun l85=>
  Sh.next (Qs.2.1,Qs.1,l85,dz (n74 - 1))
 else
  Sh.exit (G.uu Uy c79 Yy)

def je(c71:Bool)(Yy:List Int)(Uy:List Int)(n74:Int):Option ((Bool×(List Int)×(List Int)×Int)⊕((List Int)×Bool×(List Int))):=
 if c71 then
  G.lH Yy Uy n74 true (decide ((0:Int)<n74))
 else
  G.lH Yy Uy n74 false false

def rL(bJ:Bool)(bL:List Int):Option ((List Int)×Bool×(List Int)):=
 (G.oQ bJ bL).bind fun G7=>
 Sh.loop (fun(p:Bool×(List Int)×(List Int)×Int)=>G.je p.1 p.2.1 p.2.2.1 p.2.2.2) (G7.2.1,G7.2.2,[],G7.1)

def xP(sL:(List Int)×Bool×Int)(qw:Int×Bool×(List Int))(oN:(List Int)×Bool×(List Int))(v109:List G.aP)(v145:List G.au)(amY:Bool):Option (G.bh×Int):=
 if amY then
  some ((G.bh.mk 0 false [] [] []),2)
 else
  some ((G.bh.mk sL.2.2 (decide (qw.1=1)) oN.1 v109 v145),0)

def sI(sL:(List Int)×Bool×Int)(qw:Int×Bool×(List Int))(oN:(List Int)×Bool×(List Int))(v109:List G.aP)(v143:List Int)(aft:Bool)(v145:List G.au):Option (G.bh×Int):=
 if !aft then
  G.xP sL qw oN v109 v145 true
 else
  G.xP sL qw oN v109 v145 (decide ((0:Int)<(Sh.len v143)))

def vn(sL:(List Int)×Bool×Int)(qw:Int×Bool×(List Int))(oN:(List Int)×Bool×(List Int))(v109:List G.aP)(xH:List Int)(fe:List G.au)(n177:Int)(Gs:Bool)(v183:Bool):Option (((List Int)×Bool×(List G.au)×Int)⊕(G.bh×Int)):=
 if v183 then
  (G.iK xH Gs).bind fun vL=>
  (G.iK vL.1 vL.2.1).bind fun zV=>
  (G.iK zV.1 zV.2.1).bind fun Bn=>
  (G.rL Bn.2.1 Bn.1).bind fun CX=>
  (Sh.app 48 fe ([(G.au.mk (G.aa.mk vL.2.2 zV.2.2 Bn.2.2) CX.1)]:List G.au)).bind fun Q7=>
  Sh.next (CX.2.2,CX.2.1,Q7,dz (n177 - 1))
 else
  Sh.exit (G.sI sL qw oN v109 xH Gs fe)

def oR(sL:(List Int)×Bool×Int)(qw:Int×Bool×(List Int))(oN:(List Int)×Bool×(List Int))(v109:List G.aP)(xH:List Int)(I7:Bool)(fe:List G.au)(n177:Int):Option (((List Int)×Bool×(List G.au)×Int)⊕(G.bh×Int)):=
 if I7 then
  G.vn sL qw oN v109 xH fe n177 true (decide ((0:Int)<n177))
 else
  G.vn sL qw oN v109 xH fe n177 false false

def oS(sL:(List Int)×Bool×Int)(qw:Int×Bool×(List Int))(oN:(List Int)×Bool×(List Int))(v107:List Int)(afs:Bool)(v109:List G.aP):Option (G.bh×Int):=
 (G.oQ afs v107).bind fun Ki=>
 Sh.loop (fun(p:(List Int)×Bool×(List G.au)×Int)=>G.oR sL qw oN v109 p.1 p.2.1 p.2.2.1 p.2.2.2) (Ki.2.2,Ki.2.1,[],Ki.1)

def vo(sL:(List Int)×Bool×Int)(qw:Int×Bool×(List Int))(oN:(List Int)×Bool×(List Int))(xI:List Int)(kF:List G.aP)(n221:Int)(Gt:Bool)(v227:Bool):Option (((List Int)×Bool×(List G.aP)×Int)⊕(G.bh×Int)):=
 if v227 then
  (G.iK xI Gt).bind fun GK=>
  (G.rL GK.2.1 GK.1).bind fun DO=>
  (Sh.app 32 kF ([(G.aP.mk GK.2.2 DO.1)]:List G.aP)).bind fun Q8=>
  Sh.next (DO.2.2,DO.2.1,Q8,dz (n221 - 1))
 else
  Sh.exit (G.oS sL qw oN xI Gt kF)

def mz(sL:(List Int)×Bool×Int)(qw:Int×Bool×(List Int))(oN:(List Int)×Bool×(List Int))(xI:List Int)(I8:Bool)(kF:List G.aP)(n221:Int):Option (((List Int)×Bool×(List G.aP)×Int)⊕(G.bh×Int)):=
 if I8 then
  G.vo sL qw oN xI kF n221 true (decide ((0:Int)<n221))
 else
  G.vo sL qw oN xI kF n221 false false

def qM(sL:(List Int)×Bool×Int)(qw:Int×Bool×(List Int))(QO:Bool):Option (G.bh×Int):=
 (G.rL QO qw.2.2).bind fun oN=>
 (G.oQ oN.2.1 oN.2.2).bind fun Kk=>
 Sh.loop (fun(p:(List Int)×Bool×(List G.aP)×Int)=>G.mz sL qw oN p.1 p.2.1 p.2.2.1 p.2.2.2) (Kk.2.2,Kk.2.1,[],Kk.1)

def uO(b8:List UInt8):Option (G.bh×Int):=
 (G.Bk b8).bind fun UA=>
 if decide (UA.2≠0) then
  some ((G.bh.mk 0 false [] [] []),UA.2)
 else
  (G.iK UA.1 true).bind fun sL=>
  (G.oQ sL.2.1 sL.1).bind fun qw=>
  if qw.2.1 then
   G.qM sL qw (decide (qw.1≤1))
  else
   G.qM sL qw false

def Ap(bf:Int)(cOrder7:List Int)(Fl:List G.aP):Option (G.bh):=
 some (G.bh.mk bf true cOrder7 Fl [])

def zF(aQ:G.af)(bf:Int)(j6:List Int):Option (G.bh):=
 if decide (bf=0) then
  (G.jH j6).bind fun Qp=>
  G.Ap bf Qp []
 else
  (G.GX aQ j6).bind fun Ll=>
  G.Ap bf [] Ll

def BO(jL:Int)(v33:List G.au):Option (G.bh):=
 some (G.bh.mk jL false [] [] v33)

def zC(jL:Int)(ta:List G.au)(Ao:List G.au)(v45:Int):Option (((List G.au)×Int)⊕(G.bh)):=
 if decide (v45<(Sh.len ta)) then
  (Sh.idx ta v45).bind fun LD=>
  (G.jH LD.bR).bind fun r55=>
  (Sh.app 48 Ao ([(G.au.mk (G.aa.mk LD.C.Key LD.C.A LD.C.B) r55)]:List G.au)).bind fun l56=>
  Sh.next (l56,dz (v45+1))
 else
  Sh.exit (G.BO jL Ao)

def BN(jL:Int)(ta:List G.au):Option (G.bh):=
 Sh.loop (fun(p:(List G.au)×Int)=>G.zC jL ta p.1 p.2) ([],0)

def vb(aQ:G.af)(bL:G.bh):Option (Bool):=
 if !bL.j9 then
  if decide ((Sh.len bL.Order)=0) then
   if decide ((Sh.len bL.Rows)=0) then
    (G.wv aQ bL.Level [] bL.Tree).bind fun r31=>
    some r31
   else
    some false
  else
   some false
 else
  if decide (bL.Level=0) then
   if decide ((Sh.len bL.Rows)=0) then
    if decide ((Sh.len bL.Tree)=0) then
     (G.Br aQ bL.Order).bind fun r38=>
     some r38
    else
     some false
   else
    some false
  else
   if decide (bL.Level=1) then
    if decide ((Sh.len bL.Order)=0) then
     if decide ((Sh.len bL.Tree)=0) then
      (G.Bt aQ bL.Rows).bind fun yB=>
      some yB
     else
      some false
    else
     some false
   else
    some false
end G
end

section
/- What the functions of a package compute, as plain functions. -/
open Go Go.Av
set_option linter.unusedVariables false
namespace G
def jE(self:Int→Option ((List UInt8)))(yw:Int):Option ((List UInt8)):=
 if decide (yw<128) then
  some (Sh.str [IntKind.u8.wrap yw])
 else
  (Sh.rem yw 128).bind fun q10=>
  (Sh.quo dz yw 128).bind fun q11=>
  (self q11).bind fun Cs=>
  (Sh.cat (Sh.str [IntKind.u8.wrap (dz (128+q10))]) Cs).bind fun s13=>
  some s13

def nj:Nat→Int→Option ((List UInt8))
 |0=>fun _=>none
 |n+1=>G.jE (nj n)

def s4(yw:Int):Option ((List UInt8)):=G.nj Sh.nU yw

def rX(J7:List UInt8):Option ((List UInt8)×Int):=
 some (J7,0)

def ov(cK:List Int)(GD:List UInt8)(i97:Int)(amV:Bool):Option (((List UInt8)×Int)⊕((List UInt8)×Int)):=
 if amV then
  Sh.exit (some ([],1))
 else
  (Sh.idx cK i97).bind fun RT=>
  (G.s4 (dz (RT+1))).bind fun PA=>
  (Sh.cat GD PA).bind fun afj=>
  Sh.next (afj,dz (i97+1))

def fC(cK:List Int)(GD:List UInt8)(i97:Int):Option (((List UInt8)×Int)⊕((List UInt8)×Int)):=
 if decide (i97<(Sh.len cK)) then
  (Sh.idx cK i97).bind fun IP=>
  if decide (IP<(-1)) then
   G.ov cK GD i97 true
  else
   (Sh.idx cK i97).bind fun NR=>
   G.ov cK GD i97 (decide ((2147483647:Int)<NR))
 else
  Sh.exit (G.rX GD)

def sv(cK:List Int):Option ((List UInt8)×Int):=
 if decide ((100000:Int)<(Sh.len cK)) then
  some ([],4)
 else
  (G.s4 (Sh.len cK)).bind fun r38=>
  Sh.loop (fun(p:(List UInt8)×Int)=>G.fC cK p.1 p.2) (r38,0)

def iw(z_:Int)(TH:Int)(v64:Bool):Option (Int×Int×Int):=
 if v64 then
  some (0,0,2)
 else
  some (TH,dz (z_+1),0)

def ow(b8:List UInt8)(eN:Int)(j5:Int)(z_:Int)(TH:Int):Option (Int×Int×Int):=
 if decide (eN<z_) then
  (Sh.idx b8 z_).bind fun x67=>
  if decide (((x67).toNat:Int)=0) then
   G.iw z_ TH true
  else
   G.iw z_ TH (decide (j5<TH))
 else
  G.iw z_ TH (decide (j5<TH))

def kg(b8:List UInt8)(eN:Int)(j5:Int)(z_:Int)(n75:Int)(i76:Int):Option ((Int×Int)⊕(Int×Int×Int)):=
 if decide (eN≤i76) then
  (Sh.idx b8 i76).bind fun x80=>
  (Sh.rem (dz ((x80).toNat:Int)) 128).bind fun q81=>
  Sh.next (dz ((dz (128*n75))+q81),dz (i76 - 1))
 else
  Sh.exit (G.ow b8 eN j5 z_ n75)

def eU(b8:List UInt8)(eN:Int)(j5:Int)(z_:Int):Option (Int×Int×Int):=
 if decide (z_=(dz (eN+5))) then
  some (0,0,2)
 else
  if decide (z_=(Sh.len b8)) then
   some (0,0,16)
  else
   Sh.loop (fun(p:Int×Int)=>G.kg b8 eN j5 z_ p.1 p.2) (0,z_)

def iy(b8:List UInt8)(eN:Int)(j5:Int)(FU:Int)(v99:Bool):Option ((Int)⊕(Int×Int×Int)):=
 if v99 then
  Sh.next (dz (FU+1))
 else
  Sh.exit (G.eU b8 eN j5 FU)

def gw(b8:List UInt8)(eN:Int)(j5:Int)(FU:Int):Option ((Int)⊕(Int×Int×Int)):=
 if decide (FU<(Sh.len b8)) then
  (Sh.idx b8 FU).bind fun Qj=>
  if decide ((128:Int)≤((Qj).toNat:Int)) then
   G.iy b8 eN j5 FU (decide (FU<(dz (eN+5))))
  else
   G.iy b8 eN j5 FU false
 else
  G.iy b8 eN j5 FU false

def lT(b8:List UInt8)(eN:Int)(j5:Int):Option (Int×Int×Int):=
 Sh.loop (fun(p:Int)=>G.gw b8 eN j5 p) eN

def ou(b8:List UInt8)(agD:Int)(J1:List Int):Option ((List Int)×Int):=
 if decide (agD<(Sh.len b8)) then
  some ([],2)
 else
  some (J1,0)

def iu(b8:List UInt8)(yd:Int×Int×Int)(YU:Int)(DJ:List Int)(i41:Int):Option ((Int×(List Int)×Int)⊕((List Int)×Int)):=
 if decide (i41<yd.1) then
  (G.lT b8 YU 2147483648).bind fun DP=>
  if decide (DP.2.2≠0) then
   Sh.exit (some ([],DP.2.2))
  else
   (Sh.app 8 DJ [dz (DP.1 - 1)]).bind fun Mh=>
   Sh.next (DP.2.1,Mh,dz (i41+1))
 else
  Sh.exit (G.ou b8 YU DJ)

def o5(b8:List UInt8):Option ((List Int)×Int):=
 (G.lT b8 0 100000).bind fun yd=>
 if decide (yd.2.2≠0) then
  some ([],yd.2.2)
 else
  Sh.loop (fun(p:Int×(List Int)×Int)=>G.iu b8 yd p.1 p.2.1 p.2.2) (yd.2.1,[],0)
end G
end

section
/- What the functions of a package compute, as plain functions. -/
open Go Go.Av
set_option linter.unusedVariables false
namespace G
def qQ:Option (Bool):=
 some true

def mB(eM:List Int)(fK:List Int)(i39:Int):Option ((Int)⊕(Bool)):=
 if decide (i39<(Sh.len eM)) then
  (Sh.idx eM i39).bind fun Qm=>
  (Sh.idx fK i39).bind fun KW=>
  if decide (Qm≠KW) then
   Sh.exit (some false)
  else
   Sh.next (dz (i39+1))
 else
  Sh.exit (G.qQ)

def qP(eM:List Int)(fK:List Int):Option (Bool):=
 if decide ((Sh.len eM)≠(Sh.len fK)) then
  some false
 else
  Sh.loop (fun(p:Int)=>G.mB eM fK p) 0
end G
end

section
/- What the functions of a package compute, as plain functions. -/
open Go Go.Av
set_option linter.unusedVariables false
namespace G
def iA(eM:G.aY)(fK:G.aY):Option (Bool):=
 (G.qP eM.Order fK.Order).bind fun Qp=>
 (G.rz eM.Rows fK.Rows).bind fun Cs=>
 (G.rB eM.Tree fK.Tree).bind fun YE=>
 if decide (eM.Level=fK.Level) then
  if eM.j9==fK.j9 then
   if Qp then
    if Cs then
     some YE
    else
     some false
   else
    some false
  else
   some false
 else
  some false

def qu(GF:List Int):Option ((List Int)):=
 some GF

def lC(cK:List G.ak)(JY:List Int)(i133:Int):Option (((List Int)×Int)⊕((List Int))):=
 if decide (i133<(Sh.len cK)) then
  (Sh.idx cK i133).bind fun NT=>
  (Sh.app 8 JY [NT.C.Key]).bind fun FG=>
  (Sh.idx cK i133).bind fun NU=>
  (Sh.app 8 FG [NU.C.A]).bind fun FH=>
  (Sh.idx cK i133).bind fun Yl=>
  (Sh.app 8 FH [Yl.C.B]).bind fun FI=>
  (Sh.idx cK i133).bind fun NV=>
  (Sh.app 8 FI [Sh.len NV.bR]).bind fun FJ=>
  (Sh.idx cK i133).bind fun afC=>
  (Sh.app 8 FJ afC.bR).bind fun HA=>
  Sh.next (HA,dz (i133+1))
 else
  Sh.exit (G.qu JY)

def lU(cK:List G.ak):Option ((List Int)):=
 Sh.loop (fun(p:(List Int)×Int)=>G.lC cK p.1 p.2) ([Sh.len cK],0)

def nq(bJ:G.aY)(J7:List Int):Option ((List Int)):=
 (G.lU bJ.Tree).bind fun YF=>
 (Sh.app 8 J7 YF).bind fun l77=>
 some l77

def nk(bJ:G.aY)(Ie:List Int)(i99:Int):Option (((List Int)×Int)⊕((List Int))):=
 if decide (i99<(Sh.len bJ.Rows)) then
  (Sh.idx bJ.Rows i99).bind fun IN=>
  (Sh.app 8 Ie [IN.Key]).bind fun wm=>
  (Sh.idx bJ.Rows i99).bind fun Lz=>
  (Sh.app 8 wm [Sh.len Lz.L]).bind fun FF=>
  (Sh.idx bJ.Rows i99).bind fun RT=>
  (Sh.app 8 FF RT.L).bind fun Hy=>
  Sh.next (Hy,dz (i99+1))
 else
  Sh.exit (G.nq bJ Ie)

def jF(bJ:G.aY)(Qo:Int):Option ((List Int)):=
 (Sh.app 8 [bJ.Level,Qo,Sh.len bJ.Order] bJ.Order).bind fun zT=>
 (Sh.app 8 zT [Sh.len bJ.Rows]).bind fun GB=>
 Sh.loop (fun(p:(List Int)×Int)=>G.nk bJ p.1 p.2) (GB,0)

def jZ(bJ:G.aY):Option ((List Int)):=
 if bJ.j9 then
  G.jF bJ 1
 else
  G.jF bJ 0

def sw(bJ:G.aY):Option ((List UInt8)×Int):=
 (G.jZ bJ).bind fun r5=>
 (G.sv r5).bind fun r6=>
 some (r6.1,r6.2)

def j0(cK:List Int)(eN:Int)(v8:Bool):Option (Int):=
 if v8 then
  some (-1)
 else
  (Sh.idx cK eN).bind fun x12=>
  some x12

def fD(cK:List Int)(eN:Int):Option (Int):=
 if decide (eN<0) then
  G.j0 cK eN true
 else
  G.j0 cK eN (decide ((Sh.len cK)≤eN))

def oz(cK:List Int)(eN:Int)(r6:Int)(v10:Bool):Option ((List Int)×Int):=
 if v10 then
  some ([],(-1))
 else
  (Sh.sub cK (dz (eN+1)) (dz ((dz (eN+1))+r6))).bind fun zU=>
  some (zU,dz ((dz (eN+1))+r6))

def lV(cK:List Int)(eN:Int):Option ((List Int)×Int):=
 (G.fD cK eN).bind fun r6=>
 if decide (r6<0) then
  G.oz cK eN r6 true
 else
  G.oz cK eN r6 (decide ((dz ((dz ((Sh.len cK) - eN)) - 1))<r6))

def nu(GC:List G.ak)(afr:Int):Option ((List G.ak)×Int):=
 some (GC,afr)

def fN(cK:List Int)(Qq:Int)(Pn:List G.ak)(Qc:Int)(i88:Int):Option (((List G.ak)×Int×Int)⊕((List G.ak)×Int)):=
 if decide (i88<Qq) then
  if decide ((Sh.len cK)<(dz (Qc+4))) then
   Sh.exit (some ([],(-1)))
  else
   (G.lV cK (dz (Qc+3))).bind fun Lk=>
   if decide (Lk.2<0) then
    Sh.exit (some ([],(-1)))
   else
    (Sh.idx cK Qc).bind fun Uo=>
    (Sh.idx cK (dz (Qc+1))).bind fun NQ=>
    (Sh.idx cK (dz (Qc+2))).bind fun IN=>
    (Sh.app 48 Pn ([(G.ak.mk (G.aa.mk Uo NQ IN) Lk.1)]:List G.ak)).bind fun wm=>
    Sh.next (wm,Lk.2,dz (i88+1))
 else
  Sh.exit (G.nu Pn Qc)

def rE(cK:List Int)(eN:Int):Option ((List G.ak)×Int):=
 (G.fD cK eN).bind fun Qq=>
 if decide (Qq<0) then
  some ([],(-1))
 else
  Sh.loop (fun(p:(List G.ak)×Int×Int)=>G.fN cK Qq p.1 p.2.1 p.2.2) ([],dz (eN+1),0)

def lB(cK:List Int)(Ai:Int)(r32:(List Int)×Int)(Ew:Int)(YV:Int)(v67:List G.aj):Option (G.aY×Bool):=
 (G.rE cK YV).bind fun PE=>
 some ((G.aY.mk Ew (decide (Ai=1)) r32.1 v67 PE.1),decide (PE.2=(Sh.len cK)))

def fq(cK:List Int)(Ai:Int)(r32:(List Int)×Int)(Az:Int)(Ew:Int)(UO:Int)(D6:List G.aj)(i83:Int):Option ((Int×(List G.aj)×Int)⊕(G.aY×Bool)):=
 if decide (i83<Az) then
  (G.lV cK (dz (UO+1))).bind fun YH=>
  if decide (YH.2<0) then
   Sh.exit (some ((G.aY.mk 0 false [] [] []),false))
  else
   (Sh.idx cK UO).bind fun x95=>
   (Sh.app 32 D6 ([(G.aj.mk x95 YH.1)]:List G.aj)).bind fun l97=>
   Sh.next (YH.2,l97,dz (i83+1))
 else
  Sh.exit (G.lB cK Ai r32 Ew UO D6)

def fA(cK:List Int)(Ai:Int)(r32:(List Int)×Int)(Az:Int)(v42:Bool):Option (G.aY×Bool):=
 if v42 then
  some ((G.aY.mk 0 false [] [] []),false)
 else
  (Sh.idx cK 0).bind fun Ew=>
  Sh.loop (fun(p:Int×(List G.aj)×Int)=>G.fq cK Ai r32 Az Ew p.1 p.2.1 p.2.2) (dz (r32.2+1),[],0)

def pW(cK:List Int):Option (G.aY×Bool):=
 (G.fD cK 1).bind fun Ai=>
 (G.lV cK 2).bind fun r32=>
 (G.fD cK r32.2).bind fun Az=>
 if decide (Ai<0) then
  G.fA cK Ai r32 Az true
 else
  if decide ((1:Int)<Ai) then
   G.fA cK Ai r32 Az true
  else
   if decide (r32.2<0) then
    G.fA cK Ai r32 Az true
   else
    G.fA cK Ai r32 Az (decide (Az<0))

def o6(b8:List UInt8):Option (G.aY×Int):=
 (G.o5 b8).bind fun r4=>
 if decide (r4.2≠0) then
  some ((G.aY.mk 0 false [] [] []),r4.2)
 else
  (G.pW r4.1).bind fun r7=>
  if !r7.2 then
   some ((G.aY.mk 0 false [] [] []),2)
  else
   some ((G.aY.mk r7.1.Level r7.1.j9 r7.1.Order r7.1.Rows r7.1.Tree),0)

def pV(aQ:G.af)(bL:G.aY):Option (Bool):=
 if !bL.j9 then
  (G.pU aQ bL.Level [] bL.Tree).bind fun yd=>
  if yd then
   some (decide ((dz ((Sh.len bL.Order)+(Sh.len bL.Rows)))=0))
  else
   some false
 else
  if decide (bL.Level=0) then
   (G.pR aQ bL.Order).bind fun Xx=>
   if Xx then
    some (decide ((dz ((Sh.len bL.Rows)+(Sh.len bL.Tree)))=0))
   else
    some false
  else
   if decide (bL.Level≠1) then
    some false
   else
    (G.pT aQ bL.Rows).bind fun r28=>
    if r28 then
     some (decide ((dz ((Sh.len bL.Order)+(Sh.len bL.Tree)))=0))
    else
     some false

def sx(aQ:G.af)(bf:Int)(j6:List Int):Option (G.aY):=
 if decide (bf=0) then
  some (G.aY.mk bf true j6 [] [])
 else
  (G.nR aQ j6).bind fun r4=>
  some (G.aY.mk bf true [] r4 [])
end G
end

section
/- What the functions of a package compute, as plain functions. -/
open Go Go.Av
set_option linter.unusedVariables false
namespace G
def p9(bJ:G.bh)(v58:List G.aj)(v78:List G.ak):Option (G.aY):=
 some (G.aY.mk bJ.Level bJ.j9 bJ.Order v58 v78)

def kG(bJ:G.bh)(v58:List G.aj)(outTree91:List G.ak)(i92:Int):Option (((List G.ak)×Int)⊕(G.aY)):=
 if decide (i92<(Sh.len bJ.Tree)) then
  (Sh.idx bJ.Tree i92).bind fun SY=>
  (Sh.idx bJ.Tree i92).bind fun Un=>
  (Sh.app 48 outTree91 ([(G.ak.mk (G.aa.mk SY.C.Key SY.C.A SY.C.B) Un.bR)]:List G.ak)).bind fun Q5=>
  Sh.next (Q5,dz (i92+1))
 else
  Sh.exit (G.p9 bJ v58 outTree91)

def kI(bJ:G.bh)(v58:List G.aj):Option (G.aY):=
 Sh.loop (fun(p:(List G.ak)×Int)=>G.kG bJ v58 p.1 p.2) ([],0)

def kH(bJ:G.bh)(outRows116:List G.aj)(i117:Int):Option (((List G.aj)×Int)⊕(G.aY)):=
 if decide (i117<(Sh.len bJ.Rows)) then
  (Sh.idx bJ.Rows i117).bind fun LA=>
  (Sh.idx bJ.Rows i117).bind fun IP=>
  (Sh.app 32 outRows116 ([(G.aj.mk LA.Key IP.L)]:List G.aj)).bind fun Q6=>
  Sh.next (Q6,dz (i117+1))
 else
  Sh.exit (G.kI bJ outRows116)

def eO(bJ:G.bh):Option (G.aY):=
 Sh.loop (fun(p:(List G.aj)×Int)=>G.kH bJ p.1 p.2) ([],0)

def sP:Option (Bool):=
 (G.zF (G.af.mk ([(G.ai.mk 1 [] ([(G.an.mk 0 1)]:List G.an)),(G.ai.mk 0 [0] [])]:List G.ai)) 0 [1,0]).bind fun E9=>
 (G.zD E9).bind fun xK=>
 (G.uO xK.1).bind fun yA=>
 (G.BN 0 []).bind fun Kl=>
 if decide (xK.2=0) then
  if decide (xK.1=([7,1,2,3,2,1,1,1]:List UInt8)) then
   if decide (yA.2=0) then
    (G.eO E9).bind fun r39=>
    (G.eO yA.1).bind fun yx=>
    (G.iA r39 yx).bind fun Qr=>
    if Qr then
     (G.vb (G.af.mk ([(G.ai.mk 1 [] ([(G.an.mk 0 1)]:List G.an)),(G.ai.mk 0 [0] [])]:List G.ai)) E9).bind fun Lm=>
     if Lm then
      (G.vb (G.af.mk ([(G.ai.mk 1 [] ([(G.an.mk 0 1)]:List G.an)),(G.ai.mk 0 [0] [])]:List G.ai)) Kl).bind fun yB=>
      if !yB then
       some (!Kl.j9)
      else
       some false
     else
      some false
    else
     some false
   else
    some false
  else
   some false
 else
  some false

def rT:Option (Bool):=
 some true

def n_(bJ:G.bh)(i49:Int):Option ((Int)⊕(Bool)):=
 if decide (i49<(Sh.len bJ.Tree)) then
  (Sh.idx bJ.Tree i49).bind fun x55=>
  if decide ((40:Int)<(Sh.len x55.bR)) then
   Sh.exit (some false)
  else
   Sh.next (dz (i49+1))
 else
  Sh.exit (G.rT)

def oc(bJ:G.bh):Option (Bool):=
 Sh.loop (fun(p:Int)=>G.n_ bJ p) 0

def oa(bJ:G.bh)(i63:Int):Option ((Int)⊕(Bool)):=
 if decide (i63<(Sh.len bJ.Rows)) then
  (Sh.idx bJ.Rows i63).bind fun x69=>
  if decide ((40:Int)<(Sh.len x69.L)) then
   Sh.exit (some false)
  else
   Sh.next (dz (i63+1))
 else
  Sh.exit (G.oc bJ)

def gp(bJ:G.bh)(v25:Bool):Option (Bool):=
 if v25 then
  some false
 else
  Sh.loop (fun(p:Int)=>G.oa bJ p) 0

def sk(bJ:G.bh):Option (Bool):=
 if decide ((40:Int)<(Sh.len bJ.Order)) then
  G.gp bJ true
 else
  if decide ((20:Int)<(Sh.len bJ.Rows)) then
   G.gp bJ true
  else
   G.gp bJ (decide ((80:Int)<(Sh.len bJ.Tree)))

def eX(aQ:G.af)(bL:G.bh)(Fa:List UInt8)(v42:Bool):Option (Bool):=
 if v42 then
  some true
 else
  (G.eO bL).bind fun yB=>
  (G.zD bL).bind fun KV=>
  (G.sw yB).bind fun Ii=>
  (G.uO Fa).bind fun Er=>
  (G.o6 Fa).bind fun E_=>
  (G.zF aQ bL.Level bL.Order).bind fun G7=>
  (G.eO G7).bind fun Rt=>
  (G.BN bL.Level bL.Tree).bind fun Z8=>
  (G.eO Z8).bind fun Ln=>
  (G.vb aQ bL).bind fun qw=>
  (G.pV aQ yB).bind fun YF=>
  if qw==YF then
   if decide (KV.1=Ii.1) then
    if decide (KV.2=Ii.2) then
     (G.eO Er.1).bind fun r80=>
     (G.iA r80 E_.1).bind fun r81=>
     if r81 then
      if decide (Er.2=E_.2) then
       (G.sx aQ bL.Level bL.Order).bind fun Qs=>
       (G.iA Rt Qs).bind fun r85=>
       if r85 then
        (G.iA Ln (G.aY.mk bL.Level false [] [] yB.Tree)).bind fun r87=>
        some r87
       else
        some false
      else
       some false
     else
      some false
    else
     some false
   else
    some false
  else
   some false

def oI(aQ:G.af)(bL:G.bh)(Fa:List UInt8):Option (Bool):=
 (G.sP).bind fun r31=>
 if !r31 then
  some false
 else
  (G.sn aQ 8).bind fun Az=>
  (G.sk bL).bind fun IG=>
  if !Az then
   G.eX aQ bL Fa true
  else
   if !IG then
    G.eX aQ bL Fa true
   else
    G.eX aQ bL Fa (decide ((600:Int)<(Sh.len Fa)))
end G
end
