/- What the functions compute, as plain functions. -/
import Derived.Test.YtleihjegenjacaaGreatBase1
import Derived.Test.YtleihjegenjacaaGreatBase2
set_option linter.unusedSimpArgs false
set_option linter.unusedVariables false
section
/- The plain types. -/
open Go Go.Av
namespace G
structure aa where
 Key:Int
 A:Int
 B:Int
 deriving DecidableEq,Inhabited
def aa.av(x:aa):AV:=.agg [i64 x.Key,i64 x.A,i64 x.B]
@[simp] theorem aa.uv(x:aa):bJ (aa.av x):=by simp[aa.av]
@[simp] theorem aa.ek(x:aa):AV.ek (aa.av x)=true:=rfl
@[simp] theorem aa.e_(x:aa):y4 (aa.av x):=by simp[aa.av]
@[simp] theorem aa.flat(x:aa):(aa.av x).flat.length=3:=rfl
structure aj where
 Key:Int
 dn:Int
 deriving DecidableEq,Inhabited
def aj.av(x:aj):AV:=.agg [i64 x.Key,i64 x.dn]
@[simp] theorem aj.uv(x:aj):bJ (aj.av x):=by simp[aj.av]
@[simp] theorem aj.ek(x:aj):AV.ek (aj.av x)=true:=rfl
@[simp] theorem aj.e_(x:aj):y4 (aj.av x):=by simp[aj.av]
@[simp] theorem aj.flat(x:aj):(aj.av x).flat.length=2:=rfl
structure ah where
 bt:Int
 bD:List Int
 Reads:List G.aj
 deriving DecidableEq,Inhabited
def ah.av(x:ah):AV:=.agg [i64 x.bt,.sl (List.map i64 x.bD),.sl (List.map G.aj.av x.Reads)]
@[simp] theorem ah.uv(x:ah):bJ (ah.av x):=by simp[ah.av]
@[simp] theorem ah.ek(x:ah):AV.ek (ah.av x)=true:=rfl
@[simp] theorem ah.flat(x:ah):(ah.av x).flat.length=3:=rfl
structure af where
 aG:List G.ah
 deriving DecidableEq,Inhabited
def af.av(x:af):AV:=.agg [.sl (List.map G.ah.av x.aG)]
@[simp] theorem af.uv(x:af):bJ (af.av x):=by simp[af.av]
@[simp] theorem af.ek(x:af):AV.ek (af.av x)=true:=rfl
@[simp] theorem af.flat(x:af):(af.av x).flat.length=1:=rfl
structure an where
 Key:Int
 L:List Int
 deriving DecidableEq,Inhabited
def an.av(x:an):AV:=.agg [i64 x.Key,.sl (List.map i64 x.L)]
@[simp] theorem an.uv(x:an):bJ (an.av x):=by simp[an.av]
@[simp] theorem an.ek(x:an):AV.ek (an.av x)=true:=rfl
@[simp] theorem an.flat(x:an):(an.av x).flat.length=2:=rfl
structure ak where
 C:G.aa
 eo:List Int
 deriving DecidableEq,Inhabited
def ak.av(x:ak):AV:=.agg [i64 x.C.Key,i64 x.C.A,i64 x.C.B,.sl (List.map i64 x.eo)]
@[simp] theorem ak.uv(x:ak):bJ (ak.av x):=by simp[ak.av]
@[simp] theorem ak.ek(x:ak):AV.ek (ak.av x)=true:=rfl
@[simp] theorem ak.flat(x:ak):(ak.av x).flat.length=4:=rfl
structure aK where
 Level:Int
 j5:Bool
 Order:List Int
 Rows:List G.an
 Tree:List G.ak
 deriving DecidableEq,Inhabited
def aK.av(x:aK):AV:=.agg [i64 x.Level,bl x.j5,.sl (List.map i64 x.Order),.sl (List.map G.an.av x.Rows),.sl (List.map G.ak.av x.Tree)]
@[simp] theorem aK.uv(x:aK):bJ (aK.av x):=by simp[aK.av]
@[simp] theorem aK.ek(x:aK):AV.ek (aK.av x)=true:=rfl
@[simp] theorem aK.flat(x:aK):(aK.av x).flat.length=5:=rfl
structure bA where
 deriving DecidableEq,Inhabited
def bA.av(x:bA):AV:=.agg []
@[simp] theorem bA.uv(x:bA):bJ (bA.av x):=by simp[bA.av]
@[simp] theorem bA.ek(x:bA):AV.ek (bA.av x)=true:=rfl
@[simp] theorem bA.e_(x:bA):y4 (bA.av x):=by simp[bA.av]
@[simp] theorem bA.flat(x:bA):(bA.av x).flat.length=0:=rfl
structure aU where
 deriving DecidableEq,Inhabited
def aU.av(x:aU):AV:=.agg []
@[simp] theorem aU.uv(x:aU):bJ (aU.av x):=by simp[aU.av]
@[simp] theorem aU.ek(x:aU):AV.ek (aU.av x)=true:=rfl
@[simp] theorem aU.e_(x:aU):y4 (aU.av x):=by simp[aU.av]
@[simp] theorem aU.flat(x:aU):(aU.av x).flat.length=0:=rfl
structure az where
 Key:Int
 L:List Int
 deriving DecidableEq,Inhabited
def az.av(x:az):AV:=.agg [i64 x.Key,.sl (List.map i64 x.L)]
@[simp] theorem az.uv(x:az):bJ (az.av x):=by simp[az.av]
@[simp] theorem az.ek(x:az):AV.ek (az.av x)=true:=rfl
@[simp] theorem az.flat(x:az):(az.av x).flat.length=2:=rfl
structure aD where
 C:G.aa
 eo:List Int
 deriving DecidableEq,Inhabited
def aD.av(x:aD):AV:=.agg [i64 x.C.Key,i64 x.C.A,i64 x.C.B,.sl (List.map i64 x.eo)]
@[simp] theorem aD.uv(x:aD):bJ (aD.av x):=by simp[aD.av]
@[simp] theorem aD.ek(x:aD):AV.ek (aD.av x)=true:=rfl
@[simp] theorem aD.flat(x:aD):(aD.av x).flat.length=4:=rfl
structure bu where
 Level:Int
 j5:Bool
 Order:List Int
 Rows:List G.az
 Tree:List G.aD
 deriving DecidableEq,Inhabited
def bu.av(x:bu):AV:=.agg [i64 x.Level,bl x.j5,.sl (List.map i64 x.Order),.sl (List.map G.az.av x.Rows),.sl (List.map G.aD.av x.Tree)]
@[simp] theorem bu.uv(x:bu):bJ (bu.av x):=by simp[bu.av]
@[simp] theorem bu.ek(x:bu):AV.ek (bu.av x)=true:=rfl
@[simp] theorem bu.flat(x:bu):(bu.av x).flat.length=5:=rfl
structure au where
 left:List G.ak
 deriving DecidableEq,Inhabited
def au.av(x:au):AV:=.agg [.sl (List.map G.ak.av x.left)]
@[simp] theorem au.uv(x:au):bJ (au.av x):=by simp[au.av]
@[simp] theorem au.ek(x:au):AV.ek (au.av x)=true:=rfl
@[simp] theorem au.flat(x:au):(au.av x).flat.length=1:=rfl
end G
end

section
/- What the functions of a package compute, as plain functions. -/
open Go Go.Av
set_option linter.unusedVariables false
namespace G
def ec(bN:List Int):Option (Unit):=
 some ()

def gi:Option (Int):=
 some (-1)

def eU(bN:List Int)(nR:Int)(v22:Int):Option ((Int)⊕(Int)):=
 if decide (v22<(Sh.len bN)) then
  (Sh.idx bN v22).bind fun Lc=>
  if decide (nR=Lc) then
   Sh.exit (some v22)
  else
   Sh.next (kg (v22+1))
 else
  Sh.exit (G.gi)

def gf(bN:List Int)(nR:Int):Option (Int):=
 Sh.loop (fun(p:Int)=>G.eU bN nR p) 0

def cS(bN:List Int)(nR:Int):Option (Bool):=
 (G.gf bN nR).bind fun r3=>
 some (decide ((0:Int)≤r3))

def iA(bN:List Int):Option (List Int):=Sh.app 8 [] bN

def dO:Option (Bool):=
 some true

def cT(kD:List G.aj)(lU:List G.aj)(v39:Int):Option ((Int)⊕(Bool)):=
 if decide (v39<(Sh.len kD)) then
  (Sh.idx kD v39).bind fun FZ=>
  (Sh.idx lU v39).bind fun Bs=>
  if !decide (FZ=Bs) then
   Sh.exit (some false)
  else
   Sh.next (kg (v39+1))
 else
  Sh.exit (G.dO)

def dJ(kD:List G.aj)(lU:List G.aj):Option (Bool):=
 if decide ((Sh.len kD)≠(Sh.len lU)) then
  some false
 else
  Sh.loop (fun(p:Int)=>G.cT kD lU p) 0

def gd:Option (Bool):=
 some true

def ej(kD:List Int)(lU:List Int)(v39:Int):Option ((Int)⊕(Bool)):=
 if decide (v39<(Sh.len kD)) then
  (Sh.idx kD v39).bind fun FZ=>
  (Sh.idx lU v39).bind fun Bs=>
  if decide (FZ≠Bs) then
   Sh.exit (some false)
  else
   Sh.next (kg (v39+1))
 else
  Sh.exit (G.gd)

def f_(kD:List Int)(lU:List Int):Option (Bool):=
 if decide ((Sh.len kD)≠(Sh.len lU)) then
  some false
 else
  Sh.loop (fun(p:Int)=>G.ej kD lU p) 0

def ei:Option (Int):=
 some (-1)

def ef(bN:List G.aa)(nR:G.aa)(v22:Int):Option ((Int)⊕(Int)):=
 if decide (v22<(Sh.len bN)) then
  (Sh.idx bN v22).bind fun Lc=>
  if decide (nR=Lc) then
   Sh.exit (some v22)
  else
   Sh.next (kg (v22+1))
 else
  Sh.exit (G.ei)

def eD(bN:List G.aa)(nR:G.aa):Option (Int):=
 Sh.loop (fun(p:Int)=>G.ef bN nR p) 0

def ee(bN:List G.aa)(nR:G.aa):Option (Bool):=
 (G.eD bN nR).bind fun r3=>
 some (decide ((0:Int)≤r3))

def eC(bN:List G.aa):Option ((List G.aa)):=
 (Sh.sub bN 0 (Sh.len bN)).bind fun BM=>
 some BM
end G
end

section
/- What the functions of a package compute, as plain functions. -/
open Go Go.Av
set_option linter.unusedVariables false
namespace G
def rL(aV:G.af):Option (Unit):=
 some ()

def fC(bC:Bool)(lC:Bool):Option (Bool×Bool):=
 if !lC then
  some (false,false)
 else
  some (bC,true)

def dD(e8:Int)(Nq:Bool):Option ((Bool×Int)⊕(Bool×Bool)):=
 Sh.next (Nq,kg (e8+1))

def cn(e8:Int)(cg:G.ah)(HB:Bool):Option ((Bool×Int)⊕(Bool×Bool)):=
 if decide ((0:Int)≤cg.bt) then
  (G.fC HB (decide (cg.bt<8))).bind fun AZ=>
  if AZ.2 then
   G.dD e8 AZ.1
  else
   Sh.exit (some (AZ.1,false))
 else
  (G.fC HB false).bind fun A0=>
  if A0.2 then
   G.dD e8 A0.1
  else
   Sh.exit (some (A0.1,false))

def dc(ov:Int)(eR:G.aj)(Nr:Bool):Option ((Bool×Int×Int)⊕((Bool×Int)⊕(Bool×Bool))):=
 Sh.next (Nr,eR.Key,kg (ov+1))

def bR(sB:Bool)(lJ:Int)(ov:Int)(eR:G.aj)(q_:Bool):Option ((Bool×Int×Int)⊕((Bool×Int)⊕(Bool×Bool))):=
 if decide (lJ<eR.Key) then
  if decide (eR.Key<16) then
   (G.fC sB q_).bind fun A1=>
   if A1.2 then
    G.dc ov eR A1.1
   else
    Sh.exit (Sh.exit (some (A1.1,false)))
  else
   (G.fC sB false).bind fun A2=>
   if A2.2 then
    G.dc ov eR A2.1
   else
    Sh.exit (Sh.exit (some (A2.1,false)))
 else
  (G.fC sB false).bind fun A3=>
  if A3.2 then
   G.dc ov eR A3.1
  else
   Sh.exit (Sh.exit (some (A3.1,false)))

def dB(bE:G.af)(e8:Int)(cg:G.ah)(sB:Bool)(lJ:Int)(ov:Int):Option ((Bool×Int×Int)⊕((Bool×Int)⊕(Bool×Bool))):=
 if decide (ov<(Sh.len cg.Reads)) then
  (Sh.idx cg.Reads ov).bind fun eR=>
  if decide (eR.dn=(-1)) then
   G.bR sB lJ ov eR true
  else
   if decide ((0:Int)≤eR.dn) then
    if decide (eR.dn<(Sh.len bE.aG)) then
     if decide (eR.dn≠e8) then
      (Sh.idx bE.aG eR.dn).bind fun KZ=>
      (G.cS KZ.bD eR.Key).bind fun G8=>
      G.bR sB lJ ov eR G8
     else
      G.bR sB lJ ov eR false
    else
     G.bR sB lJ ov eR false
   else
    G.bR sB lJ ov eR false
 else
  Sh.exit (G.cn e8 cg sB)

def cm(bE:G.af)(e8:Int)(cg:G.ah)(OW:Bool):Option ((Bool×Int)⊕(Bool×Bool)):=
 Sh.loop (fun(p:Bool×Int×Int)=>G.dB bE e8 cg p.1 p.2.1 p.2.2) (OW,(-1),0)

def dF(wM:Int)(ru:Int)(Nt:Bool):Option ((Bool×Int×Int)⊕((Bool×Int)⊕(Bool×Bool))):=
 Sh.next (Nt,ru,kg (wM+1))

def c_(bE:G.af)(e8:Int)(cg:G.ah)(DA:Bool)(zv:Int)(wM:Int):Option ((Bool×Int×Int)⊕((Bool×Int)⊕(Bool×Bool))):=
 if decide (wM<(Sh.len cg.bD)) then
  (Sh.idx cg.bD wM).bind fun ru=>
  if decide (zv<ru) then
   (G.fC DA (decide (ru<16))).bind fun A4=>
   if A4.2 then
    G.dF wM ru A4.1
   else
    Sh.exit (Sh.exit (some (A4.1,false)))
  else
   (G.fC DA false).bind fun A5=>
   if A5.2 then
    G.dF wM ru A5.1
   else
    Sh.exit (Sh.exit (some (A5.1,false)))
 else
  Sh.exit (G.cm bE e8 cg DA)

def c9(bE:G.af)(Ia:Bool)(e8:Int):Option ((Bool×Int)⊕(Bool×Bool)):=
 if decide (e8<(Sh.len bE.aG)) then
  (Sh.idx bE.aG e8).bind fun cg=>
  Sh.loop (fun(p:Bool×Int×Int)=>G.c_ bE e8 cg p.1 p.2.1 p.2.2) (Ia,(-1),0)
 else
  Sh.exit (some (Ia,true))

def fH(bC:Bool)(bE:G.af):Option (Bool×Bool):=
 (G.fC bC (decide ((Sh.len bE.aG)≤32))).bind fun Bt=>
 if Bt.2 then
  Sh.loop (fun(p:Bool×Int)=>G.c9 bE p.1 p.2) (Bt.1,0)
 else
  some (Bt.1,false)

def js(aV:G.af):Option (Bool):=
 (G.rL aV).bind fun r8=>
 (G.fH false aV).bind fun M4=>
 if M4.2 then
  some true
 else
  some M4.1
end G
end

section
/- What the functions of a package compute, as plain functions. -/
open Go Go.Av
set_option linter.unusedVariables false
namespace G
def iV:Option (Bool):=
 some true

def gv(i55:Int)(Wd:Bool):Option ((Int)⊕(Bool)):=
 if Wd then
  Sh.exit (some false)
 else
  Sh.next (kg (i55+1))

def gu(aV:G.af)(i55:Int):Option ((Int)⊕(Bool)):=
 if decide (i55<(Sh.len aV.aG)) then
  (Sh.idx aV.aG i55).bind fun SV=>
  if decide ((20:Int)<(Sh.len SV.bD)) then
   G.gv i55 true
  else
   (Sh.idx aV.aG i55).bind fun SX=>
   G.gv i55 (decide ((20:Int)<(Sh.len SX.Reads)))
 else
  Sh.exit (G.iV)

def jm(aV:G.af)(tG:Int):Option (Bool):=
 if decide (tG<(Sh.len aV.aG)) then
  some false
 else
  Sh.loop (fun(p:Int)=>G.gu aV p) 0
end G
end

section
/- What the functions of a package compute, as plain functions. -/
open Go Go.Av
set_option linter.unusedVariables false
namespace G
def mW(fc:G.aU)(oF:G.af)(lZ:Int)(lS:Int):Option (Bool):=
 if decide (lZ<lS) then
  (Sh.idx oF.aG lZ).bind fun SQ=>
  (Sh.idx oF.aG lS).bind fun SR=>
  some (decide (SQ.bt=SR.bt))
 else
  some false

def gE(sg:G.aU)(eS:G.af)(gH:Int)(lq:Int):Option (Bool):=
 (G.mW sg eS gH lq).bind fun r3=>
 some r3

def lE(kM:G.aj)(eS:Int):Option (Bool):=
 some (decide (kM.dn=eS))

def cR:Option (Int):=
 some (-1)

def cQ(bN:List G.aj)(dY:Int)(v30:Int):Option ((Int)⊕(Int)):=
 if decide (v30<(Sh.len bN)) then
  (Sh.idx bN v30).bind fun v8=>
  (G.lE v8 dY).bind fun yy=>
  if yy then
   Sh.exit (some v30)
  else
   Sh.next (kg (v30+1))
 else
  Sh.exit (G.cR)

def cZ(bN:List G.aj)(dY:Int):Option (Int):=
 Sh.loop (fun(p:Int)=>G.cQ bN dY p) 0

def cL(bN:List G.aj)(dY:Int):Option (Bool):=
 (G.cZ bN dY).bind fun r3=>
 some (decide ((0:Int)≤r3))

def qe(fc:G.bA)(oF:G.af)(lZ:Int)(lS:Int):Option (Bool):=
 (Sh.idx oF.aG lS).bind fun x7=>
 (G.cL x7.Reads lZ).bind fun r9=>
 some r9

def jb(sg:G.bA)(eS:G.af)(gH:Int)(lq:Int):Option (Bool):=
 (G.qe sg eS gH lq).bind fun r3=>
 some r3

def nA(aV:G.af)(Me:Int)(xw:Int):Option (Bool):=
 (Sh.idx aV.aG Me).bind fun x7=>
 (G.cS x7.bD xw).bind fun r9=>
 some r9

def jL(bC:G.aa)(eS:Int)(gH:Int)(lq:G.af):Option (Bool):=
 if decide (bC.A=eS) then
  if decide (bC.B=gH) then
   if decide (eS≠gH) then
    (G.nA lq eS bC.Key).bind fun xD=>
    if xD then
     (G.nA lq gH bC.Key).bind fun Tn=>
     some Tn
    else
     some false
   else
    some false
  else
   some false
 else
  some false

def b7:Option (Int):=
 some (-1)

def b6(bN:List G.aa)(dY:Int)(jl:Int)(iU:G.af)(v30:Int):Option ((Int)⊕(Int)):=
 if decide (v30<(Sh.len bN)) then
  (Sh.idx bN v30).bind fun v8=>
  (G.jL v8 dY jl iU).bind fun yy=>
  if yy then
   Sh.exit (some v30)
  else
   Sh.next (kg (v30+1))
 else
  Sh.exit (G.b7)

def ct(bN:List G.aa)(dY:Int)(jl:Int)(iU:G.af):Option (Int):=
 Sh.loop (fun(p:Int)=>G.b6 bN dY jl iU p) 0

def bZ(bN:List G.aa)(dY:Int)(jl:Int)(iU:G.af):Option (Bool):=
 (G.ct bN dY jl iU).bind fun r3=>
 some (decide ((0:Int)≤r3))

def mZ(fJ:List G.aa)(oF:G.af)(lZ:Int)(lS:Int):Option (Bool):=
 (G.bZ fJ lZ lS oF).bind fun r3=>
 some r3

def gF(sg:List G.aa)(eS:G.af)(gH:Int)(lq:Int):Option (Bool):=
 (G.mZ sg eS gH lq).bind fun r3=>
 some r3

def cA:Option (Int):=
 some (-1)

def cF(bN:G.aU)(Bh:G.bA)(Bi:List G.aa)(iU:G.af)(xR:Int)(xS:Int):Option (Int):=
 (G.gE bN iU xR xS).bind fun G3=>
 if G3 then
  some 0
 else
  (G.jb Bh iU xR xS).bind fun Ay=>
  if Ay then
   some 1
  else
   (G.gF Bi iU xR xS).bind fun ou=>
   if ou then
    some 2
   else
    G.cA

def cw(bN:G.aU)(Bh:G.bA)(Bi:List G.aa)(iU:G.af)(xR:Int)(xS:Int):Option (Bool):=
 (G.cF bN Bh Bi iU xR xS).bind fun r3=>
 some (decide ((0:Int)≤r3))

def gP(aV:G.af)(pS:Int)(pU:Int)(dV:G.aU)(jW:G.bA)(jX:List G.aa)(OR:Bool):Option (Bool):=
 if OR then
  some false
 else
  (G.cw dV jW jX aV pS pU).bind fun Ay=>
  some Ay

def mY(aV:G.af)(pS:Int)(pU:Int)(dV:G.aU)(jW:G.bA)(jX:List G.aa):Option (Bool):=
 (G.js aV).bind fun xD=>
 if !xD then
  G.gP aV pS pU dV jW jX true
 else
  if decide ((Sh.min pS pU)<0) then
   G.gP aV pS pU dV jW jX true
  else
   G.gP aV pS pU dV jW jX (decide ((Sh.len aV.aG)≤(Sh.max pS pU)))

def pe(aV:G.af)(iL:List G.aa)(lZ:Int)(lS:Int):Option (Bool):=
 (G.mY aV lZ lS G.aU.mk G.bA.mk iL).bind fun r3=>
 some r3

def lD(kM:G.aj)(eS:G.af)(gH:Int)(lq:List G.aa):Option (Bool):=
 (G.nA eS gH kM.Key).bind fun G3=>
 if G3 then
  if decide (kM.dn<0) then
   some true
  else
   if decide (kM.dn≠gH) then
    (G.ee lq (G.aa.mk kM.Key kM.dn gH)).bind fun Ay=>
    some Ay
   else
    some false
 else
  some false

def cO:Option (Int):=
 some (-1)

def cN(bN:List G.aj)(dY:G.af)(jl:Int)(iU:List G.aa)(v30:Int):Option ((Int)⊕(Int)):=
 if decide (v30<(Sh.len bN)) then
  (Sh.idx bN v30).bind fun v8=>
  (G.lD v8 dY jl iU).bind fun yy=>
  if yy then
   Sh.exit (some v30)
  else
   Sh.next (kg (v30+1))
 else
  Sh.exit (G.cO)

def cW(bN:List G.aj)(dY:G.af)(jl:Int)(iU:List G.aa):Option (Int):=
 Sh.loop (fun(p:Int)=>G.cN bN dY jl iU p) 0

def cK(bN:List G.aj)(dY:G.af)(jl:Int)(iU:List G.aa):Option (Bool):=
 (G.cW bN dY jl iU).bind fun r3=>
 some (decide ((0:Int)≤r3))

def qd(fJ:List G.aa)(oF:G.af)(lZ:Int)(lS:Int):Option (Bool):=
 if decide (lZ≠lS) then
  (Sh.idx oF.aG lZ).bind fun Wg=>
  (G.cK Wg.Reads oF lS fJ).bind fun L0=>
  some L0
 else
  some false

def ja(sg:List G.aa)(eS:G.af)(gH:Int)(lq:Int):Option (Bool):=
 (G.qd sg eS gH lq).bind fun r3=>
 some r3

def cz:Option (Int):=
 some (-1)

def cE(bN:List G.aa)(dY:G.af)(jl:Int)(iU:Int):Option (Int):=
 (G.ja bN dY jl iU).bind fun r6=>
 if r6 then
  some 0
 else
  G.cz

def cu(bN:List G.aa)(dY:G.af)(jl:Int)(iU:Int):Option (Bool):=
 (G.cE bN dY jl iU).bind fun r3=>
 some (decide ((0:Int)≤r3))

def gO(aV:G.af)(pS:Int)(pU:Int)(dV:List G.aa)(OR:Bool):Option (Bool):=
 if OR then
  some false
 else
  (G.cu dV aV pS pU).bind fun Ay=>
  some Ay

def mX(aV:G.af)(pS:Int)(pU:Int)(dV:List G.aa):Option (Bool):=
 (G.js aV).bind fun xD=>
 if !xD then
  G.gO aV pS pU dV true
 else
  if decide ((Sh.min pS pU)<0) then
   G.gO aV pS pU dV true
  else
   G.gO aV pS pU dV (decide ((Sh.len aV.aG)≤(Sh.max pS pU)))

def sC(aV:G.af)(iL:List G.aa)(lZ:Int)(lS:Int):Option (Bool):=
 (G.mX aV lZ lS iL).bind fun r3=>
 some r3

def qD:Option (Bool):=
 some false

def oE(v7:Int)(We:Bool):Option ((Int)⊕(Bool)):=
 if We then
  Sh.exit (some true)
 else
  Sh.next (kg (v7+1))

def th(aV:G.af)(kG:List G.aa)(EW:Int)(B3:Int)(v7:Int):Option ((Int)⊕(Bool)):=
 if decide (v7<(Sh.len aV.aG)) then
  (G.pe aV kG EW v7).bind fun fh=>
  if fh then
   if decide (v7=B3) then
    G.oE v7 true
   else
    (G.sC aV kG v7 B3).bind fun L5=>
    G.oE v7 L5
  else
   G.oE v7 false
 else
  Sh.exit (G.qD)

def zp(aV:G.af)(a_:Int)(kG:List G.aa)(EW:Int)(B3:Int):Option (Bool):=
 if decide (a_=0) then
  (G.pe aV kG EW B3).bind fun Tr=>
  if Tr then
   some true
  else
   (G.sC aV kG EW B3).bind fun Ts=>
   some Ts
 else
  if decide (a_=1) then
   Sh.loop (fun(p:Int)=>G.th aV kG EW B3 p) 0
  else
   G.qD

def oV(gJ:List Int):Option (Bool):=
 some (decide ((0:Int)<(Sh.len gJ)))

def mO(HC:Int)(v109:Bool):Option ((Int)⊕(Bool)):=
 if v109 then
  Sh.exit (some false)
 else
  Sh.next (kg (HC+1))

def oU(aV:G.af)(a_:Int)(kG:List G.aa)(gJ:List Int)(HC:Int):Option ((Int)⊕(Bool)):=
 if decide (HC<(Sh.len gJ)) then
  (Sh.idx gJ HC).bind fun Mj=>
  (Sh.sub gJ 0 HC).bind fun zA=>
  (G.cS zA Mj).bind fun LZ=>
  if LZ then
   G.mO HC true
  else
   (Sh.rem (kg (HC+1)) (Sh.len gJ)).bind fun OH=>
   (Sh.idx gJ OH).bind fun OX=>
   (G.zp aV a_ kG Mj OX).bind fun Kt=>
   G.mO HC (!Kt)
 else
  Sh.exit (G.oV gJ)

def tg(aV:G.af)(a_:Int)(kG:List G.aa)(gJ:List Int):Option (Bool):=
 Sh.loop (fun(p:Int)=>G.oU aV a_ kG gJ p) 0
end G
end

section
/- What the functions of a package compute, as plain functions. -/
open Go Go.Av
set_option linter.unusedVariables false
namespace G
def od:Option (Bool):=
 some true

def kN(mE:List Bool)(HU:Int)(vP:Int)(OQ:Bool):Option (((List Bool)×Int)⊕(Bool)):=
 if OQ then
  Sh.exit (some false)
 else
  (Sh.A8 32 mE vP).bind fun Wh=>
  Sh.next (Sh.set mE vP true,kg (HU+1))

def mq(aI:List Int)(mE:List Bool)(HU:Int):Option (((List Bool)×Int)⊕(Bool)):=
 if decide (HU<(Sh.len aI)) then
  (Sh.idx aI HU).bind fun vP=>
  if decide (vP<0) then
   G.kN mE HU vP true
  else
   if decide ((Sh.len aI)≤vP) then
    G.kN mE HU vP true
   else
    (Sh.A8 32 mE vP).bind fun AY=>
    G.kN mE HU vP AY
 else
  Sh.exit (G.od)

def mu(aI:List Int)(v40:Bool):Option (Bool):=
 if v40 then
  some false
 else
  Sh.loop (fun(p:(List Bool)×Int)=>G.mq aI p.1 p.2) ((List.replicate 32 false),0)

def oO(aV:G.af)(aI:List Int):Option (Bool):=
 (G.js aV).bind fun Ku=>
 if !Ku then
  G.mu aI true
 else
  G.mu aI (decide ((Sh.len aI)≠(Sh.len aV.aG)))

def pN(CJ:List (List G.aj)):Option ((List (List G.aj))):=
 some CJ

def pO(oS:Int)(FH:List (List G.aj))(OV:List Int):Option (((List Int)×(List (List G.aj))×Int)⊕((List (List G.aj)))):=
 Sh.next (OV,FH,kg (oS+1))

def nI(oS:Int)(oo:Int)(qU:List (List G.aj))(zh:G.ah)(rM:List Int)(KT:Int):Option (((List Int)×Int)⊕(((List Int)×(List (List G.aj))×Int)⊕((List (List G.aj))))):=
 if decide (KT<(Sh.len zh.bD)) then
  (Sh.idx zh.bD KT).bind fun Mm=>
  (Sh.A8 16 rM Mm).bind fun Wm=>
  Sh.next (Sh.set rM Mm (kg (oo+1)),kg (KT+1))
 else
  Sh.exit (G.pO oS qU rM)

def nK(aV:G.af)(jG:List Int)(oS:Int)(oo:Int)(qU:List (List G.aj)):Option (((List Int)×(List (List G.aj))×Int)⊕((List (List G.aj)))):=
 (Sh.idx aV.aG oo).bind fun zh=>
 Sh.loop (fun(p:(List Int)×Int)=>G.nI oS oo qU zh p.1 p.2) (jG,0)

def nJ(aV:G.af)(jG:List Int)(oS:Int)(oo:Int)(uA:G.ah)(lu:List (List G.aj))(FX:Int):Option (((List (List G.aj))×Int)⊕(((List Int)×(List (List G.aj))×Int)⊕((List (List G.aj))))):=
 if decide (FX<(Sh.len uA.Reads)) then
  (Sh.idx uA.Reads FX).bind fun zi=>
  (Sh.idx lu oo).bind fun Mn=>
  (Sh.A8 16 jG zi.Key).bind fun HJ=>
  (Sh.app 16 Mn ([(G.aj.mk zi.Key (kg (HJ - 1)))]:List G.aj)).bind fun Fz=>
  (Sh.idx lu oo).bind fun Wn=>
  Sh.next (Sh.set lu oo Fz,kg (FX+1))
 else
  Sh.exit (G.nK aV jG oS oo lu)

def nH(aV:G.af)(aI:List Int)(jG:List Int)(Am:List (List G.aj))(oS:Int):Option (((List Int)×(List (List G.aj))×Int)⊕((List (List G.aj)))):=
 if decide (oS<(Sh.len aI)) then
  (Sh.idx aI oS).bind fun oo=>
  (Sh.idx aV.aG oo).bind fun uA=>
  Sh.loop (fun(p:(List (List G.aj))×Int)=>G.nJ aV jG oS oo uA p.1 p.2) (Am,0)
 else
  Sh.exit (G.pN Am)

def sO(aV:G.af)(aI:List Int):Option ((List (List G.aj))):=
 (G.oO aV aI).bind fun L1=>
 if !L1 then
  some []
 else
  (Sh.mk 24 (Sh.len aI) (Sh.len aI) []).bind fun zz=>
  Sh.loop (fun(p:(List Int)×(List (List G.aj))×Int)=>G.nH aV aI p.1 p.2.1 p.2.2) ((List.replicate 16 0),zz,0)

def oc:Option (Bool):=
 some true

def mj(aV:G.af)(aI:List Int)(qh:List Int)(v117:Int):Option (((List Int)×Int)⊕(Bool)):=
 if decide (v117<(Sh.len aI)) then
  (Sh.idx aI v117).bind fun HI=>
  (Sh.idx aV.aG HI).bind fun KX=>
  (Sh.A8 8 qh KX.bt).bind fun OY=>
  if decide (HI<OY) then
   Sh.exit (some false)
  else
   (Sh.A8 8 qh KX.bt).bind fun Wj=>
   Sh.next (Sh.set qh KX.bt (kg (HI+1)),kg (v117+1))
 else
  Sh.exit (G.oc)

def mo(aV:G.af)(aI:List Int):Option (Bool):=
 Sh.loop (fun(p:(List Int)×Int)=>G.mj aV aI p.1 p.2) ((List.replicate 8 0),0)

def mm(aV:G.af)(aI:List Int)(y_:(List (List G.aj)))(v157:Int):Option ((Int)⊕(Bool)):=
 if decide (v157<(Sh.len y_)) then
  (Sh.idx y_ v157).bind fun OZ=>
  (Sh.idx aV.aG v157).bind fun O0=>
  (G.dJ OZ O0.Reads).bind fun L3=>
  if !L3 then
   Sh.exit (some false)
  else
   Sh.next (kg (v157+1))
 else
  Sh.exit (G.mo aV aI)

def oN(aV:G.af)(aI:List Int):Option (Bool):=
 (G.oO aV aI).bind fun L4=>
 if !L4 then
  some false
 else
  (G.sO aV aI).bind fun y_=>
  Sh.loop (fun(p:Int)=>G.mm aV aI y_ p) 0
end G
end

section
/- What the functions of a package compute, as plain functions. -/
open Go Go.Av
set_option linter.unusedVariables false
namespace G
def mT(Gn:List Int):Option ((List Int)):=
 some Gn

def lp(v53:Int)(Ke:List Int):Option (((List Int)×Int)⊕((List Int))):=
 Sh.next (Ke,kg (v53+1))

def lg(aV:G.af)(p9:Int)(vW:List Int)(v53:Int):Option (((List Int)×Int)⊕((List Int))):=
 if decide (v53<(Sh.len aV.aG)) then
  (Sh.idx aV.aG v53).bind fun Nf=>
  (G.cS Nf.bD p9).bind fun V5=>
  if V5 then
   (Sh.app 8 vW [v53]).bind fun Ex=>
   G.lp v53 Ex
  else
   G.lp v53 vW
 else
  Sh.exit (G.mT vW)

def nt(aV:G.af)(p9:Int):Option ((List Int)):=
 Sh.loop (fun(p:(List Int)×Int)=>G.lg aV p9 p.1 p.2) ([],0)

def gj(fJ:List Int)(lC:Int):Option ((List Int)):=
 (Sh.app 8 fJ [lC]).bind fun l3=>
 some l3

def bH(bE:List Int)(O6:List Int)(v24:Int):Option (((List Int)×Int)⊕((List Int))):=
 if decide (v24<(Sh.len bE)) then
  (Sh.idx bE v24).bind fun SS=>
  (G.gj O6 SS).bind fun Py=>
  Sh.next (Py,kg (v24+1))
 else
  Sh.exit (some O6)

def b8(fJ:List Int)(bE:List Int):Option ((List Int)):=
 Sh.loop (fun(p:(List Int)×Int)=>G.bH bE p.1 p.2) (fJ,0)

def c7(kW:List Int):Option ((List Int)):=
 (G.b8 [] kW).bind fun HN=>
 some HN

def dA(kW:List Int):Option ((List Int)):=
 (G.c7 kW).bind fun r3=>
 some r3

def bQ(kW:List Int):Option ((List Int)):=
 (G.dA kW).bind fun r5=>
 (Sh.sort r5).bind fun BU=>
 some BU

def qZ(Gp:List G.an):Option ((List G.an)):=
 some Gp

def nr(v85:Int)(Kf:List G.an):Option (((List G.an)×Int)⊕((List G.an))):=
 Sh.next (Kf,kg (v85+1))

def oP(aV:G.af)(aI:List Int)(vX:List G.an)(v85:Int):Option (((List G.an)×Int)⊕((List G.an))):=
 if decide (v85<16) then
  (G.nt aV v85).bind fun Lb=>
  if decide ((Sh.len Lb)=0) then
   G.nr v85 vX
  else
   (Sh.tP aI Lb).bind fun sorted97=>
   (Sh.app 32 vX ([(G.an.mk v85 sorted97)]:List G.an)).bind fun Ey=>
   G.nr v85 Ey
 else
  Sh.exit (G.qZ vX)

def oQ(aV:G.af)(aI:List Int):Option ((List G.an)):=
 Sh.loop (fun(p:(List G.an)×Int)=>G.oP aV aI p.1 p.2) ([],0)

def kO(aV:G.af)(aI:List Int)(eG:(List Int))(v105:Int):Option ((Int)⊕((List G.an))):=
 if decide (v105<(Sh.len eG)) then
  (Sh.idx eG v105).bind fun Mk=>
  if decide (v105≠Mk) then
   Sh.exit (some [])
  else
   Sh.next (kg (v105+1))
 else
  Sh.exit (G.oQ aV aI)

def nq(aV:G.af)(aI:List Int)(eG:(List Int))(Wc:Bool):Option ((List G.an)):=
 if Wc then
  some []
 else
  Sh.loop (fun(p:Int)=>G.kO aV aI eG p) 0

def tO(aV:G.af)(aI:List Int):Option ((List G.an)):=
 (G.ec aI).bind fun X1=>
 (G.bQ aI).bind fun eG=>
 (G.js aV).bind fun Ks=>
 if !Ks then
  G.nq aV aI eG true
 else
  G.nq aV aI eG (decide ((Sh.len aI)≠(Sh.len aV.aG)))

def nM(iL:List G.an)(n86:Int):Option (Bool):=
 some (decide (n86=(Sh.len iL)))

def lY(sv:Int)(n127:Int):Option ((Int×Int)⊕(Bool)):=
 Sh.next (n127,kg (sv+1))

def jj(n113:Int)(sv:Int)(OT:Bool):Option ((Int×Int)⊕(Bool)):=
 if OT then
  Sh.exit (some false)
 else
  G.lY sv (kg (n113+1))

def iz(aV:G.af)(iL:List G.an)(n113:Int)(sv:Int):Option ((Int×Int)⊕(Bool)):=
 if decide (sv<16) then
  (G.nt aV sv).bind fun G4=>
  if decide ((Sh.len G4)=0) then
   G.lY sv n113
  else
   if decide (n113=(Sh.len iL)) then
    G.jj n113 sv true
   else
    (Sh.idx iL n113).bind fun KY=>
    if decide (KY.Key≠sv) then
     G.jj n113 sv true
    else
     (Sh.idx iL n113).bind fun C8=>
     (G.ec C8.L).bind fun V3=>
     (G.bQ C8.L).bind fun OI=>
     (G.f_ G4 OI).bind fun Kw=>
     G.jj n113 sv (!Kw)
 else
  Sh.exit (G.nM iL n113)

def sQ(aV:G.af)(iL:List G.an):Option (Bool):=
 (G.js aV).bind fun Tq=>
 if !Tq then
  some false
 else
  Sh.loop (fun(p:Int×Int)=>G.iz aV iL p.1 p.2) (0,0)

def iW(kM:G.aj)(eS:Int):Option (Bool):=
 some (decide (kM.dn=eS))

def bS:Option (Int):=
 some (-1)

def bG(bN:List G.aj)(dY:Int)(v30:Int):Option ((Int)⊕(Int)):=
 if decide (v30<(Sh.len bN)) then
  (Sh.idx bN v30).bind fun v8=>
  (G.iW v8 dY).bind fun yy=>
  if yy then
   Sh.exit (some v30)
  else
   Sh.next (kg (v30+1))
 else
  Sh.exit (G.bS)

def b5(bN:List G.aj)(dY:Int):Option (Int):=
 Sh.loop (fun(p:Int)=>G.bG bN dY p) 0

def bF(bN:List G.aj)(dY:Int):Option (Bool):=
 (G.b5 bN dY).bind fun r3=>
 some (decide ((0:Int)≤r3))

def jq(qQ:Int)(eS:Int)(PC:Int)(fI:List G.ah)(rB:List Int):Option (Bool):=
 (Sh.lim 16 qQ).bind fun WH=>
 (Sh.lim 32 PC).bind fun WI=>
 (Sh.AT rB (WH*32+WI)).bind fun Pv=>
 if decide ((0:Int)<Pv) then
  if decide (eS<0) then
   some true
  else
   (Sh.lim 16 qQ).bind fun VJ=>
   (Sh.lim 32 eS).bind fun VK=>
   (Sh.AT rB (VJ*32+VK)).bind fun TB=>
   if decide ((0:Int)<TB) then
    (Sh.lim 16 qQ).bind fun WJ=>
    (Sh.lim 32 eS).bind fun WK=>
    (Sh.AT rB (WJ*32+WK)).bind fun v8=>
    some (decide (v8<Pv))
   else
    some false
 else
  some false

def kf(qQ:Int)(eS:Int)(gH:Int)(fI:List G.ah)(rB:List Int):Option (Bool):=
 (G.jq qQ eS gH fI rB).bind fun r4=>
 some r4

def cI:Option (Int):=
 some (-1)

def bW(bN:List Int)(dY:Int)(jl:Int)(fI:List G.ah)(rB:List Int)(v31:Int):Option ((Int)⊕(Int)):=
 if decide (v31<(Sh.len bN)) then
  (Sh.idx bN v31).bind fun Gv=>
  (G.kf Gv dY jl fI rB).bind fun E4=>
  if E4 then
   Sh.exit (some v31)
  else
   Sh.next (kg (v31+1))
 else
  Sh.exit (G.cI)

def dG(bN:List Int)(dY:Int)(jl:Int)(fI:List G.ah)(rB:List Int):Option (Int):=
 Sh.loop (fun(p:Int)=>G.bW bN dY jl fI rB p) 0

def cH(bN:List Int)(dY:Int)(jl:Int)(fI:List G.ah)(rB:List Int):Option (Bool):=
 (G.dG bN dY jl fI rB).bind fun r4=>
 some (decide ((0:Int)≤r4))

def eY(i_:Int)(lC:Int)(eT:List G.ah)(fI:List Int)(Wb:Bool):Option (Bool):=
 if Wb then
  some true
 else
  (Sh.idx eT lC).bind fun Wl=>
  (G.bF Wl.Reads i_).bind fun Pn=>
  if Pn then
   some true
  else
   (Sh.idx eT i_).bind fun Pw=>
   (G.cH Pw.bD i_ lC eT fI).bind fun qt=>
   some qt

def j0(i_:Int)(lC:Int)(eT:List G.ah)(fI:List Int):Option (Bool):=
 if decide (i_<lC) then
  (Sh.idx eT i_).bind fun SU=>
  (Sh.idx eT lC).bind fun Ml=>
  G.eY i_ lC eT fI (decide (SU.bt=Ml.bt))
 else
  G.eY i_ lC eT fI false

def lM(kM:G.aj)(eS:Int)(eT:List G.ah)(fI:List Int):Option (Bool):=
 (G.jq kM.Key kM.dn eS eT fI).bind fun r4=>
 some r4

def bV:Option (Int):=
 some (-1)

def bI(bN:List G.aj)(dY:Int)(eT:List G.ah)(fI:List Int)(v31:Int):Option ((Int)⊕(Int)):=
 if decide (v31<(Sh.len bN)) then
  (Sh.idx bN v31).bind fun Gv=>
  (G.lM Gv dY eT fI).bind fun E4=>
  if E4 then
   Sh.exit (some v31)
  else
   Sh.next (kg (v31+1))
 else
  Sh.exit (G.bV)

def c5(bN:List G.aj)(dY:Int)(eT:List G.ah)(fI:List Int):Option (Int):=
 Sh.loop (fun(p:Int)=>G.bI bN dY eT fI p) 0

def cM(bN:List G.aj)(dY:Int)(eT:List G.ah)(fI:List Int):Option (Bool):=
 (G.c5 bN dY eT fI).bind fun r4=>
 some (decide ((0:Int)≤r4))

def kX(i_:Int)(lC:Int)(eT:List G.ah)(fI:List Int):Option (Bool):=
 if decide (i_≠lC) then
  (Sh.idx eT i_).bind fun Pu=>
  (G.cM Pu.Reads lC eT fI).bind fun Kv=>
  some Kv
 else
  some false

def kP(CI:List Int):Option ((List Int)):=
 some CI

def fQ(mJ:Int)(FF:List Int):Option (((List Int)×Int)⊕((List Int))):=
 Sh.next (FF,kg (mJ+1))

def fR(v175:Int)(FG:List Int):Option (((List Int)×Int)⊕(((List Int)×Int)⊕((List Int)))):=
 Sh.next (FG,kg (v175+1))

def gW(bE:List G.ah)(eT:List Int)(mJ:Int)(qT:List Int)(v175:Int):Option (((List Int)×Int)⊕(((List Int)×Int)⊕((List Int)))):=
 if decide (v175<(Sh.len bE)) then
  (G.kX mJ v175 bE eT).bind fun Kx=>
  if Kx then
   (Sh.app 8 qT [v175]).bind fun Al=>
   G.fR v175 Al
  else
   G.fR v175 qT
 else
  Sh.exit (G.fQ mJ qT)

def gV(i_:Int)(bE:List G.ah)(eT:List Int)(qS:List Int)(mJ:Int):Option (((List Int)×Int)⊕((List Int))):=
 if decide (mJ<(Sh.len bE)) then
  (G.j0 i_ mJ bE eT).bind fun G6=>
  if !G6 then
   G.fQ mJ qS
  else
   (Sh.app 8 qS [mJ]).bind fun yq=>
   Sh.loop (fun(p:(List Int)×Int)=>G.gW bE eT mJ p.1 p.2) (yq,0)
 else
  Sh.exit (G.kP qS)

def iP(i_:Int)(bE:List G.ah)(eT:List Int):Option ((List Int)):=
 Sh.loop (fun(p:(List Int)×Int)=>G.gV i_ bE eT p.1 p.2) ([],0)

def jo(i_:Int)(Mh:List Int):Option ((List Int)×Bool):=
 (Sh.idx Mh i_).bind fun X7=>
 some (Sh.set Mh i_ 2,true)

def fW(self:Int→(List G.ah)→(List Int)→(List Int)→Option ((List Int)×Bool))(i_:Int)(bE:List G.ah)(eT:List Int)(BO:(List Int))(Ns:List Int)(v87:Int):Option (((List Int)×Int)⊕((List Int)×Bool)):=
 if decide (v87<(Sh.len BO)) then
  (Sh.idx BO v87).bind fun Px=>
  (self Px bE eT Ns).bind fun HS=>
  if !HS.2 then
   Sh.exit (some (HS.1,false))
  else
   Sh.next (HS.1,kg (v87+1))
 else
  Sh.exit (G.jo i_ Ns)

def jA(self:Int→(List G.ah)→(List Int)→(List Int)→Option ((List Int)×Bool))(i_:Int)(bE:List G.ah)(eT:List Int)(sZ:List Int):Option ((List Int)×Bool):=
 (Sh.idx sZ i_).bind fun Ml=>
 if decide ((0:Int)<Ml) then
  (Sh.idx sZ i_).bind fun Bs=>
  some (sZ,decide (Bs=2))
 else
  (Sh.idx sZ i_).bind fun X6=>
  (G.iP i_ bE eT).bind fun BO=>
  Sh.loop (fun(p:(List Int)×Int)=>G.fW self i_ bE eT BO p.1 p.2) (Sh.set sZ i_ 1,0)

def iO:Nat→Int→(List G.ah)→(List Int)→(List Int)→Option ((List Int)×Bool)
 |0=>fun _ _ _ _=>none
 |n+1=>G.jA (iO n)

def sk(i_:Int)(bE:List G.ah)(eT:List Int)(sZ:List Int):Option ((List Int)×Bool):=G.iO Sh.p_ i_ bE eT sZ

def pP:Option (Bool):=
 some true

def kH(aV:G.af)(v148:List Int)(gG:List Int)(xb:List Int)(CY:Int):Option (((List Int)×Int)⊕(Bool)):=
 if decide (CY<(Sh.len gG)) then
  (G.sk CY aV.aG v148 xb).bind fun Az=>
  if !Az.2 then
   Sh.exit (some false)
  else
   Sh.next (Az.1,kg (CY+1))
 else
  Sh.exit (G.pP)

def lX(aV:G.af)(v148:List Int):Option (Bool):=
 (Sh.mk 8 (Sh.len aV.aG) (Sh.len aV.aG) 0).bind fun gG=>
 Sh.loop (fun(p:(List Int)×Int)=>G.kH aV v148 gG p.1 p.2) (gG,0)

def nL(vO:Int)(OU:List Int):Option (((List Int)×Int)⊕(Bool)):=
 Sh.next (OU,kg (vO+1))

def lW(vO:Int)(sX:G.an)(J6:List Int)(HA:Int):Option (((List Int)×Int)⊕(((List Int)×Int)⊕(Bool))):=
 if decide (HA<(Sh.len sX.L)) then
  (Sh.idx sX.L HA).bind fun O1=>
  (Sh.lim 16 sX.Key).bind fun Sk=>
  (Sh.lim 32 O1).bind fun Sl=>
  (Sh.Hx J6 (Sk*32+Sl) (kg (HA+1))).bind fun ES=>
  Sh.next (ES,kg (HA+1))
 else
  Sh.exit (G.nL vO J6)

def lV(aV:G.af)(iL:List G.an)(GS:List Int)(vO:Int):Option (((List Int)×Int)⊕(Bool)):=
 if decide (vO<(Sh.len iL)) then
  (Sh.idx iL vO).bind fun sX=>
  Sh.loop (fun(p:(List Int)×Int)=>G.lW vO sX p.1 p.2) (GS,0)
 else
  Sh.exit (G.lX aV GS)

def qY(aV:G.af)(iL:List G.an):Option (Bool):=
 (G.sQ aV iL).bind fun dQ=>
 if !dQ then
  some false
 else
  Sh.loop (fun(p:(List Int)×Int)=>G.lV aV iL p.1 p.2) ((List.replicate 512 0),0)
end G
end

section
/- What the functions of a package compute, as plain functions. -/
open Go Go.Av
set_option linter.unusedVariables false
namespace G
def rT(Ph:Int):Option (Unit):=
 some ()

def rQ(fJ:List Int)(lC:Int):Option ((List Int)):=
 (Sh.app 1 fJ [lC]).bind fun l3=>
 some l3

def fB(KS:List Int)(v30:Int):Option ((List Int)):=
 (G.rQ KS (IntKind.u8.wrap v30)).bind fun Mo=>
 some Mo

def fA(Fc:List Int)(v41:Int):Option (((List Int)×Int)⊕((List Int))):=
 if decide ((128:Int)≤v41) then
  (Sh.rem v41 128).bind fun FM=>
  (G.rQ Fc (Sh.Cc .u8 (IntKind.u8.wrap FM) 128)).bind fun HK=>
  (Sh.LN .i64 v41 ((7#64).toNat:Int)).bind fun L7=>
  Sh.next (HK,L7)
 else
  Sh.exit (G.fB Fc v41)

def jw(fJ:List Int)(bE:Int):Option ((List Int)):=
 Sh.loop (fun(p:(List Int)×Int)=>G.fA p.1 p.2) (fJ,bE)

def oW(fJ:List Int)(lC:Int):Option ((List Int)):=
 (Sh.app 1 fJ [lC]).bind fun l3=>
 some l3

def eX(KS:List Int)(v30:Int):Option ((List Int)):=
 (G.oW KS (IntKind.u8.wrap v30)).bind fun Mo=>
 some Mo

def eW(Fc:List Int)(v41:Int):Option (((List Int)×Int)⊕((List Int))):=
 if decide ((128:Int)≤v41) then
  (Sh.rem v41 128).bind fun FM=>
  (G.oW Fc (Sh.Cc .u8 (IntKind.u8.wrap FM) 128)).bind fun HK=>
  (Sh.LN .i64 v41 ((7#64).toNat:Int)).bind fun L7=>
  Sh.next (HK,L7)
 else
  Sh.exit (G.eX Fc v41)

def iM(fJ:List Int)(bE:Int):Option ((List Int)):=
 Sh.loop (fun(p:(List Int)×Int)=>G.eW p.1 p.2) (fJ,bE)

def rS(v7:List Int):Option ((List UInt8)×Int):=
 some (Sh.str v7,0)

def pG(oz:List Int)(v80:Int)(Dd:Int)(Wf:Bool):Option (((List Int)×Int)⊕((List UInt8)×Int)):=
 if Wf then
  Sh.exit (some ([],1))
 else
  (G.rT (kg (Dd+1))).bind fun X2=>
  (G.iM oz (kg (Dd+1))).bind fun yO=>
  Sh.next (yO,kg (v80+1))

def rR(fJ:List Int)(oz:List Int)(v80:Int):Option (((List Int)×Int)⊕((List UInt8)×Int)):=
 if decide (v80<(Sh.len fJ)) then
  (Sh.idx fJ v80).bind fun Dd=>
  if decide (Dd<(-1)) then
   G.pG oz v80 Dd true
  else
   G.pG oz v80 Dd (decide ((2147483647:Int)<Dd))
 else
  Sh.exit (G.rS oz)

def xA(fJ:List Int):Option ((List UInt8)×Int):=
 if decide ((100000:Int)<(Sh.len fJ)) then
  some ([],4)
 else
  (G.rT (Sh.len fJ)).bind fun Pn=>
  (G.jw [] (Sh.len fJ)).bind fun Eg=>
  Sh.loop (fun(p:(List Int)×Int)=>G.rR fJ p.1 p.2) (Eg,0)

def qk:Option (Int×(List UInt8)×Int):=
 some (0,[],2)

def mg(bN:List UInt8)(n63:Int)(i65:Int)(Dl:Int)(v91:Bool):Option ((Int×Int)⊕(Int×(List UInt8)×Int)):=
 if v91 then
  Sh.exit (some (0,[],2))
 else
  (Sh.sub bN (kg (i65+1)) (Sh.len bN)).bind fun Ar=>
  Sh.exit (some (Sh.Cc .i64 n63 Dl,Ar,0))

def qj(bN:List UInt8)(mD:Int)(n63:Int)(i65:Int):Option ((Int×Int)⊕(Int×(List UInt8)×Int)):=
 if decide (i65<5) then
  if decide (i65=(Sh.len bN)) then
   Sh.exit (some (0,[],16))
  else
   (Sh.idx bN i65).bind fun SY=>
   (Sh.Ou .i64 (kg (Sh.Ll .u8 ((SY).toNat:Int) 127)) (kg (7*i65))).bind fun Dl=>
   (Sh.idx bN i65).bind fun Wo=>
   if decide ((128:Int)≤((Wo).toNat:Int)) then
    Sh.next (Sh.Cc .i64 n63 Dl,kg (i65+1))
   else
    if decide ((0:Int)<i65) then
     (Sh.idx bN i65).bind fun SZ=>
     if decide (((SZ).toNat:Int)=0) then
      G.mg bN n63 i65 Dl true
     else
      G.mg bN n63 i65 Dl (decide (mD<(Sh.Cc .i64 n63 Dl)))
    else
     G.mg bN n63 i65 Dl (decide (mD<(Sh.Cc .i64 n63 Dl)))
 else
  Sh.exit (G.qk)

def sL(bN:List UInt8)(mD:Int):Option (Int×(List UInt8)×Int):=
 Sh.loop (fun(p:Int×Int)=>G.qj bN mD p.1 p.2) (0,0)

def rP(SJ:List UInt8)(Ew:List Int):Option ((List Int)×Int):=
 if !decide (SJ=[]) then
  some ([],2)
 else
  some (Ew,0)

def rO(wF:Int×(List UInt8)×Int)(SK:List UInt8)(BK:List Int)(v41:Int):Option (((List UInt8)×(List Int)×Int)⊕((List Int)×Int)):=
 if decide (v41<wF.1) then
  (G.sL SK 2147483648).bind fun Dk=>
  if decide (Dk.2.2≠0) then
   Sh.exit (some ([],Dk.2.2))
  else
   (Sh.app 8 BK [kg (Dk.1 - 1)]).bind fun BL=>
   Sh.next (Dk.2.1,BL,kg (v41+1))
 else
  Sh.exit (G.rP SK BK)

def xz(bN:List UInt8):Option ((List Int)×Int):=
 (G.sL bN 100000).bind fun wF=>
 if decide (wF.2.2≠0) then
  some ([],wF.2.2)
 else
  Sh.loop (fun(p:(List UInt8)×(List Int)×Int)=>G.rO wF p.1 p.2.1 p.2.2) (wF.2.1,[],0)
end G
end

section
/- What the functions of a package compute, as plain functions. -/
open Go Go.Av
set_option linter.unusedVariables false
namespace G
def d_(bC:G.au):Option (G.ak×G.au):=
 if decide ((Sh.len bC.left)=0) then
  none
 else
  (Sh.idx bC.left 0).bind fun x9=>
  (Sh.sub bC.left 1 (Sh.len bC.left)).bind fun Ap=>
  some (x9,(G.au.mk Ap))

def dZ(self:G.au→Option (G.au×Int×Int))(bC:G.au):Option (G.au×Int×Int):=
 (G.d_ bC).bind fun xD=>
 if decide ((0:Int)<(Sh.len xD.1.eo)) then
  some (xD.2,1,0)
 else
  (self xD.2).bind fun ou=>
  (self ou.1).bind fun si=>
  some (si.1,kg (ou.2.1+si.2.1),kg (1+(Sh.max ou.2.2 si.2.2)))

def cr:Nat→G.au→Option (G.au×Int×Int)
 |0=>fun _=>none
 |n+1=>G.dZ (cr n)

def jZ(bC:G.au):Option (Unit):=
 if decide ((0:Int)<(Sh.len bC.left)) then
  none
 else
  some ()

def tJ(p4:List G.ak):Option (Int×Int×Bool):=
 some (match G.cr (p4.length+1) (G.au.mk p4) with
  |some r=>if decide ((0:Int)<Sh.len r.1.left) then(0,0,false) else(r.2.1,r.2.2,true)
  |none=>(0,0,false))

def rV(bC:G.aa):Option (G.aa):=
 some (G.aa.mk bC.Key bC.B bC.A)

def jx(HT:Int)(eS:G.af)(gH:G.aa):Option (Bool):=
 if decide ((0:Int)≤HT) then
  if decide (HT<(Sh.len eS.aG)) then
   (Sh.idx eS.aG HT).bind fun Wi=>
   (G.cS Wi.bD gH.Key).bind fun Ay=>
   some Ay
  else
   some false
 else
  some false

def oZ(aV:G.af)(bE:G.aa):Option (Bool):=
 if decide (bE.A≠bE.B) then
  (G.jx bE.A aV bE).bind fun HQ=>
  if HQ then
   (G.jx bE.B aV bE).bind fun L0=>
   some L0
  else
   some false
 else
  some false

def jy(self:G.af→Int→(List G.aa)→G.au→Option (G.au×Bool))(aV:G.af)(a_:Int)(kG:List G.aa)(fI:G.au):Option (G.au×Bool):=
 (G.d_ fI).bind fun qt=>
 if decide ((0:Int)<(Sh.len qt.1.eo)) then
  if decide (qt.1.C=(G.aa.mk 0 0 0)) then
   (G.tg aV a_ kG qt.1.eo).bind fun L4=>
   some (qt.2,L4)
  else
   some (qt.2,false)
 else
  (G.eC kG).bind fun Na=>
  (Sh.app 24 Na ([qt.1.C]:List G.aa)).bind fun M5=>
  (self aV a_ M5 qt.2).bind fun zB=>
  (G.rV qt.1.C).bind fun SF=>
  (Sh.app 24 Na ([SF]:List G.aa)).bind fun M6=>
  (self aV a_ M6 zB.1).bind fun Ky=>
  if zB.2 then
   if Ky.2 then
    (G.oZ aV qt.1.C).bind fun Tt=>
    some (Ky.1,Tt)
   else
    some (Ky.1,false)
  else
   some (Ky.1,false)

def kB:Nat→G.af→Int→(List G.aa)→G.au→Option (G.au×Bool)
 |0=>fun _ _ _ _=>none
 |n+1=>G.jy (kB n)

def oB(aV:G.af)(a_:Int)(kG:List G.aa)(fI:G.au):Option (G.au×Bool):=G.kB Sh.p_ aV a_ kG fI

def iN(aV:G.af)(a_:Int)(kG:List G.aa)(jJ:List G.ak)(v20:Bool):Option (Bool):=
 if v20 then
  some false
 else
  (G.oB aV a_ kG (G.au.mk jJ)).bind fun OJ=>
  some OJ.2

def ql(aV:G.af)(a_:Int)(kG:List G.aa)(jJ:List G.ak):Option (Bool):=
 (G.tJ jJ).bind fun wF=>
 if !wF.2.2 then
  G.iN aV a_ kG jJ true
 else
  (G.js aV).bind fun SD=>
  if !SD then
   G.iN aV a_ kG jJ true
  else
   if decide (a_≠0) then
    G.iN aV a_ kG jJ (decide (a_≠1))
   else
    G.iN aV a_ kG jJ false
end G
end

section
/- What the functions of a package compute, as plain functions. -/
open Go Go.Av
set_option linter.unusedVariables false
namespace G
def mM(fJ:List Int)(iL:List Int):Option ((List Int)):=
 (Sh.app 8 iL [Sh.len fJ]).bind fun l4=>
 (Sh.app 8 l4 fJ).bind fun l5=>
 some l5

def rJ(Tx:List Int):Option ((List UInt8)×Int):=
 (G.xA Tx).bind fun CM=>
 some (CM.1,CM.2)

def rG(bC:G.aK)(xx:List Int)(Nd:Int):Option (((List Int)×Int)⊕((List UInt8)×Int)):=
 if decide (Nd<(Sh.len bC.Tree)) then
  (Sh.idx bC.Tree Nd).bind fun om=>
  (Sh.app 8 xx [om.C.Key,om.C.A,om.C.B]).bind fun CD=>
  (G.mM om.eo CD).bind fun G2=>
  Sh.next (G2,kg (Nd+1))
 else
  Sh.exit (G.rJ xx)

def rI(bC:G.aK)(v7:List Int):Option ((List UInt8)×Int):=
 (Sh.app 8 v7 [Sh.len bC.Tree]).bind fun Oy=>
 Sh.loop (fun(p:(List Int)×Int)=>G.rG bC p.1 p.2) (Oy,0)

def rH(bC:G.aK)(tI:List Int)(EV:Int):Option (((List Int)×Int)⊕((List UInt8)×Int)):=
 if decide (EV<(Sh.len bC.Rows)) then
  (Sh.idx bC.Rows EV).bind fun vn=>
  (Sh.app 8 tI [vn.Key]).bind fun CE=>
  (G.mM vn.L CE).bind fun G5=>
  Sh.next (G5,kg (EV+1))
 else
  Sh.exit (G.rI bC tI)

def o9(bC:G.aK)(EX:Int):Option ((List UInt8)×Int):=
 (Sh.app 8 [] [bC.Level,EX]).bind fun Ov=>
 (G.mM bC.Order Ov).bind fun G7=>
 (Sh.app 8 G7 [Sh.len bC.Rows]).bind fun Ow=>
 Sh.loop (fun(p:(List Int)×Int)=>G.rH bC p.1 p.2) (Ow,0)

def w6(bC:G.aK):Option ((List UInt8)×Int):=
 if bC.j5 then
  G.o9 bC 1
 else
  G.o9 bC 0

def h_(bC:List Int)(bE:Bool):Option ((List Int)×Bool×Int):=
 if decide ((Sh.len bC)=0) then
  some (bC,false,0)
 else
  (Sh.idx bC 0).bind fun TA=>
  (Sh.sub bC 1 (Sh.len bC)).bind fun Aq=>
  some (Aq,bE,TA)

def kj(r8:(List Int)×Bool×Int)(TI:Bool):Option (Int×Bool×(List Int)):=
 some (r8.2.2,TI,r8.1)

def k7(bC:Bool)(bE:List Int):Option (Int×Bool×(List Int)):=
 (G.h_ bE bC).bind fun r8=>
 if r8.2.1 then
  G.kj r8 (decide ((0:Int)≤r8.2.2))
 else
  G.kj r8 false

def l_(Tl:List Int)(v53:Bool)(v54:List Int):Option ((List Int)×Bool×(List Int)):=
 some (Tl,v53,v54)

def kn(HM:List Int)(Gg:List Int)(n74:Int)(O7:Bool)(v80:Bool):Option ((Bool×(List Int)×(List Int)×Int)⊕((List Int)×Bool×(List Int))):=
 if v80 then
  (G.h_ HM O7).bind fun HR=>
  (Sh.app 8 Gg [HR.2.2]).bind fun Pf=>
  Sh.next (HR.2.1,HR.1,Pf,kg (n74 - 1))
 else
  Sh.exit (G.l_ Gg O7 HM)

def l9(PK:Bool)(HM:List Int)(Gg:List Int)(n74:Int):Option ((Bool×(List Int)×(List Int)×Int)⊕((List Int)×Bool×(List Int))):=
 if PK then
  G.kn HM Gg n74 true (decide ((0:Int)<n74))
 else
  G.kn HM Gg n74 false false

def mL(bC:Bool)(bE:List Int):Option ((List Int)×Bool×(List Int)):=
 (G.k7 bC bE).bind fun zB=>
 Sh.loop (fun(p:Bool×(List Int)×(List Int)×Int)=>G.l9 p.1 p.2.1 p.2.2.1 p.2.2.2) (zB.2.1,zB.2.2,[],zB.1)

def o6(fD:(List Int)×Bool×Int)(fh:Int×Bool×(List Int))(dQ:(List Int)×Bool×(List Int))(v109:List G.an)(v145:List G.ak)(OS:Bool):Option (G.aK×Int):=
 if OS then
  some ((G.aK.mk 0 false [] [] []),2)
 else
  some ((G.aK.mk fD.2.2 (decide (fh.1=1)) dQ.1 v109 v145),0)

def rF(fD:(List Int)×Bool×Int)(fh:Int×Bool×(List Int))(dQ:(List Int)×Bool×(List Int))(v109:List G.an)(v143:List Int)(Hz:Bool)(v145:List G.ak):Option (G.aK×Int):=
 if !Hz then
  G.o6 fD fh dQ v109 v145 true
 else
  G.o6 fD fh dQ v109 v145 (decide ((0:Int)<(Sh.len v143)))

def o7(fD:(List Int)×Bool×Int)(fh:Int×Bool×(List Int))(dQ:(List Int)×Bool×(List Int))(v109:List G.an)(m_:List Int)(dN:List G.ak)(n177:Int)(vv:Bool)(v183:Bool):Option (((List Int)×Bool×(List G.ak)×Int)⊕(G.aK×Int)):=
 if v183 then
  (G.h_ m_ vv).bind fun pJ=>
  (G.h_ pJ.1 pJ.2.1).bind fun qW=>
  (G.h_ qW.1 qW.2.1).bind fun sM=>
  (G.mL sM.2.1 sM.1).bind fun uw=>
  (Sh.app 48 dN ([(G.ak.mk (G.aa.mk pJ.2.2 qW.2.2 sM.2.2) uw.1)]:List G.ak)).bind fun Fy=>
  Sh.next (uw.2.2,uw.2.1,Fy,kg (n177 - 1))
 else
  Sh.exit (G.rF fD fh dQ v109 m_ vv dN)

def rC(fD:(List Int)×Bool×Int)(fh:Int×Bool×(List Int))(dQ:(List Int)×Bool×(List Int))(v109:List G.an)(m_:List Int)(xg:Bool)(dN:List G.ak)(n177:Int):Option (((List Int)×Bool×(List G.ak)×Int)⊕(G.aK×Int)):=
 if xg then
  G.o7 fD fh dQ v109 m_ dN n177 true (decide ((0:Int)<n177))
 else
  G.o7 fD fh dQ v109 m_ dN n177 false false

def rE(fD:(List Int)×Bool×Int)(fh:Int×Bool×(List Int))(dQ:(List Int)×Bool×(List Int))(v107:List Int)(Mg:Bool)(v109:List G.an):Option (G.aK×Int):=
 (G.k7 Mg v107).bind fun Ax=>
 Sh.loop (fun(p:(List Int)×Bool×(List G.ak)×Int)=>G.rC fD fh dQ v109 p.1 p.2.1 p.2.2.1 p.2.2.2) (Ax.2.2,Ax.2.1,[],Ax.1)

def o8(fD:(List Int)×Bool×Int)(fh:Int×Bool×(List Int))(dQ:(List Int)×Bool×(List Int))(jY:List Int)(aT:List G.an)(n221:Int)(nX:Bool)(v227:Bool):Option (((List Int)×Bool×(List G.an)×Int)⊕(G.aK×Int)):=
 if v227 then
  (G.h_ jY nX).bind fun dh=>
  (G.mL dh.2.1 dh.1).bind fun b_=>
  (Sh.app 32 aT ([(G.an.mk dh.2.2 b_.1)]:List G.an)).bind fun jd=>
  Sh.next (b_.2.2,b_.2.1,jd,kg (n221 - 1))
 else
  Sh.exit (G.rE fD fh dQ jY nX aT)

def rD(fD:(List Int)×Bool×Int)(fh:Int×Bool×(List Int))(dQ:(List Int)×Bool×(List Int))(jY:List Int)(xh:Bool)(aT:List G.an)(n221:Int):Option (((List Int)×Bool×(List G.an)×Int)⊕(G.aK×Int)):=
 if xh then
  G.o8 fD fh dQ jY aT n221 true (decide ((0:Int)<n221))
 else
  G.o8 fD fh dQ jY aT n221 false false

def o5(fD:(List Int)×Bool×Int)(fh:Int×Bool×(List Int))(Co:Bool):Option (G.aK×Int):=
 (G.mL Co fh.2.2).bind fun dQ=>
 (G.k7 dQ.2.1 dQ.2.2).bind fun AA=>
 Sh.loop (fun(p:(List Int)×Bool×(List G.an)×Int)=>G.rD fD fh dQ p.1 p.2.1 p.2.2.1 p.2.2.2) (AA.2.2,AA.2.1,[],AA.1)

def wZ(bN:List UInt8):Option (G.aK×Int):=
 (G.xz bN).bind fun Gs=>
 if decide (Gs.2≠0) then
  some ((G.aK.mk 0 false [] [] []),Gs.2)
 else
  (G.h_ Gs.1 true).bind fun fD=>
  (G.k7 fD.2.1 fD.1).bind fun fh=>
  if fh.2.1 then
   G.o5 fD fh (decide (fh.1≤1))
  else
   G.o5 fD fh false

def o_(a_:Int)(cOrder7:List Int)(s_:List G.an):Option (G.aK):=
 some (G.aK.mk a_ true cOrder7 s_ [])

def mN(aV:G.af)(a_:Int)(kL:List Int):Option (G.aK):=
 if decide (a_=0) then
  (G.iA kL).bind fun HP=>
  G.o_ a_ HP []
 else
  (G.tO aV kL).bind fun HQ=>
  G.o_ a_ [] HQ

def tc(eV:Int)(v33:List G.ak):Option (G.aK):=
 some (G.aK.mk eV false [] [] v33)

def ta(eV:Int)(jf:List G.ak)(qc:List G.ak)(v45:Int):Option (((List G.ak)×Int)⊕(G.aK)):=
 if decide (v45<(Sh.len jf)) then
  (Sh.idx jf v45).bind fun A6=>
  (G.iA A6.eo).bind fun Po=>
  (Sh.app 48 qc ([(G.ak.mk (G.aa.mk A6.C.Key A6.C.A A6.C.B) Po)]:List G.ak)).bind fun Ox=>
  Sh.next (Ox,kg (v45+1))
 else
  Sh.exit (G.tc eV qc)

def zn(eV:Int)(jf:List G.ak):Option (G.aK):=
 Sh.loop (fun(p:(List G.ak)×Int)=>G.ta eV jf p.1 p.2) ([],0)

def dX(aV:G.af)(bE:G.aK):Option (Bool):=
 if !bE.j5 then
  if decide ((Sh.len bE.Order)=0) then
   if decide ((Sh.len bE.Rows)=0) then
    (G.ql aV bE.Level [] bE.Tree).bind fun Tp=>
    some Tp
   else
    some false
  else
   some false
 else
  if decide (bE.Level=0) then
   if decide ((Sh.len bE.Rows)=0) then
    if decide ((Sh.len bE.Tree)=0) then
     (G.oN aV bE.Order).bind fun oK=>
     some oK
    else
     some false
   else
    some false
  else
   if decide (bE.Level=1) then
    if decide ((Sh.len bE.Order)=0) then
     if decide ((Sh.len bE.Tree)=0) then
      (G.qY aV bE.Rows).bind fun La=>
      some La
     else
      some false
    else
     some false
   else
    some false
end G
end

section
/- What the functions of a package compute, as plain functions. -/
open Go Go.Av
set_option linter.unusedVariables false
namespace G
def jN:Option (Bool):=
 some true

def jM(fc:List Int)(gI:List Int)(i39:Int):Option ((Int)⊕(Bool)):=
 if decide (i39<(Sh.len fc)) then
  (Sh.idx fc i39).bind fun FZ=>
  (Sh.idx gI i39).bind fun Bs=>
  if decide (FZ≠Bs) then
   Sh.exit (some false)
  else
   Sh.next (kg (i39+1))
 else
  Sh.exit (G.jN)

def lF(fc:List Int)(gI:List Int):Option (Bool):=
 if decide ((Sh.len fc)≠(Sh.len gI)) then
  some false
 else
  Sh.loop (fun(p:Int)=>G.jM fc gI p) 0
end G
end

section
/- What the functions of a package compute, as plain functions. -/
open Go Go.Av
set_option linter.unusedVariables false
namespace G
def jQ:Option (Bool):=
 some true

def jR(gR:Int):Option ((Int)⊕(Bool)):=
 Sh.next (kg (gR+1))

def jP(fc:List G.az)(gI:List G.az)(gR:Int)(yj:Int):Option ((Int)⊕((Int)⊕(Bool))):=
 (Sh.idx fc gR).bind fun C9=>
 if decide (yj<(Sh.len C9.L)) then
  (Sh.idx fc gR).bind fun C_=>
  (Sh.idx C_.L yj).bind fun Da=>
  (Sh.idx gI gR).bind fun Db=>
  (Sh.idx Db.L yj).bind fun Dc=>
  if decide (Da≠Dc) then
   Sh.exit (Sh.exit (some false))
  else
   Sh.next (kg (yj+1))
 else
  Sh.exit (G.jR gR)

def iw(fc:List G.az)(gI:List G.az)(gR:Int)(FW:Bool):Option ((Int)⊕(Bool)):=
 if FW then
  Sh.exit (some false)
 else
  Sh.loop (fun(p:Int)=>G.jP fc gI gR p) 0

def jO(fc:List G.az)(gI:List G.az)(gR:Int):Option ((Int)⊕(Bool)):=
 if decide (gR<(Sh.len fc)) then
  (Sh.idx fc gR).bind fun zf=>
  (Sh.idx gI gR).bind fun zg=>
  if decide (zf.Key≠zg.Key) then
   G.iw fc gI gR true
  else
   (Sh.idx fc gR).bind fun yF=>
   (Sh.idx gI gR).bind fun yG=>
   G.iw fc gI gR (decide ((Sh.len yF.L)≠(Sh.len yG.L)))
 else
  Sh.exit (G.jQ)

def lG(fc:List G.az)(gI:List G.az):Option (Bool):=
 if decide ((Sh.len fc)≠(Sh.len gI)) then
  some false
 else
  Sh.loop (fun(p:Int)=>G.jO fc gI p) 0
end G
end

section
/- What the functions of a package compute, as plain functions. -/
open Go Go.Av
set_option linter.unusedVariables false
namespace G
def jU:Option (Bool):=
 some true

def jV(gR:Int):Option ((Int)⊕(Bool)):=
 Sh.next (kg (gR+1))

def jT(fc:List G.aD)(gI:List G.aD)(gR:Int)(yj:Int):Option ((Int)⊕((Int)⊕(Bool))):=
 (Sh.idx fc gR).bind fun C9=>
 if decide (yj<(Sh.len C9.eo)) then
  (Sh.idx fc gR).bind fun C_=>
  (Sh.idx C_.eo yj).bind fun Da=>
  (Sh.idx gI gR).bind fun Db=>
  (Sh.idx Db.eo yj).bind fun Dc=>
  if decide (Da≠Dc) then
   Sh.exit (Sh.exit (some false))
  else
   Sh.next (kg (yj+1))
 else
  Sh.exit (G.jV gR)

def iy(fc:List G.aD)(gI:List G.aD)(gR:Int)(FW:Bool):Option ((Int)⊕(Bool)):=
 if FW then
  Sh.exit (some false)
 else
  Sh.loop (fun(p:Int)=>G.jT fc gI gR p) 0

def jS(fc:List G.aD)(gI:List G.aD)(gR:Int):Option ((Int)⊕(Bool)):=
 if decide (gR<(Sh.len fc)) then
  (Sh.idx fc gR).bind fun zf=>
  (Sh.idx gI gR).bind fun zg=>
  if !decide (zf.C=zg.C) then
   G.iy fc gI gR true
  else
   (Sh.idx fc gR).bind fun yF=>
   (Sh.idx gI gR).bind fun yG=>
   G.iy fc gI gR (decide ((Sh.len yF.eo)≠(Sh.len yG.eo)))
 else
  Sh.exit (G.jU)

def lH(fc:List G.aD)(gI:List G.aD):Option (Bool):=
 if decide ((Sh.len fc)≠(Sh.len gI)) then
  some false
 else
  Sh.loop (fun(p:Int)=>G.jS fc gI p) 0
end G
end

section
/- What the functions of a package compute, as plain functions. -/
open Go Go.Av
set_option linter.unusedVariables false
namespace G
def lI(fc:G.bu)(gI:G.bu):Option (Bool):=
 (G.lF fc.Order gI.Order).bind fun HP=>
 (G.lG fc.Rows gI.Rows).bind fun G3=>
 (G.lH fc.Tree gI.Tree).bind fun Kv=>
 if decide (fc.Level=gI.Level) then
  if fc.j5==gI.j5 then
   if HP then
    if G3 then
     some Kv
    else
     some false
   else
    some false
  else
   some false
 else
  some false
end G
end

section
/- What the functions of a package compute, as plain functions. -/
open Go Go.Av
set_option linter.unusedVariables false
namespace G
def jF(bC:G.aK)(v58:List G.az)(v78:List G.aD):Option (G.bu):=
 some (G.bu.mk bC.Level bC.j5 bC.Order v58 v78)

def jC(bC:G.aK)(v58:List G.az)(outTree91:List G.aD)(i92:Int):Option (((List G.aD)×Int)⊕(G.bu)):=
 if decide (i92<(Sh.len bC.Tree)) then
  (Sh.idx bC.Tree i92).bind fun Gw=>
  (Sh.idx bC.Tree i92).bind fun HG=>
  (Sh.app 48 outTree91 ([(G.aD.mk (G.aa.mk Gw.C.Key Gw.C.A Gw.C.B) HG.eo)]:List G.aD)).bind fun Fv=>
  Sh.next (Fv,kg (i92+1))
 else
  Sh.exit (G.jF bC v58 outTree91)

def jE(bC:G.aK)(v58:List G.az):Option (G.bu):=
 Sh.loop (fun(p:(List G.aD)×Int)=>G.jC bC v58 p.1 p.2) ([],0)

def jD(bC:G.aK)(outRows116:List G.az)(i117:Int):Option (((List G.az)×Int)⊕(G.bu)):=
 if decide (i117<(Sh.len bC.Rows)) then
  (Sh.idx bC.Rows i117).bind fun AY=>
  (Sh.idx bC.Rows i117).bind fun HH=>
  (Sh.app 32 outRows116 ([(G.az.mk AY.Key HH.L)]:List G.az)).bind fun Fx=>
  Sh.next (Fx,kg (i117+1))
 else
  Sh.exit (G.jE bC outRows116)

def jt(bC:G.aK):Option (G.bu):=
 Sh.loop (fun(p:(List G.az)×Int)=>G.jD bC p.1 p.2) ([],0)

def jv:Option (Bool):=
 (G.mN (G.af.mk ([(G.ah.mk 1 [] ([(G.aj.mk 0 1)]:List G.aj)),(G.ah.mk 0 [0] [])]:List G.ah)) 0 [1,0]).bind fun xT=>
 (G.w6 xT).bind fun ou=>
 (G.wZ ou.1).bind fun si=>
 (G.zn 0 []).bind fun Dj=>
 if decide (ou.2=0) then
  if decide (ou.1=([7,1,2,3,2,1,1,1]:List UInt8)) then
   if decide (si.2=0) then
    (G.jt xT).bind fun V4=>
    (G.jt si.1).bind fun yy=>
    (G.lI V4 yy).bind fun E4=>
    if E4 then
     (G.dX (G.af.mk ([(G.ah.mk 1 [] ([(G.aj.mk 0 1)]:List G.aj)),(G.ah.mk 0 [0] [])]:List G.ah)) xT).bind fun G7=>
     if G7 then
      (G.dX (G.af.mk ([(G.ah.mk 1 [] ([(G.aj.mk 0 1)]:List G.aj)),(G.ah.mk 0 [0] [])]:List G.ah)) Dj).bind fun La=>
      if !La then
       some (!Dj.j5)
      else
       some false
     else
      some false
    else
     some false
   else
    some false
  else
   some false
 else
  some false

def dm(aV:G.af)(eG:G.aK)(oK:G.aK)(v69:Bool):Option (Bool):=
 if v69 then
  some false
 else
  if decide ((Sh.len oK.Rows)=0) then
   some true
  else
   (G.dX aV (G.aK.mk eG.Level eG.j5 eG.Order oK.Rows eG.Tree)).bind fun Pp=>
   some (!Pp)

def cV(aV:G.af)(aI:List Int)(eG:G.aK)(oK:G.aK)(v58:Bool):Option (Bool):=
 if v58 then
  some false
 else
  if decide ((0:Int)<(Sh.len aI)) then
   (G.dX aV (G.aK.mk eG.Level false eG.Order eG.Rows eG.Tree)).bind fun Tu=>
   if Tu then
    G.dm aV eG oK true
   else
    (G.dX aV (G.aK.mk 1 eG.j5 eG.Order eG.Rows eG.Tree)).bind fun L5=>
    G.dm aV eG oK L5
  else
   G.dm aV eG oK false

def dK(aV:G.af)(aI:List Int)(v33:Bool):Option (Bool):=
 if v33 then
  some true
 else
  (G.mN aV 0 aI).bind fun eG=>
  (G.mN aV 1 aI).bind fun oK=>
  (G.dX aV eG).bind fun yy=>
  (G.oN aV aI).bind fun dQ=>
  if !(yy==dQ) then
   G.cV aV aI eG oK true
  else
   (G.dX aV oK).bind fun SG=>
   (G.tO aV aI).bind fun V6=>
   (G.qY aV V6).bind fun CM=>
   if !(SG==CM) then
    G.cV aV aI eG oK true
   else
    if yy then
     (G.dX aV oK).bind fun SH=>
     G.cV aV aI eG oK (!SH)
    else
     G.cV aV aI eG oK false

def fV(aV:G.af)(aI:List Int):Option (Bool):=
 (G.jv).bind fun To=>
 if !To then
  some false
 else
  (G.jm aV 20).bind fun SE=>
  if !SE then
   G.dK aV aI true
  else
   G.dK aV aI (decide ((40:Int)<(Sh.len aI)))
end G
end
