/- What the functions compute, as plain functions. -/
import Derived.Test.YtanbmobkolihaaaGreatDoorBase2
open Go.Sh renaming len→arA,exit→aaN,idx→aaV,next→abo,loop→abt,app→abz,set→abG,sub→abH,mk→abL,min→abM,max→abN,lim→abO
open List renaming map→ajN,replicate→aeR
set_option linter.unusedSimpArgs false
set_option linter.unusedVariables false
section
open Go Go.Av
namespace G
structure eM where (c0 c1 c2 c3:Bool)
 deriving DecidableEq,Inhabited
def eM.av(x:eM):AV:=.agg [bl x.c0,bl x.c1,bl x.c2,bl x.c3]
@[simp] theorem eM.lT(x:eM):bQ (eM.av x):=by simp[eM.av]
@[simp] theorem eM.b6(x:eM):AV.b6 (eM.av x)=true:=rfl
@[simp] theorem eM.CB(x:eM):ya (eM.av x):=by simp[eM.av]
@[simp] theorem eM.flat(x:eM):(eM.av x).flat.length=4:=rfl
@[simp] theorem eM.fl(x:eM):(eM.av x).flat=[bl x.c0,bl x.c1,bl x.c2,bl x.c3]:=rfl
structure bu where (c0 c1 c2 c3:Int)
 deriving DecidableEq,Inhabited
def bu.av(x:bu):AV:=.agg [J x.c0,J x.c1,J x.c2,J x.c3]
@[simp] theorem bu.lT(x:bu):bQ (bu.av x):=by simp[bu.av]
@[simp] theorem bu.b6(x:bu):AV.b6 (bu.av x)=true:=rfl
@[simp] theorem bu.CB(x:bu):ya (bu.av x):=by simp[bu.av]
@[simp] theorem bu.flat(x:bu):(bu.av x).flat.length=4:=rfl
@[simp] theorem bu.fl(x:bu):(bu.av x).flat=[J x.c0,J x.c1,J x.c2,J x.c3]:=rfl
structure aa where (Key A B:Int)
 deriving DecidableEq,Inhabited
def aa.av(x:aa):AV:=.agg [J x.Key,J x.A,J x.B]
@[simp] theorem aa.lT(x:aa):bQ (aa.av x):=by simp[aa.av]
@[simp] theorem aa.b6(x:aa):AV.b6 (aa.av x)=true:=rfl
@[simp] theorem aa.CB(x:aa):ya (aa.av x):=by simp[aa.av]
@[simp] theorem aa.flat(x:aa):(aa.av x).flat.length=3:=rfl
def aa.ky(x:aa):List Int:=[x.Key,x.A,x.B]
theorem aa.LN(a b:aa)(h:aa.ky a=aa.ky b):a=b:=by cases a;cases b;simpa [aa.ky] using h
theorem aa.LO(a:aa):(aa.ky a).length=3:=rfl
def aa.kv(x:aa):_root_.Go.Value:=.agg #[.int .i64 x.Key,.int .i64 x.A,.int .i64 x.B]
theorem aa.Vr(x:aa):(aa.kv x).MD=true:=by simp[_root_.Go.Value.MD,_root_.Go.Value.oneCell',aa.kv]
structure an where (Kind aI Key Value:Int)
 deriving DecidableEq,Inhabited
def an.av(x:an):AV:=.agg [J x.Kind,J x.aI,J x.Key,J x.Value]
@[simp] theorem an.lT(x:an):bQ (an.av x):=by simp[an.av]
@[simp] theorem an.b6(x:an):AV.b6 (an.av x)=true:=rfl
@[simp] theorem an.CB(x:an):ya (an.av x):=by simp[an.av]
@[simp] theorem an.flat(x:an):(an.av x).flat.length=4:=rfl
structure aO where (Key eu:Int)
 deriving DecidableEq,Inhabited
def aO.av(x:aO):AV:=.agg [J x.Key,J x.eu]
@[simp] theorem aO.lT(x:aO):bQ (aO.av x):=by simp[aO.av]
@[simp] theorem aO.b6(x:aO):AV.b6 (aO.av x)=true:=rfl
@[simp] theorem aO.CB(x:aO):ya (aO.av x):=by simp[aO.av]
@[simp] theorem aO.flat(x:aO):(aO.av x).flat.length=2:=rfl
structure aJ where (aI:Int) (bA:List Int) (Reads:List aO)
 deriving DecidableEq,Inhabited
def aJ.av(x:aJ):AV:=.agg [J x.aI,.sl (ajN J x.bA),.sl (ajN aO.av x.Reads)]
@[simp] theorem aJ.lT(x:aJ):bQ (aJ.av x):=by simp[aJ.av]
@[simp] theorem aJ.b6(x:aJ):AV.b6 (aJ.av x)=true:=rfl
@[simp] theorem aJ.flat(x:aJ):(aJ.av x).flat.length=3:=rfl
structure af where (aL:List aJ)
 deriving DecidableEq,Inhabited
def af.av(x:af):AV:=.agg [.sl (ajN aJ.av x.aL)]
@[simp] theorem af.lT(x:af):bQ (af.av x):=by simp[af.av]
@[simp] theorem af.b6(x:af):AV.b6 (af.av x)=true:=rfl
@[simp] theorem af.flat(x:af):(af.av x).flat.length=1:=rfl
structure c_ where (Key:Int) (L:List Int)
 deriving DecidableEq,Inhabited
def c_.av(x:c_):AV:=.agg [J x.Key,.sl (ajN J x.L)]
@[simp] theorem c_.lT(x:c_):bQ (c_.av x):=by simp[c_.av]
@[simp] theorem c_.b6(x:c_):AV.b6 (c_.av x)=true:=rfl
@[simp] theorem c_.flat(x:c_):(c_.av x).flat.length=2:=rfl
structure ai where (C:aa) (eH:List Int)
 deriving DecidableEq,Inhabited
def ai.av(x:ai):AV:=.agg [J x.C.Key,J x.C.A,J x.C.B,.sl (ajN J x.eH)]
@[simp] theorem ai.lT(x:ai):bQ (ai.av x):=by simp[ai.av]
@[simp] theorem ai.b6(x:ai):AV.b6 (ai.av x)=true:=rfl
@[simp] theorem ai.flat(x:ai):(ai.av x).flat.length=4:=rfl
structure eT where (Level:Int) (Yes:Bool) (Order:List Int) (Rows:List c_) (Tree:List ai)
 deriving DecidableEq,Inhabited
def eT.av(x:eT):AV:=.agg [J x.Level,bl x.Yes,.sl (ajN J x.Order),.sl (ajN c_.av x.Rows),.sl (ajN ai.av x.Tree)]
@[simp] theorem eT.lT(x:eT):bQ (eT.av x):=by simp[eT.av]
@[simp] theorem eT.b6(x:eT):AV.b6 (eT.av x)=true:=rfl
@[simp] theorem eT.flat(x:eT):(eT.av x).flat.length=5:=rfl
structure bC where (Left:Int) (bW:bu)
 deriving DecidableEq,Inhabited
def bC.av(x:bC):AV:=.agg [J x.Left,J x.bW.c0,J x.bW.c1,J x.bW.c2,J x.bW.c3]
@[simp] theorem bC.lT(x:bC):bQ (bC.av x):=by simp[bC.av]
@[simp] theorem bC.b6(x:bC):AV.b6 (bC.av x)=true:=rfl
@[simp] theorem bC.CB(x:bC):ya (bC.av x):=by simp[bC.av]
@[simp] theorem bC.flat(x:bC):(bC.av x).flat.length=5:=rfl
@[simp] theorem bC.fl(x:bC):(bC.av x).flat=[J x.Left,J x.bW.c0,J x.bW.c1,J x.bW.c2,J x.bW.c3]:=rfl
structure dD where (gL E aqS By dR aj_:Int) (Cert:eT)
 deriving DecidableEq,Inhabited
def dD.av(x:dD):AV:=.agg [J x.gL,J x.E,J x.aqS,J x.By,J x.dR,J x.aj_,J x.Cert.Level,bl x.Cert.Yes,.sl (ajN J x.Cert.Order),.sl (ajN c_.av x.Cert.Rows),.sl (ajN ai.av x.Cert.Tree)]
@[simp] theorem dD.lT(x:dD):bQ (dD.av x):=by simp[dD.av]
@[simp] theorem dD.b6(x:dD):AV.b6 (dD.av x)=true:=rfl
@[simp] theorem dD.flat(x:dD):(dD.av x).flat.length=11:=rfl
structure au where (C:aa) (Kind I J:Int) (eH:List Int)
 deriving DecidableEq,Inhabited
def au.av(x:au):AV:=.agg [Go.Av.J x.C.Key,Go.Av.J x.C.A,Go.Av.J x.C.B,Go.Av.J x.Kind,Go.Av.J x.I,Go.Av.J x.J,.sl (ajN Go.Av.J x.eH)]
@[simp] theorem au.lT(x:au):bQ (au.av x):=by simp[au.av]
@[simp] theorem au.b6(x:au):AV.b6 (au.av x)=true:=rfl
@[simp] theorem au.flat(x:au):(au.av x).flat.length=7:=rfl
structure aX where (At Idle:Int)
 deriving DecidableEq,Inhabited
def aX.av(x:aX):AV:=.agg [J x.At,J x.Idle]
@[simp] theorem aX.lT(x:aX):bQ (aX.av x):=by simp[aX.av]
@[simp] theorem aX.b6(x:aX):AV.b6 (aX.av x)=true:=rfl
@[simp] theorem aX.CB(x:aX):ya (aX.av x):=by simp[aX.av]
@[simp] theorem aX.flat(x:aX):(aX.av x).flat.length=2:=rfl
structure aN where (cU:Int) (Cut:Bool) (Path:List Int) (Left:List (List Int))
 deriving DecidableEq,Inhabited
def aN.av(x:aN):AV:=.agg [J x.cU,bl x.Cut,.sl (ajN J x.Path),.sl (ajN (mG J) x.Left)]
@[simp] theorem aN.lT(x:aN):bQ (aN.av x):=by simp[aN.av]
@[simp] theorem aN.b6(x:aN):AV.b6 (aN.av x)=true:=rfl
@[simp] theorem aN.flat(x:aN):(aN.av x).flat.length=4:=rfl
structure aA where (C:aa) (yJ:Bool) (gy:List ai)
 deriving DecidableEq,Inhabited
def aA.av(x:aA):AV:=.agg [J x.C.Key,J x.C.A,J x.C.B,bl x.yJ,.sl (ajN ai.av x.gy)]
@[simp] theorem aA.lT(x:aA):bQ (aA.av x):=by simp[aA.av]
@[simp] theorem aA.b6(x:aA):AV.b6 (aA.av x)=true:=rfl
@[simp] theorem aA.flat(x:aA):(aA.av x).flat.length=5:=rfl
structure aW where (Left:Int) (bW bD:bu)
 deriving DecidableEq,Inhabited
def aW.av(x:aW):AV:=.agg [J x.Left,J x.bW.c0,J x.bW.c1,J x.bW.c2,J x.bW.c3,J x.bD.c0,J x.bD.c1,J x.bD.c2,J x.bD.c3]
@[simp] theorem aW.lT(x:aW):bQ (aW.av x):=by simp[aW.av]
@[simp] theorem aW.b6(x:aW):AV.b6 (aW.av x)=true:=rfl
@[simp] theorem aW.CB(x:aW):ya (aW.av x):=by simp[aW.av]
@[simp] theorem aW.flat(x:aW):(aW.av x).flat.length=9:=rfl
@[simp] theorem aW.fl(x:aW):(aW.av x).flat=[J x.Left,J x.bW.c0,J x.bW.c1,J x.bW.c2,J x.bW.c3,J x.bD.c0,J x.bD.c1,J x.bD.c2,J x.bD.c3]:=rfl
structure aK where (H:af) (Level:Int) (fh:List au) (eY:eM) (Sat:aX) (gj:aN) (Path:List aA) (P:aW) (dR gL By:Int) (Order:List Int) (Tree:List ai)
 deriving DecidableEq,Inhabited
def aK.av(x:aK):AV:=.agg [.sl (ajN aJ.av x.H.aL),J x.Level,.sl (ajN au.av x.fh),bl x.eY.c0,bl x.eY.c1,bl x.eY.c2,bl x.eY.c3,J x.Sat.At,J x.Sat.Idle,J x.gj.cU,bl x.gj.Cut,.sl (ajN J x.gj.Path),.sl (ajN (mG J) x.gj.Left),.sl (ajN aA.av x.Path),J x.P.Left,J x.P.bW.c0,J x.P.bW.c1,J x.P.bW.c2,J x.P.bW.c3,J x.P.bD.c0,J x.P.bD.c1,J x.P.bD.c2,J x.P.bD.c3,J x.dR,J x.gL,J x.By,.sl (ajN J x.Order),.sl (ajN ai.av x.Tree)]
@[simp] theorem aK.lT(x:aK):bQ (aK.av x):=by simp[aK.av]
@[simp] theorem aK.b6(x:aK):AV.b6 (aK.av x)=true:=rfl
@[simp] theorem aK.flat(x:aK):(aK.av x).flat.length=28:=rfl
@[simp] theorem aK.fl(x:aK):(aK.av x).flat=[.sl (ajN aJ.av x.H.aL),J x.Level,.sl (ajN au.av x.fh),bl x.eY.c0,bl x.eY.c1,bl x.eY.c2,bl x.eY.c3,J x.Sat.At,J x.Sat.Idle,J x.gj.cU,bl x.gj.Cut,.sl (ajN J x.gj.Path),.sl (ajN (mG J) x.gj.Left),.sl (ajN aA.av x.Path),J x.P.Left,J x.P.bW.c0,J x.P.bW.c1,J x.P.bW.c2,J x.P.bW.c3,J x.P.bD.c0,J x.P.bD.c1,J x.P.bD.c2,J x.P.bD.c3,J x.dR,J x.gL,J x.By,.sl (ajN J x.Order),.sl (ajN ai.av x.Tree)]:=rfl
structure bY where (s:aK) (bytes:List UInt8)
 deriving DecidableEq,Inhabited
def bY.av(x:bY):AV:=.agg [.sl (ajN aJ.av x.s.H.aL),J x.s.Level,.sl (ajN au.av x.s.fh),bl x.s.eY.c0,bl x.s.eY.c1,bl x.s.eY.c2,bl x.s.eY.c3,J x.s.Sat.At,J x.s.Sat.Idle,J x.s.gj.cU,bl x.s.gj.Cut,.sl (ajN J x.s.gj.Path),.sl (ajN (mG J) x.s.gj.Left),.sl (ajN aA.av x.s.Path),J x.s.P.Left,J x.s.P.bW.c0,J x.s.P.bW.c1,J x.s.P.bW.c2,J x.s.P.bW.c3,J x.s.P.bD.c0,J x.s.P.bD.c1,J x.s.P.bD.c2,J x.s.P.bD.c3,J x.s.dR,J x.s.gL,J x.s.By,.sl (ajN J x.s.Order),.sl (ajN ai.av x.s.Tree),dP x.bytes]
@[simp] theorem bY.lT(x:bY):bQ (bY.av x):=by simp[bY.av]
@[simp] theorem bY.b6(x:bY):AV.b6 (bY.av x)=true:=rfl
@[simp] theorem bY.flat(x:bY):(bY.av x).flat.length=29:=rfl
structure dG where
 deriving DecidableEq,Inhabited
def dG.av(x:dG):AV:=.agg []
@[simp] theorem dG.lT(x:dG):bQ (dG.av x):=by simp[dG.av]
@[simp] theorem dG.b6(x:dG):AV.b6 (dG.av x)=true:=rfl
@[simp] theorem dG.CB(x:dG):ya (dG.av x):=by simp[dG.av]
@[simp] theorem dG.flat(x:dG):(dG.av x).flat.length=0:=rfl
structure b9 where
 deriving DecidableEq,Inhabited
def b9.av(x:b9):AV:=.agg []
@[simp] theorem b9.lT(x:b9):bQ (b9.av x):=by simp[b9.av]
@[simp] theorem b9.b6(x:b9):AV.b6 (b9.av x)=true:=rfl
@[simp] theorem b9.CB(x:b9):ya (b9.av x):=by simp[b9.av]
@[simp] theorem b9.flat(x:b9):(b9.av x).flat.length=0:=rfl
structure dz where (h:af) (level:Int) (l:List au) (f:au)
 deriving DecidableEq,Inhabited
def dz.av(x:dz):AV:=.agg [.sl (ajN aJ.av x.h.aL),J x.level,.sl (ajN au.av x.l),J x.f.C.Key,J x.f.C.A,J x.f.C.B,J x.f.Kind,J x.f.I,J x.f.J,.sl (ajN J x.f.eH)]
@[simp] theorem dz.lT(x:dz):bQ (dz.av x):=by simp[dz.av]
@[simp] theorem dz.b6(x:dz):AV.b6 (dz.av x)=true:=rfl
@[simp] theorem dz.flat(x:dz):(dz.av x).flat.length=10:=rfl
structure bn where (A B:Int)
 deriving DecidableEq,Inhabited
def bn.av(x:bn):AV:=.agg [J x.A,J x.B]
@[simp] theorem bn.lT(x:bn):bQ (bn.av x):=by simp[bn.av]
@[simp] theorem bn.b6(x:bn):AV.b6 (bn.av x)=true:=rfl
@[simp] theorem bn.CB(x:bn):ya (bn.av x):=by simp[bn.av]
@[simp] theorem bn.flat(x:bn):(bn.av x).flat.length=2:=rfl
structure aj where (N:Int) (Rows:List (BitVec 64))
 deriving DecidableEq,Inhabited
def aj.av(x:aj):AV:=.agg [J x.N,.sl (ajN u64 x.Rows)]
@[simp] theorem aj.lT(x:aj):bQ (aj.av x):=by simp[aj.av]
@[simp] theorem aj.b6(x:aj):AV.b6 (aj.av x)=true:=rfl
@[simp] theorem aj.flat(x:aj):(aj.av x).flat.length=2:=rfl
structure aM where (aI:Int) (gy:Bool) (lq:Int) (eo:List an)
 deriving DecidableEq,Inhabited
def aM.av(x:aM):AV:=.agg [J x.aI,bl x.gy,J x.lq,.sl (ajN an.av x.eo)]
@[simp] theorem aM.lT(x:aM):bQ (aM.av x):=by simp[aM.av]
@[simp] theorem aM.b6(x:aM):AV.b6 (aM.av x)=true:=rfl
@[simp] theorem aM.flat(x:aM):(aM.av x).flat.length=4:=rfl
structure e_ where (t:Int) (Take:aO)
 deriving DecidableEq,Inhabited
def e_.av(x:e_):AV:=.agg [J x.t,J x.Take.Key,J x.Take.eu]
@[simp] theorem e_.lT(x:e_):bQ (e_.av x):=by simp[e_.av]
@[simp] theorem e_.b6(x:e_):AV.b6 (e_.av x)=true:=rfl
@[simp] theorem e_.CB(x:e_):ya (e_.av x):=by simp[e_.av]
@[simp] theorem e_.flat(x:e_):(e_.av x).flat.length=3:=rfl
structure ah where (Key Value:Int)
 deriving DecidableEq,Inhabited
def ah.av(x:ah):AV:=.agg [J x.Key,J x.Value]
@[simp] theorem ah.lT(x:ah):bQ (ah.av x):=by simp[ah.av]
@[simp] theorem ah.b6(x:ah):AV.b6 (ah.av x)=true:=rfl
@[simp] theorem ah.CB(x:ah):ya (ah.av x):=by simp[ah.av]
@[simp] theorem ah.flat(x:ah):(ah.av x).flat.length=2:=rfl
def ah.ky(x:ah):List Int:=[x.Key,x.Value]
theorem ah.LN(a b:ah)(h:ah.ky a=ah.ky b):a=b:=by cases a;cases b;simpa [ah.ky] using h
theorem ah.LO(a:ah):(ah.ky a).length=2:=rfl
def ah.kv(x:ah):_root_.Go.Value:=.agg #[.int .i64 x.Key,.int .i64 x.Value]
theorem ah.Vr(x:ah):(ah.kv x).MD=true:=by simp[_root_.Go.Value.MD,_root_.Go.Value.oneCell',ah.kv]
structure aZ where (Reads bA:List ah)
 deriving DecidableEq,Inhabited
def aZ.av(x:aZ):AV:=.agg [.sl (ajN ah.av x.Reads),.sl (ajN ah.av x.bA)]
@[simp] theorem aZ.lT(x:aZ):bQ (aZ.av x):=by simp[aZ.av]
@[simp] theorem aZ.b6(x:aZ):AV.b6 (aZ.av x)=true:=rfl
@[simp] theorem aZ.flat(x:aZ):(aZ.av x).flat.length=2:=rfl
structure aq where (aI:Int) (gy:Bool) (lq:Int) (eo:List an)
 deriving DecidableEq,Inhabited
def aq.av(x:aq):AV:=.agg [J x.aI,bl x.gy,J x.lq,.sl (ajN an.av x.eo)]
@[simp] theorem aq.lT(x:aq):bQ (aq.av x):=by simp[aq.av]
@[simp] theorem aq.b6(x:aq):AV.b6 (aq.av x)=true:=rfl
@[simp] theorem aq.flat(x:aq):(aq.av x).flat.length=4:=rfl
structure aC where (Key Value:Int)
 deriving DecidableEq,Inhabited
def aC.av(x:aC):AV:=.agg [J x.Key,J x.Value]
@[simp] theorem aC.lT(x:aC):bQ (aC.av x):=by simp[aC.av]
@[simp] theorem aC.b6(x:aC):AV.b6 (aC.av x)=true:=rfl
@[simp] theorem aC.CB(x:aC):ya (aC.av x):=by simp[aC.av]
@[simp] theorem aC.flat(x:aC):(aC.av x).flat.length=2:=rfl
structure bg where (Reads bA:List aC)
 deriving DecidableEq,Inhabited
def bg.av(x:bg):AV:=.agg [.sl (ajN aC.av x.Reads),.sl (ajN aC.av x.bA)]
@[simp] theorem bg.lT(x:bg):bQ (bg.av x):=by simp[bg.av]
@[simp] theorem bg.b6(x:bg):AV.b6 (bg.av x)=true:=rfl
@[simp] theorem bg.flat(x:bg):(bg.av x).flat.length=2:=rfl
structure fI where (N:Int) (Rows:List (BitVec 64))
 deriving DecidableEq,Inhabited
def fI.av(x:fI):AV:=.agg [J x.N,.sl (ajN u64 x.Rows)]
@[simp] theorem fI.lT(x:fI):bQ (fI.av x):=by simp[fI.av]
@[simp] theorem fI.b6(x:fI):AV.b6 (fI.av x)=true:=rfl
@[simp] theorem fI.flat(x:fI):(fI.av x).flat.length=2:=rfl
structure a_ where (wB Fuel:Int)
 deriving DecidableEq,Inhabited
def a_.av(x:a_):AV:=.agg [J x.wB,J x.Fuel]
@[simp] theorem a_.lT(x:a_):bQ (a_.av x):=by simp[a_.av]
@[simp] theorem a_.b6(x:a_):AV.b6 (a_.av x)=true:=rfl
@[simp] theorem a_.CB(x:a_):ya (a_.av x):=by simp[a_.av]
@[simp] theorem a_.flat(x:a_):(a_.av x).flat.length=2:=rfl
structure bf where (Text:List UInt8) (Level:Int) (B:bC) (dR:List UInt8)
 deriving DecidableEq,Inhabited
def bf.av(x:bf):AV:=.agg [dP x.Text,J x.Level,J x.B.Left,J x.B.bW.c0,J x.B.bW.c1,J x.B.bW.c2,J x.B.bW.c3,dP x.dR]
@[simp] theorem bf.lT(x:bf):bQ (bf.av x):=by simp[bf.av]
@[simp] theorem bf.b6(x:bf):AV.b6 (bf.av x)=true:=rfl
@[simp] theorem bf.CB(x:bf):ya (bf.av x):=by simp[bf.av]
@[simp] theorem bf.flat(x:bf):(bf.av x).flat.length=8:=rfl
structure aG where (left:List ai)
 deriving DecidableEq,Inhabited
def aG.av(x:aG):AV:=.agg [.sl (ajN ai.av x.left)]
@[simp] theorem aG.lT(x:aG):bQ (aG.av x):=by simp[aG.av]
@[simp] theorem aG.b6(x:aG):AV.b6 (aG.av x)=true:=rfl
@[simp] theorem aG.flat(x:aG):(aG.av x).flat.length=1:=rfl
structure aS where (gL:Int) (Order:List Int) (Tree:List ai) (fh:List au)
 deriving DecidableEq,Inhabited
def aS.av(x:aS):AV:=.agg [J x.gL,.sl (ajN J x.Order),.sl (ajN ai.av x.Tree),.sl (ajN au.av x.fh)]
@[simp] theorem aS.lT(x:aS):bQ (aS.av x):=by simp[aS.av]
@[simp] theorem aS.b6(x:aS):AV.b6 (aS.av x)=true:=rfl
@[simp] theorem aS.flat(x:aS):(aS.av x).flat.length=4:=rfl
structure az where (wB Fuel:Int)
 deriving DecidableEq,Inhabited
def az.av(x:az):AV:=.agg [J x.wB,J x.Fuel]
@[simp] theorem az.lT(x:az):bQ (az.av x):=by simp[az.av]
@[simp] theorem az.b6(x:az):AV.b6 (az.av x)=true:=rfl
@[simp] theorem az.CB(x:az):ya (az.av x):=by simp[az.av]
@[simp] theorem az.flat(x:az):(az.av x).flat.length=2:=rfl
def az.ky(x:az):List Int:=[x.wB,x.Fuel]
theorem az.LN(a b:az)(h:az.ky a=az.ky b):a=b:=by cases a;cases b;simpa [az.ky] using h
theorem az.LO(a:az):(az.ky a).length=2:=rfl
def az.kv(x:az):_root_.Go.Value:=.agg #[.int .i64 x.wB,.int .i64 x.Fuel]
theorem az.Vr(x:az):(az.kv x).MD=true:=by simp[_root_.Go.Value.MD,_root_.Go.Value.oneCell',az.kv]
structure aF where (place number:Int)
 deriving DecidableEq,Inhabited
def aF.av(x:aF):AV:=.agg [J x.place,J x.number]
@[simp] theorem aF.lT(x:aF):bQ (aF.av x):=by simp[aF.av]
@[simp] theorem aF.b6(x:aF):AV.b6 (aF.av x)=true:=rfl
@[simp] theorem aF.CB(x:aF):ya (aF.av x):=by simp[aF.av]
@[simp] theorem aF.flat(x:aF):(aF.av x).flat.length=2:=rfl
def aF.ky(x:aF):List Int:=[x.place,x.number]
theorem aF.LN(a b:aF)(h:aF.ky a=aF.ky b):a=b:=by cases a;cases b;simpa [aF.ky] using h
theorem aF.LO(a:aF):(aF.ky a).length=2:=rfl
def aF.kv(x:aF):_root_.Go.Value:=.agg #[.int .i64 x.place,.int .i64 x.number]
theorem aF.Vr(x:aF):(aF.kv x).MD=true:=by simp[_root_.Go.Value.MD,_root_.Go.Value.oneCell',aF.kv]
def uB:List (List UInt8):=[[98,101,103,105,110],[114,101,97,100],[119,114,105,116,101],[99,111,109,109,105,116],[97,98,111,114,116]]
def qv(aT:List UInt8)(rQ:List UInt8):Option (Bool):=if decide ((arA rQ)≤(arA aT)) then (abH aT (bM ((arA aT) - (arA rQ))) (arA aT)).bind fun aox=>some (decide (aox=rQ)) else some false
def qK(aT:List UInt8)(rQ:List UInt8):Option (Bool):=(qv aT rQ).bind fun r3=>some r3
def strings_Split(aT:List UInt8)(Mi:List UInt8):Option (List (List UInt8)):=Sh.split aT Mi
def Af(aT:List UInt8):Option ((List (List UInt8))×Int):=if decide (aT=[]) then some ([],0) else (qK aT ([10]:List UInt8)).bind fun r7=>if !r7 then some ([],2) else (strings_Split aT ([10]:List UInt8)).bind fun DN=>(abH DN 0 (bM ((arA DN) - 1))).bind fun Pk=>if decide ((400:Int)<(arA Pk)) then some ([],4) else some (Pk,0)
def xq(EV:List (List UInt8))(acC:Bool):Option ((List (List UInt8))×Int):=if !acC then some ([],2) else some (EV,0)
def Gk(v222:Int)(acD:Bool):Option ((Bool×Int)⊕((List (List UInt8))×Int)):=abo (acD,bM (v222+1))
def tC(EV:List (List UInt8))(i258:Int)(auO:Bool):Option ((Int)⊕((Bool×Int)⊕((List (List UInt8))×Int))):=if auO then aaN (aaN (xq EV false)) else abo (bM (i258+1))
def xm(EV:List (List UInt8))(v222:Int)(PV:List UInt8)(OP:Bool)(i258:Int):Option ((Int)⊕((Bool×Int)⊕((List (List UInt8))×Int))):=if decide (i258<(arA PV)) then (aaV PV i258).bind fun avI=>if decide (((avI).toNat:Int)≤32) then tC EV i258 true else (aaV PV i258).bind fun avJ=>tC EV i258 (decide ((126:Int)<((avJ).toNat:Int))) else aaN (Gk v222 OP)
def nN(EV:List (List UInt8))(v222:Int)(PV:List UInt8)(OP:Bool):Option ((Bool×Int)⊕((List (List UInt8))×Int)):=abt (fun(p:Int)=>xm EV v222 PV OP p) 0
def BK(EV:List (List UInt8))(Vc:Bool)(v222:Int):Option ((Bool×Int)⊕((List (List UInt8))×Int)):=if decide (v222<(arA EV)) then (aaV EV v222).bind fun PV=>if Vc then nN EV v222 PV (!decide (PV=[])) else nN EV v222 PV false else aaN (xq EV Vc)
def C9(aT:List UInt8):Option ((List (List UInt8))×Int):=(strings_Split aT ([32]:List UInt8)).bind fun EV=>abt (fun(p:Bool×Int)=>BK EV p.1 p.2) (decide ((arA EV)≤8),0)
def Bd(fQ:Int)(n70:Int)(EL:Int)(H8:Bool)(v78:Bool):Option (Int×Int×Int):=if v78 then some (0,0,2) else if H8 then some (0,0,3) else some (n70,bM (fQ+EL),0)
def Bc(fQ:Int)(wW:List UInt8)(n70:Int)(EL:Int)(H8:Bool):Option (Int×Int×Int):=if decide (EL=0) then Bd fQ n70 EL H8 (decide (EL=0)) else if decide ((1:Int)<EL) then (aaV wW 0).bind fun x83=>Bd fQ n70 EL H8 (decide (((x83).toNat:Int)=48)) else Bd fQ n70 EL H8 false
def EO(sE:Int)(n111:Int)(Za:Bool):Option ((Int×Int×Bool)⊕(Int×Int×Int)):=abo (n111,bM (sE+1),Za)
def rD(fQ:Int)(wW:List UInt8)(n101:Int)(sE:Int)(z7:Bool)(Ul:Bool):Option ((Int×Int×Bool)⊕(Int×Int×Int)):=if Ul then aaN (Bc fQ wW n101 sE z7) else if !z7 then (aaV wW sE).bind fun ajg=>Sh.EK (bM ((bM (10*n101))+(bM (IntKind.u8.wrap (((ajg).toNat:Int) - 48))))) fun n126=>EO sE n126 (decide ((2147483647:Int)<n126)) else EO sE n101 z7
def Bb(fQ:Int)(wW:List UInt8)(n101:Int)(sE:Int)(z7:Bool):Option ((Int×Int×Bool)⊕(Int×Int×Int)):=if decide (sE<(arA wW)) then (aaV wW sE).bind fun XQ=>if decide (((XQ).toNat:Int)<48) then rD fQ wW n101 sE z7 true else (aaV wW sE).bind fun Fq=>rD fQ wW n101 sE z7 (decide ((57:Int)<((Fq).toNat:Int))) else aaN (Bc fQ wW n101 sE z7)
def EN(aT:List UInt8)(fQ:Int)(v38:Bool):Option (Int×Int×Int):=if v38 then some (0,0,1) else (abH aT fQ (arA aT)).bind fun wW=>abt (fun(p:Int×Int×Bool)=>Bb fQ wW p.1 p.2.1 p.2.2) (0,0,false)
def Ir(aT:List UInt8)(fQ:Int):Option (Int×Int×Int):=if decide (fQ<0) then EN aT fQ true else EN aT fQ (decide ((arA aT)<fQ))
def Db(r5:Int×Int×Int)(v9:Bool):Option (Int×Int):=if v9 then some (0,2) else some (r5.1,r5.2.2)
def uJ(aT:List UInt8):Option (Int×Int):=(Ir aT 0).bind fun r5=>if decide (r5.2.2=0) then Db r5 (decide (r5.2.1<(arA aT))) else Db r5 false
def ug(wR:Int):Option (Bool):=if decide (wR=1) then some true else some (decide (wR=2))
def zP(v71:an)(v75:Bool):Option (an×Int):=if v75 then some ((an.mk 0 0 0 0),4) else some (v71,0)
def Eg(v71:an):Option (an×Int):=if decide ((8:Int)≤v71.aI) then zP v71 true else zP v71 (decide ((16:Int)≤v71.Key))
def uY(G4:(List (List UInt8))×Int)(v58:an)(v66:Bool):Option (an×Int):=if v66 then some ((an.mk 0 0 0 0),2) else (aaV G4.1 1).bind fun x87=>(uJ x87).bind fun r89=>if decide (r89.2≠0) then some ((an.mk 0 0 0 0),r89.2) else Eg (an.mk v58.Kind r89.1 v58.Key v58.Value)
def zQ(R_:an)(auA:Bool):Option (an×Int):=if auA then some ((an.mk 0 0 0 0),4) else some (R_,0)
def Eh(R_:an):Option (an×Int):=if decide ((8:Int)≤R_.aI) then zQ R_ true else zQ R_ (decide ((16:Int)≤R_.Key))
def uZ(G4:(List (List UInt8))×Int)(v58:an)(v95:Bool):Option (an×Int):=if v95 then some ((an.mk 0 0 0 0),2) else (aaV G4.1 1).bind fun abD=>(uJ abD).bind fun ah1=>if decide (ah1.2≠0) then some ((an.mk 0 0 0 0),ah1.2) else (aaV G4.1 2).bind fun avi=>(uJ avi).bind fun ah3=>if decide (ah3.2≠0) then some ((an.mk 0 0 0 0),ah3.2) else (aaV G4.1 3).bind fun avn=>(uJ avn).bind fun ah5=>if decide (ah5.2≠0) then some ((an.mk 0 0 0 0),ah5.2) else Eh (an.mk v58.Kind ah1.1 ah3.1 ah5.1)
def zO(G4:(List (List UInt8))×Int)(v58:an):Option (an×Int):=(ug v58.Kind).bind fun r61=>if !r61 then if decide (v58.Kind<0) then uY G4 v58 true else uY G4 v58 (decide ((arA G4.1)≠2)) else if decide (v58.Kind<0) then uZ G4 v58 true else uZ G4 v58 (decide ((arA G4.1)≠4))
def zR(v164:Int)(arj:an):Option ((an×Int)⊕(an×Int)):=abo (arj,bM (v164+1))
def uX(G4:(List (List UInt8))×Int)(YG:an)(v164:Int):Option ((an×Int)⊕(an×Int)):=if decide (v164<5) then (aaV uB v164).bind fun avu=>(aaV G4.1 0).bind fun oM=>if decide (avu=oM) then zR v164 (an.mk v164 YG.aI YG.Key YG.Value) else zR v164 YG else aaN (zO G4 YG)
def xH(aT:List UInt8):Option (an×Int):=(C9 aT).bind fun G4=>if decide (G4.2≠0) then some ((an.mk 0 0 0 0),G4.2) else abt (fun(p:an×Int)=>uX G4 p.1 p.2) ((an.mk (-1) 0 0 0),0)
def qY(xu:Int)(wU:Int):Option (Bool):=if decide ((0:Int)≤xu) then some (decide (xu<wU)) else some false
def zS(vR:an)(v19:Bool):Option (Bool):=if v19 then some false else (ug vR.Kind).bind fun VQ=>if !VQ then if decide (vR.Key=0) then some (decide (vR.Value=0)) else some false else (qY vR.Key 16).bind fun r32=>if r32 then (qY vR.Value 2147483648).bind fun EW=>some EW else some false
def qX(vR:an):Option (Bool):=(qY vR.Kind 5).bind fun r35=>if !r35 then zS vR true else (qY vR.aI 8).bind fun r37=>zS vR (!r37)
def CP(DU:Int)(Nu:Int):Option (Unit):=if decide (Nu≠0) then none else some ()
def uU(v37:List an):Option ((List an)×Int×Int):=some (v37,0,0)
def qV(wY:(List (List UInt8))×Int)(ER:List an)(v49:Int):Option (((List an)×Int)⊕((List an)×Int×Int)):=if decide (v49<(arA wY.1)) then (aaV wY.1 v49).bind fun x57=>(xH x57).bind fun Kk=>if decide (Kk.2≠0) then aaN (some ([],bM (v49+1),Kk.2)) else (abz 32 ER ([Kk.1]:List an)).bind fun l62=>abo (l62,bM (v49+1)) else aaN (uU ER)
def uz(aT:List UInt8):Option ((List an)×Int×Int):=(Af aT).bind fun wY=>if decide (wY.2≠0) then some ([],0,wY.2) else abt (fun(p:(List an)×Int)=>qV wY p.1 p.2) ([],0)
def u_(O_:List aM):Option ((List aM)×Int×Int):=some (O_,0,0)
def jL(jY:Int)(VJ:List (Int×Int))(Z3:List aM):Option (((List aM)×(List (Int×Int))×Int)⊕((List aM)×Int×Int)):=abo (Z3,VJ,bM (jY+1))
def lI(cC:List aM)(cw:List (Int×Int))(jY:Int)(dN:an)(apf:Bool):Option (((List aM)×(List (Int×Int))×Int)⊕((List aM)×Int×Int)):=if apf then (aaV cC ((Sh.cD dN.aI cw).getD 0)).bind fun oM=>jL jY (Sh.Il dN.aI cw) (abG cC ((Sh.cD dN.aI cw).getD 0) (aM.mk oM.aI (decide (dN.Kind=3)) oM.lq oM.eo)) else (aaV cC ((Sh.cD dN.aI cw).getD 0)).bind fun IU=>(abz 32 IU.eo ([dN]:List an)).bind fun Ts=>(aaV cC ((Sh.cD dN.aI cw).getD 0)).bind fun Uy=>jL jY cw (abG cC ((Sh.cD dN.aI cw).getD 0) (aM.mk Uy.aI Uy.gy Uy.lq Ts))
def lH(cC:List aM)(cw:List (Int×Int))(jY:Int)(dN:an)(ape:Bool):Option (((List aM)×(List (Int×Int))×Int)⊕((List aM)×Int×Int)):=if ape then aaN (some ([],jY,4)) else if decide (dN.Kind=0) then (abz 48 cC ([(aM.mk dN.aI false jY [])]:List aM)).bind fun Ju=>jL jY (Sh.nC dN.aI (arA cC) cw) Ju else if !((Sh.cD dN.aI cw).isSome) then aaN (some ([],jY,6)) else if decide (dN.Kind=3) then lI cC cw jY dN (decide (dN.Kind=3)) else lI cC cw jY dN (decide (dN.Kind=4))
def iU(cC:List aM)(cw:List (Int×Int))(jY:Int)(dN:an)(v162:Bool):Option (((List aM)×(List (Int×Int))×Int)⊕((List aM)×Int×Int)):=if v162 then aaN (some ([],jY,5)) else if decide (dN.Kind=0) then lH cC cw jY dN (decide ((arA cC)=32)) else lH cC cw jY dN false
def ou(bK:List an)(cC:List aM)(cw:List (Int×Int))(jY:Int):Option (((List aM)×(List (Int×Int))×Int)⊕((List aM)×Int×Int)):=if decide (jY<(arA bK)) then (aaV bK jY).bind fun dN=>(qX dN).bind fun ah7=>if !ah7 then aaN (some ([],jY,1)) else if decide (dN.Kind=0) then iU cC cw jY dN ((Sh.cD dN.aI cw).isSome) else iU cC cw jY dN false else aaN (u_ cC)
def oN(bK:List an):Option ((List aM)×Int×Int):=abt (fun(p:(List aM)×(List (Int×Int))×Int)=>ou bK p.1 p.2.1 p.2.2) ([],[],0)
def cmp_isNaN_int(qP:Int):Option (Bool):=some (decide (qP≠qP))
def cmp_Compare_int(qP:Int)(Sz:Int):Option (Int):=(cmp_isNaN_int qP).bind fun r4=>(cmp_isNaN_int Sz).bind fun r6=>if r4 then if r6 then some 0 else some (-1) else if r6 then some 1 else if decide (qP<Sz) then some (-1) else if decide (Sz<qP) then some 1 else some 0
def cZ(aT:List ah)(vU:Int)(v_2:List ah):Option (List ah):=Sh.ins 16 aT vU v_2
def uP:Option (Int):=some (-1)
def oG(aT:List Int)(x6:Int)(v22:Int):Option ((Int)⊕(Int)):=if decide (v22<(arA aT)) then (aaV aT v22).bind fun x28=>if decide (x6=x28) then aaN (some v22) else abo (bM (v22+1)) else aaN (uP)
def gJ(aT:List Int)(x6:Int):Option (Int):=abt (fun(p:Int)=>oG aT x6 p) 0
def bJ(aT:List Int)(x6:Int):Option (Bool):=(gJ aT x6).bind fun r3=>some (decide ((0:Int)≤r3))
def bO(aT:List Int):Option (List Int):=abz 8 [] aT
def dc(aT:List aO):Option (List aO):=abz 16 [] aT
def mH:Option (Int):=some (-1)
def iM(aT:List aO)(x6:aO)(v22:Int):Option ((Int)⊕(Int)):=if decide (v22<(arA aT)) then (aaV aT v22).bind fun x28=>if decide (x6=x28) then aaN (some v22) else abo (bM (v22+1)) else aaN (mH)
def jF(aT:List aO)(x6:aO):Option (Int):=abt (fun(p:Int)=>iM aT x6 p) 0
def eL(aT:List aO)(x6:aO):Option (Bool):=(jF aT x6).bind fun r3=>some (decide ((0:Int)≤r3))
def kM:Option (Int):=some (-1)
def gQ(aT:List aa)(x6:aa)(v22:Int):Option ((Int)⊕(Int)):=if decide (v22<(arA aT)) then (aaV aT v22).bind fun x28=>if decide (x6=x28) then aaN (some v22) else abo (bM (v22+1)) else aaN (kM)
def iN(aT:List aa)(x6:aa):Option (Int):=abt (fun(p:Int)=>gQ aT x6 p) 0
def e8(aT:List aa)(x6:aa):Option (Bool):=(iN aT x6).bind fun r3=>some (decide ((0:Int)≤r3))
def cg(aT:List aa):Option ((List aa)):=(abH aT 0 (arA aT)).bind fun aaA=>some aaA
def mF(aT:List Int):Option (Unit):=some ()
def kg:Option (Int):=some (-1)
def gN(aT:List aa)(x6:aa)(v22:Int):Option ((Int)⊕(Int)):=if decide (v22<(arA aT)) then (aaV aT v22).bind fun x28=>if decide (x6=x28) then aaN (some v22) else abo (bM (v22+1)) else aaN (kg)
def iB(aT:List aa)(x6:aa):Option (Int):=abt (fun(p:Int)=>gN aT x6 p) 0
def bZ(aT:List aa)(x6:aa):Option (Bool):=(iB aT x6).bind fun r3=>some (decide ((0:Int)≤r3))
def bP(aT:List aA):Option (List aA):=abz 56 [] aT
def cV(s7:List ai):Option ((List ai)):=some s7
def bU(xu:Int):Option ((List ai)):=if decide (xu<0) then none else if decide ((0:Int)<(bM (xu - 0))) then (abL 48 (bM (xu - 0)) (bM (xu - 0)) (ai.mk (aa.mk 0 0 0) [])).bind fun l9=>(abH l9 0 0).bind fun L1=>cV L1 else cV []
def qu(newslice51:List ai):Option ((List ai)):=some newslice51
def eF(kL:List (List ai))(newslice60:List ai)(v61:Int):Option (((List ai)×Int)⊕((List ai))):=if decide (v61<(arA kL)) then (aaV kL v61).bind fun XT=>(abz 48 newslice60 XT).bind fun newslice70=>abo (newslice70,bM (v61+1)) else aaN (qu newslice60)
def jA(kL:List (List ai))(aiC:Int):Option ((List ai)):=(bU aiC).bind fun r37=>abt (fun(p:(List ai)×Int)=>eF kL p.1 p.2) (r37,0)
def c6(kL:List (List ai))(Ua:Int)(v78:Int):Option ((Int×Int)⊕((List ai))):=if decide (v78<(arA kL)) then (aaV kL v78).bind fun KJ=>if decide ((bM (Ua+(arA KJ)))<0) then none else abo (bM (Ua+(arA KJ)),bM (v78+1)) else aaN (jA kL Ua)
def eV(kL:List (List ai)):Option ((List ai)):=abt (fun(p:Int×Int)=>c6 kL p.1 p.2) (0,0)
def gx(aT:List au):Option ((List au)):=(abH aT 0 (arA aT)).bind fun aaA=>some aaA
def vc(qP:ah)(dS:Int):Option (Int):=(cmp_Compare_int qP.Key dS).bind fun r3=>some r3
def cE(qP:List ah)(vJ:Int)(i39:Int):Option (Int×Bool):=if decide (i39<(arA qP)) then (aaV qP i39).bind fun x45=>(vc x45 vJ).bind fun r47=>some (i39,decide (r47=0)) else some (i39,false)
def bz(qP:List ah)(vJ:Int)(i58:Int)(j59:Int):Option ((Int×Int)⊕(Int×Bool)):=if decide (i58<j59) then (Sh.shr (BitVec.ofInt 64 (bM (i58+j59))) ((1#64).toNat:Int)).bind fun s62=>(aaV qP (bM (((s62).toNat:Nat):Int))).bind fun x66=>(vc x66 vJ).bind fun r68=>if decide (r68<0) then abo (bM ((bM (((s62).toNat:Nat):Int))+1),j59) else abo (i58,bM (((s62).toNat:Nat):Int)) else aaN (cE qP vJ i58)
def bL(qP:List ah)(vJ:Int):Option (Int×Bool):=abt (fun(p:Int×Int)=>bz qP vJ p.1 p.2) (0,arA qP)
def xk(pU:Int)(qN:List ah)(c8:List ah):Option (Bool×Int):=(bL c8 pU).bind fun r5=>some (r5.2,r5.1)
def xl(pU:Int)(qN:List ah)(c8:List ah):Option (Bool×Int):=(bL qN pU).bind fun r5=>some (r5.2,r5.1)
def tT(er:Bool)(jB:Int)(c8:List ah)(BJ:List ah):Option (Int×Bool):=if !er then some (0,false) else (aaV BJ jB).bind fun x8=>some (x8.Value,true)
def tU(er:Bool)(jB:Int)(c8:List ah)(BJ:List ah):Option (Int×Bool):=if !er then some (0,false) else (aaV c8 jB).bind fun x8=>some (x8.Value,true)
def uk(pM:Int)(nP:Int)(cWrites7:List ah):Option ((List ah)):=(aaV cWrites7 nP).bind fun x8=>some (abG cWrites7 nP (ah.mk x8.Key pM))
def pS(pM:Int)(jB:Bool)(nP:Int)(zn:Int)(AP:List ah)(WS:List ah):Option ((List ah)):=if !jB then (cZ WS nP ([(ah.mk zn 0)]:List ah)).bind fun Pq=>uk pM nP Pq else uk pM nP WS
def ym(qP:an)(cK:an):Option (Bool):=Sh.EK (decide (qP=(an.mk cK.Kind qP.aI cK.Key cK.Value))) fun x4=>some x4
def fN(Sw:an):Option (an×Int):=some (Sw,(-1))
def cH(aT:List an)(Qo:an)(v39:Int):Option ((an×Int)⊕(an×Int)):=if decide (v39<(arA aT)) then (aaV aT v39).bind fun x47=>(ym x47 Qo).bind fun r49=>if r49 then aaN (some ((an.mk Qo.Kind x47.aI Qo.Key Qo.Value),v39)) else abo ((an.mk Qo.Kind x47.aI Qo.Key Qo.Value),bM (v39+1)) else aaN (fN Qo)
def ew(aT:List an)(cK:an):Option (an×Int):=abt (fun(p:an×Int)=>cH aT p.1 p.2) (cK,0)
def cG(aT:List an)(cK:an):Option (Bool×an):=(ew aT cK).bind fun r5=>some (decide ((0:Int)≤r5.2),r5.1)
def Ad(pM:Int)(nP:Int)(cReads7:List ah):Option ((List ah)):=(aaV cReads7 nP).bind fun x8=>some (abG cReads7 nP (ah.mk x8.Key pM))
def yp(pM:Int)(jB:Bool)(nP:Int)(zn:Int)(AP:List ah)(WS:List ah):Option ((List ah)):=if !jB then (cZ AP nP ([(ah.mk zn 0)]:List ah)).bind fun Pq=>Ad pM nP Pq else Ad pM nP AP
def Gh(v145:List ah)(v146:List ah):Option (aZ×Int×Int):=some ((aZ.mk v145 v146),0,0)
def nL(v196:Int)(fReads218:List ah)(fWrites219:List ah):Option (((List ah)×(List ah)×Int)⊕(aZ×Int×Int)):=abo (fReads218,fWrites219,bM (v196+1))
def tu(kN:aM)(fReads194:List ah)(fWrites195:List ah)(v196:Int)(yG:an)(MX:Bool×Int)(ZG:Bool)(auN:Bool):Option (((List ah)×(List ah)×Int)⊕(aZ×Int×Int)):=if auN then aaN (some ((aZ.mk [] []),v196,11)) else if ZG then nL v196 fReads194 fWrites195 else (abH kN.eo (bM (v196+1)) (arA kN.eo)).bind fun adH=>(cG adH (an.mk 2 yG.aI yG.Key yG.Value)).bind fun atV=>if atV.1 then aaN (some ((aZ.mk [] []),v196,9)) else (yp yG.Value MX.1 MX.2 yG.Key fReads194 fWrites195).bind fun atX=>nL v196 atX fWrites195
def tr(kN:aM)(fReads194:List ah)(fWrites195:List ah)(v196:Int)(yG:an)(MX:Bool×Int)(aaG:Int×Bool)(adl:Bool)(ai1:Bool):Option (((List ah)×(List ah)×Int)⊕(aZ×Int×Int)):=if ai1 then aaN (some ((aZ.mk [] []),v196,10)) else if adl then nL v196 fReads194 fWrites195 else if aaG.2 then tu kN fReads194 fWrites195 v196 yG MX true (decide (aaG.1≠yG.Value)) else tu kN fReads194 fWrites195 v196 yG MX false false
def tq(kN:aM)(fReads194:List ah)(fWrites195:List ah)(v196:Int)(yG:an)(auL:Bool):Option (((List ah)×(List ah)×Int)⊕(aZ×Int×Int)):=if auL then aaN (some ((aZ.mk [] []),v196,1)) else (xk yG.Key fReads194 fWrites195).bind fun adR=>(xl yG.Key fReads194 fWrites195).bind fun MX=>(tT adR.1 adR.2 fReads194 fWrites195).bind fun aoH=>(tU MX.1 MX.2 fReads194 fWrites195).bind fun aaG=>if decide (yG.Kind=2) then (pS yG.Value adR.1 adR.2 yG.Key fReads194 fWrites195).bind fun atQ=>nL v196 fReads194 atQ else if aoH.2 then tr kN fReads194 fWrites195 v196 yG MX aaG true (decide (aoH.1≠yG.Value)) else tr kN fReads194 fWrites195 v196 yG MX aaG false false
def tj(kN:aM)(fReads194:List ah)(fWrites195:List ah)(v196:Int):Option (((List ah)×(List ah)×Int)⊕(aZ×Int×Int)):=if decide (v196<(arA kN.eo)) then (aaV kN.eo v196).bind fun yG=>(qX yG).bind fun aib=>if !aib then tq kN fReads194 fWrites195 v196 yG true else if decide (yG.Kind≠1) then tq kN fReads194 fWrites195 v196 yG (decide (yG.Kind≠2)) else tq kN fReads194 fWrites195 v196 yG false else aaN (Gh fReads194 fWrites195)
def wP(kN:aM):Option (aZ×Int×Int):=abt (fun(p:(List ah)×(List ah)×Int)=>tj kN p.1 p.2.1 p.2.2) ([],[],0)
def ic(DU:Int)(Nu:Int):Option (af×Int×Int):=some ((af.mk []),DU,Nu)
def BR(kN:aM):Option (Bool):=if decide ((0:Int)≤kN.aI) then some (decide (kN.aI<8)) else some false
def ig(v58:Int)(v73:Bool):Option ((Int)⊕(Bool)):=if v73 then aaN (some false) else abo (bM (v58+1))
def tJ(kN:aM)(v58:Int):Option ((Int)⊕(Bool)):=if decide (v58<(arA kN.eo)) then (aaV kN.eo v58).bind fun XT=>(qX XT).bind fun r75=>if !r75 then ig v58 true else if decide (XT.Kind≠1) then ig v58 (decide (XT.Kind≠2)) else ig v58 false else aaN (BR kN)
def G8(kN:aM):Option (Bool):=abt (fun(p:Int)=>tJ kN p) 0
def Bn(Sw:List (ah×aF)):Option ((List (ah×aF))×Int):=some (Sw,0)
def kj(v39:Int)(c43:List (ah×aF)):Option (((List (ah×aF))×Int)⊕((List (ah×aF))×Int)):=abo (c43,bM (v39+1))
def qJ(kN:aM)(w_1:aF)(Qo:List (ah×aF))(v39:Int):Option (((List (ah×aF))×Int)⊕((List (ah×aF))×Int)):=if decide (v39<(arA kN.eo)) then (aaV kN.eo v39).bind fun x46=>if decide (x46.Kind≠2) then kj v39 Qo else if decide (x46.Value=0) then aaN (some (Qo,7)) else if(Sh.cD (ah.mk x46.Key x46.Value) Qo).isSome then aaN (some (Qo,8)) else kj v39 (Sh.nC (ah.mk x46.Key x46.Value) w_1 Qo) else aaN (Bn Qo)
def AB(kN:aM)(w_1:aF)(c8:List (ah×aF)):Option ((List (ah×aF))×Int):=abt (fun(p:(List (ah×aF))×Int)=>qJ kN w_1 p.1 p.2) (c8,0)
def Fe(au0:List aJ):Option (af×Int×Int):=some ((af.mk au0),0,0)
def rO(Dz:Int)(outTxns672:List aJ):Option (((List aJ)×Int)⊕(af×Int×Int)):=abo (outTxns672,bM (Dz+1))
def Ff(outTxns621:List aJ)(Dz:Int)(aeG:aJ):Option (((List aJ)×Int)⊕(af×Int×Int)):=(abz 56 outTxns621 ([aeG]:List aJ)).bind fun ath=>rO Dz ath
def vI(xReads748:List aO)(XL:Int)(M_:ah)(au4:aF):Option (((List aO)×Int)⊕(((List aJ)×Int)⊕(af×Int×Int))):=(abz 16 xReads748 ([(aO.mk M_.Key au4.number)]:List aO)).bind fun ati=>abo (ati,bM (XL+1))
def vD(Cv:List (ah×aF))(PM:List (ah×Bool))(outTxns621:List aJ)(Dz:Int)(Sm:aM)(ai6:List Int)(aeT:aZ)(xReads748:List aO)(XL:Int):Option (((List aO)×Int)⊕(((List aJ)×Int)⊕(af×Int×Int))):=if decide (XL<(arA aeT.Reads)) then (aaV aeT.Reads XL).bind fun M_=>if decide (M_.Value=0) then vI xReads748 XL M_ (aF.mk (((Sh.cD M_ Cv).getD (aF.mk 0 0)).place) (-1)) else if !((Sh.cD M_ Cv).isSome) then (ic Dz 12).bind fun TQ=>aaN (aaN (some (TQ.1,TQ.2.1,TQ.2.2))) else Sh.EK (decide ((((Sh.cD M_ Cv).getD (aF.mk 0 0)).number)<0)) fun awh=>if awh then (ic Dz 13).bind fun ail=>aaN (aaN (some (ail.1,ail.2.1,ail.2.2))) else if !((Sh.cD M_ PM).getD false) then (ic Dz 14).bind fun aim=>aaN (aaN (some (aim.1,aim.2.1,aim.2.2))) else vI xReads748 XL M_ ((Sh.cD M_ Cv).getD (aF.mk 0 0)) else aaN (Ff outTxns621 Dz (aJ.mk Sm.aI ai6 xReads748))
def rP(Cv:List (ah×aF))(mW:List aZ)(PM:List (ah×Bool))(outTxns621:List aJ)(Dz:Int)(Sm:aM)(ai6:List Int):Option (((List aJ)×Int)⊕(af×Int×Int)):=(aaV mW Dz).bind fun aeT=>abt (fun(p:(List aO)×Int)=>vD Cv PM outTxns621 Dz Sm ai6 aeT p.1 p.2) ([],0)
def rN(Cv:List (ah×aF))(mW:List aZ)(PM:List (ah×Bool))(outTxns621:List aJ)(Dz:Int)(Sm:aM)(aeU:aZ)(xWrites793:List Int)(ai7:Int):Option (((List Int)×Int)⊕(((List aJ)×Int)⊕(af×Int×Int))):=if decide (ai7<(arA aeU.bA)) then (aaV aeU.bA ai7).bind fun BW=>(abz 8 xWrites793 [BW.Key]).bind fun atj=>abo (atj,bM (ai7+1)) else aaN (rP Cv mW PM outTxns621 Dz Sm xWrites793)
def vC(bK:List aM)(Cv:List (ah×aF))(mW:List aZ)(PM:List (ah×Bool))(outTxns621:List aJ)(Dz:Int):Option (((List aJ)×Int)⊕(af×Int×Int)):=if decide (Dz<(arA bK)) then (aaV bK Dz).bind fun Sm=>if !Sm.gy then rO Dz outTxns621 else (aaV mW Dz).bind fun aeU=>abt (fun(p:(List Int)×Int)=>rN Cv mW PM outTxns621 Dz Sm aeU p.1 p.2) ([],0) else aaN (Fe outTxns621)
def Fc(bK:List aM)(Cv:List (ah×aF))(mW:List aZ)(PM:List (ah×Bool)):Option (af×Int×Int):=abt (fun(p:(List aJ)×Int)=>vC bK Cv mW PM p.1 p.2) ([],0)
def DR(Ur:Int)(au3:List (ah×Bool)):Option (((List (ah×Bool))×Int)⊕(af×Int×Int)):=abo (au3,bM (Ur+1))
def vE(Ur:Int)(aeV:aZ)(Vt:List (ah×Bool))(ai8:Int):Option (((List (ah×Bool))×Int)⊕(((List (ah×Bool))×Int)⊕(af×Int×Int))):=if decide (ai8<(arA aeV.bA)) then (aaV aeV.bA ai8).bind fun awj=>abo (Sh.nC awj true Vt,bM (ai8+1)) else aaN (DR Ur Vt)
def Az(bK:List aM)(Cv:List (ah×aF))(mW:List aZ)(Vs:List (ah×Bool))(Ur:Int):Option (((List (ah×Bool))×Int)⊕(af×Int×Int)):=if decide (Ur<(arA mW)) then (aaV mW Ur).bind fun aeV=>abt (fun(p:(List (ah×Bool))×Int)=>vE Ur aeV p.1 p.2) (Vs,0) else aaN (Fc bK Cv mW Vs)
def Fb(bK:List aM)(Cv:List (ah×aF))(mW:List aZ):Option (af×Int×Int):=abt (fun(p:(List (ah×Bool))×Int)=>Az bK Cv mW p.1 p.2) ([],0)
def mM(PN:Int)(YQ:List aZ):Option (((List aZ)×Int)⊕(af×Int×Int)):=abo (YQ,bM (PN+1))
def vF(bK:List aM)(Cv:List (ah×aF))(HY:List aZ)(PN:Int):Option (((List aZ)×Int)⊕(af×Int×Int)):=if decide (PN<(arA bK)) then (aaV bK PN).bind fun apz=>if !apz.gy then mM PN HY else (wP apz).bind fun TR=>if decide (TR.2.2≠0) then (ic PN TR.2.2).bind fun TS=>aaN (some (TS.1,TS.2.1,TS.2.2)) else (aaV HY PN).bind fun awk=>mM PN (abG HY PN TR.1) else aaN (Fb bK Cv HY)
def AA(bK:List aM)(Cv:List (ah×aF)):Option (af×Int×Int):=(abL 48 (arA bK) (arA bK) (aZ.mk [] [])).bind fun adi=>abt (fun(p:(List aZ)×Int)=>vF bK Cv p.1 p.2) (adi,0)
def uc(Qm:List (ah×aF))(PO:Int)(abI:aM)(adj:Int)(au5:aF):Option (((List (ah×aF))×Int×Int)⊕(af×Int×Int)):=(AB abI au5 Qm).bind fun air=>if decide (air.2≠0) then (ic PO air.2).bind fun ais=>aaN (some (ais.1,ais.2.1,ais.2.2)) else abo (air.1,adj,bM (PO+1))
def vG(bK:List aM)(Qm:List (ah×aF))(O1:Int)(PO:Int):Option (((List (ah×aF))×Int×Int)⊕(af×Int×Int)):=if decide (PO<(arA bK)) then (aaV bK PO).bind fun abI=>if abI.gy then uc Qm PO abI (bM (O1+1)) (aF.mk PO O1) else uc Qm PO abI O1 (aF.mk PO (-1)) else aaN (AA bK Qm)
def Fa(bK:List aM):Option (af×Int×Int):=abt (fun(p:(List (ah×aF))×Int×Int)=>vG bK p.1 p.2.1 p.2.2) ([],0,0)
def vH(bK:List aM)(aeH:Int):Option ((Int)⊕(af×Int×Int)):=if decide (aeH<(arA bK)) then (aaV bK aeH).bind fun awo=>(G8 awo).bind fun auq=>if !auq then (ic aeH 1).bind fun TT=>aaN (some (TT.1,TT.2.1,TT.2.2)) else abo (bM (aeH+1)) else aaN (Fa bK)
def Bm(bK:List aM):Option (af×Int×Int):=if decide ((32:Int)<(arA bK)) then (ic 0 4).bind fun aia=>some (aia.1,aia.2.1,aia.2.2) else abt (fun(p:Int)=>vH bK p) 0
def uj(aT:List UInt8):Option (af×Int×Int):=(uz aT).bind fun r7=>if decide (r7.2.2≠0) then some ((af.mk []),r7.2.1,r7.2.2) else (oN r7.1).bind fun DN=>if decide (DN.2.2≠0) then some ((af.mk []),bM (DN.2.1+1),DN.2.2) else (Bm DN.1).bind fun tX=>if decide (tX.2.2≠0) then (aaV DN.1 tX.2.1).bind fun Sx=>some ((af.mk []),bM (Sx.lq+1),tX.2.2) else some (tX.1,0,0)
def A2(aV:af):Option (Unit):=some ()
def iP(cM:Bool)(Sz:Bool):Option (Bool×Bool):=if !Sz then some (false,false) else some (cM,true)
def jg(Hf:Int)(arb:Bool):Option ((Bool×Int)⊕(Bool×Bool)):=abo (arb,bM (Hf+1))
def d_(Hf:Int)(IV:aJ)(aeG:Bool):Option ((Bool×Int)⊕(Bool×Bool)):=if decide ((0:Int)≤IV.aI) then (iP aeG (decide (IV.aI<8))).bind fun ajp=>if ajp.2 then jg Hf ajp.1 else aaN (some (ajp.1,false)) else (iP aeG false).bind fun ajq=>if ajq.2 then jg Hf ajq.1 else aaN (some (ajq.1,false))
def gu(JK:Int)(BW:aO)(arc:Bool):Option ((Bool×Int×Int)⊕((Bool×Int)⊕(Bool×Bool))):=abo (arc,BW.Key,bM (JK+1))
def cW(MH:Bool)(C8:Int)(JK:Int)(BW:aO)(abn:Bool):Option ((Bool×Int×Int)⊕((Bool×Int)⊕(Bool×Bool))):=if decide (C8<BW.Key) then if decide (BW.Key<16) then (iP MH abn).bind fun ajr=>if ajr.2 then gu JK BW ajr.1 else aaN (aaN (some (ajr.1,false))) else (iP MH false).bind fun ajs=>if ajs.2 then gu JK BW ajs.1 else aaN (aaN (some (ajs.1,false))) else (iP MH false).bind fun ajt=>if ajt.2 then gu JK BW ajt.1 else aaN (aaN (some (ajt.1,false)))
def jf(cK:af)(Hf:Int)(IV:aJ)(MH:Bool)(C8:Int)(JK:Int):Option ((Bool×Int×Int)⊕((Bool×Int)⊕(Bool×Bool))):=if decide (JK<(arA IV.Reads)) then (aaV IV.Reads JK).bind fun BW=>if decide (BW.eu=(-1)) then cW MH C8 JK BW true else if decide ((0:Int)≤BW.eu) then if decide (BW.eu<(arA cK.aL)) then if decide (BW.eu≠Hf) then (aaV cK.aL BW.eu).bind fun ajn=>(bJ ajn.bA BW.Key).bind fun aip=>cW MH C8 JK BW aip else cW MH C8 JK BW false else cW MH C8 JK BW false else cW MH C8 JK BW false else aaN (d_ Hf IV MH)
def dZ(cK:af)(Hf:Int)(IV:aJ)(au1:Bool):Option ((Bool×Int)⊕(Bool×Bool)):=abt (fun(p:Bool×Int×Int)=>jf cK Hf IV p.1 p.2.1 p.2.2) (au1,(-1),0)
def jh(XM:Int)(XU:Int)(ard:Bool):Option ((Bool×Int×Int)⊕((Bool×Int)⊕(Bool×Bool))):=abo (ard,XU,bM (XM+1))
def gq(cK:af)(Hf:Int)(IV:aJ)(agh:Bool)(adb:Int)(XM:Int):Option ((Bool×Int×Int)⊕((Bool×Int)⊕(Bool×Bool))):=if decide (XM<(arA IV.bA)) then (aaV IV.bA XM).bind fun XU=>if decide (adb<XU) then (iP agh (decide (XU<16))).bind fun aju=>if aju.2 then jh XM XU aju.1 else aaN (aaN (some (aju.1,false))) else (iP agh false).bind fun ajv=>if ajv.2 then jh XM XU ajv.1 else aaN (aaN (some (ajv.1,false))) else aaN (dZ cK Hf IV agh)
def gp(cK:af)(akS:Bool)(Hf:Int):Option ((Bool×Int)⊕(Bool×Bool)):=if decide (Hf<(arA cK.aL)) then (aaV cK.aL Hf).bind fun IV=>abt (fun(p:Bool×Int×Int)=>gq cK Hf IV p.1 p.2.1 p.2.2) (akS,(-1),0) else aaN (some (akS,true))
def kC(cM:Bool)(cK:af):Option (Bool×Bool):=(iP cM (decide ((arA cK.aL)≤32))).bind fun ajo=>if ajo.2 then abt (fun(p:Bool×Int)=>gp cK p.1 p.2) (ajo.1,0) else some (ajo.1,false)
def fR(aV:af):Option (Bool):=(A2 aV).bind fun r8=>(kC false aV).bind fun it9=>if it9.2 then some true else some it9.1
def qf(afC:List (List UInt8)):Option ((List (List UInt8))×Int):=if decide ((400:Int)<(arA afC)) then some ([],4) else some (afC,0)
def gT(i70:Int)(an9:List (List UInt8))(agD:Int):Option (((List (List UInt8))×Int×Int)⊕((List (List UInt8))×Int)):=abo (an9,agD,bM (i70+1))
def jq(aT:List UInt8)(aal:List (List UInt8))(YV:Int)(i70:Int):Option (((List (List UInt8))×Int×Int)⊕((List (List UInt8))×Int)):=if decide (i70<(arA aT)) then (aaV aT i70).bind fun x78=>if decide (((x78).toNat:Int)=10) then (abH aT YV i70).bind fun ES=>(abz 16 aal [ES]).bind fun Rm=>gT i70 Rm (bM (i70+1)) else gT i70 aal YV else aaN (qf aal)
def l7(aT:List UInt8)(v30:Bool):Option ((List (List UInt8))×Int):=if v30 then some ([],2) else abt (fun(p:(List (List UInt8))×Int×Int)=>jq aT p.1 p.2.1 p.2.2) ([],0,0)
def lK(aT:List UInt8):Option ((List (List UInt8))×Int):=if decide ((0:Int)<(arA aT)) then (aaV aT (bM ((arA aT) - 1))).bind fun x85=>l7 aT (decide (((x85).toNat:Int)≠10)) else l7 aT false
def qC(cM:Int):Option (Bool):=if decide ((33:Int)≤cM) then some (decide (cM≤126)) else some false
def vW(Z1:List (List UInt8)):Option ((List (List UInt8))×Int):=if decide ((8:Int)<(arA Z1)) then some ([],2) else some (Z1,0)
def l_(aT:List UInt8)(EP:List (List UInt8))(F6:Int)(R7:Int):Option (((List (List UInt8))×Int)⊕((List (List UInt8))×Int)):=if decide (R7=F6) then aaN (some ([],2)) else (abH aT F6 R7).bind fun adE=>(abz 16 EP [adE]).bind fun Z4=>if decide (R7=(arA aT)) then aaN (vW Z4) else (aaV aT R7).bind fun oM=>if decide (((oM).toNat:Int)≠32) then aaN (some ([],2)) else abo (Z4,bM (R7+1))
def gV(aT:List UInt8)(EP:List (List UInt8))(F6:Int)(Mw:Int)(v193:Bool):Option ((Int)⊕(((List (List UInt8))×Int)⊕((List (List UInt8))×Int))):=if v193 then abo (bM (Mw+1)) else aaN (l_ aT EP F6 Mw)
def gU(aT:List UInt8)(EP:List (List UInt8))(F6:Int)(Mw:Int):Option ((Int)⊕(((List (List UInt8))×Int)⊕((List (List UInt8))×Int))):=if decide (Mw<(arA aT)) then (aaV aT Mw).bind fun avv=>(qC ((avv).toNat:Int)).bind fun TN=>gV aT EP F6 Mw TN else gV aT EP F6 Mw false
def vV(aT:List UInt8)(EP:List (List UInt8))(F6:Int):Option (((List (List UInt8))×Int)⊕((List (List UInt8))×Int)):=abt (fun(p:Int)=>gU aT EP F6 p) F6
def o4(aT:List UInt8):Option ((List (List UInt8))×Int):=abt (fun(p:(List (List UInt8))×Int)=>vV aT p.1 p.2) ([],0)
def oW(cM:Int):Option (Bool):=if decide ((48:Int)≤cM) then some (decide (cM≤57)) else some false
def xI(Kn:Int)(n70:Int):Option (Int×Int×Int):=some (n70,Kn,0)
def m_(aT:List UInt8)(Kn:Int)(n77:Int)(i78:Int):Option ((Int×Int)⊕(Int×Int×Int)):=if decide (i78<Kn) then (aaV aT i78).bind fun KJ=>Sh.EK (bM ((bM (10*n77))+(bM (IntKind.u8.wrap (((KJ).toNat:Int) - 48))))) fun n85=>if decide ((2147483647:Int)<n85) then aaN (some (0,0,3)) else abo (n85,bM (i78+1)) else aaN (xI Kn n77)
def jM(aT:List UInt8)(fQ:Int)(Kn:Int)(v58:Bool):Option (Int×Int×Int):=if v58 then some (0,0,2) else abt (fun(p:Int×Int)=>m_ aT Kn p.1 p.2) (0,fQ)
def rj(aT:List UInt8)(fQ:Int)(Kn:Int):Option (Int×Int×Int):=if decide (Kn=fQ) then jM aT fQ Kn true else if decide ((bM (fQ+1))<Kn) then (aaV aT fQ).bind fun x89=>jM aT fQ Kn (decide (((x89).toNat:Int)=48)) else jM aT fQ Kn false
def nh(aT:List UInt8)(fQ:Int)(Ui:Int)(v107:Bool):Option ((Int)⊕(Int×Int×Int)):=if v107 then abo (bM (Ui+1)) else aaN (rj aT fQ Ui)
def ng(aT:List UInt8)(fQ:Int)(Ui:Int):Option ((Int)⊕(Int×Int×Int)):=if decide (Ui<(arA aT)) then (aaV aT Ui).bind fun au9=>(oW ((au9).toNat:Int)).bind fun ah0=>nh aT fQ Ui ah0 else nh aT fQ Ui false
def ri(aT:List UInt8)(fQ:Int)(v34:Bool):Option (Int×Int×Int):=if v34 then some (0,0,1) else abt (fun(p:Int)=>ng aT fQ p) fQ
def qB(aT:List UInt8)(fQ:Int):Option (Int×Int×Int):=if decide (fQ<0) then ri aT fQ true else ri aT fQ (decide ((arA aT)<fQ))
def oZ(aT:List UInt8):Option (Int×Int):=(qB aT 0).bind fun r3=>if decide (r3.2.2≠0) then some (0,r3.2.2) else if decide (r3.2.1<(arA aT)) then some (0,2) else some (r3.1,0)
def tV(xu:Int):Option (Bool):=if decide ((0:Int)≤xu) then some (decide (xu≤2147483647)) else some false
def qD(wR:Int):Option ((List UInt8)):=if decide (wR=0) then some ([98,101,103,105,110]:List UInt8) else if decide (wR=1) then some ([114,101,97,100]:List UInt8) else if decide (wR=2) then some ([119,114,105,116,101]:List UInt8) else if decide (wR=3) then some ([99,111,109,109,105,116]:List UInt8) else some ([97,98,111,114,116]:List UInt8)
def mh(oB:Int)(n101:List Int)(Cu:Bool):Option (an×Int):=if Cu then some ((an.mk 0 0 0 0),4) else (aaV n101 0).bind fun aje=>(aaV n101 1).bind fun ajf=>(aaV n101 2).bind fun ajg=>some ((an.mk oB aje ajf ajg),0)
def mg(oB:Int)(n101:List Int):Option (an×Int):=(aaV n101 0).bind fun XQ=>if decide ((7:Int)<XQ) then mh oB n101 true else (aaV n101 1).bind fun avd=>mh oB n101 (decide ((15:Int)<avd))
def gW(JA:(List (List UInt8))×Int)(oB:Int)(n144:List Int)(i145:Int):Option (((List Int)×Int)⊕(an×Int)):=if decide (i145<(arA JA.1)) then (aaV JA.1 i145).bind fun dN=>(oZ dN).bind fun ah6=>if decide (ah6.2≠0) then aaN (some ((an.mk 0 0 0 0),ah6.2)) else (aaV n144 (bM (i145 - 1))).bind fun azp=>abo (abG n144 (bM (i145 - 1)) ah6.1,bM (i145+1)) else aaN (mg oB n144)
def me(JA:(List (List UInt8))×Int)(oB:Int)(v80:Bool):Option (an×Int):=if v80 then some ((an.mk 0 0 0 0),2) else abt (fun(p:(List Int)×Int)=>gW JA oB p.1 p.2) ([0,0,0],1)
def mc(JA:(List (List UInt8))×Int)(oB:Int)(ahh:Int):Option (an×Int):=if decide (oB<0) then me JA oB true else me JA oB (decide ((arA JA.1)≠ahh))
def qh(JA:(List (List UInt8))×Int)(oB:Int)(auG:Bool):Option (an×Int):=if auG then mc JA oB 4 else mc JA oB 2
def qg(JA:(List (List UInt8))×Int)(oB:Int):Option (an×Int):=if decide (oB=1) then qh JA oB true else qh JA oB (decide (oB=2))
def qi(Jm:Int)(ac_:Int):Option ((Int×Int)⊕(an×Int)):=abo (ac_,bM (Jm+1))
def mb(JA:(List (List UInt8))×Int)(Vp:Int)(Jm:Int):Option ((Int×Int)⊕(an×Int)):=if decide (Jm<5) then (qD Jm).bind fun TM=>(aaV JA.1 0).bind fun abE=>if decide (TM=abE) then qi Jm Jm else qi Jm Vp else aaN (qg JA Vp)
def o5(aT:List UInt8):Option (an×Int):=(o4 aT).bind fun JA=>if decide (JA.2≠0) then some ((an.mk 0 0 0 0),JA.2) else abt (fun(p:Int×Int)=>mb JA p.1 p.2) ((-1),0)
def mj(vR:an)(Sw:Bool):Option (Bool):=if Sw then (tV vR.Value).bind fun r32=>if decide ((0:Int)≤vR.Key) then if decide (vR.Key≤15) then some r32 else some false else some false else if decide (vR.Key=0) then some (decide (vR.Value=0)) else some false
def gX(vR:an)(v20:Bool):Option (Bool):=if v20 then some false else if decide (vR.Kind=1) then mj vR true else mj vR (decide (vR.Kind=2))
def iw(vR:an):Option (Bool):=if decide (vR.Kind<0) then gX vR true else if decide ((4:Int)<vR.Kind) then gX vR true else if decide (vR.aI<0) then gX vR true else gX vR (decide ((7:Int)<vR.aI))
def vX(anZ:List an):Option ((List an)×Int×Int):=some (anZ,0,0)
def qj(wY:(List (List UInt8))×Int)(afB:List an)(i50:Int):Option (((List an)×Int)⊕((List an)×Int×Int)):=if decide (i50<(arA wY.1)) then (aaV wY.1 i50).bind fun x59=>(o5 x59).bind fun r61=>if decide (r61.2≠0) then aaN (some ([],bM (i50+1),r61.2)) else (abz 32 afB ([r61.1]:List an)).bind fun an4=>abo (an4,bM (i50+1)) else aaN (vX afB)
def lM(aT:List UInt8):Option ((List an)×Int×Int):=(lK aT).bind fun wY=>if decide (wY.2≠0) then some ([],0,wY.2) else abt (fun(p:(List an)×Int)=>qj wY p.1 p.2) ([],0)
def Ey:Option (Int):=some (-1)
def xJ(bK:List aq)(sI:Int)(i22:Int):Option ((Int)⊕(Int)):=if decide ((0:Int)≤i22) then (aaV bK i22).bind fun x28=>if decide (x28.aI=sI) then aaN (some i22) else abo (bM (i22 - 1)) else aaN (Ey)
def ni(bK:List aq)(sI:Int):Option (Int):=abt (fun(p:Int)=>xJ bK sI p) (bM ((arA bK) - 1))
def mo(Pb:List aq):Option ((List aq)×Int×Int):=some (Pb,0,0)
def eZ(i155:Int)(Z5:List aq)(VK:List Bool):Option (((List aq)×(List Bool)×Int)⊕((List aq)×Int×Int)):=abo (Z5,VK,bM (i155+1))
def fT(cS:List aq)(eO:List Bool)(i155:Int)(jk:an)(rG:Int)(apg:Bool):Option (((List aq)×(List Bool)×Int)⊕((List aq)×Int×Int)):=if apg then (aaV cS rG).bind fun tM=>(abz 32 tM.eo ([jk]:List an)).bind fun MR=>(aaV cS rG).bind fun abF=>eZ i155 (abG cS rG (aq.mk abF.aI abF.gy abF.lq MR)) eO else (aaV eO rG).bind fun avz=>(aaV cS rG).bind fun BV=>eZ i155 (abG cS rG (aq.mk BV.aI (decide (jk.Kind=3)) BV.lq BV.eo)) (abG eO rG false)
def eE(cS:List aq)(eO:List Bool)(i155:Int)(jk:an)(rG:Int)(Zs:Bool):Option (((List aq)×(List Bool)×Int)⊕((List aq)×Int×Int)):=if decide (jk.Kind=0) then if Zs then aaN (some ([],i155,5)) else if decide ((arA cS)=32) then aaN (some ([],i155,4)) else (abz 48 cS ([(aq.mk jk.aI false i155 [])]:List aq)).bind fun vn=>(abz 1 eO [true]).bind fun Dc=>eZ i155 vn Dc else if !Zs then aaN (some ([],i155,6)) else if decide (jk.Kind=1) then fT cS eO i155 jk rG true else fT cS eO i155 jk rG (decide (jk.Kind=2))
def fS(bK:List an)(cS:List aq)(eO:List Bool)(i155:Int):Option (((List aq)×(List Bool)×Int)⊕((List aq)×Int×Int)):=if decide (i155<(arA bK)) then (aaV bK i155).bind fun jk=>(iw jk).bind fun ah8=>if !ah8 then aaN (some ([],i155,1)) else (ni cS jk.aI).bind fun rG=>if decide ((0:Int)≤rG) then (aaV eO rG).bind fun XR=>eE cS eO i155 jk rG XR else eE cS eO i155 jk rG false else aaN (mo cS)
def iy(bK:List an):Option ((List aq)×Int×Int):=abt (fun(p:(List aq)×(List Bool)×Int)=>fS bK p.1 p.2.1 p.2.2) ([],[],0)
def DZ:Option (Int):=some (-1)
def jr(k54:Int)(v67:Bool):Option ((Int)⊕(Int)):=if v67 then aaN (some k54) else abo (bM (k54 - 1))
def vY(bK:List an)(Jn:Int)(NL:Int)(k54:Int):Option ((Int)⊕(Int)):=if decide ((0:Int)≤k54) then (aaV bK k54).bind fun x69=>if decide (x69.Kind=Jn) then (aaV bK k54).bind fun x72=>jr k54 (decide (x72.Key=NL)) else jr k54 false else aaN (DZ)
def jE(bK:List an)(vU:Int)(Jn:Int)(NL:Int):Option (Int):=abt (fun(p:Int)=>vY bK Jn NL p) (bM (vU - 1))
def vZ:Option (Int):=some 0
def gY(OU:Int)(PL:Bool):Option ((Int)⊕(Int)):=if PL then aaN (some 9) else abo (bM (OU+1))
def mq(bK:List an)(vU:Int)(OU:Int):Option ((Int)⊕(Int)):=if decide (OU<(arA bK)) then (aaV bK OU).bind fun avB=>if decide (avB.Kind=2) then (aaV bK OU).bind fun Sj=>(aaV bK vU).bind fun avC=>if decide (Sj.Key=avC.Key) then (aaV bK OU).bind fun aeP=>(aaV bK vU).bind fun aji=>gY OU (decide (aeP.Value=aji.Value)) else gY OU false else gY OU false else aaN (vZ)
def js(bK:List an)(vU:Int)(v87:Bool):Option (Int):=if v87 then some 1 else (aaV bK vU).bind fun x93=>if decide (x93.Kind=2) then some 0 else (aaV bK vU).bind fun x99=>(jE bK vU 2 x99.Key).bind fun aoD=>if decide ((0:Int)≤aoD) then (aaV bK aoD).bind fun abC=>(aaV bK vU).bind fun ajd=>if decide (abC.Value≠ajd.Value) then some 10 else some 0 else (aaV bK vU).bind fun ajf=>(jE bK vU 1 ajf.Key).bind fun aoG=>if decide ((0:Int)≤aoG) then (aaV bK aoG).bind fun avj=>(aaV bK vU).bind fun avl=>if decide (avj.Value≠avl.Value) then some 11 else some 0 else abt (fun(p:Int)=>mq bK vU p) (bM (vU+1))
def o6(bK:List an)(vU:Int):Option (Int):=(aaV bK vU).bind fun x71=>(iw x71).bind fun r73=>if !r73 then js bK vU true else (aaV bK vU).bind fun avD=>if decide (avD.Kind≠1) then (aaV bK vU).bind fun avE=>js bK vU (decide (avE.Kind≠2)) else js bK vU false
def EA(auH:List aC)(abr:List aC):Option (bg×Int×Int):=some ((bg.mk auH abr),0,0)
def nj(pq:Int)(outReads265:List aC)(outWrites266:List aC):Option (((List aC)×(List aC)×Int)⊕(bg×Int×Int)):=abo (outReads265,outWrites266,bM (pq+1))
def nr(bK:List an)(outWrites237:List aC)(pq:Int)(outReads288:List aC):Option (((List aC)×(List aC)×Int)⊕(bg×Int×Int)):=(jE bK (arA bK) 2 pq).bind fun aoJ=>if decide ((0:Int)≤aoJ) then (aaV bK aoJ).bind fun avM=>(abz 16 outWrites237 ([(aC.mk pq avM.Value)]:List aC)).bind fun atf=>nj pq outReads288 atf else nj pq outReads288 outWrites237
def nt(bK:List an)(outReads236:List aC)(outWrites237:List aC)(pq:Int)(B9:Int)(auP:Bool):Option (((List aC)×(List aC)×Int)⊕(bg×Int×Int)):=if auP then (aaV bK B9).bind fun avO=>(abz 16 outReads236 ([(aC.mk pq avO.Value)]:List aC)).bind fun atg=>nr bK outWrites237 pq atg else nr bK outWrites237 pq outReads236
def nk(bK:List an)(outReads236:List aC)(outWrites237:List aC)(pq:Int)(B9:Int):Option (((List aC)×(List aC)×Int)⊕(bg×Int×Int)):=if decide ((0:Int)≤B9) then (aaV bK B9).bind fun avQ=>nt bK outReads236 outWrites237 pq B9 (decide (avQ.Kind=1)) else nt bK outReads236 outWrites237 pq B9 false
def iH(i315:Int)(YT:Int):Option ((Int×Int)⊕(((List aC)×(List aC)×Int)⊕(bg×Int×Int))):=abo (YT,bM (i315 - 1))
def gG(bK:List an)(outReads236:List aC)(outWrites237:List aC)(pq:Int)(QL:Int)(i315:Int):Option ((Int×Int)⊕(((List aC)×(List aC)×Int)⊕(bg×Int×Int))):=if decide ((0:Int)≤i315) then (aaV bK i315).bind fun avY=>if decide (avY.Key=pq) then iH i315 i315 else iH i315 QL else aaN (nk bK outReads236 outWrites237 pq QL)
def rq(bK:List an)(outReads236:List aC)(outWrites237:List aC)(pq:Int):Option (((List aC)×(List aC)×Int)⊕(bg×Int×Int)):=if decide (pq<16) then abt (fun(p:Int×Int)=>gG bK outReads236 outWrites237 pq p.1 p.2) ((-1),bM ((arA bK) - 1)) else aaN (EA outReads236 outWrites237)
def xK(bK:List an):Option (bg×Int×Int):=abt (fun(p:(List aC)×(List aC)×Int)=>rq bK p.1 p.2.1 p.2.2) ([],[],0)
def ru(bK:List an)(i328:Int):Option ((Int)⊕(bg×Int×Int)):=if decide (i328<(arA bK)) then (o6 bK i328).bind fun Ry=>if decide (Ry≠0) then aaN (some ((bg.mk [] []),i328,Ry)) else abo (bM (i328+1)) else aaN (xK bK)
def j7(bK:List an):Option (bg×Int×Int):=abt (fun(p:Int)=>ru bK p) 0
def sQ(kN:aq):Option (Bool):=if decide ((0:Int)≤kN.aI) then some (decide (kN.aI≤7)) else some false
def iZ(i90:Int)(auB:Bool):Option ((Int)⊕(Bool)):=if auB then aaN (some false) else abo (bM (i90+1))
def nW(kN:aq)(i90:Int):Option ((Int)⊕(Bool)):=if decide (i90<(arA kN.eo)) then (aaV kN.eo i90).bind fun ajc=>(iw ajc).bind fun atB=>if !atB then iZ i90 true else (aaV kN.eo i90).bind fun ajd=>if decide (ajd.Kind≠1) then (aaV kN.eo i90).bind fun avb=>iZ i90 (decide (avb.Kind≠2)) else iZ i90 false else aaN (sQ kN)
def sx(kN:aq):Option (Bool):=abt (fun(p:Int)=>nW kN p) 0
def vj(n69:Int):Option (Int):=some n69
def kV(i93:Int)(n104:Int):Option ((Int×Int)⊕(Int)):=abo (n104,bM (i93+1))
def iV(n92:Int)(i93:Int)(Cu:Bool):Option ((Int×Int)⊕(Int)):=if Cu then kV i93 (bM (n92+1)) else kV i93 n92
def kU(kN:aq)(Ak:Int)(ED:Int)(FO:Int)(n92:Int)(i93:Int):Option ((Int×Int)⊕(Int)):=if decide (i93<Ak) then (aaV kN.eo i93).bind fun abC=>if decide (abC.Kind=2) then (aaV kN.eo i93).bind fun ava=>if decide (ava.Key=ED) then (aaV kN.eo i93).bind fun aje=>iV n92 i93 (decide (aje.Value=FO)) else iV n92 i93 false else iV n92 i93 false else aaN (vj n92)
def i_(kN:aq)(Ak:Int)(ED:Int)(FO:Int):Option (Int):=abt (fun(p:Int×Int)=>kU kN Ak ED FO p.1 p.2) (0,0)
def vh:Option (Int):=some 0
def kT(i230:Int):Option ((Int)⊕(Int)):=abo (bM (i230+1))
def vi(i230:Int)(n299:Int):Option ((Int)⊕(Int)):=if decide ((0:Int)<n299) then aaN (some 8) else kT i230
def kS(bK:List aq)(fQ:Int)(i230:Int)(Sk:an)(n313:Int)(ac6:Int):Option ((Int×Int)⊕((Int)⊕(Int))):=if decide (ac6<fQ) then (aaV bK ac6).bind fun avX=>(aaV bK ac6).bind fun avZ=>(i_ avX (arA avZ.eo) Sk.Key Sk.Value).bind fun aua=>abo (bM (n313+aua),bM (ac6+1)) else aaN (vi i230 n313)
def kR(bK:List aq)(fQ:Int)(i230:Int):Option ((Int)⊕(Int)):=(aaV bK fQ).bind fun avA=>if decide (i230<(arA avA.eo)) then (aaV bK fQ).bind fun avH=>(aaV avH.eo i230).bind fun Sk=>if decide (Sk.Kind≠2) then kT i230 else if decide (Sk.Value=0) then aaN (some 7) else (aaV bK fQ).bind fun avK=>(i_ avK i230 Sk.Key Sk.Value).bind fun at3=>abt (fun(p:Int×Int)=>kS bK fQ i230 Sk p.1 p.2) (at3,0) else aaN (vh)
def nX(bK:List aq)(fQ:Int):Option (Int):=abt (fun(p:Int)=>kR bK fQ p) 0
def vg(n27:Int):Option (Int):=some n27
def o7(i38:Int)(n42:Int):Option ((Int×Int)⊕(Int)):=abo (n42,bM (i38+1))
def kQ(bK:List aq)(fQ:Int)(n37:Int)(i38:Int):Option ((Int×Int)⊕(Int)):=if decide (i38<fQ) then (aaV bK i38).bind fun x45=>if x45.gy then o7 i38 (bM (n37+1)) else o7 i38 n37 else aaN (vg n37)
def nV(bK:List aq)(fQ:Int):Option (Int):=abt (fun(p:Int×Int)=>kQ bK fQ p.1 p.2) (0,0)
def xP:Option (Int×Int):=some (0,12)
def rz(i256:Int):Option ((Int)⊕(Int×Int)):=abo (bM (i256+1))
def xQ(bK:List aq)(i256:Int):Option ((Int)⊕(Int×Int)):=(nV bK i256).bind fun aud=>aaN (some (aud,0))
def jP(Tp:Int)(auV:Bool):Option ((Int)⊕((Int)⊕(Int×Int))):=if auV then aaN (aaN (some (0,14))) else abo (bM (Tp+1))
def jO(bK:List aq)(dS:Int)(xA:Int)(i256:Int)(aaH:bg×Int×Int)(Tp:Int):Option ((Int)⊕((Int)⊕(Int×Int))):=if decide (Tp<(arA aaH.1.bA)) then (aaV aaH.1.bA Tp).bind fun av3=>if decide (av3.Key=dS) then (aaV aaH.1.bA Tp).bind fun av5=>jP Tp (decide (av5.Value≠xA)) else jP Tp false else aaN (xQ bK i256)
def jN(bK:List aq)(dS:Int)(xA:Int)(i256:Int):Option ((Int)⊕(Int×Int)):=if decide (i256<(arA bK)) then (aaV bK i256).bind fun avN=>(aaV bK i256).bind fun avP=>(i_ avN (arA avP.eo) dS xA).bind fun at7=>if decide (at7=0) then rz i256 else (aaV bK i256).bind fun avT=>if !avT.gy then aaN (some (0,13)) else (aaV bK i256).bind fun avW=>(j7 avW.eo).bind fun aaH=>abt (fun(p:Int)=>jO bK dS xA i256 aaH p) 0 else aaN (xP)
def qE(bK:List aq)(dS:Int)(xA:Int):Option (Int×Int):=if decide (xA=0) then some ((-1),0) else abt (fun(p:Int)=>jN bK dS xA p) 0
def yM(Fs:aq)(v70:List Int)(v99:List aO):Option (aJ×Int):=some ((aJ.mk Fs.aI v70 v99),0)
def sR(bK:List aq)(NX:bg×Int×Int)(Fs:aq)(v70:List Int)(outReads118:List aO)(i119:Int):Option (((List aO)×Int)⊕(aJ×Int)):=if decide (i119<(arA NX.1.Reads)) then (aaV NX.1.Reads i119).bind fun avf=>(aaV NX.1.Reads i119).bind fun avh=>(qE bK avf.Key avh.Value).bind fun ah2=>if decide (ah2.2≠0) then aaN (some ((aJ.mk 0 [] []),ah2.2)) else (aaV NX.1.Reads i119).bind fun avk=>(abz 16 outReads118 ([(aO.mk avk.Key ah2.1)]:List aO)).bind fun ata=>abo (ata,bM (i119+1)) else aaN (yM Fs v70 outReads118)
def yL(bK:List aq)(NX:bg×Int×Int)(Fs:aq)(v70:List Int):Option (aJ×Int):=abt (fun(p:(List aO)×Int)=>sR bK NX Fs v70 p.1 p.2) ([],0)
def sS(bK:List aq)(NX:bg×Int×Int)(Fs:aq)(outWrites151:List Int)(i152:Int):Option (((List Int)×Int)⊕(aJ×Int)):=if decide (i152<(arA NX.1.bA)) then (aaV NX.1.bA i152).bind fun avq=>(abz 8 outWrites151 [avq.Key]).bind fun atb=>abo (atb,bM (i152+1)) else aaN (yL bK NX Fs outWrites151)
def ov(bK:List aq)(fQ:Int):Option (aJ×Int):=(aaV bK fQ).bind fun x50=>(j7 x50.eo).bind fun NX=>(aaV bK fQ).bind fun Fs=>abt (fun(p:(List Int)×Int)=>sS bK NX Fs p.1 p.2) ([],0)
def xO(Ul:List aJ):Option (af×Int×Int):=some ((af.mk Ul),0,0)
def iI(i134:Int)(outTxns140:List aJ):Option (((List aJ)×Int)⊕(af×Int×Int)):=abo (outTxns140,bM (i134+1))
def nv(bK:List aq)(outTxns133:List aJ)(i134:Int):Option (((List aJ)×Int)⊕(af×Int×Int)):=if decide (i134<(arA bK)) then (aaV bK i134).bind fun avm=>if !avm.gy then iI i134 outTxns133 else (ov bK i134).bind fun ah4=>if decide (ah4.2≠0) then aaN (some ((af.mk []),i134,ah4.2)) else (abz 56 outTxns133 ([ah4.1]:List aJ)).bind fun ag6=>iI i134 ag6 else aaN (xO outTxns133)
def xN(bK:List aq):Option (af×Int×Int):=abt (fun(p:(List aJ)×Int)=>nv bK p.1 p.2) ([],0)
def gI(i167:Int)(TL:bg×Int×Int)(auI:Bool):Option ((Int)⊕(af×Int×Int)):=if auI then aaN (some ((af.mk []),i167,TL.2.2)) else abo (bM (i167+1))
def nx(bK:List aq)(i167:Int):Option ((Int)⊕(af×Int×Int)):=if decide (i167<(arA bK)) then (aaV bK i167).bind fun Uy=>(j7 Uy.eo).bind fun TL=>(aaV bK i167).bind fun abE=>if abE.gy then gI i167 TL (decide (TL.2.2≠0)) else gI i167 TL false else aaN (xN bK)
def xM(bK:List aq):Option (af×Int×Int):=abt (fun(p:Int)=>nx bK p) 0
def ny(bK:List aq)(i193:Int):Option ((Int)⊕(af×Int×Int)):=if decide (i193<(arA bK)) then (nX bK i193).bind fun TN=>if decide (TN≠0) then aaN (some ((af.mk []),i193,TN)) else abo (bM (i193+1)) else aaN (xM bK)
def xL(bK:List aq):Option (af×Int×Int):=abt (fun(p:Int)=>ny bK p) 0
def nA(bK:List aq)(i206:Int):Option ((Int)⊕(af×Int×Int)):=if decide (i206<(arA bK)) then (aaV bK i206).bind fun avy=>(sx avy).bind fun atL=>if !atL then aaN (some ((af.mk []),i206,1)) else abo (bM (i206+1)) else aaN (xL bK)
def nu(bK:List aq):Option (af×Int×Int):=if decide ((32:Int)<(arA bK)) then some ((af.mk []),0,4) else abt (fun(p:Int)=>nA bK p) 0
def lN(aT:List UInt8):Option (af×Int×Int):=(lM aT).bind fun r7=>if decide (r7.2.2≠0) then some ((af.mk []),r7.2.1,r7.2.2) else (iy r7.1).bind fun DN=>if decide (DN.2.2≠0) then some ((af.mk []),bM (DN.2.1+1),DN.2.2) else (nu DN.1).bind fun tX=>if decide (tX.2.2≠0) then (aaV DN.1 tX.2.1).bind fun Sx=>some ((af.mk []),bM (Sx.lq+1),tX.2.2) else some ((af.mk tX.1.aL),0,0)
def yN:Option (Bool):=some true
def kI(i55:Int)(v68:Bool):Option ((Int)⊕(Bool)):=if v68 then aaN (some false) else abo (bM (i55+1))
def nY(aV:af)(i55:Int):Option ((Int)⊕(Bool)):=if decide (i55<(arA aV.aL)) then (aaV aV.aL i55).bind fun x70=>if decide ((20:Int)<(arA x70.bA)) then kI i55 true else (aaV aV.aL i55).bind fun x73=>kI i55 (decide ((20:Int)<(arA x73.Reads))) else aaN (yN)
def sA(aV:af)(Ak:Int):Option (Bool):=if decide (Ak<(arA aV.aL)) then some false else abt (fun(p:Int)=>nY aV p) 0
def o9:Option (Bool):=some false
def gM(kN:aJ)(dS:Int)(i22:Int):Option ((Int)⊕(Bool)):=if decide (i22<(arA kN.bA)) then (aaV kN.bA i22).bind fun x28=>if decide (x28=dS) then aaN (some true) else abo (bM (i22+1)) else aaN (o9)
def fM(kN:aJ)(dS:Int):Option (Bool):=abt (fun(p:Int)=>gM kN dS p) 0
def yP:Option (Bool):=some true
def nZ(i195:Int):Option ((Int)⊕(Bool)):=abo (bM (i195+1))
def cF(aV:af)(i195:Int)(l6:aO)(auM:Bool):Option ((Int)⊕(Bool)):=if auM then aaN (some false) else if decide (l6.eu<0) then nZ i195 else (aaV aV.aL l6.eu).bind fun Sj=>(fM Sj l6.Key).bind fun atS=>if !atS then aaN (some false) else nZ i195
def sU(aV:af)(Tx:Int)(KJ:aJ)(i195:Int):Option ((Int)⊕(Bool)):=if decide (i195<(arA KJ.Reads)) then (aaV KJ.Reads i195).bind fun l6=>if decide (l6.Key<0) then cF aV i195 l6 true else if decide ((15:Int)<l6.Key) then cF aV i195 l6 true else if decide ((0:Int)<i195) then (aaV KJ.Reads (bM (i195 - 1))).bind fun aji=>if decide (l6.Key≤aji.Key) then cF aV i195 l6 true else if decide (l6.eu<(-1)) then cF aV i195 l6 true else if decide ((arA aV.aL)≤l6.eu) then cF aV i195 l6 true else cF aV i195 l6 (decide (l6.eu=Tx)) else if decide (l6.eu<(-1)) then cF aV i195 l6 true else if decide ((arA aV.aL)≤l6.eu) then cF aV i195 l6 true else cF aV i195 l6 (decide (l6.eu=Tx)) else aaN (yP)
def yO(aV:af)(Tx:Int)(KJ:aJ):Option (Bool):=abt (fun(p:Int)=>sU aV Tx KJ p) 0
def ja(i278:Int)(auQ:Bool):Option ((Int)⊕(Bool)):=if auQ then aaN (some false) else abo (bM (i278+1))
def kJ(aV:af)(Tx:Int)(KJ:aJ)(i278:Int):Option ((Int)⊕(Bool)):=if decide (i278<(arA KJ.bA)) then (aaV KJ.bA i278).bind fun avR=>if decide (avR<0) then ja i278 true else (aaV KJ.bA i278).bind fun avS=>if decide ((15:Int)<avS) then ja i278 true else if decide ((0:Int)<i278) then (aaV KJ.bA (bM (i278 - 1))).bind fun avU=>(aaV KJ.bA i278).bind fun avV=>ja i278 (decide (avV≤avU)) else ja i278 false else aaN (yO aV Tx KJ)
def sV(aV:af)(Tx:Int)(KJ:aJ)(v89:Bool):Option (Bool):=if v89 then some false else abt (fun(p:Int)=>kJ aV Tx KJ p) 0
def sB(aV:af)(Tx:Int):Option (Bool):=(aaV aV.aL Tx).bind fun KJ=>if decide (KJ.aI<0) then sV aV Tx KJ true else sV aV Tx KJ (decide ((7:Int)<KJ.aI))
def v_:Option (Bool):=some true
def mu(aV:af)(n15:Int):Option ((Int)⊕(Bool)):=if decide (n15<(arA aV.aL)) then (sB aV n15).bind fun wY=>if !wY then aaN (some false) else abo (bM (n15+1)) else aaN (v_)
def o8(aV:af):Option (Bool):=if decide ((32:Int)<(arA aV.aL)) then some false else abt (fun(p:Int)=>mu aV p) 0
def tN(er:b9)(MN:af)(yT:Int)(Cz:Int):Option (Bool):=if decide (yT<Cz) then (aaV MN.aL yT).bind fun x13=>(aaV MN.aL Cz).bind fun x15=>some (decide (x13.aI=x15.aI)) else some false
def mJ(OV:b9)(jB:af)(nP:Int)(zn:Int):Option (Bool):=(tN OV jB nP zn).bind fun r3=>some r3
def uV(Xo:aO)(jB:Int):Option (Bool):=some (decide (Xo.eu=jB))
def fP:Option (Int):=some (-1)
def dY(aT:List aO)(sg:Int)(v30:Int):Option ((Int)⊕(Int)):=if decide (v30<(arA aT)) then (aaV aT v30).bind fun x38=>(uV x38 sg).bind fun G4=>if G4 then aaN (some v30) else abo (bM (v30+1)) else aaN (fP)
def ez(aT:List aO)(sg:Int):Option (Int):=abt (fun(p:Int)=>dY aT sg p) 0
def dW(aT:List aO)(sg:Int):Option (Bool):=(ez aT sg).bind fun r3=>some (decide ((0:Int)≤r3))
def y_(er:dG)(MN:af)(yT:Int)(Cz:Int):Option (Bool):=(aaV MN.aL Cz).bind fun x7=>(dW x7.Reads yT).bind fun r9=>some r9
def oT(OV:dG)(jB:af)(nP:Int)(zn:Int):Option (Bool):=(y_ OV jB nP zn).bind fun r3=>some r3
def uA(aV:af)(t_1:Int)(ED:Int):Option (Bool):=(aaV aV.aL t_1).bind fun x7=>(bJ x7.bA ED).bind fun r9=>some r9
def mU(cM:aa)(jB:Int)(nP:Int)(zn:af):Option (Bool):=if decide (cM.A=jB) then if decide (cM.B=nP) then if decide (jB≠nP) then (uA zn jB cM.Key).bind fun AQ=>if AQ then (uA zn nP cM.Key).bind fun wY=>some wY else some false else some false else some false else some false
def eR:Option (Int):=some (-1)
def cO(aT:List aa)(sg:Int)(AO:Int)(mV:af)(v30:Int):Option ((Int)⊕(Int)):=if decide (v30<(arA aT)) then (aaV aT v30).bind fun x38=>(mU x38 sg AO mV).bind fun G4=>if G4 then aaN (some v30) else abo (bM (v30+1)) else aaN (eR)
def c7(aT:List aa)(sg:Int)(AO:Int)(mV:af):Option (Int):=abt (fun(p:Int)=>cO aT sg AO mV p) 0
def cN(aT:List aa)(sg:Int)(AO:Int)(mV:af):Option (Bool):=(c7 aT sg AO mV).bind fun r3=>some (decide ((0:Int)≤r3))
def tO(bK:List aa)(MN:af)(yT:Int)(Cz:Int):Option (Bool):=(cN bK yT Cz MN).bind fun r3=>some r3
def mK(OV:List aa)(jB:af)(nP:Int)(zn:Int):Option (Bool):=(tO OV jB nP zn).bind fun r3=>some r3
def fu:Option (Int):=some (-1)
def dL(aT:b9)(zg:dG)(BY:List aa)(mV:af)(YO:Int)(YP:Int):Option (Int):=(mJ aT mV YO YP).bind fun r12=>if r12 then some 0 else (oT zg mV YO YP).bind fun J6=>if J6 then some 1 else (mK BY mV YO YP).bind fun J7=>if J7 then some 2 else fu
def dn(aT:b9)(zg:dG)(BY:List aa)(mV:af)(YO:Int)(YP:Int):Option (Bool):=(dL aT zg BY mV YO YP).bind fun r3=>some (decide ((0:Int)≤r3))
def oV(aV:af)(Na:Int)(Nb:Int)(nB:b9)(A7:dG)(A8:List aa)(v13:Bool):Option (Bool):=if v13 then some false else (dn nB A7 A8 aV Na Nb).bind fun J6=>some J6
def yh(aV:af)(Na:Int)(Nb:Int)(nB:b9)(A7:dG)(A8:List aa):Option (Bool):=(fR aV).bind fun AQ=>if !AQ then oV aV Na Nb nB A7 A8 true else if decide ((abM Na Nb)<0) then oV aV Na Nb nB A7 A8 true else oV aV Na Nb nB A7 A8 (decide ((arA aV.aL)≤(abN Na Nb)))
def qW(aV:af)(qN:List aa)(yT:Int)(Cz:Int):Option (Bool):=(yh aV yT Cz b9.mk dG.mk qN).bind fun r3=>some r3
def qy(Xo:aO)(jB:af)(nP:Int)(zn:List aa):Option (Bool):=(uA jB nP Xo.Key).bind fun r12=>if r12 then if decide (Xo.eu<0) then some true else if decide (Xo.eu≠nP) then (e8 zn (aa.mk Xo.Key Xo.eu nP)).bind fun J6=>some J6 else some false else some false
def fO:Option (Int):=some (-1)
def dX(aT:List aO)(sg:af)(AO:Int)(mV:List aa)(v30:Int):Option ((Int)⊕(Int)):=if decide (v30<(arA aT)) then (aaV aT v30).bind fun x38=>(qy x38 sg AO mV).bind fun G4=>if G4 then aaN (some v30) else abo (bM (v30+1)) else aaN (fO)
def ey(aT:List aO)(sg:af)(AO:Int)(mV:List aa):Option (Int):=abt (fun(p:Int)=>dX aT sg AO mV p) 0
def dV(aT:List aO)(sg:af)(AO:Int)(mV:List aa):Option (Bool):=(ey aT sg AO mV).bind fun r3=>some (decide ((0:Int)≤r3))
def y9(bK:List aa)(MN:af)(yT:Int)(Cz:Int):Option (Bool):=if decide (yT≠Cz) then (aaV MN.aL yT).bind fun x11=>(dV x11.Reads MN Cz bK).bind fun tX=>some tX else some false
def oS(OV:List aa)(jB:af)(nP:Int)(zn:Int):Option (Bool):=(y9 OV jB nP zn).bind fun r3=>some r3
def fq:Option (Int):=some (-1)
def dK(aT:List aa)(sg:af)(AO:Int)(mV:Int):Option (Int):=(oS aT sg AO mV).bind fun r6=>if r6 then some 0 else fq
def dm(aT:List aa)(sg:af)(AO:Int)(mV:Int):Option (Bool):=(dK aT sg AO mV).bind fun r3=>some (decide ((0:Int)≤r3))
def oU(aV:af)(Na:Int)(Nb:Int)(nB:List aa)(v13:Bool):Option (Bool):=if v13 then some false else (dm nB aV Na Nb).bind fun J6=>some J6
def yg(aV:af)(Na:Int)(Nb:Int)(nB:List aa):Option (Bool):=(fR aV).bind fun AQ=>if !AQ then oU aV Na Nb nB true else if decide ((abM Na Nb)<0) then oU aV Na Nb nB true else oU aV Na Nb nB (decide ((arA aV.aL)≤(abN Na Nb)))
def B8(aV:af)(qN:List aa)(yT:Int)(Cz:Int):Option (Bool):=(yg aV yT Cz qN).bind fun r3=>some r3
def CR:Option (Bool):=some false
def CS(Uq:Int)(v73:Bool):Option ((Int)⊕(Bool)):=if v73 then aaN (some true) else abo (bM (Uq+1))
def GP(aV:af)(c8:List aa)(JM:Int)(y_4:Int)(Uq:Int):Option ((Int)⊕(Bool)):=if decide (Uq<(arA aV.aL)) then (qW aV c8 JM Uq).bind fun r75=>if r75 then if decide (Uq=y_4) then CS Uq true else (B8 aV c8 Uq y_4).bind fun r78=>CS Uq r78 else CS Uq false else aaN (CR)
def Kw(aV:af)(aB:Int)(c8:List aa)(JM:Int)(y_4:Int):Option (Bool):=if decide (aB=0) then (qW aV c8 JM y_4).bind fun r47=>if r47 then some true else (B8 aV c8 JM y_4).bind fun r49=>some r49 else if decide (aB=1) then abt (fun(p:Int)=>GP aV c8 JM y_4 p) 0 else CR
def Gd(Co:List Int):Option (Bool):=some (decide ((0:Int)<(arA Co)))
def xg(v86:Int)(v109:Bool):Option ((Int)⊕(Bool)):=if v109 then aaN (some false) else abo (bM (v86+1))
def BC(aV:af)(aB:Int)(c8:List aa)(Co:List Int)(v86:Int):Option ((Int)⊕(Bool)):=if decide (v86<(arA Co)) then (aaV Co v86).bind fun apq=>(abH Co 0 v86).bind fun adD=>(bJ adD apq).bind fun atC=>if atC then xg v86 true else (Sh.rem (bM (v86+1)) (arA Co)).bind fun aty=>(aaV Co aty).bind fun abC=>(Kw aV aB c8 apq abC).bind fun atD=>xg v86 (!atD) else aaN (Gd Co)
def zN(aV:af)(aB:Int)(c8:List aa)(Co:List Int):Option (Bool):=abt (fun(p:Int)=>BC aV aB c8 Co p) 0
def fA(qP:BitVec 64):Option (Int):=if decide (qP=0#64) then some 64 else (Sh.shr ((qP&&&(-qP))*285870213051353865#64) ((58#64).toNat:Int)).bind fun s8=>(aaV Sh.XH ((s8).toNat:Int)).bind fun x9=>some (bM x9)
def zF(er:BitVec 64)(Bx:BitVec 64):Option (Bool):=some (decide ((er&&& ~~~Bx)=0#64))
def HE(Z8:BitVec 64):Option ((BitVec 64)):=some Z8
def CI(bK:List (BitVec 64))(afy:BitVec 64)(Sw:Int):Option (((BitVec 64)×Int)⊕((BitVec 64))):=if decide (Sw<(arA bK)) then (aaV bK Sw).bind fun x35=>abo (afy|||x35,bM (Sw+1)) else aaN (HE afy)
def p6(bK:List (BitVec 64)):Option ((BitVec 64)):=abt (fun(p:(BitVec 64)×Int)=>CI bK p.1 p.2) (0#64,0)
def Ea(Sr:Int)(v7:Bool):Option ((BitVec 64)):=if v7 then some 0#64 else (Sh.shl 1#64 Sr).bind fun s10=>some s10
def zG(Sr:Int):Option ((BitVec 64)):=if decide (Sr<0) then Ea Sr true else Ea Sr (decide ((64:Int)≤Sr))
def p7(aT:BitVec 64)(vU:Int):Option ((BitVec 64)):=(zG vU).bind fun r3=>some (aT|||r3)
def HF(Z8:List Int):Option ((List Int)):=some Z8
def uS(s28:BitVec 64)(afz:List Int):Option (((BitVec 64)×(List Int))⊕((List Int))):=if decide (s28≠0#64) then (fA s28).bind fun KH=>(abz 8 afz [KH]).bind fun anX=>abo (s28&&&(s28 - 1#64),anX) else aaN (HF afz)
def lB(aT:BitVec 64):Option ((List Int)):=abt (fun(p:(BitVec 64)×(List Int))=>uS p.1 p.2) (aT,[])
def xF(aT:BitVec 64)(vU:Int):Option (Bool):=(zG vU).bind fun r3=>some (decide ((aT&&&r3)≠0#64))
def CW(xu:Int)(v7:Bool):Option (aj×Int):=if v7 then some ((aj.mk 0 []),1) else (abL 8 xu xu 0#64).bind fun ahe=>some ((aj.mk xu ahe),0)
def fK(xu:Int):Option (aj×Int):=if decide (xu<0) then CW xu true else CW xu (decide ((64:Int)<xu))
def Et(xu:Int):Option ((BitVec 64)):=(Sh.shl 1#64 xu).bind fun s3=>some (s3 - 1#64)
def jc(mY:aj):Option (Bool):=if decide ((0:Int)≤mY.N) then if decide (mY.N≤64) then if decide ((arA mY.Rows)=mY.N) then (p6 mY.Rows).bind fun AQ=>(Et mY.N).bind fun r18=>(zF AQ r18).bind fun wY=>some wY else some false else some false else some false
def z6(er:aj)(Bx:aj):Option (Bool):=(jc er).bind fun DN=>if DN then (jc Bx).bind fun r12=>if r12 then some (decide (er.N=Bx.N)) else some false else some false
def Es(KH:aj×Int)(v59:List (BitVec 64)):Option (aj×Int):=some ((aj.mk KH.1.N v59),KH.2)
def zZ(er:aj)(Bx:aj)(KH:aj×Int)(outRows76:List (BitVec 64))(v77:Int):Option (((List (BitVec 64))×Int)⊕(aj×Int)):=if decide (v77<(arA KH.1.Rows)) then (aaV er.Rows v77).bind fun x86=>(aaV Bx.Rows v77).bind fun x88=>(p6 [x86,x88]).bind fun r90=>(aaV outRows76 v77).bind fun x91=>abo (abG outRows76 v77 r90,bM (v77+1)) else aaN (Es KH outRows76)
def lz(er:aj)(Bx:aj):Option (aj×Int):=(z6 er Bx).bind fun r30=>if !r30 then some ((aj.mk 0 []),1) else (fK er.N).bind fun KH=>abt (fun(p:(List (BitVec 64))×Int)=>zZ er Bx KH p.1 p.2) (KH.1.Rows,0)
def sn(mY:aj)(jB:Int)(GI:Int)(v26:Bool):Option (aj×Int):=if v26 then some ((aj.mk 0 []),1) else (fK mY.N).bind fun wz=>(Sh.YA wz.1.Rows mY.Rows).bind fun copied32=>(aaV copied32 jB).bind fun x39=>(p7 x39 GI).bind fun r41=>(aaV copied32 jB).bind fun x42=>some ((aj.mk wz.1.N (abG copied32 jB r41)),wz.2)
def ot(mY:aj)(jB:Int)(GI:Int):Option (aj×Int):=(jc mY).bind fun D3=>if !D3 then sn mY jB GI true else if decide (jB<0) then sn mY jB GI true else if decide (mY.N≤jB) then sn mY jB GI true else if decide (GI<0) then sn mY jB GI true else sn mY jB GI (decide (mY.N≤GI))
def Ca(MW:aj×Int)(ai0:List (BitVec 64)):Option (aj×Int):=some ((aj.mk MW.1.N ai0),MW.2)
def Cb(Kp:Int)(auR:List (BitVec 64)):Option (((List (BitVec 64))×Int)⊕(aj×Int)):=abo (auR,bM (Kp+1))
def su(Bx:aj)(Kp:Int)(TO:(List Int))(outRows356:List (BitVec 64))(ai3:Int):Option (((List (BitVec 64))×Int)⊕(((List (BitVec 64))×Int)⊕(aj×Int))):=if decide (ai3<(arA TO)) then (aaV TO ai3).bind fun av4=>(aaV outRows356 Kp).bind fun av6=>(aaV Bx.Rows av4).bind fun av7=>(p6 [av6,av7]).bind fun auf=>(aaV outRows356 Kp).bind fun azw=>abo (abG outRows356 Kp auf,bM (ai3+1)) else aaN (Cb Kp outRows356)
def wI(er:aj)(Bx:aj)(MW:aj×Int)(outRows292:List (BitVec 64))(Kp:Int):Option (((List (BitVec 64))×Int)⊕(aj×Int)):=if decide (Kp<(arA MW.1.Rows)) then (aaV er.Rows Kp).bind fun av1=>(lB av1).bind fun TO=>abt (fun(p:(List (BitVec 64))×Int)=>su Bx Kp TO p.1 p.2) (outRows292,0) else aaN (Ca MW outRows292)
def nK(er:aj)(Bx:aj):Option (aj×Int):=(z6 er Bx).bind fun ah0=>if !ah0 then some ((aj.mk 0 []),1) else (fK er.N).bind fun MW=>abt (fun(p:(List (BitVec 64))×Int)=>wI er Bx MW p.1 p.2) (MW.1.Rows,0)
def Ep(aho:List bn):Option ((List bn)):=some aho
def Er(v146:Int)(ahs:List bn):Option (((List bn)×Int)⊕((List bn))):=abo (ahs,bM (v146+1))
def u9(v146:Int)(adM:(List Int))(Z6:List bn)(abr:Int):Option (((List bn)×Int)⊕(((List bn)×Int)⊕((List bn)))):=if decide (abr<(arA adM)) then (aaV adM abr).bind fun abE=>(abz 16 Z6 ([(bn.mk v146 abE)]:List bn)).bind fun ahu=>abo (ahu,bM (abr+1)) else aaN (Er v146 Z6)
def zY(mY:aj)(Z2:List bn)(v146:Int):Option (((List bn)×Int)⊕((List bn))):=if decide (v146<(arA mY.Rows)) then (aaV mY.Rows v146).bind fun avt=>(lB avt).bind fun adM=>abt (fun(p:(List bn)×Int)=>u9 v146 adM p.1 p.2) (Z2,0) else aaN (Ep Z2)
def q_(mY:aj):Option ((List bn)):=(jc mY).bind fun uM=>if !uM then some [] else abt (fun(p:(List bn)×Int)=>zY mY p.1 p.2) ([],0)
def Gf(EW:aj×Int)(v61:List (BitVec 64)):Option (aj×Int):=some ((aj.mk EW.1.N v61),EW.2)
def BF(EW:aj×Int)(r63:(List bn))(outRows80:List (BitVec 64))(v81:Int):Option (((List (BitVec 64))×Int)⊕(aj×Int)):=if decide (v81<(arA r63)) then (aaV r63 v81).bind fun x92=>(aaV outRows80 x92.B).bind fun x94=>(p7 x94 x92.A).bind fun r96=>(aaV outRows80 x92.B).bind fun x97=>abo (abG outRows80 x92.B r96,bM (v81+1)) else aaN (Gf EW outRows80)
def ko(mY:aj):Option (aj×Int):=(jc mY).bind fun r31=>if !r31 then some ((aj.mk 0 []),1) else (fK mY.N).bind fun EW=>(q_ mY).bind fun r63=>abt (fun(p:(List (BitVec 64))×Int)=>BF EW r63 p.1 p.2) (EW.1.Rows,0)
def wJ(mY:aj)(jB:Int)(GI:Int):Option (Bool):=(jc mY).bind fun J6=>if J6 then if decide ((0:Int)≤jB) then if decide (jB<mY.N) then (aaV mY.Rows jB).bind fun x20=>(xF x20 GI).bind fun Sv=>some Sv else some false else some false else some false
def Gg(anY:List Int):Option ((List Int)):=(Sh.sort anY).bind fun aiD=>(Sh.compact aiD).bind fun compact41=>some compact41
def BG(aV:af)(Rl:List Int)(v51:Int):Option (((List Int)×Int)⊕((List Int))):=if decide (v51<(arA aV.aL)) then (aaV aV.aL v51).bind fun x58=>(abz 8 Rl x58.bA).bind fun an3=>abo (an3,bM (v51+1)) else aaN (Gg Rl)
def Aa(aV:af):Option ((List Int)):=(fR aV).bind fun J7=>if !J7 then some [] else abt (fun(p:(List Int)×Int)=>BG aV p.1 p.2) ([],0)
def Cd(LV:List Int):Option ((List Int)):=some LV
def sw(v58:Int)(LW:List Int):Option (((List Int)×Int)⊕((List Int))):=abo (LW,bM (v58+1))
def wO(aV:af)(dS:Int)(aah:List Int)(v58:Int):Option (((List Int)×Int)⊕((List Int))):=if decide (v58<(arA aV.aL)) then (aaV aV.aL v58).bind fun x67=>(bJ x67.bA dS).bind fun r70=>if r70 then (abz 8 aah [v58]).bind fun an7=>sw v58 an7 else sw v58 aah else aaN (Cd aah)
def p_(aV:af)(dS:Int):Option ((List Int)):=(fR aV).bind fun r23=>if !r23 then some [] else abt (fun(p:(List Int)×Int)=>wO aV dS p.1 p.2) ([],0)
def Ev(ahA:List aa):Option ((List aa)):=some ahA
def Ew(Up:Int)(ahC:List aa):Option (((List aa)×Int)⊕((List aa))):=abo (ahC,bM (Up+1))
def Ex(Sb:Int)(ahE:List aa):Option (((List aa)×Int)⊕(((List aa)×Int)⊕((List aa)))):=abo (ahE,bM (Sb+1))
def vb(XS:Int)(Sb:Int)(ajl:Int)(KE:List Int)(aai:List aa)(ai5:Int):Option (((List aa)×Int)⊕(((List aa)×Int)⊕(((List aa)×Int)⊕((List aa))))):=if decide (ai5<(arA KE)) then (aaV KE ai5).bind fun awd=>(abz 24 aai ([(aa.mk XS ajl awd)]:List aa)).bind fun ahF=>abo (ahF,bM (ai5+1)) else aaN (Ex Sb aai)
def va(Up:Int)(XS:Int)(Xm:(List Int))(aaf:List aa)(Sb:Int):Option (((List aa)×Int)⊕(((List aa)×Int)⊕((List aa)))):=if decide (Sb<(arA Xm)) then (aaV Xm Sb).bind fun ajl=>(abH Xm (bM (Sb+1)) (arA Xm)).bind fun KE=>abt (fun(p:(List aa)×Int)=>vb XS Sb ajl KE p.1 p.2) (aaf,0) else aaN (Ew Up aaf)
def Ab(aV:af)(adV:(List Int))(aac:List aa)(Up:Int):Option (((List aa)×Int)⊕((List aa))):=if decide (Up<(arA adV)) then (aaV adV Up).bind fun XS=>(p_ aV XS).bind fun Xm=>abt (fun(p:(List aa)×Int)=>va Up XS Xm p.1 p.2) (aac,0) else aaN (Ev aac)
def mZ(aV:af):Option ((List aa)):=(Aa aV).bind fun adV=>abt (fun(p:(List aa)×Int)=>Ab aV adV p.1 p.2) ([],0)
def A3(aV:af):Option (Unit):=some ()
def sP(c8:List Int)(Cz:e_)(v6:Bool):Option ((List Int)):=if v6 then (abz 8 c8 [Cz.t]).bind fun l8=>some l8 else some c8
def wM(pU:Int)(wH:Int)(c8:List Int)(Cz:e_):Option ((List Int)):=if decide (Cz.Take.Key=pU) then sP c8 Cz (decide (Cz.Take.eu=wH)) else sP c8 Cz false
def lJ(v89:Int)(R_:List Int):Option (((List Int)×Int)⊕((List Int))):=abo (R_,bM (v89+1))
def fC(pU:Int)(wH:Int)(v89:Int)(aeN:aJ)(akO:List Int)(Ul:Int):Option (((List Int)×Int)⊕(((List Int)×Int)⊕((List Int)))):=if decide (Ul<(arA aeN.Reads)) then (aaV aeN.Reads Ul).bind fun XQ=>(wM pU wH akO (e_.mk v89 (aO.mk XQ.Key XQ.eu))).bind fun awp=>abo (awp,bM (Ul+1)) else aaN (lJ v89 akO)
def fB(pU:Int)(wH:Int)(DV:af)(c88:List Int)(v89:Int):Option (((List Int)×Int)⊕((List Int))):=if decide (v89<(arA DV.aL)) then (aaV DV.aL v89).bind fun aeN=>abt (fun(p:(List Int)×Int)=>fC pU wH v89 aeN p.1 p.2) (c88,0) else aaN (some c88)
def ji(pU:Int)(wH:Int)(c8:List Int)(DV:af):Option ((List Int)):=(fR DV).bind fun r54=>if !r54 then some c8 else abt (fun(p:(List Int)×Int)=>fB pU wH DV p.1 p.2) (c8,0)
def th(aV:af)(dS:Int)(GS:Int):Option ((List Int)):=(A3 aV).bind fun r8=>(ji dS GS [] aV).bind fun it9=>some it9
def pz(er:Int)(Bx:Int)(c_2:aj)(v6:Bool):Option (aj):=if v6 then (ot c_2 er Bx).bind fun r8=>some r8.1 else some c_2
def jd(er:Int)(Bx:Int)(c_2:aj):Option (aj):=if decide ((0:Int)≤er) then pz er Bx c_2 (decide (er≠Bx)) else pz er Bx c_2 false
def oO(PK:Int)(auD:aj):Option ((aj×Int)⊕(aj)):=abo (auD,bM (PK+1))
def jT(v143:Int)(aq_:aj):Option ((aj×Int)⊕((aj×Int)⊕(aj))):=abo (aq_,bM (v143+1))
def jS(PK:Int)(abD:aJ)(KD:List aJ)(agf:aj)(v143:Int):Option ((aj×Int)⊕((aj×Int)⊕(aj))):=if decide (v143<(arA KD)) then (aaV KD v143).bind fun avo=>if decide (avo.aI=abD.aI) then (jd v143 PK agf).bind fun atG=>jT v143 atG else jT v143 agf else aaN (oO PK agf)
def jR(er:af)(akM:aj)(PK:Int):Option ((aj×Int)⊕(aj)):=if decide (PK<(arA er.aL)) then (aaV er.aL PK).bind fun abD=>(abH er.aL 0 PK).bind fun KD=>abt (fun(p:aj×Int)=>jS PK abD KD p.1 p.2) (akM,0) else aaN (some akM)
def lQ(er:af)(cK:aj):Option (aj):=abt (fun(p:aj×Int)=>jR er p.1 p.2) (cK,0)
def pE(aV:af)(A9:af):Option (aj):=(fR aV).bind fun r6=>if !r6 then some (aj.mk 0 []) else (fK (arA aV.aL)).bind fun r9=>(lQ A9 r9.1).bind fun Pq=>some Pq
def Ic(aV:af):Option (aj):=(pE aV aV).bind fun r3=>some r3
def oP(v84:Int)(auz:aj):Option ((aj×Int)⊕(aj)):=abo (auz,bM (v84+1))
def jV(v84:Int)(aeM:aJ)(akN:aj)(aiZ:Int):Option ((aj×Int)⊕((aj×Int)⊕(aj))):=if decide (aiZ<(arA aeM.Reads)) then (aaV aeM.Reads aiZ).bind fun avc=>(jd avc.eu v84 akN).bind fun atE=>abo (atE,bM (aiZ+1)) else aaN (oP v84 akN)
def jU(er:af)(c83:aj)(v84:Int):Option ((aj×Int)⊕(aj)):=if decide (v84<(arA er.aL)) then (aaV er.aL v84).bind fun aeM=>abt (fun(p:aj×Int)=>jV v84 aeM p.1 p.2) (c83,0) else aaN (some c83)
def lR(er:af)(cK:aj):Option (aj):=abt (fun(p:aj×Int)=>jU er p.1 p.2) (cK,0)
def pF(aV:af)(A9:af):Option (aj):=(fR aV).bind fun r6=>if !r6 then some (aj.mk 0 []) else (fK (arA aV.aL)).bind fun r9=>(lR A9 r9.1).bind fun Pq=>some Pq
def Ie(aV:af):Option (aj):=(pF aV aV).bind fun r3=>some r3
def wS(aV:af):Option (aj):=(Ic aV).bind fun r7=>(Ie aV).bind fun r8=>(lz r7 r8).bind fun r9=>some r9.1
def nQ(Un:Int)(auU:aj):Option ((aj×Int)⊕(aj)):=abo (auU,bM (Un+1))
def nR(Uo:Int)(auX:aj):Option ((aj×Int)⊕((aj×Int)⊕(aj))):=abo (auX,bM (Uo+1))
def gw(Uo:Int)(ajk:Int)(adY:(List Int))(akR:aj)(ai4:Int):Option ((aj×Int)⊕((aj×Int)⊕((aj×Int)⊕(aj)))):=if decide (ai4<(arA adY)) then (aaV adY ai4).bind fun av8=>(jd ajk av8 akR).bind fun aug=>abo (aug,bM (ai4+1)) else aaN (nR Uo akR)
def gv(er:af)(Un:Int)(aeQ:Int)(adW:(List Int))(akQ:aj)(Uo:Int):Option ((aj×Int)⊕((aj×Int)⊕(aj))):=if decide (Uo<(arA adW)) then (aaV adW Uo).bind fun ajk=>(p_ er aeQ).bind fun adY=>abt (fun(p:aj×Int)=>gw Uo ajk adY p.1 p.2) (akQ,0) else aaN (nQ Un akQ)
def jj(er:af)(adN:(List Int))(akP:aj)(Un:Int):Option ((aj×Int)⊕(aj)):=if decide (Un<(arA adN)) then (aaV adN Un).bind fun aeQ=>(th er aeQ (-1)).bind fun adW=>abt (fun(p:aj×Int)=>gv er Un aeQ adW p.1 p.2) (akP,0) else aaN (some akP)
def ij(er:af)(cK:aj):Option (aj):=(Aa er).bind fun adN=>abt (fun(p:aj×Int)=>jj er adN p.1 p.2) (cK,0)
def nM(aV:af)(A9:af):Option (aj):=(fR aV).bind fun r6=>if !r6 then some (aj.mk 0 []) else (fK (arA aV.aL)).bind fun r9=>(ij A9 r9.1).bind fun Pq=>some Pq
def C7(aV:af):Option (aj):=(nM aV aV).bind fun r3=>some r3
def mT(kN:Int)(dS:Int)(nP:af):Option (Bool):=if decide ((0:Int)≤kN) then if decide (kN<(arA nP.aL)) then (aaV nP.aL kN).bind fun x14=>(bJ x14.bA dS).bind fun J6=>some J6 else some false else some false
def qx(cM:aa)(jB:af):Option (Bool):=if decide (cM.A=cM.B) then some true else (mT cM.A cM.Key jB).bind fun Pq=>if !Pq then some true else (mT cM.B cM.Key jB).bind fun tX=>some (!tX)
def fm:Option (Int):=some (-1)
def dr(aT:List aa)(sg:af)(v30:Int):Option ((Int)⊕(Int)):=if decide (v30<(arA aT)) then (aaV aT v30).bind fun x38=>(qx x38 sg).bind fun G4=>if G4 then aaN (some v30) else abo (bM (v30+1)) else aaN (fm)
def dJ(aT:List aa)(sg:af):Option (Int):=abt (fun(p:Int)=>dr aT sg p) 0
def cq(aT:List aa)(sg:af):Option (Bool):=(dJ aT sg).bind fun r3=>some (decide ((0:Int)≤r3))
def yd(aV:af)(qN:List aa)(v10:Bool):Option (Bool):=if v10 then some false else (cq qN aV).bind fun tX=>some (!tX)
def mR(aV:af)(qN:List aa):Option (Bool):=(fR aV).bind fun r14=>if !r14 then yd aV qN true else yd aV qN (decide ((20000:Int)<(arA qN)))
def F8(v31:aj):Option (aj):=some v31
def Bz(GX:List aj)(alH:Int)(U_:List (BitVec 64))(v43:Int):Option ((Int×(List (BitVec 64))×Int)⊕(aj)):=if decide (v43<(arA GX)) then (aaV GX v43).bind fun x50=>(lz (aj.mk alH U_) x50).bind fun NX=>abo (NX.1.N,NX.1.Rows,bM (v43+1)) else aaN (F8 (aj.mk alH U_))
def zK(mY:aj)(GX:List aj):Option (aj):=abt (fun(p:Int×(List (BitVec 64))×Int)=>Bz GX p.1 p.2.1 p.2.2) (mY.N,mY.Rows,0)
def HO(v39:Int)(v40:List (BitVec 64)):Option (aj):=some (aj.mk v39 v40)
def CM(qN:List aa)(alI:Int)(Va:List (BitVec 64))(V3:Int):Option ((Int×(List (BitVec 64))×Int)⊕(aj)):=if decide (V3<(arA qN)) then (aaV qN V3).bind fun x59=>(ot (aj.mk alI Va) x59.A x59.B).bind fun r61=>abo (r61.1.N,r61.1.Rows,bM (V3+1)) else aaN (HO alI Va)
def B7(aV:af)(qN:List aa):Option (aj):=(mR aV qN).bind fun J7=>if !J7 then some (aj.mk 0 []) else (fK (arA aV.aL)).bind fun r23=>abt (fun(p:Int×(List (BitVec 64))×Int)=>CM qN p.1 p.2.1 p.2.2) (r23.1.N,r23.1.Rows,0)
def HM(auK:aj):Option (aj):=some auK
def HN(Um:Int)(Kp:aj):Option ((aj×Int)⊕(aj)):=abo (Kp,bM (Um+1))
def CL(My:Int)(alG:Int)(Y3:List (BitVec 64)):Option ((aj×Int)⊕((aj×Int)⊕(aj))):=abo ((aj.mk alG Y3),bM (My+1))
def y5(PW:aa)(Te:aj)(My:Int)(auS:Bool):Option ((aj×Int)⊕((aj×Int)⊕(aj))):=if auS then (ot Te My PW.B).bind fun TO=>CL My TO.1.N TO.1.Rows else CL My Te.N Te.Rows
def CK(aV:af)(Um:Int)(PW:aa)(Te:aj)(My:Int):Option ((aj×Int)⊕((aj×Int)⊕(aj))):=if decide (My<(arA aV.aL)) then (aaV aV.aL My).bind fun av0=>if decide (My≠PW.B) then (eL av0.Reads (aO.mk PW.Key PW.A)).bind fun auc=>y5 PW Te My auc else y5 PW Te My false else aaN (HN Um Te)
def CJ(aV:af)(qN:List aa)(alE:aj)(Um:Int):Option ((aj×Int)⊕(aj)):=if decide (Um<(arA qN)) then (aaV qN Um).bind fun PW=>abt (fun(p:aj×Int)=>CK aV Um PW p.1 p.2) (alE,0) else aaN (HM alE)
def Fu(aV:af)(qN:List aa):Option (aj):=(mR aV qN).bind fun r99=>if !r99 then some (aj.mk 0 []) else (C7 aV).bind fun atz=>abt (fun(p:aj×Int)=>CJ aV qN p.1 p.2) (atz,0)
def zH(r26:aj)(ahL:aj):Option (aj×Int):=(zK r26 ([ahL]:List aj)).bind fun r32=>some (r32,0)
def om(aV:af)(aB:Int)(c8:List aa)(v19:Bool):Option (aj×Int):=if v19 then some ((aj.mk 0 []),1) else (wS aV).bind fun r24=>(B7 aV c8).bind fun VQ=>(zK r24 ([VQ]:List aj)).bind fun r26=>(Fu aV c8).bind fun r28=>if decide (aB=1) then (nK r26 r28).bind fun EW=>zH r26 EW.1 else zH r26 r28
def mQ(aV:af)(aB:Int)(c8:List aa):Option (aj×Int):=(mR aV c8).bind fun r35=>if !r35 then om aV aB c8 true else if decide (aB≠0) then om aV aB c8 (decide (aB≠1)) else om aV aB c8 false
def Ec:Option (aa×Bool):=some ((aa.mk 0 0 0),false)
def zJ(v63:Int)(x73:aa)(v78:Bool):Option ((Int)⊕(aa×Bool)):=if v78 then aaN (some (x73,true)) else abo (bM (v63+1))
def zI(qN:List aa)(r49:(List aa))(v63:Int):Option ((Int)⊕(aa×Bool)):=if decide (v63<(arA r49)) then (aaV r49 v63).bind fun x73=>(bZ qN x73).bind fun Y_=>if !Y_ then (bZ qN (aa.mk x73.Key x73.B x73.A)).bind fun Xn=>zJ v63 x73 (!Xn) else zJ v63 x73 false else aaN (Ec)
def xG(aV:af)(qN:List aa):Option (aa×Bool):=(mR aV qN).bind fun VQ=>if !VQ then some ((aa.mk 0 0 0),false) else (mZ aV).bind fun r49=>abt (fun(p:Int)=>zI qN r49 p) 0
def uH(LW:List Int):Option ((List Int)):=some LW
def j9(t86:Int)(Vw:Bool)(aob:List Int):Option (((List Int)×Bool×Int)⊕((List Int))):=abo (aob,Vw,bM (t86+1))
def j8(aV:af)(dS:Int)(Gm:List Int)(t86:Int)(Vw:Bool)(v92:Bool):Option (((List Int)×Bool×Int)⊕((List Int))):=if v92 then (aaV aV.aL t86).bind fun au8=>(fM au8 dS).bind fun atA=>if atA then (abz 8 Gm [t86]).bind fun ahn=>j9 t86 Vw ahn else j9 t86 Vw Gm else aaN (uH Gm)
def ow(aV:af)(dS:Int)(Gm:List Int)(anK:Bool)(t86:Int):Option (((List Int)×Bool×Int)⊕((List Int))):=if anK then j8 aV dS Gm t86 true (decide (t86<(arA aV.aL))) else j8 aV dS Gm t86 false false
def jQ(aV:af)(dS:Int):Option ((List Int)):=(o8 aV).bind fun KH=>abt (fun(p:(List Int)×Bool×Int)=>ow aV dS p.1 p.2.1 p.2.2) ([],KH,0)
def D1(ahB:List aa):Option ((List aa)):=some ahB
def wg(BI:Int)(ahD:List aa):Option (((List aa)×Int)⊕((List aa))):=abo (ahD,bM (BI+1))
def wh(Q3:Int)(ahG:List aa):Option (((List aa)×Int)⊕(((List aa)×Int)⊕((List aa)))):=abo (ahG,bM (Q3+1))
def ql(BI:Int)(Rz:(List Int))(Q3:Int)(aak:List aa)(ag5:Int):Option (((List aa)×Int)⊕(((List aa)×Int)⊕(((List aa)×Int)⊕((List aa))))):=if decide (ag5<(arA Rz)) then (aaV Rz Q3).bind fun awe=>(aaV Rz ag5).bind fun awf=>(abz 24 aak ([(aa.mk BI awe awf)]:List aa)).bind fun ahH=>abo (ahH,bM (ag5+1)) else aaN (wh Q3 aak)
def qk(BI:Int)(Rz:(List Int))(aaj:List aa)(Q3:Int):Option (((List aa)×Int)⊕(((List aa)×Int)⊕((List aa)))):=if decide (Q3<(arA Rz)) then abt (fun(p:(List aa)×Int)=>ql BI Rz Q3 p.1 p.2) (aaj,bM (Q3+1)) else aaN (wg BI aaj)
def we(aV:af)(aad:List aa)(BI:Int):Option (((List aa)×Int)⊕((List aa))):=if decide (BI<16) then (jQ aV BI).bind fun Rz=>abt (fun(p:(List aa)×Int)=>qk BI Rz p.1 p.2) (aad,0) else aaN (D1 aad)
def o_(aV:af):Option ((List aa)):=abt (fun(p:(List aa)×Int)=>we aV p.1 p.2) ([],0)
def tW(Sr:Int):Option (Bool):=if decide ((0:Int)≤Sr) then some (decide (Sr≤63)) else some false
def wj(n9:BitVec 64):Option ((BitVec 64)):=some n9
def qm(Sr:Int)(n12:BitVec 64)(k13:Int):Option (((BitVec 64)×Int)⊕((BitVec 64))):=if decide (k13<Sr) then abo (n12+n12,bM (k13+1)) else aaN (wj n12)
def um(Sr:Int):Option ((BitVec 64)):=abt (fun(p:(BitVec 64)×Int)=>qm Sr p.1 p.2) (1#64,0)
def wQ(aT:BitVec 64)(vU:Int):Option (Bool):=(tW vU).bind fun r7=>if !r7 then some false else (um vU).bind fun r12=>(Sh.udiv aT r12).bind fun q13=>(Sh.umod q13 2#64).bind fun q14=>some (decide (q14=1#64))
def rA(aT:BitVec 64)(vU:Int)(v13:Bool):Option ((BitVec 64)):=if v13 then some aT else (um vU).bind fun J6=>some (aT+J6)
def A6(aT:BitVec 64)(vU:Int):Option ((BitVec 64)):=(wQ aT vU).bind fun r7=>if r7 then rA aT vU true else (tW vU).bind fun r18=>rA aT vU (!r18)
def DH(anW:List aa):Option ((List aa)):=some anW
def yj(bK:List au)(afA:List aa)(v37:Int):Option (((List aa)×Int)⊕((List aa))):=if decide (v37<(arA bK)) then (aaV bK v37).bind fun x44=>(abz 24 afA ([x44.C]:List aa)).bind fun an2=>abo (an2,bM (v37+1)) else aaN (DH afA)
def iT(bK:List au):Option ((List aa)):=abt (fun(p:(List aa)×Int)=>yj bK p.1 p.2) ([],0)
def Ej(aV:af)(aB:Int):Option (Bool):=(fR aV).bind fun r8=>if r8 then if decide (aB=0) then some true else some (decide (aB=1)) else some false
def oo(kN:Int)(jB:af)(nP:aa):Option (Bool):=if decide ((0:Int)≤kN) then if decide (kN<(arA jB.aL)) then (aaV jB.aL kN).bind fun x14=>(bJ x14.bA nP.Key).bind fun J6=>some J6 else some false else some false
def A0(aV:af)(cK:aa):Option (Bool):=if decide (cK.A≠cK.B) then (oo cK.A aV cK).bind fun Pq=>if Pq then (oo cK.B aV cK).bind fun tX=>some tX else some false else some false
def si(er:dz):Option (Bool):=if decide (er.f.I=0) then if decide (er.f.J=0) then (qW er.h [] er.f.C.A er.f.C.B).bind fun DN=>some DN else some false else some false
def mX(er:dz)(v13:Bool):Option (Bool):=if v13 then some false else (aaV er.l er.f.I).bind fun Sx=>(aaV er.l er.f.J).bind fun x21=>if decide (Sx.C.B=x21.C.A) then if decide (Sx.C.Key=x21.C.Key) then Sh.EK (decide (er.f.C=(aa.mk Sx.C.Key Sx.C.A x21.C.B))) fun x29=>some x29 else some false else some false
def qA(er:dz):Option (Bool):=if decide ((abM er.f.I er.f.J)<0) then mX er true else mX er (decide ((arA er.l)≤(abN er.f.I er.f.J)))
def gC(er:dz)(v18:Bool):Option (Bool):=if v18 then some false else (aaV er.h.aL er.f.I).bind fun x23=>(eL x23.Reads (aO.mk er.f.C.Key er.f.C.B)).bind fun VQ=>if VQ then (qW er.h [] er.f.C.A er.f.I).bind fun wz=>some wz else some false
def tP(er:dz):Option (Bool):=if decide (er.f.J≠0) then gC er true else if decide (er.f.I=er.f.C.A) then gC er true else if decide (er.f.I<0) then gC er true else gC er (decide ((arA er.h.aL)≤er.f.I))
def qz(er:dz):Option (Bool):=(iT er.l).bind fun r9=>(abz 24 r9 ([(aa.mk er.f.C.Key er.f.C.B er.f.C.A)]:List aa)).bind fun l10=>if decide (er.f.I=0) then if decide (er.f.J=0) then (zN er.h er.level l10 er.f.eH).bind fun J6=>some J6 else some false else some false
def zb:Option (Unit):=some ()
def Ge:Option (Bool):=some false
def p8(aV:af)(aB:Int)(c8:List au)(mV:au)(v23:Bool):Option (Bool):=if v23 then some false else (zb).bind fun r31=>if decide ((1:Int)=mV.Kind) then (si (dz.mk (af.mk aV.aL) aB c8 (au.mk (aa.mk mV.C.Key mV.C.A mV.C.B) mV.Kind mV.I mV.J mV.eH))).bind fun r39=>some r39 else if decide ((2:Int)=mV.Kind) then (qA (dz.mk (af.mk aV.aL) aB c8 (au.mk (aa.mk mV.C.Key mV.C.A mV.C.B) mV.Kind mV.I mV.J mV.eH))).bind fun r43=>some r43 else if decide ((3:Int)=mV.Kind) then (tP (dz.mk (af.mk aV.aL) aB c8 (au.mk (aa.mk mV.C.Key mV.C.A mV.C.B) mV.Kind mV.I mV.J mV.eH))).bind fun r47=>some r47 else if decide ((4:Int)=mV.Kind) then (qz (dz.mk (af.mk aV.aL) aB c8 (au.mk (aa.mk mV.C.Key mV.C.A mV.C.B) mV.Kind mV.I mV.J mV.eH))).bind fun r51=>some r51 else Ge
def uh(aV:af)(aB:Int)(c8:List au)(mV:au):Option (Bool):=(Ej aV aB).bind fun NX=>if !NX then p8 aV aB c8 mV true else (A0 aV mV.C).bind fun r54=>if !r54 then p8 aV aB c8 mV true else if decide (mV.Kind≠4) then p8 aV aB c8 mV (decide ((0:Int)<(arA mV.eH))) else p8 aV aB c8 mV false
def Ei(aV:af)(aB:Int):Option (Bool):=(Ej aV aB).bind fun r31=>some r31
def u0(aV:af)(aB:Int)(c8:List au)(v41:Int):Option ((Int)⊕(Bool)):=if decide (v41<(arA c8)) then (aaV c8 v41).bind fun x49=>(abH c8 0 v41).bind fun ahU=>(uh aV aB ahU x49).bind fun r54=>if !r54 then aaN (some false) else abo (bM (v41+1)) else aaN (Ei aV aB)
def uD(aV:af)(aB:Int)(c8:List au):Option (Bool):=abt (fun(p:Int)=>u0 aV aB c8 p) 0
def HQ(aeE:List Int):Option ((List Int)):=(Sh.whole 64 aeE).bind fun azf=>(Sh.whole 64 aeE).bind fun azg=>(Sh.whole 64 aeE).bind fun azh=>some aeE
def HR(Rk:Int)(YY:BitVec 64)(auW:List Int):Option (((List Int)×(BitVec 64)×Int)⊕((List Int))):=abo (auW,YY,bM (Rk+1))
def HS(Rk:Int)(ado:BitVec 64)(auZ:List Int):Option (((List Int)×(BitVec 64)×Int)⊕((List Int))):=HR Rk ado auZ
def y8(XK:Int)(ari:List Int)(adp:BitVec 64):Option (((List Int)×(BitVec 64)×Int)⊕(((List Int)×(BitVec 64)×Int)⊕((List Int)))):=abo (ari,adp,bM (XK+1))
def y7(CH:aj)(Rk:Int)(adZ:(List Int))(YC:List Int)(O9:BitVec 64)(XK:Int):Option (((List Int)×(BitVec 64)×Int)⊕(((List Int)×(BitVec 64)×Int)⊕((List Int)))):=if decide (XK<(arA adZ)) then (aaV adZ XK).bind fun aeS=>(Sh.Oo 64 YC aeS).bind fun awa=>if decide (awa=0) then (Sh.Oo 64 YC aeS).bind fun azB=>(aaV CH.Rows aeS).bind fun awc=>(p6 [O9,awc]).bind fun aui=>y8 XK (abG YC aeS Rk) aui else y8 XK YC O9 else aaN (HS Rk O9 YC)
def CN(CH:aj)(d357:List Int)(QS:BitVec 64)(Rk:Int):Option (((List Int)×(BitVec 64)×Int)⊕((List Int))):=if decide (QS≠0#64) then (lB QS).bind fun adZ=>abt (fun(p:(List Int)×(BitVec 64)×Int)=>y7 CH Rk adZ p.1 p.2.1 p.2.2) (d357,0#64,0) else aaN (HQ d357)
def wG(CH:aj)(x6:Int):Option ((List Int)):=(aaV CH.Rows x6).bind fun avg=>abt (fun(p:(List Int)×(BitVec 64)×Int)=>CN CH p.1 p.2.1 p.2.2) ((aeR 64 0),avg,1)
def F9:Option ((List Int)):=some []
def F_(Sc:Int):Option ((Int)⊕((List Int))):=abo (bM (Sc+1))
def Ga(ahI:List Int):Option ((Int)⊕((List Int))):=aaN (some ahI)
def BB(A_:Int)(ahJ:List Int):Option (((List Int)×Int)⊕((Int)⊕((List Int)))):=abo (ahJ,bM (A_ - 1))
def BA(RA:(List Int))(GZ:List Int)(A_:Int)(ad9:(List Int))(ai9:Int):Option ((Int)⊕(((List Int)×Int)⊕((Int)⊕((List Int))))):=if decide (ai9<(arA ad9)) then (aaV ad9 ai9).bind fun apA=>(Sh.Oo 64 RA apA).bind fun awn=>if decide (awn=A_) then (abz 8 GZ [apA]).bind fun ahK=>aaN (BB A_ ahK) else abo (bM (ai9+1)) else aaN (BB A_ GZ)
def xe(mY:aj)(RA:(List Int))(GZ:List Int)(A_:Int):Option (((List Int)×Int)⊕((Int)⊕((List Int)))):=if decide ((0:Int)<A_) then (aaV GZ (bM ((arA GZ) - 1))).bind fun awl=>(aaV mY.Rows awl).bind fun awm=>(lB awm).bind fun ad9=>abt (fun(p:Int)=>BA RA GZ A_ ad9 p) 0 else aaN (Ga GZ)
def tc(mY:aj)(Xl:aj×Int)(Sc:Int):Option ((Int)⊕((List Int))):=if decide (Sc<mY.N) then (wG Xl.1 Sc).bind fun RA=>(Sh.whole 64 (aeR 64 0)).bind fun azi=>(Sh.whole 64 RA).bind fun azj=>(Sh.Oo 64 RA Sc).bind fun awg=>if decide (awg=0) then F_ Sc else (Sh.Oo 64 RA Sc).bind fun awi=>abt (fun(p:(List Int)×Int)=>xe mY RA p.1 p.2) ([Sc],bM (awi - 1)) else aaN (F9)
def lE(mY:aj):Option ((List Int)):=(ko mY).bind fun Xl=>if decide (Xl.2≠0) then some [] else abt (fun(p:Int)=>tc mY Xl p) 0
def cL(cM:aG):Option (ai×aG):=if decide ((arA cM.left)=0) then none else (aaV cM.left 0).bind fun x9=>(abH cM.left 1 (arA cM.left)).bind fun Pk=>some (x9,(aG.mk Pk))
def eU(self:aG→Option (aG×Int×Int))(cM:aG):Option (aG×Int×Int):=(cL cM).bind fun AQ=>if decide ((0:Int)<(arA AQ.1.eH)) then some (AQ.2,1,0) else (self AQ.2).bind fun J7=>(self J7.1).bind fun Sv=>some (Sv.1,bM (J7.2.1+Sv.2.1),bM (1+(abN J7.2.2 Sv.2.2)))
def bG:Nat→aG→Option (aG×Int×Int)
 |0=>fun _=>none
 |n+1=>eU (bG n)
def Dk(cM:aG):Option (aG×Int×Int):=bG Sh.s5 cM
def nG(cM:aG):Option (Unit):=if decide ((0:Int)<(arA cM.left)) then none else some ()
def sG(uy:List ai):Option (Int×Int×Bool):=some (match bG (uy.length+1) (aG.mk uy) with
  |some r=>if decide ((0:Int)<arA r.1.left) then(0,0,false) else(r.2.1,r.2.2,true)
  |none=>(0,0,false))
def EZ(cM:aa):Option (aa):=some (aa.mk cM.Key cM.B cM.A)
def lV(kN:Int)(jB:af)(nP:aa):Option (Bool):=if decide ((0:Int)≤kN) then if decide (kN<(arA jB.aL)) then (aaV jB.aL kN).bind fun x14=>(bJ x14.bA nP.Key).bind fun J6=>some J6 else some false else some false
def xw(aV:af)(cK:aa):Option (Bool):=if decide (cK.A≠cK.B) then (lV cK.A aV cK).bind fun Pq=>if Pq then (lV cK.B aV cK).bind fun tX=>some tX else some false else some false
def lW(self:af→Int→(List aa)→aG→Option (aG×Bool))(aV:af)(aB:Int)(c8:List aa)(DV:aG):Option (aG×Bool):=(cL DV).bind fun EX=>if decide ((0:Int)<(arA EX.1.eH)) then if decide (EX.1.C=(aa.mk 0 0 0)) then (zN aV aB c8 EX.1.eH).bind fun r50=>some (EX.2,r50) else some (EX.2,false) else (cg c8).bind fun NX=>(abz 24 NX ([EX.1.C]:List aa)).bind fun l55=>(self aV aB l55 EX.2).bind fun uM=>(EZ EX.1.C).bind fun Kk=>(abz 24 NX ([Kk]:List aa)).bind fun l61=>(self aV aB l61 uM.1).bind fun r62=>if uM.2 then if r62.2 then (xw aV EX.1.C).bind fun r68=>some (r62.1,r68) else some (r62.1,false) else some (r62.1,false)
def gd:Nat→af→Int→(List aa)→aG→Option (aG×Bool)
 |0=>fun _ _ _ _=>none
 |n+1=>lW (gd n)
def qt(aV:af)(aB:Int)(c8:List aa)(DV:aG):Option (aG×Bool):=gd Sh.s5 aV aB c8 DV
def iq(aV:af)(aB:Int)(c8:List aa)(iC:List ai)(v20:Bool):Option (Bool):=if v20 then some false else (qt aV aB c8 (aG.mk iC)).bind fun r23=>some r23.2
def vr(aV:af)(aB:Int)(c8:List aa)(iC:List ai):Option (Bool):=(sG iC).bind fun X6=>if !X6.2.2 then iq aV aB c8 iC true else (fR aV).bind fun VQ=>if !VQ then iq aV aB c8 iC true else if decide (aB≠0) then iq aV aB c8 iC (decide (aB≠1)) else iq aV aB c8 iC false
def Eo(ahr:List ai):Option ((List ai)×Int):=some (ahr,0)
def zU(aV:af)(aB:Int)(c8:List au)(Z7:List ai)(M9:Int):Option (((List ai)×Int)⊕((List ai)×Int)):=if decide (M9<(arA c8)) then (abH c8 0 (bM ((bM ((bM ((arA c8) - 1)) - M9))+1))).bind fun adF=>(iT adF).bind fun aaF=>(aaV aaF (bM ((bM ((arA c8) - 1)) - M9))).bind fun apw=>(aaV aaF (bM ((bM ((arA c8) - 1)) - M9))).bind fun l6=>(aaV aaF (bM ((bM ((arA c8) - 1)) - M9))).bind fun aeO=>(aaV (abG aaF (bM ((bM ((arA c8) - 1)) - M9)) (aa.mk aeO.Key apw.B aeO.B)) (bM ((bM ((arA c8) - 1)) - M9))).bind fun apx=>(mQ aV aB (abG (abG aaF (bM ((bM ((arA c8) - 1)) - M9)) (aa.mk aeO.Key apw.B aeO.B)) (bM ((bM ((arA c8) - 1)) - M9)) (aa.mk apx.Key apx.A l6.A))).bind fun atM=>(lE atM.1).bind fun atN=>(abz 48 Z7 ([(ai.mk (aa.mk 0 0 0) atN)]:List ai)).bind fun ahv=>abo (ahv,bM (M9+1)) else aaN (Eo Z7)
def En(aV:af)(aB:Int)(c8:List au)(uo:List ai):Option ((List ai)×Int):=abt (fun(p:(List ai)×Int)=>zU aV aB c8 p.1 p.2) (uo,0)
def zV(aV:af)(aB:Int)(c8:List au)(iC:List ai)(Z9:List ai)(v236:Int):Option (((List ai)×Int)⊕((List ai)×Int)):=if decide (v236<(arA iC)) then (aaV iC v236).bind fun Sj=>(abz 8 [] Sj.eH).bind fun atc=>(abz 48 Z9 ([(ai.mk (aa.mk Sj.C.Key Sj.C.A Sj.C.B) atc)]:List ai)).bind fun ahw=>abo (ahw,bM (v236+1)) else aaN (En aV aB c8 Z9)
def Em(aV:af)(aB:Int)(c8:List au)(iC:List ai)(aoa:List ai):Option ((List ai)×Int):=abt (fun(p:(List ai)×Int)=>zV aV aB c8 iC p.1 p.2) (aoa,0)
def zW(aV:af)(aB:Int)(c8:List au)(iC:List ai)(Z_:List ai)(ai2:Int):Option (((List ai)×Int)⊕((List ai)×Int)):=if decide (ai2<(arA c8)) then (aaV c8 ai2).bind fun ajj=>(abz 48 Z_ ([(ai.mk (aa.mk ajj.C.Key ajj.C.A ajj.C.B) [])]:List ai)).bind fun ahx=>abo (ahx,bM (ai2+1)) else aaN (Em aV aB c8 iC Z_)
def qZ(aV:af)(aB:Int)(c8:List au)(iC:List ai):Option ((List ai)×Int):=if decide ((20000:Int)≤(arA c8)) then some ([],4) else (uD aV aB c8).bind fun r78=>if !r78 then some ([],17) else (abL 48 0 (bM ((arA iC)+(bM (2*(arA c8))))) (ai.mk (aa.mk 0 0 0) [])).bind fun ahf=>abt (fun(p:(List ai)×Int)=>zW aV aB c8 iC p.1 p.2) (ahf,0)
def Gy(aht:List Int):Option ((List Int)×Bool):=some (aht,true)
def Gz(Sa:Int)(ahy:List Int)(aej:BitVec 64):Option (((List Int)×(BitVec 64)×Int)⊕((List Int)×Bool)):=abo (ahy,aej,bM (Sa+1))
def qc(Jv:List Int)(Dr:BitVec 64)(Sa:Int)(O8:Int):Option (((List Int)×(BitVec 64)×Int)⊕((List Int)×Bool)):=if decide (O8<0) then aaN (some ([],false)) else (abz 8 Jv [O8]).bind fun ahz=>(p7 Dr O8).bind fun at6=>Gz Sa ahz at6
def BS(n320:Int)(adn:Int):Option ((Int×Int)⊕(((List Int)×(BitVec 64)×Int)⊕((List Int)×Bool))):=abo (adn,bM (n320 - 1))
def BT(Ip:Int)(n320:Int)(auT:Bool):Option ((Int×Int)⊕(((List Int)×(BitVec 64)×Int)⊕((List Int)×Bool))):=if auT then BS n320 n320 else BS n320 Ip
def xz(r91:aj×Int)(Jv:List Int)(Dr:BitVec 64)(Sa:Int)(Ip:Int)(n320:Int):Option ((Int×Int)⊕(((List Int)×(BitVec 64)×Int)⊕((List Int)×Bool))):=if decide ((0:Int)≤n320) then (xF Dr n320).bind fun aub=>if !aub then (aaV r91.1.Rows n320).bind fun av2=>(zF av2 Dr).bind fun aue=>BT Ip n320 aue else BT Ip n320 false else aaN (qc Jv Dr Sa Ip)
def qb(mY:aj)(r91:aj×Int)(Jv:List Int)(Dr:BitVec 64)(Sa:Int):Option (((List Int)×(BitVec 64)×Int)⊕((List Int)×Bool)):=if decide (Sa<mY.N) then abt (fun(p:Int×Int)=>xz r91 Jv Dr Sa p.1 p.2) ((-1),bM (mY.N - 1)) else aaN (Gy Jv)
def kF(mY:aj):Option ((List Int)×Bool):=(ko mY).bind fun r91=>if decide (r91.2≠0) then some ([],false) else (abL 8 0 mY.N (0:Int)).bind fun ahg=>abt (fun(p:(List Int)×(BitVec 64)×Int)=>qb mY r91 p.1 p.2.1 p.2.2) (ahg,0#64,0)
def xy(cM:aa):Option (aa):=some (aa.mk cM.Key cM.B cM.A)
def lY(m_0:aA):Option (aa):=if m_0.yJ then (xy m_0.C).bind fun r5=>some r5 else some m_0.C
def DP:Option (Bool):=some true
def kE(yt:List aa)(rC:List (aa×Bool))(Ko:Int)(l6:aA)(ai1:Bool):Option (((List aa)×(List (aa×Bool))×Int)⊕(Bool)):=if ai1 then aaN (some false) else (cg yt).bind fun atT=>(lY l6).bind fun Xl=>(abz 24 atT ([Xl]:List aa)).bind fun aiw=>(xy l6.C).bind fun atU=>abo (aiw,Sh.nC atU true (Sh.nC l6.C true rC),bM (Ko+1))
def yB(aV:af)(aB:Int)(yt:List aa)(rC:List (aa×Bool))(Ko:Int)(l6:aA)(v222:Bool):Option (((List aa)×(List (aa×Bool))×Int)⊕(Bool)):=if v222 then aaN (some false) else if !l6.yJ then if decide ((0:Int)<(arA l6.gy)) then kE yt rC Ko l6 true else if l6.yJ then (cg yt).bind fun atW=>(abz 24 atW ([l6.C]:List aa)).bind fun atd=>(vr aV aB atd l6.gy).bind fun atY=>kE yt rC Ko l6 (!atY) else kE yt rC Ko l6 false else if l6.yJ then (cg yt).bind fun aib=>(abz 24 aib ([l6.C]:List aa)).bind fun ate=>(vr aV aB ate l6.gy).bind fun atZ=>kE yt rC Ko l6 (!atZ) else kE yt rC Ko l6 false
def yz(aV:af)(aB:Int)(nO:List aA)(yt:List aa)(rC:List (aa×Bool))(Ko:Int):Option (((List aa)×(List (aa×Bool))×Int)⊕(Bool)):=if decide (Ko<(arA nO)) then (aaV nO Ko).bind fun l6=>if((Sh.cD l6.C rC).getD false) then yB aV aB yt rC Ko l6 true else (mR aV ([l6.C]:List aa)).bind fun at1=>yB aV aB yt rC Ko l6 (!at1) else aaN (DP)
def yA(aV:af)(aB:Int)(c8:List au)(nO:List aA)(v76:Bool):Option (Bool):=if v76 then some false else (iT c8).bind fun r79=>abt (fun(p:(List aa)×(List (aa×Bool))×Int)=>yz aV aB nO p.1 p.2.1 p.2.2) (r79,[],0)
def zj(aV:af)(aB:Int)(c8:List au)(nO:List aA):Option (Bool):=if decide ((20000:Int)≤(bM ((arA c8)+(arA nO)))) then yA aV aB c8 nO true else (uD aV aB c8).bind fun at2=>yA aV aB c8 nO (!at2)
def DQ(aaa:List ai):Option ((List ai)):=some aaa
def yC(bK:List ai)(LV:List ai)(v45:Int):Option (((List ai)×Int)⊕((List ai))):=if decide (v45<(arA bK)) then (aaV bK v45).bind fun x53=>(bO x53.eH).bind fun JA=>(abz 48 LV ([(ai.mk (aa.mk x53.C.Key x53.C.A x53.C.B) JA)]:List ai)).bind fun aag=>abo (aag,bM (v45+1)) else aaN (DQ LV)
def zk(bK:List ai):Option ((List ai)):=abt (fun(p:(List ai)×Int)=>yC bK p.1 p.2) ([],0)
def Gq(an0:List aA):Option ((List aA)):=some an0
def BO(Sv:List aA)(VM:List aA)(v56:Int):Option (((List aA)×Int)⊕((List aA))):=if decide (v56<(arA Sv)) then (aaV VM v56).bind fun x65=>(zk x65.gy).bind fun r67=>(aaV VM v56).bind fun XT=>abo (abG VM v56 (aA.mk (aa.mk XT.C.Key XT.C.A XT.C.B) XT.yJ r67),bM (v56+1)) else aaN (Gq VM)
def Ay(qs:List aA):Option ((List aA)):=(bP qs).bind fun Sv=>abt (fun(p:(List aA)×Int)=>BO Sv p.1 p.2) (Sv,0)
def Bk(aaa:List aa):Option ((List aa)):=some aaa
def vB(qs:List aA)(LV:List aa)(v45:Int):Option (((List aa)×Int)⊕((List aa))):=if decide (v45<(arA qs)) then (aaV qs v45).bind fun x53=>(lY x53).bind fun JA=>(abz 24 LV ([JA]:List aa)).bind fun aag=>abo (aag,bM (v45+1)) else aaN (Bk LV)
def vA(qs:List aA):Option ((List aa)):=abt (fun(p:(List aa)×Int)=>vB qs p.1 p.2) ([],0)
def Bl(aV:af)(aB:Int)(c8:List au)(aiX:List ai):Option ((List aA)×Int×(List ai)):=(qZ aV aB c8 aiX).bind fun r39=>some ([],2,r39.1)
def kf(aV:af)(aB:Int)(c8:List au)(ET:List aA)(Uk:List ai):Option (((List aA)×(List ai))⊕((List aA)×Int×(List ai))):=if decide ((0:Int)<(arA ET)) then (aaV ET (bM ((arA ET) - 1))).bind fun Fs=>if !Fs.yJ then aaN (some (abG (abG ET (bM ((arA ET) - 1)) (aA.mk (aa.mk Fs.C.Key Fs.C.A Fs.C.B) true Fs.gy)) (bM ((arA ET) - 1)) (aA.mk (aa.mk ((aA.mk (aa.mk Fs.C.Key Fs.C.A Fs.C.B) true Fs.gy).C.Key) ((aA.mk (aa.mk Fs.C.Key Fs.C.A Fs.C.B) true Fs.gy).C.A) ((aA.mk (aa.mk Fs.C.Key Fs.C.A Fs.C.B) true Fs.gy).C.B)) ((aA.mk (aa.mk Fs.C.Key Fs.C.A Fs.C.B) true Fs.gy).yJ) Uk),0,[])) else (eV ([([(ai.mk (aa.mk Fs.C.Key Fs.C.A Fs.C.B) [])]:List ai),Fs.gy,Uk]:List (List ai))).bind fun r59=>(abH ET 0 (bM ((arA ET) - 1))).bind fun ahW=>abo (ahW,r59) else aaN (Bl aV aB c8 Uk)
def Ax(aV:af)(aB:Int)(c8:List au)(iC:List ai)(AP:List aA):Option ((List aA)×Int×(List ai)):=abt (fun(p:(List aA)×(List ai))=>kf aV aB c8 p.1 p.2) (AP,iC)
def xZ(aV:af)(aB:Int)(c8:List au)(nO:List aA):Option ((List aA)×aS):=(Ay nO).bind fun tX=>(zj aV aB c8 nO).bind fun J6=>if !J6 then some (tX,(aS.mk 3 [] [] [])) else (iT c8).bind fun r21=>(vA nO).bind fun Sv=>(abz 24 r21 Sv).bind fun afV=>(mQ aV aB afV).bind fun VQ=>(lE VQ.1).bind fun wz=>if decide ((0:Int)<(arA wz)) then (Ax aV aB c8 ([(ai.mk (aa.mk 0 0 0) wz)]:List ai) tX).bind fun r32=>some (r32.1,(aS.mk r32.2.1 [] r32.2.2 [])) else (xG aV afV).bind fun EW=>if !EW.2 then (kF VQ.1).bind fun L6=>some (tX,(aS.mk 1 L6.1 [] [])) else (abz 56 tX ([(aA.mk (aa.mk EW.1.Key EW.1.A EW.1.B) false [])]:List aA)).bind fun l40=>some (l40,(aS.mk 0 [] [] []))
def vu(aV:af)(zg:aX):Option (Bool):=(mZ aV).bind fun r9=>(fR aV).bind fun X6=>if X6 then if decide ((0:Int)≤zg.Idle) then if decide (zg.Idle≤(arA r9)) then if decide ((0:Int)≤zg.At) then some (decide (zg.At<(abN (arA r9) 1))) else some false else some false else some false else some false
def tH(aV:af)(aB:Int)(c8:List au):Option (aS):=(iT c8).bind fun r8=>(xG aV r8).bind fun Pq=>if Pq.2 then some (aS.mk 3 [] [] []) else (mQ aV aB r8).bind fun r14=>(kF r14.1).bind fun AQ=>if AQ.2 then some (aS.mk 1 AQ.1 [] []) else (lE r14.1).bind fun r21=>(qZ aV aB c8 ([(ai.mk (aa.mk 0 0 0) r21)]:List ai)).bind fun Sv=>some (aS.mk 2 [] Sv.1 [])
def Ar:Option (au×Bool):=some ((au.mk (aa.mk 0 0 0) 0 0 0 []),false)
def pL(V4:Int):Option ((Int)⊕(au×Bool)):=abo (bM (V4+1))
def pK(aV:af)(aB:Int)(c8:List au)(DV:aa)(V4:Int)(aeC:Int):Option ((Int)⊕((Int)⊕(au×Bool))):=if decide (aeC<(arA c8)) then (uh aV aB c8 (au.mk (aa.mk DV.Key DV.A DV.B) 2 V4 aeC [])).bind fun atF=>if atF then aaN (aaN (some ((au.mk (aa.mk DV.Key DV.A DV.B) 2 V4 aeC []),true))) else abo (bM (aeC+1)) else aaN (pL V4)
def lX(aV:af)(aB:Int)(c8:List au)(DV:aa)(V4:Int)(auC:Bool):Option ((Int)⊕(au×Bool)):=if auC then pL V4 else abt (fun(p:Int)=>pK aV aB c8 DV V4 p) 0
def uv(aV:af)(aB:Int)(c8:List au)(DV:aa)(V4:Int):Option ((Int)⊕(au×Bool)):=if decide (V4<(arA c8)) then (aaV c8 V4).bind fun Fq=>if decide (Fq.C.Key≠DV.Key) then lX aV aB c8 DV V4 true else (aaV c8 V4).bind fun ave=>lX aV aB c8 DV V4 (decide (ave.C.A≠DV.A)) else aaN (Ar)
def yw(aV:af)(aB:Int)(c8:List au)(DV:aa):Option (au×Bool):=abt (fun(p:Int)=>uv aV aB c8 DV p) 0
def j_(cM:aa)(jB:af)(nP:Int)(zn:List aa):Option ((List Int)):=(cg zn).bind fun r8=>(abz 24 r8 ([cM]:List aa)).bind fun l9=>(mQ jB nP l9).bind fun DN=>(lE DN.1).bind fun tX=>some tX
def t_(aV:af)(aB:Int)(c8:List au)(FC:aa)(KH:(List Int))(EW:(List Int))(v40:Bool):Option (aS):=if v40 then (qZ aV aB c8 ([(ai.mk (aa.mk FC.Key FC.A FC.B) []),(ai.mk (aa.mk 0 0 0) EW),(ai.mk (aa.mk 0 0 0) KH)]:List ai)).bind fun r43=>some (aS.mk 2 [] r43.1 []) else if decide ((0:Int)<(arA KH)) then some (aS.mk 0 [] [] ([(au.mk (aa.mk FC.Key FC.A FC.B) 4 0 0 KH)]:List au)) else if decide ((0:Int)<(arA EW)) then some (aS.mk 0 [] [] ([(au.mk (aa.mk FC.Key FC.B FC.A) 4 0 0 EW)]:List au)) else some (aS.mk 0 [] [] [])
def yy(aV:af)(aB:Int)(c8:List au)(FC:aa):Option (aS):=(iT c8).bind fun r30=>(j_ (aa.mk FC.Key FC.B FC.A) aV aB r30).bind fun KH=>(j_ FC aV aB r30).bind fun EW=>if decide ((0:Int)<(arA KH)) then t_ aV aB c8 FC KH EW (decide ((0:Int)<(arA EW))) else t_ aV aB c8 FC KH EW false
def yx(aV:af)(aB:Int)(c8:List au)(FC:aa)(v56:Int):Option ((Int)⊕(aS)):=if decide (v56<(arA ([FC,(aa.mk FC.Key FC.B FC.A)]:List aa))) then (aaV ([FC,(aa.mk FC.Key FC.B FC.A)]:List aa) v56).bind fun x63=>(yw aV aB c8 x63).bind fun r66=>if r66.2 then aaN (some (aS.mk 0 [] [] ([r66.1]:List au))) else abo (bM (v56+1)) else aaN (yy aV aB c8 FC)
def zh(aV:af)(aB:Int)(c8:List au)(FC:aa):Option (aS):=abt (fun(p:Int)=>yx aV aB c8 FC p) 0
def Cq(r53:aS)(s54:aX):Option (aX×aS):=some (s54,(aS.mk r53.gL r53.Order r53.Tree r53.fh))
def sH(aV:af)(aB:Int)(BY:aX)(BJ:List au)(x37:aa)(q40:Int)(v50:Bool):Option (aX×aS):=if v50 then some ((aX.mk q40 (bM (BY.Idle+1))),(aS.mk 0 [] [] [])) else (zh aV aB BJ x37).bind fun r53=>if decide ((0:Int)<(arA r53.fh)) then Cq r53 (aX.mk q40 0) else Cq r53 (aX.mk q40 (bM (BY.Idle+1)))
def oE(aV:af)(aB:Int)(BY:aX)(BJ:List au)(v27:Bool):Option (aX×aS):=if v27 then some (BY,(aS.mk 3 [] [] [])) else (mZ aV).bind fun r30=>if decide (BY.Idle=(arA r30)) then (tH aV aB BJ).bind fun EW=>some (BY,EW) else (aaV r30 BY.At).bind fun x37=>(Sh.rem (bM (BY.At+1)) (arA r30)).bind fun q40=>(iT BJ).bind fun EX=>(bZ EX x37).bind fun uM=>if uM then sH aV aB BY BJ x37 q40 true else (bZ EX (aa.mk x37.Key x37.B x37.A)).bind fun r58=>sH aV aB BY BJ x37 q40 r58
def xx(aV:af)(aB:Int)(BY:aX)(BJ:List au):Option (aX×aS):=(vu aV BY).bind fun r59=>if !r59 then oE aV aB BY BJ true else if decide ((20000:Int)≤(arA BJ)) then oE aV aB BY BJ true else (uD aV aB BJ).bind fun r62=>oE aV aB BY BJ (!r62)
def JL:Option (aN):=some (aN.mk 1 false [] [])
def sM(kN:Int)(jB:Int)(nP:List Int):Option (Bool):=if decide (kN<0) then some true else if decide (jB≤kN) then some true else (bJ nP kN).bind fun DN=>some DN
def iX:Option (Int):=some (-1)
def fE(aT:List Int)(sg:Int)(AO:List Int)(v30:Int):Option ((Int)⊕(Int)):=if decide (v30<(arA aT)) then (aaV aT v30).bind fun x38=>(sM x38 sg AO).bind fun G4=>if G4 then aaN (some v30) else abo (bM (v30+1)) else aaN (iX)
def fZ(aT:List Int)(sg:Int)(AO:List Int):Option (Int):=abt (fun(p:Int)=>fE aT sg AO p) 0
def fD(aT:List Int)(sg:Int)(AO:List Int):Option (Bool):=(fZ aT sg AO).bind fun r3=>some (decide ((0:Int)≤r3))
def x5(xu:Int)(qN:List Int)(Po:List Int):Option (Bool):=(fD qN xu Po).bind fun r3=>some (!r3)
def Fo:Option (Bool):=some true
def Fp(v196:Int):Option ((Int)⊕(Bool)):=abo (bM (v196+1))
def vM(aV:af)(zg:aN)(v196:Int)(tM:List Int):Option ((Int)⊕(Bool)):=(abH zg.Path 0 v196).bind fun adG=>(x5 (arA aV.aL) tM adG).bind fun atP=>if !atP then aaN (some false) else Fp v196
def vL(aV:af)(zg:aN)(v196:Int)(tM:List Int)(ac5:Int):Option ((Int)⊕((Int)⊕(Bool))):=if decide (ac5<(arA tM)) then (aaV tM (bM (ac5 - 1))).bind fun avF=>(aaV tM ac5).bind fun avG=>if decide (avG≤avF) then aaN (aaN (some false)) else abo (bM (ac5+1)) else aaN (vM aV zg v196 tM)
def AH(aV:af)(zg:aN)(v196:Int):Option ((Int)⊕(Bool)):=if decide (v196<(arA zg.Left)) then (aaV zg.Left v196).bind fun tM=>abt (fun(p:Int)=>vL aV zg v196 tM p) 1 else aaN (Fo)
def AJ(aV:af)(zg:aN):Option (Bool):=if decide ((arA zg.Left)=0) then some (decide ((arA zg.Path)=0)) else if decide ((arA zg.Left)≠(bM ((arA zg.Path)+1))) then some false else abt (fun(p:Int)=>AH aV zg p) 0
def AI(aV:af)(zg:aN)(aeF:Int):Option ((Int)⊕(Bool)):=if decide (aeF<(arA zg.Path)) then (aaV zg.Path aeF).bind fun avL=>(abH zg.Path 0 aeF).bind fun adI=>(x5 (arA aV.aL) [avL] adI).bind fun at4=>if !at4 then aaN (some false) else abo (bM (aeF+1)) else aaN (AJ aV zg)
def oH(aV:af)(zg:aN)(v85:Bool):Option (Bool):=if v85 then some false else abt (fun(p:Int)=>AI aV zg p) 0
def Br(aV:af)(zg:aN):Option (Bool):=(fR aV).bind fun at5=>if !at5 then oH aV zg true else if decide (zg.cU<1) then oH aV zg true else if decide ((32:Int)<zg.cU) then oH aV zg true else oH aV zg (decide ((abN (bM ((arA aV.aL) - 1)) 0)<(arA zg.Path)))
def ue(aT:aN)(copied31:List Int)(V3:List (List Int)):Option (aN):=some (aN.mk aT.cU aT.Cut copied31 V3)
def pY(aT:aN)(copied31:List Int)(outLeft65:List (List Int))(v66:Int):Option (((List (List Int))×Int)⊕(aN)):=if decide (v66<(arA aT.Left)) then (aaV aT.Left v66).bind fun Sy=>(abL 8 (arA Sy) (arA Sy) (0:Int)).bind fun Aj=>(aaV outLeft65 v66).bind fun x81=>abo (abG outLeft65 v66 Sy,bM (v66+1)) else aaN (ue aT copied31 outLeft65)
def lg(aT:aN):Option (aN):=(abL 8 (arA aT.Path) (arA aT.Path) (0:Int)).bind fun iz=>(abL 24 (arA aT.Left) (arA aT.Left) []).bind fun hU=>(Sh.YA iz aT.Path).bind fun copied31=>abt (fun(p:(List (List Int))×Int)=>pY aT copied31 p.1 p.2) (hU,0)
def Cx(Rm:List aa):Option ((List aa)):=some Rm
def sK(Cu:Int)(ahp:List aa):Option (((List aa)×Int)⊕((List aa))):=abo (ahp,bM (Cu+1))
def xb(uo:List aa)(Cu:Int)(ato:aa):Option (((List aa)×Int)⊕((List aa))):=(abz 24 uo ([ato]:List aa)).bind fun ahq=>sK Cu ahq
def oI(uo:List aa)(Cu:Int)(Fq:aa)(auE:Bool):Option (((List aa)×Int)⊕((List aa))):=if auE then xb uo Cu (aa.mk Fq.Key Fq.B Fq.A) else xb uo Cu Fq
def sL(uo:List aa)(Cu:Int)(Fq:aa)(Xj:Int)(Xk:Int)(v138:Bool):Option (((List aa)×Int)⊕((List aa))):=if v138 then sK Cu uo else if decide (Xj<0) then oI uo Cu Fq true else if decide ((0:Int)≤Xk) then oI uo Cu Fq (decide (Xk<Xj)) else oI uo Cu Fq false
def w_(BN:List Int)(r85:(List aa))(uo:List aa)(Cu:Int):Option (((List aa)×Int)⊕((List aa))):=if decide (Cu<(arA r85)) then (aaV r85 Cu).bind fun Fq=>(gJ BN Fq.A).bind fun Xj=>(gJ BN Fq.B).bind fun Xk=>if decide (Xj<0) then sL uo Cu Fq Xj Xk (decide (Xk<0)) else sL uo Cu Fq Xj Xk false else aaN (Cx uo)
def tL(aV:af)(BN:List Int):Option ((List aa)):=(mZ aV).bind fun r85=>abt (fun(p:(List aa)×Int)=>w_ BN r85 p.1 p.2) ([],0)
def vN(AP:List (List Int))(OC:Bool)(ag7:List Int):Option (Bool×(List (List Int))):=(abz 24 AP ([ag7]:List (List Int))).bind fun ag8=>some (OC,ag8)
def DE(g_:Int)(qS:Bool)(AP:List (List Int))(Tr:List Int):Option (Bool×(List (List Int))):=if decide (g_<(arA Tr)) then (abH Tr 0 g_).bind fun Pm=>vN AP true Pm else vN AP qS Tr
def vO(yF:Int)(ag9:List Int):Option (((List Int)×Int)⊕(Bool×(List (List Int)))):=abo (ag9,bM (yF+1))
def DF(GV:List Int)(yF:Int)(OI:Bool):Option (((List Int)×Int)⊕(Bool×(List (List Int)))):=if OI then (abz 8 GV [yF]).bind fun ag_=>vO yF ag_ else vO yF GV
def pN(Fm:Int)(OJ:Bool):Option ((Bool×Int)⊕(((List Int)×Int)⊕(Bool×(List (List Int))))):=abo (OJ,bM (Fm+1))
def DD(aV:af)(BJ:List Int)(Xn:aj×Int)(GV:List Int)(yF:Int)(H6:Bool)(Fm:Int):Option ((Bool×Int)⊕(((List Int)×Int)⊕(Bool×(List (List Int))))):=if decide (Fm<(arA aV.aL)) then if H6 then (wJ Xn.1 yF Fm).bind fun aic=>if !aic then pN Fm true else (bJ BJ Fm).bind fun aid=>pN Fm aid else pN Fm false else aaN (DF GV yF H6)
def DC(aV:af)(g_:Int)(qS:Bool)(BJ:List Int)(AP:List (List Int))(Xn:aj×Int)(GV:List Int)(yF:Int):Option (((List Int)×Int)⊕(Bool×(List (List Int)))):=if decide (yF<(arA aV.aL)) then (bJ BJ yF).bind fun ah_=>abt (fun(p:Bool×Int)=>DD aV BJ Xn GV yF p.1 p.2) (!ah_,0) else aaN (DE g_ qS AP GV)
def sZ(aV:af)(g_:Int)(qS:Bool)(BJ:List Int)(AP:List (List Int)):Option (Bool×(List (List Int))):=(wS aV).bind fun r81=>(ko r81).bind fun Xn=>abt (fun(p:(List Int)×Int)=>DC aV g_ qS BJ AP Xn p.1 p.2) ([],0)
def k_(AP:List (List Int))(OC:Bool)(ag7:List Int):Option (Bool×(List (List Int))):=(abz 24 AP ([ag7]:List (List Int))).bind fun ag8=>some (OC,ag8)
def vP(g_:Int)(qS:Bool)(AP:List (List Int))(Tr:List Int):Option (Bool×(List (List Int))):=if decide (g_<(arA Tr)) then (abH Tr 0 g_).bind fun Pm=>k_ AP true Pm else k_ AP qS Tr
def pO(yF:Int)(ag9:List Int):Option (((List Int)×Int)⊕(Bool×(List (List Int)))):=abo (ag9,bM (yF+1))
def pP(GV:List Int)(yF:Int)(OI:Bool):Option (((List Int)×Int)⊕(Bool×(List (List Int)))):=if OI then (abz 8 GV [yF]).bind fun ag_=>pO yF ag_ else pO yF GV
def iY(Fm:Int)(OJ:Bool):Option ((Bool×Int)⊕(((List Int)×Int)⊕(Bool×(List (List Int))))):=abo (OJ,bM (Fm+1))
def k9(aV:af)(xd:List Int)(Xn:aj×Int)(GV:List Int)(yF:Int)(H6:Bool)(Fm:Int):Option ((Bool×Int)⊕(((List Int)×Int)⊕(Bool×(List (List Int))))):=if decide (Fm<(arA aV.aL)) then if H6 then (wJ Xn.1 yF Fm).bind fun aic=>if !aic then iY Fm true else (bJ xd Fm).bind fun aid=>iY Fm aid else iY Fm false else aaN (pP GV yF H6)
def k8(aV:af)(g_:Int)(qS:Bool)(xd:List Int)(AP:List (List Int))(Xn:aj×Int)(GV:List Int)(yF:Int):Option (((List Int)×Int)⊕(Bool×(List (List Int)))):=if decide (yF<(arA aV.aL)) then (bJ xd yF).bind fun ah_=>abt (fun(p:Bool×Int)=>k9 aV xd Xn GV yF p.1 p.2) (!ah_,0) else aaN (vP g_ qS AP GV)
def kO(aV:af)(g_:Int)(qS:Bool)(xd:List Int)(AP:List (List Int)):Option (Bool×(List (List Int))):=(wS aV).bind fun r81=>(ko r81).bind fun Xn=>abt (fun(p:(List Int)×Int)=>k8 aV g_ qS xd AP Xn p.1 p.2) ([],0)
def GC(uM:aN)(aec:Bool)(aaX:List Int)(aaW:List (List Int)):Option (aN×aS):=some ((aN.mk uM.cU aec aaX aaW),(aS.mk 0 [] [] []))
def xC(aV:af)(uM:aN)(FJ:Bool)(longer168:List Int)(FD:List Int)(TM:(List Int)×Bool)(am1:Bool)(v194:Bool):Option (aN×aS):=if v194 then some ((aN.mk uM.cU FJ uM.Path (abG uM.Left (bM ((arA uM.Left) - 1)) FD)),(aS.mk 1 TM.1 [] [])) else if am1 then (kO aV uM.cU FJ longer168 (abG uM.Left (bM ((arA uM.Left) - 1)) FD)).bind fun TN=>GC uM TN.1 longer168 TN.2 else GC uM FJ uM.Path (abG uM.Left (bM ((arA uM.Left) - 1)) FD)
def tK(aV:af)(aB:Int)(D3:aN)(uM:aN)(FJ:Bool)(auF:Bool):Option (aN×aS):=if auF then some ((aN.mk (bM (uM.cU+1)) false [] []),(aS.mk 0 [] [] [])) else (aaV uM.Left (bM ((arA uM.Left) - 1))).bind fun avp=>if decide ((arA avp)=0) then some ((aN.mk D3.cU D3.Cut D3.Path D3.Left),(aS.mk 3 [] [] [])) else (bO uM.Path).bind fun atH=>(aaV uM.Left (bM ((arA uM.Left) - 1))).bind fun avr=>(aaV avr 0).bind fun avs=>(abz 8 atH [avs]).bind fun longer168=>(aaV uM.Left (bM ((arA uM.Left) - 1))).bind fun oM=>(abH oM 1 (arA oM)).bind fun FD=>(aaV uM.Left (bM ((arA uM.Left) - 1))).bind fun azq=>(tL aV longer168).bind fun TL=>(mQ aV aB TL).bind fun atI=>(kF atI.1).bind fun TM=>if TM.2 then xC aV uM FJ longer168 FD TM true (decide ((arA longer168)=(arA aV.aL))) else xC aV uM FJ longer168 FD TM false false
def xB(aV:af)(aB:Int)(D3:aN)(uM:aN)(v78:Bool):Option (aN×aS):=if v78 then (abH uM.Left 0 (bM ((arA uM.Left) - 1))).bind fun ES=>(abH uM.Path 0 (bM ((bM ((arA uM.Left) - 1)) - 1))).bind fun Pn=>some ((aN.mk uM.cU uM.Cut Pn ES),(aS.mk 0 [] [] [])) else (aaV uM.Left (bM ((arA uM.Left) - 1))).bind fun avw=>if decide ((arA avw)=0) then if uM.Cut then tK aV aB D3 uM true (decide (uM.cU<32)) else tK aV aB D3 uM false false else tK aV aB D3 uM uM.Cut false
def qd(aV:af)(aB:Int)(BY:aN)(D3:aN)(V3:Bool):Option (aN×aS):=if V3 then some ((aN.mk D3.cU D3.Cut D3.Path D3.Left),(aS.mk 3 [] [] [])) else if decide ((arA aV.aL)=0) then some ((aN.mk D3.cU D3.Cut D3.Path D3.Left),(aS.mk 1 [] [] [])) else (lg BY).bind fun uM=>if decide ((bM ((arA uM.Left) - 1))<0) then (sZ aV uM.cU uM.Cut uM.Path uM.Left).bind fun r74=>some ((aN.mk uM.cU r74.1 uM.Path r74.2),(aS.mk 0 [] [] [])) else (aaV uM.Left (bM ((arA uM.Left) - 1))).bind fun avx=>if decide ((arA avx)=0) then xB aV aB D3 uM (decide ((0:Int)<(bM ((arA uM.Left) - 1)))) else xB aV aB D3 uM false
def AK(aV:af)(aB:Int)(BY:aN):Option (aN×aS):=(lg BY).bind fun D3=>(Br aV BY).bind fun atK=>if !atK then qd aV aB BY D3 true else if decide (aB≠0) then qd aV aB BY D3 (decide (aB≠1)) else qd aV aB BY D3 false
def vz(aV:af)(cK:aa):Option (Unit):=some ()
def oF(aV:af)(aB:Int)(yT:List aa)(JM:Int)(PZ:Int)(P0:List aa)(P3:Int)(P4:Int)(rX:Int)(rY:Int)(EE:List Int)(EF:List ai)(EG:List au)(EH:List Int)(EI:List ai)(Kh:List au)(abJ:au):Option ((List au)×Bool):=(uh aV aB [] abJ).bind fun r6=>if r6 then (abz 72 Kh ([abJ]:List au)).bind fun l9=>some (l9,false) else some (Kh,true)
def ia(aV:af)(aB:Int)(yT:List aa)(JM:Int)(PZ:Int)(P0:List aa)(P3:Int)(P4:Int)(rX:Int)(rY:Int)(EE:List Int)(EF:List ai)(EG:List au)(EH:List Int)(EI:List ai)(Ja:aa)(Wx:af)(cFacts27:List au)(v28:Int):Option (((List au)×Int)⊕((List au)×Bool)):=if decide (v28<(arA Wx.aL)) then (oF aV aB yT JM PZ P0 P3 P4 rX rY EE EF EG EH EI cFacts27 (au.mk (aa.mk Ja.Key Ja.A Ja.B) 3 v28 0 [])).bind fun y34=>if y34.2 then abo (y34.1,bM (v28+1)) else aaN (some (y34.1,false)) else aaN (some (cFacts27,true))
def fV(aV:af)(aB:Int)(yT:List aa)(JM:Int)(PZ:Int)(P0:List aa)(P3:Int)(P4:Int)(rX:Int)(rY:Int)(EE:List Int)(EF:List ai)(EG:List au)(EH:List Int)(EI:List ai)(Kh:List au)(Ja:aa)(Wx:af):Option ((List au)×Bool):=(oF aV aB yT JM PZ P0 P3 P4 rX rY EE EF EG EH EI Kh (au.mk (aa.mk Ja.Key Ja.A Ja.B) 1 0 0 [])).bind fun y19=>if y19.2 then abt (fun(p:(List au)×Int)=>ia aV aB yT JM PZ P0 P3 P4 rX rY EE EF EG EH EI Ja Wx p.1 p.2) (y19.1,0) else some (y19.1,false)
def E7(v152:List au):Option (aS):=some (aS.mk 3 [] [] v152)
def E8(v198:Int)(ai0:List au):Option (((List au)×Int)⊕(aS)):=abo (ai0,bM (v198+1))
def Au(PL:Int)(outFacts246:List au):Option (((List au)×Int)⊕(((List au)×Int)⊕(aS))):=abo (outFacts246,bM (PL+1))
def vw(aV:af)(aB:Int)(Y_:(List aa))(v198:Int)(D4:aa)(outFacts238:List au)(PL:Int):Option (((List au)×Int)⊕(((List au)×Int)⊕(aS))):=if decide (PL<(arA ([D4,(aa.mk D4.Key D4.B D4.A)]:List aa))) then (aaV ([D4,(aa.mk D4.Key D4.B D4.A)]:List aa) PL).bind fun aeP=>(vz aV aeP).bind fun ayF=>(fV aV aB Y_ (arA Y_) v198 ([D4,(aa.mk D4.Key D4.B D4.A)]:List aa) (arA ([D4,(aa.mk D4.Key D4.B D4.A)]:List aa)) PL 0 3 [] [] [] [] [] outFacts238 aeP aV).bind fun Zz=>if Zz.2 then Au PL Zz.1 else Au PL Zz.1 else aaN (E8 v198 outFacts238)
def As(aV:af)(aB:Int)(Y_:(List aa))(outFacts197:List au)(v198:Int):Option (((List au)×Int)⊕(aS)):=if decide (v198<(arA Y_)) then (aaV Y_ v198).bind fun D4=>abt (fun(p:(List au)×Int)=>vw aV aB Y_ v198 D4 p.1 p.2) (outFacts197,0) else aaN (E7 outFacts197)
def xY(aV:af)(aB:Int):Option (aS):=(mQ aV aB []).bind fun r73=>if decide (r73.2≠0) then some (aS.mk 3 [] [] []) else (lE r73.1).bind fun r77=>if decide ((0:Int)<(arA r77)) then some (aS.mk 2 [] ([(ai.mk (aa.mk 0 0 0) r77)]:List ai) []) else (mZ aV).bind fun Y_=>if decide ((arA Y_)=0) then (kF r73.1).bind fun r84=>some (aS.mk 1 r84.1 [] []) else abt (fun(p:(List au)×Int)=>As aV aB Y_ p.1 p.2) ([],0)
def MV(v21:bu):Option (bu):=some v21
def tE(bK:bu)(l28:bu)(Sw:Int):Option ((bu×Int)⊕(bu)):=if decide (Sw<4) then (abO 4 Sw).bind fun k34=>(abO 4 Sw).bind fun k35=>abo ((bu.mk (Sh.sX k35 0 (abN 0 (abM (Sh.q9 bK.c0 bK.c1 bK.c2 bK.c3 k34) 2147483647)) l28.c0) (Sh.sX k35 1 (abN 0 (abM (Sh.q9 bK.c0 bK.c1 bK.c2 bK.c3 k34) 2147483647)) l28.c1) (Sh.sX k35 2 (abN 0 (abM (Sh.q9 bK.c0 bK.c1 bK.c2 bK.c3 k34) 2147483647)) l28.c2) (Sh.sX k35 3 (abN 0 (abM (Sh.q9 bK.c0 bK.c1 bK.c2 bK.c3 k34) 2147483647)) l28.c3)),bM (Sw+1)) else aaN (MV l28)
def wX(bK:bu):Option (bu):=abt (fun(p:bu×Int)=>tE bK p.1 p.2) (bK,0)
def nD(iA:aW):Option (Bool):=if decide ((0:Int)≤iA.Left) then if decide (iA.Left≤2147483647) then (wX iA.bW).bind fun J6=>if decide ([J6.c0,J6.c1,J6.c2,J6.c3]=[iA.bW.c0,iA.bW.c1,iA.bW.c2,iA.bW.c3]) then (wX iA.bD).bind fun r18=>Sh.EK (decide ([r18.c0,r18.c1,r18.c2,r18.c3]=[iA.bD.c0,iA.bD.c1,iA.bD.c2,iA.bD.c3])) fun Sx=>some Sx else some false else some false else some false
def FG(LP:Int)(zM:bu):Option (aW×Int):=(nD (aW.mk LP (bu.mk zM.c0 zM.c1 zM.c2 zM.c3) (bu.mk 0 0 0 0))).bind fun r4=>if !r4 then some ((aW.mk 0 (bu.mk 0 0 0 0) (bu.mk 0 0 0 0)),1) else some ((aW.mk LP (bu.mk zM.c0 zM.c1 zM.c2 zM.c3) (bu.mk 0 0 0 0)),0)
def rF(nS:Int):Option (Bool):=if decide ((0:Int)≤nS) then some (decide (nS<4)) else some false
def De(iA:aW)(gf:Int)(KX:Int)(v14:Bool):Option (Int):=if v14 then some 0 else (abO 4 gf).bind fun k18=>Sh.EK (abN 0 (abM (abM KX iA.Left) (Sh.q9 iA.bW.c0 iA.bW.c1 iA.bW.c2 iA.bW.c3 k18))) fun Sx=>some Sx
def Cj(iA:aW)(gf:Int)(KX:Int):Option (Int):=(nD iA).bind fun J7=>if !J7 then De iA gf KX true else (rF gf).bind fun Sv=>De iA gf KX (!Sv)
def vq(iA:aW)(gf:Int)(O6:Int)(v22:Bool):Option (aW×Int):=if v22 then some ((aW.mk 0 (bu.mk 0 0 0 0) (bu.mk 0 0 0 0)),1) else (Cj iA gf O6).bind fun VQ=>if decide (VQ<O6) then some ((aW.mk 0 (bu.mk 0 0 0 0) (bu.mk 0 0 0 0)),15) else (abO 4 gf).bind fun k29=>(abO 4 gf).bind fun k30=>(abO 4 gf).bind fun k33=>(abO 4 gf).bind fun k34=>(wX (bu.mk (Sh.sX k34 0 (bM ((Sh.q9 iA.bD.c0 iA.bD.c1 iA.bD.c2 iA.bD.c3 k33)+O6)) iA.bD.c0) (Sh.sX k34 1 (bM ((Sh.q9 iA.bD.c0 iA.bD.c1 iA.bD.c2 iA.bD.c3 k33)+O6)) iA.bD.c1) (Sh.sX k34 2 (bM ((Sh.q9 iA.bD.c0 iA.bD.c1 iA.bD.c2 iA.bD.c3 k33)+O6)) iA.bD.c2) (Sh.sX k34 3 (bM ((Sh.q9 iA.bD.c0 iA.bD.c1 iA.bD.c2 iA.bD.c3 k33)+O6)) iA.bD.c3))).bind fun X7=>some ((aW.mk (bM (iA.Left - O6)) (bu.mk (Sh.sX k30 0 (bM ((Sh.q9 iA.bW.c0 iA.bW.c1 iA.bW.c2 iA.bW.c3 k29) - O6)) iA.bW.c0) (Sh.sX k30 1 (bM ((Sh.q9 iA.bW.c0 iA.bW.c1 iA.bW.c2 iA.bW.c3 k29) - O6)) iA.bW.c1) (Sh.sX k30 2 (bM ((Sh.q9 iA.bW.c0 iA.bW.c1 iA.bW.c2 iA.bW.c3 k29) - O6)) iA.bW.c2) (Sh.sX k30 3 (bM ((Sh.q9 iA.bW.c0 iA.bW.c1 iA.bW.c2 iA.bW.c3 k29) - O6)) iA.bW.c3)) (bu.mk X7.c0 X7.c1 X7.c2 X7.c3)),0)
def Bg(iA:aW)(gf:Int)(O6:Int):Option (aW×Int):=(nD iA).bind fun r37=>if !r37 then vq iA gf O6 true else (rF gf).bind fun r39=>if !r39 then vq iA gf O6 true else vq iA gf O6 (decide (O6<0))
def Pp(n26:Int):Option (Int):=some (abM n26 2147483647)
def Dd(iA:aW)(n33:Int)(v34:Int):Option ((Int×Int)⊕(Int)):=if decide (v34<4) then (abO 4 v34).bind fun k40=>Sh.EK (Sh.q9 iA.bD.c0 iA.bD.c1 iA.bD.c2 iA.bD.c3 k40) fun s41=>abo (bM (n33+s41),bM (v34+1)) else aaN (Pp n33)
def FF(iA:aW):Option (Int):=(nD iA).bind fun r14=>if !r14 then some 0 else abt (fun(p:Int×Int)=>Dd iA p.1 p.2) (0,0)
end G
end