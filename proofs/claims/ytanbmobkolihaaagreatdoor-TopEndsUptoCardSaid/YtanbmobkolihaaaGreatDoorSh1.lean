/- What the functions compute, as plain functions. -/
import Derived.Test.YtanbmobkolihaaaGreatDoorSh
open Go.Sh renaming len→arA,exit→aaN,idx→aaV,next→abo,loop→abt,app→abz
set_option linter.unusedSimpArgs false
set_option linter.unusedVariables false
section
open Go Go.Av
namespace G
def Gr(aab:List Int):Option ((List Int)):=some aab
def BQ(v53:Int)(VN:List Int):Option (((List Int)×Int)⊕((List Int))):=abo (VN,bM (v53+1))
def BP(aV:af)(dS:Int)(aae:List Int)(v53:Int):Option (((List Int)×Int)⊕((List Int))):=if decide (v53<(arA aV.aL)) then (aaV aV.aL v53).bind fun x62=>(bJ x62.bA dS).bind fun r65=>if r65 then (abz 8 aae [v53]).bind fun an5=>BQ v53 an5 else BQ v53 aae else aaN (Gr aae)
def Du(aV:af)(dS:Int):Option ((List Int)):=abt (fun(p:(List Int)×Int)=>BP aV dS p.1 p.2) ([],0)
def k7(bK:List Int)(Sz:Int):Option ((List Int)):=(abz 8 bK [Sz]).bind fun l3=>some l3
def dA(cK:List Int)(c23:List Int)(v24:Int):Option (((List Int)×Int)⊕((List Int))):=if decide (v24<(arA cK)) then (aaV cK v24).bind fun x31=>(k7 c23 x31).bind fun y34=>abo (y34,bM (v24+1)) else aaN (some c23)
def ef(bK:List Int)(cK:List Int):Option ((List Int)):=abt (fun(p:(List Int)×Int)=>dA cK p.1 p.2) (bK,0)
def cT(rL:List Int):Option ((List Int)):=(ef [] rL).bind fun it5=>some it5
def dQ(rL:List Int):Option ((List Int)):=(cT rL).bind fun r3=>some r3
def cQ(rL:List Int):Option ((List Int)):=(dQ rL).bind fun r5=>(Sh.sort r5).bind fun ao5=>some ao5
def T_(an6:List c_):Option ((List c_)):=some an6
def Dt(v85:Int)(an_:List c_):Option (((List c_)×Int)⊕((List c_))):=abo (an_,bM (v85+1))
def Ml(aV:af)(kX:List Int)(Gm:List c_)(v85:Int):Option (((List c_)×Int)⊕((List c_))):=if decide (v85<16) then (Du aV v85).bind fun r93=>if decide ((arA r93)=0) then Dt v85 Gm else (Sh.Dv kX r93).bind fun sorted97=>(abz 32 Gm ([(c_.mk v85 sorted97)]:List c_)).bind fun aoc=>Dt v85 aoc else aaN (T_ Gm)
def Mm(aV:af)(kX:List Int):Option ((List c_)):=abt (fun(p:(List c_)×Int)=>Ml aV kX p.1 p.2) ([],0)
def wZ(aV:af)(kX:List Int)(X7:(List Int))(v105:Int):Option ((Int)⊕((List c_))):=if decide (v105<(arA X7)) then (aaV X7 v105).bind fun au_=>if decide (v105≠au_) then aaN (some []) else abo (bM (v105+1)) else aaN (Mm aV kX)
def Ds(aV:af)(kX:List Int)(X7:(List Int))(v42:Bool):Option ((List c_)):=if v42 then some [] else abt (fun(p:Int)=>wZ aV kX X7 p) 0
def IG(aV:af)(kX:List Int):Option ((List c_)):=(mF kX).bind fun r35=>(cQ kX).bind fun X7=>(fR aV).bind fun MW=>if !MW then Ds aV kX X7 true else Ds aV kX X7 (decide ((arA kX)≠(arA aV.aL)))
def JR(aB:Int)(cOrder7:List Int)(agi:List c_):Option (eT):=some (eT.mk aB true cOrder7 agi [])
def Eb(aV:af)(aB:Int)(Be:List Int):Option (eT):=if decide (aB=0) then (bO Be).bind fun DN=>JR aB DN [] else (IG aV Be).bind fun Pq=>JR aB [] Pq
def Lb(vl:Int)(v33:List ai):Option (eT):=some (eT.mk vl false [] [] v33)
def GK(vl:Int)(BU:List ai)(UU:List ai)(v45:Int):Option (((List ai)×Int)⊕(eT)):=if decide (v45<(arA BU)) then (aaV BU v45).bind fun x53=>(bO x53.eH).bind fun JA=>(abz 48 UU ([(ai.mk (aa.mk x53.C.Key x53.C.A x53.C.B) JA)]:List ai)).bind fun l56=>abo (l56,bM (v45+1)) else aaN (Lb vl UU)
def HK(vl:Int)(BU:List ai):Option (eT):=abt (fun(p:(List ai)×Int)=>GK vl BU p.1 p.2) ([],0)
def EY(v39:List aJ):Option (af):=some (af.mk v39)
def Ao(aV:af)(outTxns52:List aJ)(v53:Int):Option (((List aJ)×Int)⊕(af)):=if decide (v53<(arA aV.aL)) then (aaV aV.aL v53).bind fun x62=>(bO x62.bA).bind fun r64=>(dc x62.Reads).bind fun r65=>(abz 56 outTxns52 ([(aJ.mk x62.aI r64 r65)]:List aJ)).bind fun l66=>abo (l66,bM (v53+1)) else aaN (EY outTxns52)
def xV(aV:af):Option (af):=abt (fun(p:(List aJ)×Int)=>Ao aV p.1 p.2) ([],0)
def uN(aV:af)(aB:Int)(Pj:aW)(v23:Bool):Option (aK×Int):=if v23 then some ((aK.mk (af.mk []) 0 [] (eM.mk false false false false) (aX.mk 0 0) (aN.mk 0 false [] []) [] (aW.mk 0 (bu.mk 0 0 0 0) (bu.mk 0 0 0 0)) 0 0 0 [] []),1) else (xV aV).bind fun r27=>(JL).bind fun r28=>some ((aK.mk (af.mk r27.aL) aB [] (eM.mk false false false false) (aX.mk 0 0) (aN.mk r28.cU r28.Cut r28.Path r28.Left) [] (aW.mk Pj.Left (bu.mk Pj.bW.c0 Pj.bW.c1 Pj.bW.c2 Pj.bW.c3) (bu.mk Pj.bD.c0 Pj.bD.c1 Pj.bD.c2 Pj.bD.c3)) 0 0 0 [] []),0)
def Iy(aV:af)(aB:Int)(Pj:aW):Option (aK×Int):=(fR aV).bind fun wz=>if !wz then uN aV aB Pj true else if decide (aB≠0) then if decide (aB≠1) then uN aV aB Pj true else (nD Pj).bind fun KH=>uN aV aB Pj (!KH) else (nD Pj).bind fun EW=>uN aV aB Pj (!EW)
def nE(cM:aK):Option (aS):=(xY cM.H cM.Level).bind fun r4=>some r4
def kZ(cM:aK):Option (aS×aK):=(xx cM.H cM.Level cM.Sat cM.fh).bind fun r5=>some (r5.2,(aK.mk (af.mk cM.H.aL) cM.Level cM.fh (eM.mk cM.eY.c0 cM.eY.c1 cM.eY.c2 cM.eY.c3) (aX.mk r5.1.At r5.1.Idle) (aN.mk cM.gj.cU cM.gj.Cut cM.gj.Path cM.gj.Left) cM.Path (aW.mk cM.P.Left (bu.mk cM.P.bW.c0 cM.P.bW.c1 cM.P.bW.c2 cM.P.bW.c3) (bu.mk cM.P.bD.c0 cM.P.bD.c1 cM.P.bD.c2 cM.P.bD.c3)) cM.dR cM.gL cM.By cM.Order cM.Tree))
def oa(cM:aK):Option (aS×aK):=(AK cM.H cM.Level cM.gj).bind fun r5=>some (r5.2,(aK.mk (af.mk cM.H.aL) cM.Level cM.fh (eM.mk cM.eY.c0 cM.eY.c1 cM.eY.c2 cM.eY.c3) (aX.mk cM.Sat.At cM.Sat.Idle) (aN.mk r5.1.cU r5.1.Cut r5.1.Path r5.1.Left) cM.Path (aW.mk cM.P.Left (bu.mk cM.P.bW.c0 cM.P.bW.c1 cM.P.bW.c2 cM.P.bW.c3) (bu.mk cM.P.bD.c0 cM.P.bD.c1 cM.P.bD.c2 cM.P.bD.c3)) cM.dR cM.gL cM.By cM.Order cM.Tree))
def nF(cM:aK):Option (aS×aK):=(xZ cM.H cM.Level cM.fh cM.Path).bind fun r5=>some (r5.2,(aK.mk (af.mk cM.H.aL) cM.Level cM.fh (eM.mk cM.eY.c0 cM.eY.c1 cM.eY.c2 cM.eY.c3) (aX.mk cM.Sat.At cM.Sat.Idle) (aN.mk cM.gj.cU cM.gj.Cut cM.gj.Path cM.gj.Left) r5.1 (aW.mk cM.P.Left (bu.mk cM.P.bW.c0 cM.P.bW.c1 cM.P.bW.c2 cM.P.bW.c3) (bu.mk cM.P.bD.c0 cM.P.bD.c1 cM.P.bD.c2 cM.P.bD.c3)) cM.dR cM.gL cM.By cM.Order cM.Tree))
def kY(f_0:au)(cK:aK)(v13:Bool):Option ((List au)):=if v13 then (gx cK.fh).bind fun X6=>(abz 72 X6 ([f_0]:List au)).bind fun l16=>some l16 else some cK.fh
def n_(f_0:au)(cK:aK):Option ((List au)):=(uh cK.H cK.Level cK.fh f_0).bind fun AQ=>if AQ then (iT cK.fh).bind fun wY=>(bZ wY f_0.C).bind fun J7=>kY f_0 cK (!J7) else kY f_0 cK false
def mE(nS:Int)(Ss:aS)(v53:aK)(v56:Bool):Option (aK):=if v56 then some (aK.mk (af.mk v53.H.aL) v53.Level v53.fh (eM.mk v53.eY.c0 v53.eY.c1 v53.eY.c2 v53.eY.c3) (aX.mk v53.Sat.At v53.Sat.Idle) (aN.mk v53.gj.cU v53.gj.Cut v53.gj.Path v53.gj.Left) v53.Path (aW.mk v53.P.Left (bu.mk v53.P.bW.c0 v53.P.bW.c1 v53.P.bW.c2 v53.P.bW.c3) (bu.mk v53.P.bD.c0 v53.P.bD.c1 v53.P.bD.c2 v53.P.bD.c3)) v53.dR Ss.gL nS Ss.Order Ss.Tree) else some v53
def mD(nS:Int)(Ss:aS)(v53:aK):Option (aK):=if decide (Ss.gL=3) then (Sh.lim 4 nS).bind fun k55=>some (aK.mk (af.mk v53.H.aL) v53.Level v53.fh (eM.mk (Sh.sX k55 0 true v53.eY.c0) (Sh.sX k55 1 true v53.eY.c1) (Sh.sX k55 2 true v53.eY.c2) (Sh.sX k55 3 true v53.eY.c3)) (aX.mk v53.Sat.At v53.Sat.Idle) (aN.mk v53.gj.cU v53.gj.Cut v53.gj.Path v53.gj.Left) v53.Path (aW.mk v53.P.Left (bu.mk v53.P.bW.c0 v53.P.bW.c1 v53.P.bW.c2 v53.P.bW.c3) (bu.mk v53.P.bD.c0 v53.P.bD.c1 v53.P.bD.c2 v53.P.bD.c3)) v53.dR v53.gL v53.By v53.Order v53.Tree) else if decide (Ss.gL=1) then mE nS Ss v53 (decide (Ss.gL=1)) else mE nS Ss v53 (decide (Ss.gL=2))
def jw(nS:Int)(Ss:aS)(HH:aK)(v68:Int):Option ((aK×Int)⊕(aK)):=if decide (v68<(arA Ss.fh)) then (aaV Ss.fh v68).bind fun Sy=>(n_ Sy HH).bind fun r77=>abo ((aK.mk (af.mk HH.H.aL) HH.Level r77 (eM.mk HH.eY.c0 HH.eY.c1 HH.eY.c2 HH.eY.c3) (aX.mk HH.Sat.At HH.Sat.Idle) (aN.mk HH.gj.cU HH.gj.Cut HH.gj.Path HH.gj.Left) HH.Path (aW.mk HH.P.Left (bu.mk HH.P.bW.c0 HH.P.bW.c1 HH.P.bW.c2 HH.P.bW.c3) (bu.mk HH.P.bD.c0 HH.P.bD.c1 HH.P.bD.c2 HH.P.bD.c3)) HH.dR HH.gL HH.By HH.Order HH.Tree),bM (v68+1)) else aaN (mD nS Ss HH)
def e7(nS:Int)(Qo:aK)(Ss:aS):Option (aK):=abt (fun(p:aK×Int)=>jw nS Ss p.1 p.2) (Qo,0)
def pI(nS:Int)(cK:aK):Option (aK):=(Bg cK.P nS 1).bind fun wz=>if decide (nS=0) then (nE (aK.mk (af.mk cK.H.aL) cK.Level cK.fh (eM.mk cK.eY.c0 cK.eY.c1 cK.eY.c2 cK.eY.c3) (aX.mk cK.Sat.At cK.Sat.Idle) (aN.mk cK.gj.cU cK.gj.Cut cK.gj.Path cK.gj.Left) cK.Path (aW.mk wz.1.Left (bu.mk wz.1.bW.c0 wz.1.bW.c1 wz.1.bW.c2 wz.1.bW.c3) (bu.mk wz.1.bD.c0 wz.1.bD.c1 wz.1.bD.c2 wz.1.bD.c3)) cK.dR cK.gL cK.By cK.Order cK.Tree)).bind fun r79=>e7 nS (aK.mk (af.mk cK.H.aL) cK.Level cK.fh (eM.mk cK.eY.c0 cK.eY.c1 cK.eY.c2 cK.eY.c3) (aX.mk cK.Sat.At cK.Sat.Idle) (aN.mk cK.gj.cU cK.gj.Cut cK.gj.Path cK.gj.Left) cK.Path (aW.mk wz.1.Left (bu.mk wz.1.bW.c0 wz.1.bW.c1 wz.1.bW.c2 wz.1.bW.c3) (bu.mk wz.1.bD.c0 wz.1.bD.c1 wz.1.bD.c2 wz.1.bD.c3)) cK.dR cK.gL cK.By cK.Order cK.Tree) r79 else if decide (nS=1) then (kZ (aK.mk (af.mk cK.H.aL) cK.Level cK.fh (eM.mk cK.eY.c0 cK.eY.c1 cK.eY.c2 cK.eY.c3) (aX.mk cK.Sat.At cK.Sat.Idle) (aN.mk cK.gj.cU cK.gj.Cut cK.gj.Path cK.gj.Left) cK.Path (aW.mk wz.1.Left (bu.mk wz.1.bW.c0 wz.1.bW.c1 wz.1.bW.c2 wz.1.bW.c3) (bu.mk wz.1.bD.c0 wz.1.bD.c1 wz.1.bD.c2 wz.1.bD.c3)) cK.dR cK.gL cK.By cK.Order cK.Tree)).bind fun r81=>e7 nS r81.2 r81.1 else if decide (nS=2) then (oa (aK.mk (af.mk cK.H.aL) cK.Level cK.fh (eM.mk cK.eY.c0 cK.eY.c1 cK.eY.c2 cK.eY.c3) (aX.mk cK.Sat.At cK.Sat.Idle) (aN.mk cK.gj.cU cK.gj.Cut cK.gj.Path cK.gj.Left) cK.Path (aW.mk wz.1.Left (bu.mk wz.1.bW.c0 wz.1.bW.c1 wz.1.bW.c2 wz.1.bW.c3) (bu.mk wz.1.bD.c0 wz.1.bD.c1 wz.1.bD.c2 wz.1.bD.c3)) cK.dR cK.gL cK.By cK.Order cK.Tree)).bind fun r83=>e7 nS r83.2 r83.1 else if decide (nS=3) then (nF (aK.mk (af.mk cK.H.aL) cK.Level cK.fh (eM.mk cK.eY.c0 cK.eY.c1 cK.eY.c2 cK.eY.c3) (aX.mk cK.Sat.At cK.Sat.Idle) (aN.mk cK.gj.cU cK.gj.Cut cK.gj.Path cK.gj.Left) cK.Path (aW.mk wz.1.Left (bu.mk wz.1.bW.c0 wz.1.bW.c1 wz.1.bW.c2 wz.1.bW.c3) (bu.mk wz.1.bD.c0 wz.1.bD.c1 wz.1.bD.c2 wz.1.bD.c3)) cK.dR cK.gL cK.By cK.Order cK.Tree)).bind fun r85=>e7 nS r85.2 r85.1 else none
def G6(s48:aK):Option (aK):=some s48
def Dj(gf:Int)(QM:aK)(Uq:Int)(v73:Bool):Option ((aK×Int)⊕(aK)):=if v73 then aaN (G6 QM) else (pI gf QM).bind fun r75=>abo (r75,bM (Uq+1))
def Di(gf:Int)(r50:Int)(QM:aK)(Uq:Int):Option ((aK×Int)⊕(aK)):=if decide (Uq<r50) then (Sh.lim 4 gf).bind fun k76=>if Sh.q9 QM.eY.c0 QM.eY.c1 QM.eY.c2 QM.eY.c3 k76 then Dj gf QM Uq true else Dj gf QM Uq (decide (QM.gL≠0)) else aaN (G6 QM)
def Am(aT:aK)(gf:Int)(BE:Int)(Sw:Bool):Option (aK):=if Sw then some aT else (Cj (aW.mk aT.P.Left (bu.mk aT.P.bW.c0 aT.P.bW.c1 aT.P.bW.c2 aT.P.bW.c3) (bu.mk aT.P.bD.c0 aT.P.bD.c1 aT.P.bD.c2 aT.P.bD.c3)) gf BE).bind fun r50=>abt (fun(p:aK×Int)=>Di gf r50 p.1 p.2) ((aK.mk (af.mk aT.H.aL) aT.Level aT.fh (eM.mk aT.eY.c0 aT.eY.c1 aT.eY.c2 aT.eY.c3) (aX.mk aT.Sat.At aT.Sat.Idle) (aN.mk aT.gj.cU aT.gj.Cut aT.gj.Path aT.gj.Left) aT.Path (aW.mk aT.P.Left (bu.mk aT.P.bW.c0 aT.P.bW.c1 aT.P.bW.c2 aT.P.bW.c3) (bu.mk aT.P.bD.c0 aT.P.bD.c1 aT.P.bD.c2 aT.P.bD.c3)) (bM ((Sh.min aT.dR 2147483646)+1)) aT.gL aT.By aT.Order aT.Tree),0)
def Bh(aT:aK)(gf:Int)(BE:Int):Option (aK):=if decide (aT.gL≠0) then Am aT gf BE true else if decide (gf<0) then Am aT gf BE true else if decide ((4:Int)≤gf) then Am aT gf BE true else Am aT gf BE (decide (BE<1))
def ua(iA:az)(v7:Bool):Option (Bool):=if v7 then some (decide (iA.Fuel=0)) else if decide ((0:Int)≤iA.wB) then if decide (iA.wB<4) then if decide ((1:Int)≤iA.Fuel) then some (decide (iA.Fuel≤255)) else some false else some false else some false
def zi(iA:az):Option (Bool):=if decide (iA.wB=4) then ua iA (decide (iA.wB=4)) else ua iA (decide (iA.wB=5))
def Gp(an1:List az):Option ((List az)×Int):=some (an1,0)
def Gn(s58:List UInt8)(VN:List az):Option (((List UInt8)×(List az))⊕((List az)×Int)):=if !decide (s58=[]) then (aaV s58 0).bind fun x67=>(aaV s58 1).bind fun XT=>(zi (az.mk (bM ((x67).toNat:Int)) (bM ((XT).toNat:Int)))).bind fun r71=>if !r71 then aaN (some ([],2)) else (abz 16 VN ([(az.mk (bM ((x67).toNat:Int)) (bM ((XT).toNat:Int)))]:List az)).bind fun an8=>(Sh.sub s58 2 (arA s58)).bind fun ahX=>abo (ahX,an8) else aaN (Gp VN)
def rK(aT:List UInt8):Option ((List az)×Int):=(Sh.rem (arA aT) 2).bind fun q23=>if decide (q23=1) then some ([],16) else if decide ((4000:Int)<(arA aT)) then some ([],4) else abt (fun(p:(List UInt8)×(List az))=>Gn p.1 p.2) (aT,[])
def E9(pZ:Int):Option (Bool):=some (decide ((0:Int)<pZ))
def rJ(pZ:Int)(v36:Int)(VT:Int):Option ((Int×Int)⊕(Bool)):=if decide (VT=pZ) then aaN (some false) else abo (VT,bM (v36+1))
def Aw(bK:List az)(gf:Int)(pZ:Int)(aem:Int)(v36:Int):Option ((Int×Int)⊕(Bool)):=if decide (v36<(arA bK)) then (aaV bK v36).bind fun x43=>if decide (x43.wB=gf) then rJ pZ v36 0 else rJ pZ v36 (bM (aem+1)) else aaN (E9 pZ)
def Bj(bK:List az)(gf:Int)(pZ:Int):Option (Bool):=abt (fun(p:Int×Int)=>Aw bK gf pZ p.1 p.2) (0,0)
def Ix(ur:Int)(v8:Bool):Option ((Unit)⊕((Int×List az))):=if v8 then some (Sum.inl ()) else (Sh.chan ur).bind fun q11=>some (Sum.inr q11)
def Ck(ur:Int):Option ((Unit)⊕((Int×List az))):=if decide (ur<1) then Ix ur true else Ix ur (decide ((256:Int)<ur))
def oD(qP:az)(Ru:Int×List az):Option (Bool×Int×List az):=some (Sh.NV Ru qP)
def pV(Ru:Int×List az):Option (az×Bool×Int×List az):=some (let r:=Sh.Xh (⟨0,0⟩:az) Ru;(r.1.1,r.1.2,r.2))
def qU(vR:Int):Option ((Unit)⊕(Unit)):=if decide (vR=0) then some (Sum.inl ()) else some (Sum.inr ())
def AX(vK:List UInt8)(aB:Int)(GI:bC):Option (bY):=(uj vK).bind fun r7=>if decide (r7.2.2≠0) then none else (FG GI.Left GI.bW).bind fun DN=>if decide (DN.2≠0) then none else (Iy r7.1 aB DN.1).bind fun tX=>(qU tX.2).bind fun X6=>Sh.either X6 (fun X6=>some (bY.mk (aK.mk (af.mk tX.1.H.aL) tX.1.Level tX.1.fh (eM.mk tX.1.eY.c0 tX.1.eY.c1 tX.1.eY.c2 tX.1.eY.c3) (aX.mk tX.1.Sat.At tX.1.Sat.Idle) (aN.mk tX.1.gj.cU tX.1.gj.Cut tX.1.gj.Path tX.1.gj.Left) tX.1.Path (aW.mk tX.1.P.Left (bu.mk tX.1.P.bW.c0 tX.1.P.bW.c1 tX.1.P.bW.c2 tX.1.P.bW.c3) (bu.mk tX.1.P.bD.c0 tX.1.P.bD.c1 tX.1.P.bD.c2 tX.1.P.bD.c3)) tX.1.dR tX.1.gL tX.1.By tX.1.Order tX.1.Tree) []) ) (fun X6=>none )
def ye(aT:aK)(DN:Int)(rCertLevel13:Int)(rCertYes14:Bool)(rCertOrder15:List Int)(rCertRows16:List c_)(rCertTree17:List ai):Option (dD):=some (dD.mk aT.gL 0 0 aT.By aT.dR DN (eT.mk rCertLevel13 rCertYes14 rCertOrder15 rCertRows16 rCertTree17))
def y6(aT:aK):Option (dD):=(FF aT.P).bind fun DN=>if decide (aT.gL=1) then (Eb aT.H aT.Level aT.Order).bind fun wY=>ye aT DN wY.Level wY.Yes wY.Order wY.Rows wY.Tree else if decide (aT.gL=2) then (HK aT.Level aT.Tree).bind fun r21=>ye aT DN r21.Level r21.Yes r21.Order r21.Rows r21.Tree else ye aT DN 0 false [] [] []
def Dg:Option (Int):=some 0
def Df(bK:List az):Option ((Unit)⊕(Int)):=if decide ((0:Int)<(arA bK)) then none else aaN (Dg)
def FY(bK:List az):Option (Int):=abt (fun(p:Unit)=>Df bK) ()
def Dh(n47:Int)(v48:Int×List az):Option (Int×(Int×List az)):=some (n47,v48)
def pH(n64:Int)(cwaits75:Int×List az)(v76:Bool):Option (((Int×List az)×Int)⊕(Int×(Int×List az))):=if v76 then abo (cwaits75,bM (n64+1)) else aaN (Dh n64 cwaits75)
def pG(bK:List az)(cwaits63:Int×List az)(n64:Int):Option (((Int×List az)×Int)⊕(Int×(Int×List az))):=if decide (n64<(arA bK)) then (aaV bK n64).bind fun x79=>(oD x79 cwaits63).bind fun r81=>pH n64 r81.2 r81.1 else pH n64 cwaits63 false
def n4(bK:List az)(qN:Int×List az):Option (Int×(Int×List az)):=abt (fun(p:(Int×List az)×Int)=>pG bK p.1 p.2) (qN,0)
def nU(cM:bY):Option (Unit):=if !decide (cM.bytes=[]) then none else some ()
def zL(cM:bY):Option (Unit):=if decide (cM.bytes=[]) then none else some ()
def qT(c9:bY):Option (bY):=some c9
def uT(iA:az)(cK:bY):Option (bY):=if decide (iA.wB=4) then (zL cK).bind fun r12=>some cK else if decide (iA.wB=5) then (nU cK).bind fun X6=>some cK else if decide (cK.bytes=[]) then (Bh cK.s iA.wB iA.Fuel).bind fun AQ=>qT (bY.mk (aK.mk (af.mk AQ.H.aL) AQ.Level AQ.fh (eM.mk AQ.eY.c0 AQ.eY.c1 AQ.eY.c2 AQ.eY.c3) (aX.mk AQ.Sat.At AQ.Sat.Idle) (aN.mk AQ.gj.cU AQ.gj.Cut AQ.gj.Path AQ.gj.Left) AQ.Path (aW.mk AQ.P.Left (bu.mk AQ.P.bW.c0 AQ.P.bW.c1 AQ.P.bW.c2 AQ.P.bW.c3) (bu.mk AQ.P.bD.c0 AQ.P.bD.c1 AQ.P.bD.c2 AQ.P.bD.c3)) AQ.dR AQ.gL AQ.By AQ.Order AQ.Tree) cK.bytes) else qT cK
def kH(c52:bY)(Tt:List az)(qwaits54:Int×List az):Option ((bY×(List az)×(Int×List az))⊕(bY)):=(n4 Tt qwaits54).bind fun r57=>(Sh.sub Tt r57.1 (arA Tt)).bind fun ahV=>(pV r57.2).bind fun Kk=>if !Kk.2.1 then (nU c52).bind fun r66=>(qU 0).bind fun r67=>Sh.either r67 (fun r67=>aaN (some c52) ) (fun r67=>none ) else (uT Kk.1 c52).bind fun r69=>abo (r69,ahV,Kk.2.2)
def rZ(zf:List UInt8)(cK:bY):Option (bY):=(rK zf).bind fun r31=>if decide (r31.2≠0) then none else (Ck 256).bind fun EW=>Sh.either EW (fun EW=>none ) (fun EW=>abt (fun(p:bY×(List az)×(Int×List az))=>kH p.1 p.2.1 p.2.2) (cK,r31.1,EW) )
def zq(vK:List UInt8)(aB:Int)(GI:bC)(KF:List UInt8):Option (dD):=(AX vK aB GI).bind fun r5=>(rZ KF r5).bind fun r7=>(y6 r7.s).bind fun DN=>some DN
def mw(iA:a_)(v10:Bool):Option (Bool):=if v10 then some (decide (iA.Fuel=0)) else if decide ((0:Int)≤iA.wB) then if decide (iA.wB≤3) then if decide ((1:Int)≤iA.Fuel) then some (decide (iA.Fuel≤255)) else some false else some false else some false
def pe(iA:a_):Option (Bool):=if decide (iA.wB=4) then mw iA true else mw iA (decide (iA.wB=5))
def yQ(aab:List a_):Option ((List a_)×Int):=some (aab,0)
def kK(aT:List UInt8)(Rl:List a_)(i51:Int):Option (((List a_)×Int)⊕((List a_)×Int)):=if decide (i51<(arA aT)) then (aaV aT i51).bind fun x59=>(aaV aT (bM (i51+1))).bind fun x60=>(pe (a_.mk (bM ((x59).toNat:Int)) (bM ((x60).toNat:Int)))).bind fun r62=>if !r62 then aaN (some ([],2)) else (abz 16 Rl ([(a_.mk (bM ((x59).toNat:Int)) (bM ((x60).toNat:Int)))]:List a_)).bind fun LW=>abo (LW,bM (i51+2)) else aaN (yQ Rl)
def oz(aT:List UInt8):Option ((List a_)×Int):=(Sh.rem (arA aT) 2).bind fun q20=>if decide (q20≠0) then some ([],16) else if decide ((4000:Int)<(arA aT)) then some ([],4) else abt (fun(p:(List a_)×Int)=>kK aT p.1 p.2) ([],0)
def qn(Bf:Int)(Ry:Bool)(ac8:Int):Option (Bool):=if Ry then some (decide (ac8≤Bf)) else some false
def wm(LC:Int)(ac9:Int):Option ((Int×Int)⊕(Bool)):=abo (ac9,bM (LC+1))
def wo(LL:Int)(ZE:Int):Option ((Int×Int)⊕((Int×Int)⊕(Bool))):=abo (ZE,bM (LL+1))
def qo(NJ:Int)(ZF:Int):Option ((Int×Int)⊕((Int×Int)⊕((Int×Int)⊕(Bool)))):=abo (ZF,bM (NJ+1))
def mB(Kj:af×Int×Int)(LC:Int)(LL:Int)(LM:Int)(NJ:Int):Option ((Int×Int)⊕((Int×Int)⊕((Int×Int)⊕(Bool)))):=(aaV Kj.1.aL LC).bind fun apr=>if decide (NJ<(arA apr.bA)) then (aaV Kj.1.aL LL).bind fun aps=>(aaV Kj.1.aL LC).bind fun apt=>(aaV apt.bA NJ).bind fun apu=>(fM aps apu).bind fun aoF=>if aoF then qo NJ (bM (LM+1)) else qo NJ LM else aaN (wo LL LM)
def mA(Kj:af×Int×Int)(LC:Int)(Q8:Int)(LL:Int):Option ((Int×Int)⊕((Int×Int)⊕(Bool))):=if decide (LL<LC) then abt (fun(p:Int×Int)=>mB Kj LC LL p.1 p.2) (Q8,0) else aaN (wm LC Q8)
def mz(Bf:Int)(Kj:af×Int×Int)(Ry:Bool)(Vn:Int)(LC:Int):Option ((Int×Int)⊕(Bool)):=if decide (LC<(arA Kj.1.aL)) then abt (fun(p:Int×Int)=>mA Kj LC p.1 p.2) (Vn,0) else aaN (qn Bf Ry Vn)
def pg(vK:List UInt8)(PJ:Int)(Bf:Int):Option (Bool):=(lN vK).bind fun Kj=>if decide (Kj.2.2≠0) then some true else (sA Kj.1 PJ).bind fun Ry=>abt (fun(p:Int×Int)=>mz Bf Kj Ry p.1 p.2) (0,0)
def wq(wU:Int)(n25:Int):Option (Bool):=some (decide (n25≤wU))
def mC(wU:Int)(tX:(List a_)×Int)(n32:Int)(i33:Int):Option ((Int×Int)⊕(Bool)):=if decide (i33<(arA tX.1)) then (aaV tX.1 i33).bind fun x37=>abo (bM (n32+x37.Fuel),bM (i33+1)) else aaN (wq wU n32)
def pn(zf:List UInt8)(wU:Int):Option (Bool):=(oz zf).bind fun tX=>if decide (tX.2≠0) then some true else abt (fun(p:Int×Int)=>mC wU tX p.1 p.2) (0,0)
def pT:Option (bC):=some (bC.mk 2147483647 (bu.mk 2147483647 2147483647 2147483647 2147483647))
def sC:Option (Bool):=(pT).bind fun r8=>(zq ([98,101,103,105,110,32,48,10,98,101,103,105,110,32,49,10,114,101,97,100,32,48,32,50,32,48,10,114,101,97,100,32,49,32,50,32,48,10,119,114,105,116,101,32,48,32,50,32,55,10,119,114,105,116,101,32,49,32,50,32,56,10,99,111,109,109,105,116,32,48,10,99,111,109,109,105,116,32,49,10]:List UInt8) 1 r8 ([3,9]:List UInt8)).bind fun r9=>if decide (r9.gL=2) then if decide (r9.By=3) then some (decide ((arA r9.Cert.Tree)=3)) else some false else some false
def sW(er:bf)(Dy:Int)(v10:Bool):Option (Bool):=if v10 then some false else (pg er.Text 5 6).bind fun tX=>(pn er.dR Dy).bind fun X6=>if tX then some X6 else some false
def oA(er:bf)(Dy:Int):Option (Bool):=if decide ((1500:Int)<(arA er.Text)) then sW er Dy true else sW er Dy (decide ((600:Int)<(arA er.dR)))
def Ae(er:bf):Option (dD):=(zq er.Text er.Level er.B er.dR).bind fun r3=>some r3
def qq(dH:Int)(BL:Int)(v70:bf)(v84:Bool):Option (Bool):=if v84 then some true else (Ae v70).bind fun r87=>if decide (r87.gL=1) then some (decide (r87.dR≤(bM (dH*(bM (BL - 1)))))) else if decide (r87.gL=2) then some (decide (r87.dR≤(bM (dH*(bM (BL - 1)))))) else some false
def wv(dH:Int)(EX:(List az)×Int)(BL:Int)(v70:bf):Option (Bool):=(Bj EX.1 3 dH).bind fun r92=>if !r92 then qq dH BL v70 true else qq dH BL v70 (decide ((arA EX.1)<(bM (dH*(bM (BL - 1))))))
def jv(dH:Int)(EX:(List az)×Int)(BL:Int)(v70:bf)(i99:Int):Option ((Int)⊕(Bool)):=if decide (i99<(arA EX.1)) then (aaV EX.1 i99).bind fun ajc=>if decide ((4:Int)≤ajc.wB) then aaN (some true) else abo (bM (i99+1)) else aaN (wv dH EX BL v70)
def wu(dH:Int)(EX:(List az)×Int)(BL:Int)(v70:bf):Option (Bool):=abt (fun(p:Int)=>jv dH EX BL v70 p) 0
def qp(er:bf)(dH:Int)(L6:bC)(EX:(List az)×Int)(r63:(List aa))(VC:Int)(i111:Int):Option ((Int×Int)⊕(Bool)):=if decide (i111<(arA r63)) then abo (bM (2*VC),bM (i111+1)) else aaN (wu dH EX VC (bf.mk er.Text er.Level (bC.mk L6.Left (bu.mk L6.bW.c0 L6.bW.c1 L6.bW.c2 L6.bW.c3)) er.dR))
def c5(er:bf)(dH:Int)(L6:bC)(EX:(List az)×Int)(D3:af×Int×Int)(v60:Bool):Option (Bool):=if v60 then some true else (o_ D3.1).bind fun r63=>if decide ((3:Int)<(arA r63)) then some true else abt (fun(p:Int×Int)=>qp er dH L6 EX r63 p.1 p.2) (2,0)
def lP(er:bf)(dH:Int):Option (Bool):=(sC).bind fun r35=>if !r35 then some false else (pT).bind fun L6=>(oA (bf.mk er.Text er.Level (bC.mk L6.Left (bu.mk L6.bW.c0 L6.bW.c1 L6.bW.c2 L6.bW.c3)) er.dR) 400).bind fun G4=>(rK er.dR).bind fun EX=>(uj er.Text).bind fun D3=>if !G4 then c5 er dH L6 EX D3 true else if decide (EX.2≠0) then c5 er dH L6 EX D3 true else if decide (D3.2.2≠0) then c5 er dH L6 EX D3 true else if decide (er.Level≠0) then if decide (er.Level≠1) then c5 er dH L6 EX D3 true else if decide (dH<1) then c5 er dH L6 EX D3 true else c5 er dH L6 EX D3 (decide ((100:Int)<dH)) else if decide (dH<1) then c5 er dH L6 EX D3 true else c5 er dH L6 EX D3 (decide ((100:Int)<dH))
end G
end