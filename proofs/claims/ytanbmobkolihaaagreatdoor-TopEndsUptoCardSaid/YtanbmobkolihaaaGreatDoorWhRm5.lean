/- Functions do as their plain ones. -/
import Derived.Test.YtanbmobkolihaaaGreatDoorWhRm3
open List renaming map→ajN
set_option linter.unusedVariables false
section
open Go Go.Av Go.Proofs G Go.Sh Go.Av.Sh
set_option maxHeartbeats 8000000
set_option maxRecDepth 20000
attribute [local irreducible] eX fG oJ FR IY
namespace Wk
section
open Sg
instance {er MN yT Cz}:bh (tN er MN yT Cz) 416 [b9.av er,af.av MN,J yT,J Cz] (fun r=>bl r):=k1 Tryz.func416 27 [d,h,1,w [2,3,5] (If 0 [0]),R (fl 19 [] []),4,G [11,12] [3,d,5,d,5,k [8],x 0] [15,k [8],x 0]]
instance {OV jB nP zn}:bh (mJ OV jB nP zn) 379 [.ifc 492 (b9.av OV),.pp [sm aJ.av jB.aL] 0,.pp [J nP] 0,.pp [J zn] 0] (fun r=>bl r):=k1 Tryz.func379 11 [1,k [0,1,2,3],4,d,1,k [5],x 0]
instance {Xo jB}:bh (uV Xo jB) 418 [aO.av Xo,.pp [J jB] 0] (fun r=>bl r):=k1 Tryz.func418 8 [h,1,w [1,2] (If 0 [0]),5,k [3],x 0]
instance {aT sg}:bh (ez aT sg) 375 [sm aO.av aT,.fH (.func 418) [.pp [J sg] 0]] (fun r=>J r):=k1 Tryz.func375 19 [1,k [0,1],j [] (I 0) (fun _:Unit=>[]) [1,d,1,k [0,1,7,8],L [0,1,7] (I 0) (fun p:Int=>[.s 8 [] (J p)]) 0 [1,n,cd [k [0,1,7,8],2,k [0,1,7,8,5],3,d,1,d,k [0,1,7,8,5,16],cd [2,k [4],x 0] [k [0,1,7,8],2,x 0]] [x 0]]] [1,n,x 0]]
instance {aT sg}:bh (dW aT sg) 362 [sm aO.av aT,.fH (.func 418) [.pp [J sg] 0]] (fun r=>bl r):=k1 Tryz.func362 9 [1,k [0,1],2,d,2,k [4],x 0]
instance {er MN yT Cz}:bh (y_ er MN yT Cz) 417 [dG.av er,af.av MN,J yT,J Cz] (fun r=>bl r):=k1 Tryz.func417 17 [d,h,h,1,w [3,5,6] (If 0 [0,1]),3,d,2,d,d,1,k [8],x 0]
instance {OV jB nP zn}:bh (oT OV jB nP zn) 379 [.ifc 493 (dG.av OV),.pp [sm aJ.av jB.aL] 0,.pp [J nP] 0,.pp [J zn] 0] (fun r=>bl r):=k1 Tryz.func379 11 [1,k [0,1,2,3],4,d,1,k [5],x 0]
instance {aV t_1 ED}:bh (uA aV t_1 ED) 422 [af.av aV,J t_1,J ED] (fun r=>bl r):=k1 Tryz.func422 15 [h,1,w [1,2,3] (If 0 [0]),3,d,3,d,1,k [6],x 0]
instance {cM jB nP zn}:bh (mU cM jB nP zn) 421 [aa.av cM,.pp [J jB] 0,.pp [J nP] 0,.pp [sm aJ.av zn.aL] 0] (fun r=>bl r):=k1 Tryz.func421 35 [h,1,w [1,2,3,4] (If 0 [0]),5,G [9,10] [6,G [14,15,16] [5,G [20,21] [4,d,2,G [26,27,28] [4,d,2,k [5],x 0] [7,k [5],x 0]] [14,k [5],x 0]] [19,k [5],x 0]] [25,k [5],x 0]]
instance {aT sg AO mV}:bh (c7 aT sg AO mV) 423 [sm aa.av aT,.fH (.func 421) [.pp [J sg] 0,.pp [J AO] 0,.pp [sm aJ.av mV.aL] 0]] (fun r=>J r):=k1 Tryz.func423 19 [1,k [0,1],j [] (I 0) (fun _:Unit=>[]) [1,d,1,k [0,1,7,8],L [0,1,7] (I 0) (fun p:Int=>[.s 8 [] (J p)]) 0 [1,n,cd [k [0,1,7,8],2,k [0,1,7,8,5],3,d,1,d,k [0,1,7,8,5,16],cd [2,k [4],x 0] [k [0,1,7,8],2,x 0]] [x 0]]] [1,n,x 0]]
instance {aT sg AO mV}:bh (cN aT sg AO mV) 420 [sm aa.av aT,.fH (.func 421) [.pp [J sg] 0,.pp [J AO] 0,.pp [sm aJ.av mV.aL] 0]] (fun r=>bl r):=k1 Tryz.func420 9 [1,k [0,1],2,d,2,k [4],x 0]
instance {bK MN yT Cz}:bh (tO bK MN yT Cz) 419 [sm aa.av bK,af.av MN,J yT,J Cz] (fun r=>bl r):=k1 Tryz.func419 12 [h,h,h,1,w [0,5,6,7] (If 0 [0,1,2]),1,d,d,1,k [8],x 0]
instance {OV jB nP zn}:bh (mK OV jB nP zn) 379 [.ifc 494 (sm aa.av OV),.pp [sm aJ.av jB.aL] 0,.pp [J nP] 0,.pp [J zn] 0] (fun r=>bl r):=k1 Tryz.func379 11 [1,k [0,1,2,3],4,d,1,k [5],x 0]
instance {aT zg BY mV YO YP}:bh (dL aT zg BY mV YO YP) 381 [.clip [.ifc 492 (b9.av aT),.ifc 493 (dG.av zg),.ifc 494 (sm aa.av BY)],.fH (.func 379) [.pp [sm aJ.av mV.aL] 0,.pp [J YO] 0,.pp [J YP] 0]] (fun r=>J r):=k1 Tryz.func381 19 [1,k [0,1],j [] (I 0) (fun _:Unit=>[]) [1,d,1,k [0,1,7,8],U 4,k [0,1,7,8],1,n,ct,k [0,1,7,8],2,k [0,1,7,8,5],3,d,1,d,k [0,1,7,8,5,16],cd [2,k [4],x 0] [k [0,1,7,8],2,k [0,1,7,8],1,n,ct,k [0,1,7,8],2,k [0,1,7,8,5],3,d,1,d,k [0,1,7,8,5,16],cd [2,k [4],x 0] [k [0,1,7,8],2,k [0,1,7,8],1,n,ct,k [0,1,7,8],2,k [0,1,7,8,5],3,d,1,d,k [0,1,7,8,5,16],cd [2,k [4],x 0] [k [0,1,7,8],2,k [0,1,7,8],1,n,cf,x 0]]]] [1,n,x 0]]
instance {aT zg BY mV YO YP}:bh (dn aT zg BY mV YO YP) 378 [.clip [.ifc 492 (b9.av aT),.ifc 493 (dG.av zg),.ifc 494 (sm aa.av BY)],.fH (.func 379) [.pp [sm aJ.av mV.aL] 0,.pp [J YO] 0,.pp [J YP] 0]] (fun r=>bl r):=k1 Tryz.func378 9 [1,k [0,1],2,d,2,k [4],x 0]
instance {aV Na Nb nB A7 A8}:bh (yh aV Na Nb nB A7 A8) 374 [af.av aV,J Na,J Nb,.clip [.ifc 492 (b9.av nB),.ifc 493 (dG.av A7),.ifc 494 (sm aa.av A8)]] (fun r=>bl r):=k1 Tryz.func374 30 [h,h,h,1,w [3,4,5,6] (If 0 [0,1,2]),q,j [3,4,5,6] (I 0) (fun p:Bool=>[.s 26 [] (bl p)]) [1,d,2,G [11,12] [14,x 0] [2,d,3,G [17,18] [8,x 0] [2,d,2,d,2,x 0]]] [cd [1,k [8],x 0] [k [3,4,5,6],1,d,d,1,k [8],x 0]]]
instance {aV qN yT Cz}:bh (qW aV qN yT Cz) 359 [af.av aV,sm aa.av qN,J yT,J Cz] (fun r=>bl r):=k1 Tryz.func359 20 [h,1,w [1,2,3,4] (If 0 [0]),3,d,d,d,d,1,d,d,d,1,k [8],x 0]
instance {Xo jB nP zn}:bh (qy Xo jB nP zn) 425 [aO.av Xo,.pp [sm aJ.av jB.aL] 0,.pp [J nP] 0,.pp [sm aa.av zn] 0] (fun r=>bl r):=k1 Tryz.func425 32 [h,1,w [1,2,3,4] (If 0 [0]),4,d,1,G [11] [4,G [14,15] [17,k [5],x 0] [5,G [20] [6,d,d,4,k [5],x 0] [12,k [5],x 0]]] [21,k [5],x 0]]
instance {aT sg AO mV}:bh (ey aT sg AO mV) 375 [sm aO.av aT,.fH (.func 425) [.pp [sm aJ.av sg.aL] 0,.pp [J AO] 0,.pp [sm aa.av mV] 0]] (fun r=>J r):=k1 Tryz.func375 19 [1,k [0,1],j [] (I 0) (fun _:Unit=>[]) [1,d,1,k [0,1,7,8],L [0,1,7] (I 0) (fun p:Int=>[.s 8 [] (J p)]) 0 [1,n,cd [k [0,1,7,8],2,k [0,1,7,8,5],3,d,1,d,k [0,1,7,8,5,16],cd [2,k [4],x 0] [k [0,1,7,8],2,x 0]] [x 0]]] [1,n,x 0]]
instance {aT sg AO mV}:bh (dV aT sg AO mV) 362 [sm aO.av aT,.fH (.func 425) [.pp [sm aJ.av sg.aL] 0,.pp [J AO] 0,.pp [sm aa.av mV] 0]] (fun r=>bl r):=k1 Tryz.func362 9 [1,k [0,1],2,d,2,k [4],x 0]
instance {bK MN yT Cz}:bh (y9 bK MN yT Cz) 424 [sm aa.av bK,af.av MN,J yT,J Cz] (fun r=>bl r):=k1 Tryz.func424 22 [h,h,h,1,w [2,4,5,7] (If 0 [0,1,2]),4,G [11,12] [3,d,2,d,d,2,k [8],x 0] [10,k [8],x 0]]
instance {OV jB nP zn}:bh (oS OV jB nP zn) 379 [.ifc 495 (sm aa.av OV),.pp [sm aJ.av jB.aL] 0,.pp [J nP] 0,.pp [J zn] 0] (fun r=>bl r):=k1 Tryz.func379 11 [1,k [0,1,2,3],4,d,1,k [5],x 0]
instance {aT sg AO mV}:bh (dK aT sg AO mV) 381 [.clip [.ifc 495 (sm aa.av aT)],.fH (.func 379) [.pp [sm aJ.av sg.aL] 0,.pp [J AO] 0,.pp [J mV] 0]] (fun r=>J r):=k1 Tryz.func381 19 [1,k [0,1],j [] (I 0) (fun _:Unit=>[]) [1,d,1,k [0,1,7,8],U 2,k [0,1,7,8],1,n,ct,k [0,1,7,8],2,k [0,1,7,8,5],3,d,1,d,k [0,1,7,8,5,16],cd [2,k [4],x 0] [k [0,1,7,8],2,k [0,1,7,8],1,n,cf,x 0]] [1,n,x 0]]
instance {aT sg AO mV}:bh (dm aT sg AO mV) 378 [.clip [.ifc 495 (sm aa.av aT)],.fH (.func 379) [.pp [sm aJ.av sg.aL] 0,.pp [J AO] 0,.pp [J mV] 0]] (fun r=>bl r):=k1 Tryz.func378 9 [1,k [0,1],2,d,2,k [4],x 0]
instance {aV Na Nb nB}:bh (yg aV Na Nb nB) 374 [af.av aV,J Na,J Nb,.clip [.ifc 495 (sm aa.av nB)]] (fun r=>bl r):=k1 Tryz.func374 30 [h,h,h,1,w [3,4,5,6] (If 0 [0,1,2]),q,j [3,4,5,6] (I 0) (fun p:Bool=>[.s 26 [] (bl p)]) [1,d,2,G [11,12] [14,x 0] [2,d,3,G [17,18] [8,x 0] [2,d,2,d,2,x 0]]] [cd [1,k [8],x 0] [k [3,4,5,6],1,d,d,1,k [8],x 0]]]
instance {aV qN yT Cz}:bh (B8 aV qN yT Cz) 361 [af.av aV,sm aa.av qN,J yT,J Cz] (fun r=>bl r):=k1 Tryz.func361 16 [h,1,w [1,2,3,4] (If 0 [0]),4,d,d,d,1,k [8],x 0]
instance {aV aB c8 JM y_4}:bh (Kw aV aB c8 JM y_4) 340 [af.av aV,J aB,sm aa.av c8,J JM,J y_4] (fun r=>bl r):=k1 Tryz.func340 53 [h,1,w [1,2,3,4,5] (If 0 [0]),j [] (I 0) (fun _:Unit=>[]) [1,k [2,3,4,5,12],2,k [2,3,4,5,12,13],cd [4,d,1,G [20] [7,k [10],x 0] [4,d,2,k [10],x 0]] [2,k [2,3,4,5,27],cd [2,d,1,n,L [2,3,4,5,31] (I 0) (fun p:Int=>[.s 32 [] (J p)]) 0 [1,n,cd [k [2,3,4,5,31,32],2,k [2,3,4,5,31,32,11],j [2,3,4,5,31,32] (I 0) (fun p:Bool=>[.s 51 [] (bl p)]) [4,d,1,G [40] [4,G [43,44] [7,x 0] [4,d,2,x 0]] [11,x 0]] [cd [1,k [10],x 0] [k [2,3,4,5,31,32],2,x 0]]] [x 0]]] [x 0]]] [1,n,x 0]]
instance {aV aB c8 Co}:bh (zN aV aB c8 Co) 303 [af.av aV,J aB,sm aa.av c8,sm J Co] (fun r=>bl r):=k1 Tryz.func303 43 [h,1,w [1,2,3,4] (If 0 [0]),j [3] (I 0) (fun _:Unit=>[]) [1,d,1,n,L [1,2,3,4,11,12] (I 0) (fun p:Int=>[.s 13 [] (J p)]) 0 [1,n,cd [k [1,2,3,4,11,12,13],1,d,3,k [1,2,3,4,11,12,13,9,10],j [1,2,3,4,11,12,13] (I 0) (fun p:Bool=>[.s 38 [] (bl p)]) [R (fl 21 [] []),2,d,1,d,1,G [23] [15,x 0] [8,d,d,d,1,d,2,x 0]] [cd [1,k [8],x 0] [k [1,2,3,4,11,12,13],2,x 0]]] [x 0]]] [1,d,2,k [8],x 0]]
instance {bK}:iQ (iT bK) 173 [sm au.av bK] (fun r=>.view 0 0 (ajN aa.av r).length) (fun r=>⟨1,[(0,(3,ajN aa.av r))],[]⟩):=k2 Tryz.func173 19 [1,k [0],1,n,j [] (Mg [] 1) (fun p:(List aa)=>[.s 3 [] (.view 0 0 (ajN aa.av p).length),.o 0 3 (ajN aa.av p)]) [1,d,1,k [3,6,7,8],l [6,7] (Mg [] 1) (fun p:(List aa)×Int=>[.s 3 [] (.view 0 0 (ajN aa.av p.1).length),.s 8 [] (J p.2),.o 0 3 (ajN aa.av p.1)]) [] [0] [1,n,cd [k [3,6,7,8],d,1,h,h,w [3,6,7,8,5] (If 1 [1]),3,d,h,1,w [6,7,8,3] (Mg [(0,1)] 1),2,x 1] [x 1]]] [2,k [2],x 1]]
end
instance {bK}:bh (iT bK) 173 [sm au.av bK] (fun r=>sm aa.av r):=g1
section
open Sg
instance {aV aB}:bh (Ej aV aB) 255 [af.av aV,J aB] (fun r=>bl r):=k1 Tryz.func255 15 [h,1,w [1,2] (If 0 [0]),1,d,1,G [7] [3,G [10] [5,k [4],x 0] [5,k [4],x 0]] [8,k [4],x 0]]
instance {kN jB nP}:bh (oo kN jB nP) 331 [J kN,.pp [sm aJ.av jB.aL] 0,.pp [J nP.Key,J nP.A,J nP.B] 0] (fun r=>bl r):=k1 Tryz.func331 25 [1,k [0,1,2],R (fl 21 [] []),3,G [7] [3,d,3,G [13,14] [3,d,4,d,2,k [4],x 0] [11,k [4],x 0]] [18,k [4],x 0]]
instance {aV cK}:bh (A0 aV cK) 277 [af.av aV,aa.av cK] (fun r=>bl r):=k1 Tryz.func277 24 [h,h,1,w [2,3] (If 0 [0,1]),d,1,k [3,5],6,G [12] [3,d,2,G [18] [3,d,2,k [4],x 0] [6,k [4],x 0]] [12,k [4],x 0]]
instance {er}:bh (si er) 332 [dz.av er] (fun r=>bl r):=k1 Tryz.func332 26 [h,1,w [1] (If 0 [0]),5,G [6,7] [6,G [11,12,13] [10,d,2,k [2],x 0] [13,k [2],x 0]] [19,k [2],x 0]]
instance {er}:bh (qA er) 333 [dz.av er] (fun r=>bl r):=k1 Tryz.func333 67 [h,1,w [1] (If 0 [0]),q,j [1] (I 0) (fun p:Bool=>[.s 25 [] (bl p)]) [6,d,2,G [13] [12,x 0] [6,d,2,d,2,x 0]] [cd [1,k [2],x 0] [k [1],B (fun Sx:au=>[B (fun x21:au=>[W [1] (I 0) [.s 3 [] (.pp [J Sx.C.Key,J Sx.C.A,J Sx.C.B] 0),.s 4 [] (.pp [J x21.C.Key,J x21.C.A,J x21.C.B] 0)] [F (fl 20 [] [16,17,18,19]) 16,5,d,7,d,2,s,k [16,17],y 0 [h,k [17],h,k [18],h,k [19],h,n,x 0] [h,k [16],h,k [18],h,k [19],h,n,x 0]] [6,G [47] [7,G [53,54] [9,d,d,2,k [2],x 0] [13,k [2],x 0]] [20,k [2],x 0]]])])]]]
instance {er}:bh (tP er) 334 [dz.av er] (fun r=>bl r):=k1 Tryz.func334 66 [h,1,w [1] (If 0 [0]),q,j [1] (I 0) (fun p:Bool=>[.s 33 [] (bl p)]) [5,G [7,8] [25,x 0] [10,G [18] [15,x 0] [6,G [24] [9,x 0] [6,d,2,x 0]]]] [cd [1,k [2],x 0] [k [1],R (fl 20 [] []),6,d,10,d,d,1,k [1,3],2,G [3,53,54] [9,d,2,k [2],x 0] [12,k [2],x 0]]]]
instance {er}:bh (qz er) 335 [dz.av er] (fun r=>bl r):=k1 Tryz.func335 43 [h,1,w [1] (If 0 [0]),R (fl 19 [] [2,17]),2,h,12,d,d,h,1,w [1,3] ⟨[],0,[],[],[1]⟩,5,G [25,26] [6,G [30,31,32] [8,d,2,k [2],x 0] [11,k [2],x 0]] [17,k [2],x 0]]
instance:iO (zb) 0 278 [] .empty (fun _=>.clip [.agg [J 1,.fH (.func 332) []],.agg [J 2,.fH (.func 333) []],.agg [J 3,.fH (.func 334) []],.agg [J 4,.fH (.func 335) []]]) (fun _=>.empty):=k3 Tryz.func278 6 [1,k [],d,d,d,d,d,1,k [0],x 0]
end
instance:bh (zb) 278 [] (fun _=>.clip [.agg [J 1,.fH (.func 332) []],.agg [J 2,.fH (.func 333) []],.agg [J 3,.fH (.func 334) []],.agg [J 4,.fH (.func 335) []]]):=c1
section
open Sg
instance {aV aB c8 mV}:bh (uh aV aB c8 mV) 229 [af.av aV,J aB,sm au.av c8,au.av mV] (fun r=>bl r):=k1 Tryz.func229 53 [h,h,1,w [1,2,4,7] (If 0 [0,1]),q,j [1,2,4,7] (I 0) (fun p:Bool=>[.s 32 [] (bl p)]) [2,d,2,G [14,15] [17,x 0] [3,d,3,G [22] [10,x 0] [4,G [25,26] [2,d,3,x 0] [6,x 0]]]] [cd [1,k [8],x 0] [k [1,2,4,7],j [] (I 0) (fun _:Unit=>[]) [d,d,1,n,U 5,k [1,2,4,7,33,34,35],1,n,ct,k [1,2,4,7,33,34,35],d,1,h,h,w [1,2,4,7,33,34,35,10] (If 0 [0]),5,k [1,2,4,7,33,34,35,10,43],cd [6,d,d,1,k [8],x 0] [k [1,2,4,7,33,34,35],2,k [1,2,4,7,33,34,35],1,n,ct,k [1,2,4,7,33,34,35],d,1,h,h,w [1,2,4,7,33,34,35,10] (If 0 [0]),5,k [1,2,4,7,33,34,35,10,43],cd [6,d,d,1,k [8],x 0] [k [1,2,4,7,33,34,35],2,k [1,2,4,7,33,34,35],1,n,ct,k [1,2,4,7,33,34,35],d,1,h,h,w [1,2,4,7,33,34,35,10] (If 0 [0]),5,k [1,2,4,7,33,34,35,10,43],cd [6,d,d,1,k [8],x 0] [k [1,2,4,7,33,34,35],2,k [1,2,4,7,33,34,35],1,n,ct,k [1,2,4,7,33,34,35],d,1,h,h,w [1,2,4,7,33,34,35,10] (If 0 [0]),5,k [1,2,4,7,33,34,35,10,43],cd [6,d,d,1,k [8],x 0] [k [1,2,4,7,33,34,35],2,k [1,2,4,7,33,34,35],1,n,cf,x 0]]]]] [1,n,x 0]]]]
instance {aV aB c8}:bh (uD aV aB c8) 216 [af.av aV,J aB,sm au.av c8] (fun r=>bl r):=k1 Tryz.func216 28 [h,1,w [1,2,3] (If 0 [0]),j [1,3] (I 0) (fun _:Unit=>[]) [1,d,1,n,L [1,2,3,9,10] (I 0) (fun p:Int=>[.s 11 [] (J p)]) 0 [1,n,cd [k [1,2,3,9,10,11],1,d,1,h,1,h,w [1,2,3,9,10,11,8,7] (If 0 [0]),R (fl 8 [] []),4,d,1,d,1,k [1,2,3,9,10,11,23],cd [1,k [6],x 0] [k [1,2,3,9,10,11],2,x 0]] [x 0]]] [2,d,1,k [6],x 0]]
end
theorem s_{W0:World}(hT:yW W0){qP:BitVec 64}{r:Int}(h:fA qP=some r):CD Tryz.prog W0 356 [u64 qP] (J r) .empty:=by
 refine lu Tryz.func356 Z (by kernel_rfl) Tryz.ntmps356 (by simp) ?_;unfold fA at h;show iD _ _ _ _ ⟨[(0,u64 qP)],.empty⟩ _;refine jD lD 1 [0] Z ?_;refine cm fun K2 IZ=>sr Z fun K3 CX=>O Z<|E (r:=bl (decide (qP=0#64))) Z (Ni (a:=qP) (b:=0#64) Z Z Z)<|Nd CX [0,4] Z ?_;refine oh Z h (fun h=> ?_) (fun h=> ?_)
 ·refine jD lD 1 [2] Z ?_;refine fJ ?_;obtain rfl:=D h;exact⟨.inr Z,J 64,Z,b8.e ⟨.k,trivial⟩⟩
 ·refine fU<|IZ _ (Y (U [0] Z) ?_);refine sr Z fun K5 MC=>O Z<|O Z<|E (r:=u64 (-qP)) Z (Nl Z Z)<|V [5,7] Z<|E (r:=u64 (qP&&&(-qP))) Z (UF (a:=qP) (b:= -qP) Z Z Z)<|E (r:=u64 ((qP&&&(-qP))*285870213051353865#64)) Z (Nk (a:=qP&&&(-qP)) (b:=285870213051353865#64) Z Z Z) ?_;obtain⟨s8,hs8,h⟩:=b5 h;refine E (r:=u64 s8) Z (af0 hs8 Z Z Z)<|V [10] Z ?_;obtain⟨x9,hx9,h⟩:=b5 h;obtain⟨k10,asd,amD⟩:=jo hx9;refine E Z (PF asd amD Z Z ae2 hT.1)<|E (r:=kA .u8 x9) Z (mO Z Z sz5 (aez amD))<|E (r:=J (bM x9)) Z (KQ Z Z Tryz.underlying5 Tryz.underlying3 Z)<|iJ lD MC 1 [2] Z ?_;refine fJ ?_;obtain rfl:=D h;exact⟨.inr Z,J (bM x9),Z,b8.e ⟨.k,trivial⟩⟩
instance {qP}:iQ (fA qP) 356 [u64 qP] (fun r=>J r) (fun _=>.empty):=⟨fun _ _ hT h=>s_ hT h⟩
theorem B6{W0:World}(hT:yW W0){qP:BitVec 64}{r:Int}(h:fA qP=some r):oQ Tryz.prog W0 356 [u64 qP] (J r):=oQ.two (s_ hT h) (by simp)
instance {qP}:bh (fA qP) 356 [u64 qP] (fun r=>J r):=⟨fun _ _ hT h=>B6 hT h⟩
section
open Sg
instance {er Bx}:bh (G.zF er Bx) 321 [u64 er,u64 Bx] (fun r=>bl r):=k1 Tryz.func321 9 [1,k [0,1],2,d,d,1,k [4],x 0]
instance {bK}:bh (G.p6 bK) 353 [sm u64 bK] (fun r=>u64 r):=k1 Tryz.func353 17 [1,k [0],1,n,j [] (I 0) (fun p:(BitVec 64)=>[.s 3 [] (u64 p)]) [1,d,1,k [3,6,7,8],L [6,7] (I 0) (fun p:(BitVec 64)×Int=>[.s 3 [] (u64 p.1),.s 8 [] (J p.2)]) 0 [1,n,cd [k [3,6,7,8],d,2,k [3,6,7,8,5],2,d,1,k [6,7,8,3],2,x 0] [x 0]]] [2,k [2],x 0]]
instance {Sr}:bh (G.zG Sr) 357 [J Sr] (fun r=>u64 r):=k1 Tryz.func357 11 [1,k [0],q,j [0] (I 0) (fun p:Bool=>[.s 8 [] (bl p)]) [3,G [5] [3,x 0] [3,x 0]] [cd [1,k [2],x 0] [k [0],1,d,1,k [2],x 0]]]
instance {aT vU}:bh (G.p7 aT vU) 322 [u64 aT,J vU] (fun r=>u64 r):=k1 Tryz.func322 9 [1,k [0,1],2,d,d,1,k [4],x 0]
instance {aT}:iQ (G.lB aT) 319 [u64 aT] (fun r=>.view 0 0 (ajN J r).length) (fun r=>⟨1,[(0,(1,ajN J r))],[]⟩):=k2 Tryz.func319 16 [1,k [0],1,n,j [] (Mg [] 1) (fun p:(List Int)=>[.s 3 [] (.view 0 0 (ajN J p).length),.o 0 1 (ajN J p)]) [l [] (Mg [] 1) (fun p:(BitVec 64)×(List Int)=>[.s 0 [] (u64 p.1),.s 3 [] (.view 0 0 (ajN J p.2).length),.o 0 1 (ajN J p.2)]) [] [0] [1,d,k [0,3,5],cd [k [0,3],2,d,d,h,1,w [0,3] (Mg [(0,1)] 1),2,d,d,1,x 1] [x 1]]] [2,k [2],x 1]]
end
instance {aT}:bh (G.lB aT) 319 [u64 aT] (fun r=>sm J r):=g1
section
open Sg
instance {aT vU}:bh (G.xF aT vU) 320 [u64 aT,J vU] (fun r=>bl r):=k1 Tryz.func320 10 [1,k [0,1],2,d,d,d,1,k [4],x 0]
instance {xu}:iQ (G.fK xu) 348 [J xu] (fun r=>.tuple [.agg [J r.1.N,.view 0 0 (ajN u64 r.1.Rows).length],J r.2]) (fun r=>⟨1,[(0,(1,ajN u64 r.1.Rows))],[]⟩):=k2 Tryz.func348 15 [h,1,k [0,2],q,j [0,2] (I 1) (fun p:Bool=>[.s 9 [] (bl p)]) [3,G [6] [3,x 1] [3,x 1]] [cd [d,h,1,k [2,3],X [] [0]] [k [0,2],2,h,d,h,1,k [2,3],X [(0,1)] []]]]
end
instance {xu}:bh (G.fK xu) 348 [J xu] (fun r=>.tuple [aj.av r.1,J r.2]):=g1
section
open Sg
instance {xu}:bh (Et xu) 373 [J xu] (fun r=>u64 r):=k1 Tryz.func373 6 [1,k [0],1,d,d,1,k [2],x 0]
instance {mY}:bh (G.jc mY) 354 [aj.av mY] (fun r=>bl r):=k1 Tryz.func354 28 [h,1,w [1] (If 0 [0]),R (fl 26 [] []),4,G [5,6] [5,G [11] [2,d,5,G [17,18,19] [2,d,2,d,d,2,k [2],x 0] [9,k [2],x 0]] [17,k [2],x 0]] [22,k [2],x 0]]
instance {er Bx}:bh (z6 er Bx) 352 [aj.av er,aj.av Bx] (fun r=>bl r):=k1 Tryz.func352 18 [h,h,1,w [2,3] (If 0 [0,1]),1,d,1,G [7] [1,d,2,G [10,11] [7,k [4],x 0] [7,k [4],x 0]] [11,k [4],x 0]]
instance {er Bx}:iQ (G.lz er Bx) 345 [aj.av er,aj.av Bx] (fun r=>.tuple [.agg [J r.1.N,.view 0 0 (ajN u64 r.1.Rows).length],J r.2]) (fun r=>⟨1,[(0,(1,ajN u64 r.1.Rows))],[]⟩):=k2 Tryz.func345 45 [h,h,h,1,w [2,3,4] (Mf [(0,2)] 1 [0,1]),2,d,1,k [2,3,4,12],cd [d,h,1,k [4,5],X [] [0]] [k [2,3,4],2,h,3,h,h,1,w [2,3,4,6,7] (Mo [(0,0),(1,2),(2,1)] 3 [1]),j [4,6,7] (Io 3 [1]) (fun p:(List (BitVec 64))=>[.c 1 [1] (.view 2 0 (ajN u64 p).length),.o 2 1 (ajN u64 p)]) [2,v,1,n,L [2,3,4,6,7,22] (Io 3 [1]) (fun p:(List (BitVec 64))×Int=>[.s 23 [] (J p.2),.c 1 [1] (.view 2 0 (ajN u64 p.1).length),.o 2 1 (ajN u64 p.1)]) 3 [1,n,cd [k [2,3,4,6,7,22,23],2,k [2,3,4,6,7,22,23,8],R (fl 17 [0,1,15] [16]),v,v,4,d,4,d,1,d,d,v,h,k [2,3,4,6,7,22,23],2,x 3] [x 3]]] [2,h,1,w [4,5] (Mo [(0,0),(1,2)] 2 [0]),X [(0,1)] []]]]
end
instance {er Bx}:bh (G.lz er Bx) 345 [aj.av er,aj.av Bx] (fun r=>.tuple [aj.av r.1,J r.2]):=g1
section
open Sg
instance {mY jB GI}:iQ (G.ot mY jB GI) 349 [aj.av mY,J jB,J GI] (fun r=>.tuple [.agg [J r.1.N,.view 0 0 (ajN u64 r.1.Rows).length],J r.2]) (fun r=>⟨1,[(0,(1,ajN u64 r.1.Rows))],[]⟩):=k2 Tryz.func349 58 [h,h,1,w [1,2,3,6] (Mf [(0,1)] 1 [0]),q,j [1,2,3,6] (I 1) (fun p:Bool=>[.s 32 [] (bl p)]) [1,d,2,G [12,13] [19,x 1] [4,G [15,16,17] [15,x 1] [6,G [21,22,23] [9,x 1] [4,G [27] [5,x 1] [5,x 1]]]]] [cd [d,h,1,k [6,7],X [] [0]] [k [1,2,3,6],2,h,3,h,h,1,w [1,2,3,6,8,9] (Mo [(0,0),(1,2),(2,1)] 3 [1]),4,h,k [1,2,6,8,9],R (fl 12 [0,1,3,4,6,7,10] [11]),v,v,1,v,v,1,v,v,1,d,v,h,k [6,8,9],2,h,1,w [6,7] (Mo [(0,0),(1,2)] 2 [0]),X [(0,1)] []]]]
end
instance {mY jB GI}:bh (G.ot mY jB GI) 349 [aj.av mY,J jB,J GI] (fun r=>.tuple [aj.av r.1,J r.2]):=g1
section
open Sg
instance {er Bx}:iQ (G.nK er Bx) 316 [aj.av er,aj.av Bx] (fun r=>.tuple [.agg [J r.1.N,.view 0 0 (ajN u64 r.1.Rows).length],J r.2]) (fun r=>⟨1,[(0,(1,ajN u64 r.1.Rows))],[]⟩):=k2 Tryz.func316 59 [h,h,h,1,w [2,3,4] (Mf [(0,2)] 1 [0,1]),2,d,1,k [2,3,4,14],cd [d,h,1,k [4,5],X [] [0]] [k [2,3,4],2,h,3,h,h,1,w [2,3,4,6,7] (Mo [(0,0),(1,2),(2,1)] 3 [1]),j [4,6,7] (Io 3 [1]) (fun p:(List (BitVec 64))=>[.c 1 [1] (.view 2 0 (ajN u64 p).length),.o 2 1 (ajN u64 p)]) [2,v,1,n,L [2,3,4,6,7,24] (Io 3 [1]) (fun p:(List (BitVec 64))×Int=>[.s 25 [] (J p.2),.c 1 [1] (.view 2 0 (ajN u64 p.1).length),.o 2 1 (ajN u64 p.1)]) 3 [1,n,cd [k [2,3,4,6,7,24,25],j [2,3,4,6,7,24,25] (Io 3 [1]) (fun p:(List (BitVec 64))=>[.c 1 [1] (.view 2 0 (ajN u64 p).length),.o 2 1 (ajN u64 p)]) [2,k [2,3,4,6,7,24,25,8],3,d,1,d,d,1,n,L [2,3,4,6,7,24,25,8,33,34] (Io 3 [1]) (fun p:(List (BitVec 64))×Int=>[.s 35 [] (J p.2),.c 1 [1] (.view 2 0 (ajN u64 p.1).length),.o 2 1 (ajN u64 p.1)]) 3 [1,n,cd [k [2,3,4,6,7,24,25,8,33,34,35],d,2,k [2,3,4,6,7,24,25,8,33,34,35,10],R (fl 17 [0,1,3,4,6,7,15] [16]),v,v,1,v,v,1,v,v,3,d,1,d,d,v,h,k [2,3,4,6,7,24,25,8,33,34,35],2,x 3] [x 3]]] [2,x 3]] [x 3]]] [2,h,1,w [4,5] (Mo [(0,0),(1,2)] 2 [0]),X [(0,1)] []]]]
end
instance {er Bx}:bh (G.nK er Bx) 316 [aj.av er,aj.av Bx] (fun r=>.tuple [aj.av r.1,J r.2]):=g1
section
open Sg
instance {mY}:iQ (G.q_ mY) 355 [aj.av mY] (fun r=>.view 0 0 (ajN bn.av r).length) (fun r=>⟨1,[(0,(2,ajN bn.av r))],[]⟩):=k2 Tryz.func355 35 [h,1,w [1] (If 0 [0]),1,d,1,k [1,10],cd [1,k [2],X [] [0]] [k [1],1,n,j [] (Mg [] 1) (fun p:(List bn)=>[.s 3 [] (.view 0 0 (ajN bn.av p).length),.o 0 2 (ajN bn.av p)]) [2,d,1,n,l [12,13] (Mg [] 1) (fun p:(List bn)×Int=>[.s 3 [] (.view 0 0 (ajN bn.av p.1).length),.s 14 [] (J p.2),.o 0 2 (ajN bn.av p.1)]) [] [0] [1,n,cd [k [3,12,13,14],j [12,13,14] (I 1) (fun p:(List bn)=>[.s 3 [] (.view 0 0 (ajN bn.av p).length),.o 0 2 (ajN bn.av p)]) [1,d,3,k [3,12,13,14,4,5],1,d,d,1,n,L [12,13,14,4,20,21] (I 1) (fun p:(List bn)×Int=>[.s 3 [] (.view 0 0 (ajN bn.av p.1).length),.s 22 [] (J p.2),.o 0 2 (ajN bn.av p.1)]) 1 [1,n,cd [k [3,12,13,14,4,20,21,22],d,2,k [3,12,13,14,4,20,21,22,7],3,d,d,h,1,w [12,13,14,4,20,21,22,3] (Mg [(0,1)] 1),2,x 1] [x 1]]] [2,x 1]] [x 1]]] [2,k [2],x 1]]]
end
instance {mY}:bh (G.q_ mY) 355 [aj.av mY] (fun r=>sm bn.av r):=g1
section
open Sg
instance {mY}:iQ (G.ko mY) 317 [aj.av mY] (fun r=>.tuple [.agg [J r.1.N,.view 0 0 (ajN u64 r.1.Rows).length],J r.2]) (fun r=>⟨1,[(0,(1,ajN u64 r.1.Rows))],[]⟩):=k2 Tryz.func317 42 [h,h,1,w [1,2] (Mf [(0,1)] 1 [0]),1,d,1,k [1,2,10],cd [d,h,1,k [2,3],X [] [0]] [k [1,2],2,h,3,h,h,1,w [1,2,4,5] (Mo [(0,0),(1,2),(2,1)] 3 [1]),j [2,4,5] (Io 3 [1]) (fun p:(List (BitVec 64))=>[.c 1 [1] (.view 2 0 (ajN u64 p).length),.o 2 1 (ajN u64 p)]) [1,d,d,1,n,L [2,4,5,19,20] (Io 3 [1]) (fun p:(List (BitVec 64))×Int=>[.s 21 [] (J p.2),.c 1 [1] (.view 2 0 (ajN u64 p.1).length),.o 2 1 (ajN u64 p.1)]) 3 [1,n,cd [k [2,4,5,19,20,21],d,1,h,h,w [2,4,5,19,20,21,7] (Ii 3 [1] [3]),R (fl 15 [0,1,4,5,8,9,13] [14]),v,v,2,v,v,2,v,v,2,d,v,h,k [2,4,5,19,20,21],2,x 3] [x 3]]] [2,h,1,w [2,3] (Mo [(0,0),(1,2)] 2 [0]),X [(0,1)] []]]]
end
instance {mY}:bh (G.ko mY) 317 [aj.av mY] (fun r=>.tuple [aj.av r.1,J r.2]):=g1
section
open Sg
instance {mY jB GI}:bh (G.wJ mY jB GI) 327 [aj.av mY,J jB,J GI] (fun r=>bl r):=k1 Tryz.func327 28 [h,1,w [1,2,3] (If 0 [0]),1,d,1,G [9] [4,G [12,13] [6,G [18,19] [3,d,2,d,2,k [6],x 0] [9,k [6],x 0]] [15,k [6],x 0]] [19,k [6],x 0]]
end
end Wk
end
