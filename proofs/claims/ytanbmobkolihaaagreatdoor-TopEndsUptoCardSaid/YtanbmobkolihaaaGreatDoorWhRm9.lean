/- Functions do as their plain ones. -/
import Derived.Test.YtanbmobkolihaaaGreatDoorWhRm6
import Derived.Test.YtanbmobkolihaaaGreatDoorWhRm8
open List renaming map→ajN
set_option linter.unusedVariables false
section
open Go Go.Av Go.Proofs G Go.Av.Sh
open Go.Sh hiding lZ
set_option maxHeartbeats 8000000
set_option maxRecDepth 20000
attribute [local irreducible] eX fG oJ FR IY
namespace Wk
section
open Sg
instance {cM}:bh (xy cM) 221 [aa.av cM] (fun r=>aa.av r):=k1 Tryz.func221 10 [h,h,w [1,2] (Mf [(0,1)] 1 [0]),6,d,h,k [2],x 0]
instance {m_0}:bh (lY m_0) 220 [aA.av m_0] (fun r=>aa.av r):=k1 Tryz.func220 10 [h,h,w [1,2] (Mf [(0,1)] 1 [0]),2,k [1,2,4],cd [2,d,h,k [2],x 0] [k [1,2],2,h,k [2],x 0]]
instance {aV aB c8 nO}:bh (zj aV aB c8 nO) 176 [af.av aV,J aB,sm au.av c8,sm aA.av nO] (fun r=>bl r):=k1 Tryz.func176 88 [h,1,w [1,2,3,4] (If 0 [0]),q,j [1,2,3,4] (I 0) (fun p:Bool=>[.s 25 [] (bl p)]) [1,d,1,d,3,G [18,19] [6,x 0] [3,d,2,x 0]] [cd [1,k [8],x 0] [k [1,2,3,4],1,d,1,k [1,3,4,9],h,1,k [1,3,4,9,10],j [] (I 0) (fun _:Unit=>[]) [1,d,1,k [1,4,9,10,29,30,31],L [1,4,10,29,30] (I 1) (fun p:(List aa)×(List (aa×Bool))×Int=>[.s 9 [] (sm aa.av p.1),.s 31 [] (J p.2.2),.o 0 0 ([CC aa.kv Tq p.2.1])]) 1 [1,n,cd [k [1,4,9,10,29,30,31],d,1,h,h,w [1,4,9,10,29,30,31,12] (If 1 [1]),q,j [1,4,9,10,29,30,31,12] (I 1) (fun p:Bool=>[.s 46 [] (bl p)]) [3,v,1,G [38,39] [7,x 1] [3,d,d,2,x 1]] [cd [1,w [8] (I 0),x 0] [k [1,4,9,10,29,30,31,12],q,j [1,4,9,10,29,30,31,12] (I 1) (fun p:Bool=>[.s 73 [] (bl p)]) [R (fl 27 [23] [20]),4,G [49,50] [2,d,3,G [54,55,56] [17,x 1] [3,G [58,59] [3,d,2,d,h,2,v,3,x 1] [14,x 1]]] [9,G [58,59] [3,d,2,d,h,2,v,3,x 1] [14,x 1]]] [cd [1,w [8] (I 0),x 0] [k [1,4,9,10,29,30,31,12],R (fl 7 [] [5]),1,d,1,d,d,h,1,w [1,4,10,29,30,31,12,9] ⟨[(0,0)],1,[],[],[1]⟩,R (fl 9 [] [7,8]),6,d,h,h,k [1,4,10,29,30,31,9],2,x 1]]]]] [x 0]]] [1,n,x 0]]]]
instance {bK}:iQ (zk bK) 329 [sm ai.av bK] (fun r=>.view 0 0 (ajN ai.av r).length) (fun r=>⟨1,[(0,(4,ajN ai.av r))],[]⟩):=k2 Tryz.func329 23 [1,k [0],1,n,j [] (Mg [] 1) (fun p:(List ai)=>[.s 3 [] (.view 0 0 (ajN ai.av p).length),.o 0 4 (ajN ai.av p)]) [1,d,1,k [3,6,7,8],l [6,7] (Mg [] 1) (fun p:(List ai)×Int=>[.s 3 [] (.view 0 0 (ajN ai.av p.1).length),.s 8 [] (J p.2),.o 0 4 (ajN ai.av p.1)]) [] [0] [1,n,cd [k [3,6,7,8],d,1,h,h,w [3,6,7,8,5] (If 1 [1]),R (fl 10 [] [8]),5,d,d,d,h,1,w [6,7,8,3] (Mg [(0,1)] 1),2,x 1] [x 1]]] [2,k [2],x 1]]
end
instance {bK}:bh (zk bK) 329 [sm ai.av bK] (fun r=>sm ai.av r):=g1
section
open Sg
instance {qs}:iQ (Ay qs) 273 [sm aA.av qs] (fun r=>.view 0 0 (ajN aA.av r).length) (fun r=>⟨1,[(0,(5,ajN aA.av r))],[]⟩):=k2 Tryz.func273 24 [1,k [0],1,h,1,k [3],j [] (I 1) (fun p:(List aA)=>[.s 3 [] (.view 0 0 (ajN aA.av p).length),.o 0 5 (ajN aA.av p)]) [1,v,1,n,L [9] (I 1) (fun p:(List aA)×Int=>[.s 3 [] (.view 0 0 (ajN aA.av p.1).length),.s 8 [] (.view 0 0 (ajN aA.av p.1).length),.s 10 [] (J p.2),.o 0 5 (ajN aA.av p.1)]) 1 [1,n,cd [k [3,8,9,10],1,v,v,h,1,h,w [3,8,9,10,5,4] (If 1 [1]),4,d,v,1,h,k [3,8,9,10],2,x 1] [x 1]]] [2,k [2],x 1]]
end
instance {qs}:bh (Ay qs) 273 [sm aA.av qs] (fun r=>sm aA.av r):=g1
section
open Sg
instance {qs}:iQ (vA qs) 274 [sm aA.av qs] (fun r=>.view 0 0 (ajN aa.av r).length) (fun r=>⟨1,[(0,(3,ajN aa.av r))],[]⟩):=k2 Tryz.func274 19 [1,k [0],1,n,j [] (Mg [] 1) (fun p:(List aa)=>[.s 3 [] (.view 0 0 (ajN aa.av p).length),.o 0 3 (ajN aa.av p)]) [1,d,1,k [3,6,7,8],l [6,7] (Mg [] 1) (fun p:(List aa)×Int=>[.s 3 [] (.view 0 0 (ajN aa.av p.1).length),.s 8 [] (J p.2),.o 0 3 (ajN aa.av p.1)]) [] [0] [1,n,cd [k [3,6,7,8],d,1,h,h,w [3,6,7,8,5] (If 1 [1]),2,d,d,h,1,w [6,7,8,3] (Mg [(0,1)] 1),2,x 1] [x 1]]] [2,k [2],x 1]]
end
instance {qs}:bh (vA qs) 274 [sm aA.av qs] (fun r=>sm aa.av r):=g1
section
open Sg
instance {aV aB c8 iC AP}:iO (Ax aV aB c8 iC AP) 0 275 [af.av aV,J aB,sm au.av c8,.view 0 0 (ajN aA.av AP).length,sm ai.av iC] ⟨1,[(0,(5,ajN aA.av AP))],[]⟩ (fun r=>.tuple [.view 0 0 (ajN aA.av r.1).length,.agg [J r.2.1,dy,.view 1 0 (ajN ai.av r.2.2).length,dy]]) (fun r=>⟨2,[(0,(5,ajN aA.av r.1)),(1,(4,ajN ai.av r.2.2))],[]⟩):=k3 Tryz.func275 63 [h,1,h,w [1,2,3,4,5,11] (Mf [(0,0),(1,2)] 2 [1]),j [1,2,5,11] (Mg [(0,1)] 1) (fun p:(List ai)=>[.s 4 [] (sm ai.av p)]) [L [1,2,5,11] (I 2) (fun p:(List aA)×(List ai)=>[.s 3 [] (.view 0 0 (ajN aA.av p.1).length),.s 4 [] (sm ai.av p.2),.o 0 5 (ajN aA.av p.1)]) 2 [1,v,1,k [1,2,3,4,5,11,15],cd [k [1,2,3,4,5,11],2,v,1,v,1,k [1,2,3,4,5,11,12],3,v,1,k [1,2,3,4,5,11,12,25],cd [5,h,2,h,k [3,11],1,d,1,h,w [11,10] (Mg [(0,1),(1,0)] 2),X [(0,1)] [1]] [k [1,2,3,4,5,11,12],R (fl 14 [1,2,3,7,8,9] []),1,v,v,v,d,d,1,v,v,v,1,d,d,1,k [1,2,3,5,11,4],2,v,1,h,1,X [(0,2),(1,1)] []]] [X [(0,1)] []]]] [4,h,4,k [11,4],1,d,1,h,k [11,10],X [(1,1)] [0]]]
instance {aV aB c8 nO}:iQ (xZ aV aB c8 nO) 228 [af.av aV,J aB,sm au.av c8,sm aA.av nO] (fun r=>.tuple [.view 0 0 (ajN aA.av r.1).length,.agg [J r.2.gL,.view 1 0 (ajN J r.2.Order).length,.view 2 0 (ajN ai.av r.2.Tree).length,sm au.av r.2.fh]]) (fun r=>⟨3,[(0,(5,ajN aA.av r.1)),(1,(1,ajN J r.2.Order)),(2,(4,ajN ai.av r.2.Tree))],[]⟩):=k2 Tryz.func228 78 [h,1,h,w [1,2,3,4,9] (Mf [(0,1)] 1 [0]),1,h,1,k [1,2,3,4,9,10],4,d,1,k [1,2,3,4,9,10,26],cd [1,d,1,h,k [9,8],X [(0,1)] [1,2]] [k [1,2,3,4,9,10],1,h,1,d,h,1,w [1,2,4,9,10,11] ⟨[(0,0),(1,1)],2,[],[],[3]⟩,3,d,3,h,h,1,w [1,2,4,9,10,11,12] (If 2 [2]),1,d,1,k [1,2,4,9,10,11,12,14],1,d,1,k [1,2,4,9,10,11,12,14,45],cd [5,d,d,c [(0,1)] [(0,2),(1,3)] [] [],3,h,w [9,8] (Mo [(0,0),(1,3),(2,2)] 3 [0]),X [(0,2),(2,1)] [1]] [k [4,9,10,11,12],2,d,3,h,h,1,w [9,10,12,15,16] (If 2 [2]),2,k [9,10,12,15,63],cd [1,h,5,k [9,10,17],2,d,1,h,w [9,8] (Mo [(0,0),(1,2),(2,1)] 3 [0]),X [(0,2),(1,1)] [2]] [k [9,10,15],2,d,d,h,d,1,h,w [9,8] (Mg [(0,0),(1,2)] 2),X [(0,1)] [1,2]]]]]
end
instance {aV aB c8 nO}:bh (xZ aV aB c8 nO) 228 [af.av aV,J aB,sm au.av c8,sm aA.av nO] (fun r=>.tuple [sm aA.av r.1,aS.av r.2]):=g1
end Wk
end
