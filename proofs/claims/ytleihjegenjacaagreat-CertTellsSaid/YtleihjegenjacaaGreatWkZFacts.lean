/- What the types of the loaded program are. -/
import Derived.Test.YtleihjegenjacaaGreatSh
import Derived.Test.YtleihjegenjacaaGreatRows
import Derived.KernelRfl
import Derived.Test.YtleihjegenjacaaGreatWkZLay
open Go Go.Av Go.Proofs
namespace Wk
variable {W0:World}
def Tab(_:World):Prop:=True
theorem aaH:vm Tryz.prog 138=some (32,1):=by kernel_rfl
theorem aaI:vm Tryz.prog 139=some (16,1):=by kernel_rfl
theorem agC:vm Tryz.prog 95=some (8,1):=by kernel_rfl
theorem YR:vm Tryz.prog 97=some (32,1):=by kernel_rfl
theorem YS:vm Tryz.prog 98=some (16,32):=by kernel_rfl
theorem aaJ:ML Tryz.prog 129=some ([(0,1)],[.slice none 0 0]):=by kernel_rfl
theorem agE:ML Tryz.prog 159=some ([(0,1),(1,1)],[.int .i64 0,.slice none 0 0]):=by kernel_rfl
theorem aaK:ML Tryz.prog 181=some ([],[]):=by kernel_rfl
theorem agF:ML Tryz.prog 211=some ([],[]):=by kernel_rfl
theorem agG:ML Tryz.prog 212=some ([],[]):=by kernel_rfl
theorem aot:ML Tryz.prog 24=some ([(0,1)],[.slice none 0 0]):=by kernel_rfl
theorem UR:ML Tryz.prog 29=some ([(0,1),(1,1),(2,1),(3,1),(4,1)],[.int .i64 0,.bool false,.slice none 0 0,.slice none 0 0,.slice none 0 0]):=by kernel_rfl
theorem MK:ML Tryz.prog 36=some ([(0,1),(1,1),(2,1),(3,1),(4,1)],[.int .i64 0,.bool false,.slice none 0 0,.slice none 0 0,.slice none 0 0]):=by kernel_rfl
theorem ac2:ML Tryz.prog 60=some ([(0,1),(1,1)],[.int .i64 0,.int .i64 0]):=by kernel_rfl
theorem agH:ML Tryz.prog 63=some ([(0,1),(1,1),(2,1)],[.int .i64 0,.slice none 0 0,.slice none 0 0]):=by kernel_rfl
theorem agI:ML Tryz.prog 65=some ([(0,1),(1,1)],[.int .i64 0,.slice none 0 0]):=by kernel_rfl
theorem Oe:ML Tryz.prog 67=some ([(0,1),(1,1),(2,1)],[.int .i64 0,.int .i64 0,.int .i64 0]):=by kernel_rfl
theorem agJ:ML Tryz.prog 69=some ([(0,3),(3,1)],[.int .i64 0,.int .i64 0,.int .i64 0,.slice none 0 0]):=by kernel_rfl
theorem ac3:ML Tryz.prog 70=some ([(0,1),(1,1)],[.int .i64 0,.slice none 0 0]):=by kernel_rfl
theorem agK:ML Tryz.prog 71=some ([(0,3),(3,1)],[.int .i64 0,.int .i64 0,.int .i64 0,.slice none 0 0]):=by kernel_rfl
theorem agL:ML Tryz.prog 100=some ([(0,1),(1,512)],.slice none 0 0::List.replicate 512 (.int .i64 0)):=by kernel_rfl
theorem agS:mw Tryz.prog 124:=oP Tryz.func124 (by kernel_rfl) rfl
theorem aov:mw Tryz.prog 93:=oP Tryz.func93 (by kernel_rfl) rfl
theorem agT:mw Tryz.prog 99:=oP Tryz.func99 (by kernel_rfl) rfl
theorem Sd:BR Tryz.prog 111=some (5,1,1):=by kernel_rfl
theorem vu:BR Tryz.prog 157=some (179,1,8):=by kernel_rfl
theorem aaL:BR Tryz.prog 213=some (67,3,24):=by kernel_rfl
theorem aaM:BR Tryz.prog 214=some (67,3,24):=by kernel_rfl
theorem H8:BR Tryz.prog 219=some (222,1,16):=by kernel_rfl
theorem fJ:BR Tryz.prog 22=some (63,3,56):=by kernel_rfl
theorem bX:BR Tryz.prog 25=some (3,1,8):=by kernel_rfl
theorem Cy:BR Tryz.prog 26=some (65,2,32):=by kernel_rfl
theorem A8:BR Tryz.prog 27=some (69,4,48):=by kernel_rfl
theorem vW:BR Tryz.prog 33=some (70,2,32):=by kernel_rfl
theorem xW:BR Tryz.prog 34=some (71,4,48):=by kernel_rfl
theorem qA:BR Tryz.prog 61=some (60,2,16):=by kernel_rfl
theorem vJ:BR Tryz.prog 89=some (67,3,24):=by kernel_rfl
theorem QJ:BR Tryz.prog 92=some (61,1,24):=by kernel_rfl
theorem aaN:Mz Tryz.prog 111 5 1 1 (.int .u8 0):=⟨by kernel_rfl,by kernel_rfl,rfl,by simp[Value.cells,Value.oneCell'],by decide,by decide⟩
theorem agZ:Mz Tryz.prog 157 179 1 8 (.int .u64 0):=⟨by kernel_rfl,by kernel_rfl,rfl,by simp[Value.cells,Value.oneCell'],by decide,by decide⟩
theorem vK:Mz Tryz.prog 25 3 1 8 (.int .i64 0):=⟨by kernel_rfl,by kernel_rfl,rfl,by simp[Value.cells,Value.oneCell'],by decide,by decide⟩
theorem ag0:Mz Tryz.prog 26 65 2 32 (.agg #[.int .i64 0,.slice none 0 0]):=⟨by kernel_rfl,by kernel_rfl,rfl,by simp[Value.cells,Value.oneCell'],by decide,by decide⟩
theorem ag1:Mz Tryz.prog 27 69 4 48 (.agg #[.int .i64 0,.int .i64 0,.int .i64 0,.slice none 0 0]):=⟨by kernel_rfl,by kernel_rfl,rfl,by simp[Value.cells,Value.oneCell'],by decide,by decide⟩
theorem ac8:Mz Tryz.prog 33 70 2 32 (.agg #[.int .i64 0,.slice none 0 0]):=⟨by kernel_rfl,by kernel_rfl,rfl,by simp[Value.cells,Value.oneCell'],by decide,by decide⟩
theorem ag2:Mz Tryz.prog 34 71 4 48 (.agg #[.int .i64 0,.int .i64 0,.int .i64 0,.slice none 0 0]):=⟨by kernel_rfl,by kernel_rfl,rfl,by simp[Value.cells,Value.oneCell'],by decide,by decide⟩
theorem ag3:Mz Tryz.prog 61 60 2 16 (.agg #[.int .i64 0,.int .i64 0]):=⟨by kernel_rfl,by kernel_rfl,rfl,by simp[Value.cells,Value.oneCell'],by decide,by decide⟩
theorem Tf:Mz Tryz.prog 89 67 3 24 (.agg #[.int .i64 0,.int .i64 0,.int .i64 0]):=⟨by kernel_rfl,by kernel_rfl,rfl,by simp[Value.cells,Value.oneCell'],by decide,by decide⟩
theorem aoy:Mz Tryz.prog 92 61 1 24 (.slice none 0 0):=⟨by kernel_rfl,by kernel_rfl,rfl,by simp[Value.cells,Value.oneCell'],by decide,by decide⟩
theorem IY:Cz Tryz.prog 100 0=some (0,1,true):=by kernel_rfl
theorem MS:Cz Tryz.prog 100 1=some (1,512,true):=by kernel_rfl
theorem Se:Cz Tryz.prog 129 0=some (0,1,false):=by kernel_rfl
theorem MT:Cz Tryz.prog 159 0=some (0,1,false):=by kernel_rfl
theorem oG:Cz Tryz.prog 159 1=some (1,1,false):=by kernel_rfl
theorem rN:Cz Tryz.prog 24 0=some (0,1,false):=by kernel_rfl
theorem Jv:Cz Tryz.prog 29 2=some (2,1,false):=by kernel_rfl
theorem Jw:Cz Tryz.prog 29 3=some (3,1,false):=by kernel_rfl
theorem MU:Cz Tryz.prog 29 4=some (4,1,false):=by kernel_rfl
theorem ac9:Cz Tryz.prog 36 2=some (2,1,false):=by kernel_rfl
theorem MV:Cz Tryz.prog 36 3=some (3,1,false):=by kernel_rfl
theorem Jx:Cz Tryz.prog 36 4=some (4,1,false):=by kernel_rfl
theorem ac_:Cz Tryz.prog 60 0=some (0,1,false):=by kernel_rfl
theorem U1:Cz Tryz.prog 60 1=some (1,1,false):=by kernel_rfl
theorem U2:Cz Tryz.prog 63 1=some (1,1,false):=by kernel_rfl
theorem ada:Cz Tryz.prog 63 2=some (2,1,false):=by kernel_rfl
theorem QK:Cz Tryz.prog 65 1=some (1,1,false):=by kernel_rfl
theorem Jy:Cz Tryz.prog 67 0=some (0,1,false):=by kernel_rfl
theorem QL:Cz Tryz.prog 67 1=some (1,1,false):=by kernel_rfl
theorem adb:Cz Tryz.prog 67 2=some (2,1,false):=by kernel_rfl
theorem Jz:Cz Tryz.prog 69 0=some (0,3,true):=by kernel_rfl
theorem MW:Cz Tryz.prog 69 1=some (3,1,false):=by kernel_rfl
theorem ade:Cz Tryz.prog 70 0=some (0,1,false):=by kernel_rfl
theorem MX:Cz Tryz.prog 70 1=some (1,1,false):=by kernel_rfl
theorem MY:Cz Tryz.prog 71 0=some (0,3,true):=by kernel_rfl
theorem JA:Cz Tryz.prog 71 1=some (3,1,false):=by kernel_rfl
theorem TD:∀v w,(method (Tryz.prog.types.size+Made.depth) 211 v "inquest/edge.is").run Tryz.prog w=.ok (203,v) w:=by intro v w;kernel_rfl
theorem TE:∀v w,(method (Tryz.prog.types.size+Made.depth) 212 v "inquest/edge.is").run Tryz.prog w=.ok (204,v) w:=by intro v w;kernel_rfl
theorem TF:∀v w,(method (Tryz.prog.types.size+Made.depth) 213 v "inquest/edge.is").run Tryz.prog w=.ok (206,v) w:=by intro v w;kernel_rfl
theorem TG:∀v w,(method (Tryz.prog.types.size+Made.depth) 214 v "inquest/edge.is").run Tryz.prog w=.ok (211,v) w:=by intro v w;kernel_rfl
theorem X1:zf Tryz.prog 101=some (1,false):=by kernel_rfl
theorem PY:zf Tryz.prog 111=some (1,false):=by kernel_rfl
theorem wM:zf Tryz.prog 157=some (1,false):=by kernel_rfl
theorem fQ:zf Tryz.prog 159=some (2,true):=by kernel_rfl
theorem yU:zf Tryz.prog 179=some (1,false):=by kernel_rfl
theorem ze:zf Tryz.prog 22=some (1,false):=by kernel_rfl
theorem SU:zf Tryz.prog 222=some (1,false):=by kernel_rfl
theorem eS:zf Tryz.prog 24=some (1,true):=by kernel_rfl
theorem jN:zf Tryz.prog 25=some (1,false):=by kernel_rfl
theorem PZ:zf Tryz.prog 26=some (1,false):=by kernel_rfl
theorem C6:zf Tryz.prog 27=some (1,false):=by kernel_rfl
theorem yE:zf Tryz.prog 29=some (5,true):=by kernel_rfl
theorem sE:zf Tryz.prog 3=some (1,false):=by kernel_rfl
theorem RK:zf Tryz.prog 33=some (1,false):=by kernel_rfl
theorem P0:zf Tryz.prog 34=some (1,false):=by kernel_rfl
theorem yF:zf Tryz.prog 36=some (5,true):=by kernel_rfl
theorem Lu:zf Tryz.prog 4=some (1,false):=by kernel_rfl
theorem EW:zf Tryz.prog 60=some (2,true):=by kernel_rfl
theorem Lv:zf Tryz.prog 61=some (1,false):=by kernel_rfl
theorem G0:zf Tryz.prog 63=some (3,true):=by kernel_rfl
theorem aak:zf Tryz.prog 65=some (2,true):=by kernel_rfl
theorem xB:zf Tryz.prog 67=some (3,true):=by kernel_rfl
theorem Kx:zf Tryz.prog 69=some (4,true):=by kernel_rfl
theorem amR:zf Tryz.prog 70=some (2,true):=by kernel_rfl
theorem amS:zf Tryz.prog 71=some (4,true):=by kernel_rfl
theorem HO:zf Tryz.prog 77=some (1,false):=by kernel_rfl
theorem P3:zf Tryz.prog 96=some (1,false):=by kernel_rfl
theorem S0:(yV Tryz.prog 5).isSome=true:=by kernel_rfl
theorem anI:(yV Tryz.prog 179).isSome=true:=by kernel_rfl
theorem acV:(yV Tryz.prog 222).isSome=true:=by kernel_rfl
theorem arC:(yV Tryz.prog 63).isSome=true:=by kernel_rfl
theorem wP:(yV Tryz.prog 3).isSome=true:=by kernel_rfl
theorem anJ:(yV Tryz.prog 65).isSome=true:=by kernel_rfl
theorem anK:(yV Tryz.prog 69).isSome=true:=by kernel_rfl
theorem af8:(yV Tryz.prog 70).isSome=true:=by kernel_rfl
theorem anL:(yV Tryz.prog 71).isSome=true:=by kernel_rfl
theorem af9:(yV Tryz.prog 60).isSome=true:=by kernel_rfl
theorem Yv:(yV Tryz.prog 67).isSome=true:=by kernel_rfl
theorem arD:(yV Tryz.prog 61).isSome=true:=by kernel_rfl
theorem anM:yV Tryz.prog 101=some (.nilFunc):=by kernel_rfl
theorem anN:yV Tryz.prog 111=some (.slice none 0 0):=by kernel_rfl
theorem anO:yV Tryz.prog 138=some (.agg (List.replicate 32 (Value.bool false)).toArray):=by kernel_rfl
theorem anP:yV Tryz.prog 139=some (.agg (List.replicate 16 (Value.int .i64 0)).toArray):=by kernel_rfl
theorem tC:yV Tryz.prog 159=some (.agg #[.int .i64 0,.slice none 0 0]):=by kernel_rfl
theorem arE:yV Tryz.prog 24=some (.agg #[.slice none 0 0]):=by kernel_rfl
theorem af_:yV Tryz.prog 25=some (.slice none 0 0):=by kernel_rfl
theorem LI:yV Tryz.prog 29=some (.agg #[.int .i64 0,.bool false,.slice none 0 0,.slice none 0 0,.slice none 0 0]):=by kernel_rfl
theorem zr3:yV Tryz.prog 3=some (.int .i64 0):=by kernel_rfl
theorem KT:yV Tryz.prog 36=some (.agg #[.int .i64 0,.bool false,.slice none 0 0,.slice none 0 0,.slice none 0 0]):=by kernel_rfl
theorem zr4:yV Tryz.prog 4=some (.bool false):=by kernel_rfl
theorem aaE:yV Tryz.prog 60=some (.agg #[.int .i64 0,.int .i64 0]):=by kernel_rfl
theorem aga:yV Tryz.prog 63=some (.agg #[.int .i64 0,.slice none 0 0,.slice none 0 0]):=by kernel_rfl
theorem anQ:yV Tryz.prog 65=some (.agg #[.int .i64 0,.slice none 0 0]):=by kernel_rfl
theorem agb:yV Tryz.prog 67=some (.agg #[.int .i64 0,.int .i64 0,.int .i64 0]):=by kernel_rfl
theorem RW:yV Tryz.prog 69=some (.agg #[.int .i64 0,.int .i64 0,.int .i64 0,.slice none 0 0]):=by kernel_rfl
theorem arG:yV Tryz.prog 70=some (.agg #[.int .i64 0,.slice none 0 0]):=by kernel_rfl
theorem arH:yV Tryz.prog 71=some (.agg #[.int .i64 0,.int .i64 0,.int .i64 0,.slice none 0 0]):=by kernel_rfl
theorem anR:yV Tryz.prog 77=some (.nilFunc):=by kernel_rfl
theorem arI:yV Tryz.prog 95=some (.agg #[.int .i64 0,.int .i64 0,.int .i64 0,.int .i64 0,.int .i64 0,.int .i64 0,.int .i64 0,.int .i64 0]):=by kernel_rfl
theorem arJ:yV Tryz.prog 96=some (.pointer none):=by kernel_rfl
theorem arK:yV Tryz.prog 3=some (.int .i64 0):=by kernel_rfl
theorem arL:yV Tryz.prog 61=some (.slice none 0 0):=by kernel_rfl
theorem Cm:Mb Tryz.prog 67 3=true:=by kernel_rfl
theorem vT(x y:G.aa):decide ([x.Key,x.A,x.B]=[y.Key,y.A,y.B])=decide (x=y):=by cases x;cases y;simp
theorem u_{W0:dK}{fr:Fr}{H:bg}{o:Oper}{t':TypeId}{x y:Operand}{a b:G.aa}(ho:o.op=.binOp .eql 67 x y t')(hx:bz fr x=some (G.aa.av a))(hy:bz fr y=some (G.aa.av b)):fV Tryz.prog W0 o fr H (bl (decide (a=b))) H:=(Ub [a.Key,a.A,a.B] [b.Key,b.A,b.B] Cm rfl rfl ho hx hy).conv (by rw[vT])
theorem IK{W0:dK}{fr:Fr}{H:bg}{o:Oper}{t':TypeId}{x y:Operand}{a b:G.aa}(ho:o.op=.binOp .neq 67 x y t')(hx:bz fr x=some (G.aa.av a))(hy:bz fr y=some (G.aa.av b)):fV Tryz.prog W0 o fr H (bl (!decide (a=b))) H:=(Mu [a.Key,a.A,a.B] [b.Key,b.A,b.B] Cm rfl rfl ho hx hy).conv (by rw[vT])
theorem Lh:Mb Tryz.prog 60 2=true:=by kernel_rfl
theorem BQ(x y:G.an):decide ([x.Key,x.bT]=[y.Key,y.bT])=decide (x=y):=by cases x;cases y;simp
theorem Fc{W0:dK}{fr:Fr}{H:bg}{o:Oper}{t':TypeId}{x y:Operand}{a b:G.an}(ho:o.op=.binOp .neq 60 x y t')(hx:bz fr x=some (G.an.av a))(hy:bz fr y=some (G.an.av b)):fV Tryz.prog W0 o fr H (bl (!decide (a=b))) H:=(Mu [a.Key,a.bT] [b.Key,b.bT] Lh rfl rfl ho hx hy).conv (by rw[BQ])
abbrev F1(W0:World)(f:FuncId)(xs:List AV)(r:AV):=Ey Tryz.prog W0 f xs r
abbrev F2(W0:World)(f:FuncId)(xs:List AV)(r:AV)(H:bg):=N3 Tryz.prog W0 f xs r H
abbrev F3(B:dK)(f:FuncId)(xs:List AV)(H:bg)(r:AV)(H2:bg):=S3 Tryz.prog B f xs H r H2
def tb:Tb:=⟨[(101,(1,false)),(111,(1,false)),(157,(1,false)),(159,(2,true)),(179,(1,false)),(195,(1,false)),(214,(1,false)),(22,(1,false)),(222,(1,false)),(24,(1,true)),(25,(1,false)),(26,(1,false)),(27,(1,false)),(29,(5,true)),(3,(1,false)),(33,(1,false)),(34,(1,false)),(36,(5,true)),(4,(1,false)),(60,(2,true)),(61,(1,false)),(63,(3,true)),(65,(2,true)),(67,(3,true)),(69,(4,true)),(70,(2,true)),(71,(4,true)),(77,(1,false)),(96,(1,false))],[(100,[(0,(0,1,true)),(1,(1,512,true))]),(129,[(0,(0,1,false))]),(159,[(0,(0,1,false)),(1,(1,1,false))]),(24,[(0,(0,1,false))]),(29,[(0,(0,1,false)),(1,(1,1,false)),(2,(2,1,false)),(3,(3,1,false)),(4,(4,1,false))]),(36,[(0,(0,1,false)),(1,(1,1,false)),(2,(2,1,false)),(3,(3,1,false)),(4,(4,1,false))]),(60,[(0,(0,1,false)),(1,(1,1,false))]),(63,[(0,(0,1,false)),(1,(1,1,false)),(2,(2,1,false))]),(65,[(0,(0,1,false)),(1,(1,1,false))]),(67,[(0,(0,1,false)),(1,(1,1,false)),(2,(2,1,false))]),(69,[(0,(0,3,true)),(1,(3,1,false))]),(70,[(0,(0,1,false)),(1,(1,1,false))]),(71,[(0,(0,3,true)),(1,(3,1,false))])]⟩
theorem aL:tb.Of Tryz.prog:=Tb.aex (by kernel_rfl) (by kernel_rfl)
end Wk
