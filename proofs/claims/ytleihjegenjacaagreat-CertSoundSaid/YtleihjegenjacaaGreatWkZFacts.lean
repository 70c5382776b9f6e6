/- What the types of the loaded program are. -/
import Derived.Test.YtleihjegenjacaaGreatSh
import Derived.Test.YtleihjegenjacaaGreatRows
import Derived.KernelRfl
import Derived.Test.YtleihjegenjacaaGreatWkZLay
open Go Go.Av Go.Proofs
namespace Wk
def dc(_:World):Prop:=True
theorem Xr:tv Tryz.prog 138=some (32,1):=by kernel_rfl
theorem Xs:tv Tryz.prog 139=some (16,1):=by kernel_rfl
theorem abE:tv Tryz.prog 95=some (8,1):=by kernel_rfl
theorem VR:tv Tryz.prog 97=some (32,1):=by kernel_rfl
theorem VS:tv Tryz.prog 98=some (16,32):=by kernel_rfl
theorem Xt:Kq Tryz.prog 129=some ([(0,1)],[.slice none 0 0]):=by kernel_rfl
theorem abF:Kq Tryz.prog 159=some ([(0,1),(1,1)],[.int .i64 0,.slice none 0 0]):=by kernel_rfl
theorem Xu:Kq Tryz.prog 181=some ([],[]):=by kernel_rfl
theorem abG:Kq Tryz.prog 211=some ([],[]):=by kernel_rfl
theorem abH:Kq Tryz.prog 212=some ([],[]):=by kernel_rfl
theorem aiu:Kq Tryz.prog 24=some ([(0,1)],[.slice none 0 0]):=by kernel_rfl
theorem Se:Kq Tryz.prog 29=some ([(0,1),(1,1),(2,1),(3,1),(4,1)],[.int .i64 0,.bool false,.slice none 0 0,.slice none 0 0,.slice none 0 0]):=by kernel_rfl
theorem aiv:Kq Tryz.prog 36=some ([(0,1),(1,1),(2,1),(3,1),(4,1)],[.int .i64 0,.bool false,.slice none 0 0,.slice none 0 0,.slice none 0 0]):=by kernel_rfl
theorem YI:Kq Tryz.prog 60=some ([(0,1),(1,1)],[.int .i64 0,.int .i64 0]):=by kernel_rfl
theorem abI:Kq Tryz.prog 63=some ([(0,1),(1,1),(2,1)],[.int .i64 0,.slice none 0 0,.slice none 0 0]):=by kernel_rfl
theorem C_:Kq Tryz.prog 65=some ([(0,1),(1,1)],[.int .i64 0,.slice none 0 0]):=by kernel_rfl
theorem Sf:Kq Tryz.prog 67=some ([(0,1),(1,1),(2,1)],[.int .i64 0,.int .i64 0,.int .i64 0]):=by kernel_rfl
theorem abJ:Kq Tryz.prog 69=some ([(0,3),(3,1)],[.int .i64 0,.int .i64 0,.int .i64 0,.slice none 0 0]):=by kernel_rfl
theorem aiw:Kq Tryz.prog 70=some ([(0,1),(1,1)],[.int .i64 0,.slice none 0 0]):=by kernel_rfl
theorem aix:Kq Tryz.prog 71=some ([(0,3),(3,1)],[.int .i64 0,.int .i64 0,.int .i64 0,.slice none 0 0]):=by kernel_rfl
theorem abK:Kq Tryz.prog 100=some ([(0,1),(1,512)],.slice none 0 0::List.replicate 512 (.int .i64 0)):=by kernel_rfl
theorem abQ:lE Tryz.prog 124:=nj Tryz.func124 (by kernel_rfl) rfl
theorem aiz:lE Tryz.prog 93:=nj Tryz.func93 (by kernel_rfl) rfl
theorem abR:lE Tryz.prog 99:=nj Tryz.func99 (by kernel_rfl) rfl
theorem Xv:AT Tryz.prog 111=some (5,1,1):=by kernel_rfl
theorem tC:AT Tryz.prog 157=some (179,1,8):=by kernel_rfl
theorem Xw:AT Tryz.prog 213=some (67,3,24):=by kernel_rfl
theorem Xx:AT Tryz.prog 214=some (67,3,24):=by kernel_rfl
theorem F8:AT Tryz.prog 219=some (222,1,16):=by kernel_rfl
theorem hU:AT Tryz.prog 22=some (63,3,56):=by kernel_rfl
theorem dH:AT Tryz.prog 25=some (3,1,8):=by kernel_rfl
theorem sP:AT Tryz.prog 26=some (65,2,32):=by kernel_rfl
theorem yV:AT Tryz.prog 27=some (69,4,48):=by kernel_rfl
theorem Hj:AT Tryz.prog 33=some (70,2,32):=by kernel_rfl
theorem Hl:AT Tryz.prog 34=some (71,4,48):=by kernel_rfl
theorem p7:AT Tryz.prog 61=some (60,2,16):=by kernel_rfl
theorem wU:AT Tryz.prog 89=some (67,3,24):=by kernel_rfl
theorem OA:AT Tryz.prog 92=some (61,1,24):=by kernel_rfl
theorem Xy:Kf Tryz.prog 111 5 1 1 (.int .u8 0):=⟨by kernel_rfl,by kernel_rfl,rfl,by simp[Value.cells,Value.oneCell'],by decide,by decide⟩
theorem abV:Kf Tryz.prog 157 179 1 8 (.int .u64 0):=⟨by kernel_rfl,by kernel_rfl,rfl,by simp[Value.cells,Value.oneCell'],by decide,by decide⟩
theorem AU:Kf Tryz.prog 25 3 1 8 (.int .i64 0):=⟨by kernel_rfl,by kernel_rfl,rfl,by simp[Value.cells,Value.oneCell'],by decide,by decide⟩
theorem De:Kf Tryz.prog 26 65 2 32 (.agg #[.int .i64 0,.slice none 0 0]):=⟨by kernel_rfl,by kernel_rfl,rfl,by simp[Value.cells,Value.oneCell'],by decide,by decide⟩
theorem abW:Kf Tryz.prog 27 69 4 48 (.agg #[.int .i64 0,.int .i64 0,.int .i64 0,.slice none 0 0]):=⟨by kernel_rfl,by kernel_rfl,rfl,by simp[Value.cells,Value.oneCell'],by decide,by decide⟩
theorem aiC:Kf Tryz.prog 33 70 2 32 (.agg #[.int .i64 0,.slice none 0 0]):=⟨by kernel_rfl,by kernel_rfl,rfl,by simp[Value.cells,Value.oneCell'],by decide,by decide⟩
theorem aiD:Kf Tryz.prog 34 71 4 48 (.agg #[.int .i64 0,.int .i64 0,.int .i64 0,.slice none 0 0]):=⟨by kernel_rfl,by kernel_rfl,rfl,by simp[Value.cells,Value.oneCell'],by decide,by decide⟩
theorem abX:Kf Tryz.prog 61 60 2 16 (.agg #[.int .i64 0,.int .i64 0]):=⟨by kernel_rfl,by kernel_rfl,rfl,by simp[Value.cells,Value.oneCell'],by decide,by decide⟩
theorem Sn:Kf Tryz.prog 89 67 3 24 (.agg #[.int .i64 0,.int .i64 0,.int .i64 0]):=⟨by kernel_rfl,by kernel_rfl,rfl,by simp[Value.cells,Value.oneCell'],by decide,by decide⟩
theorem aiE:Kf Tryz.prog 92 61 1 24 (.slice none 0 0):=⟨by kernel_rfl,by kernel_rfl,rfl,by simp[Value.cells,Value.oneCell'],by decide,by decide⟩
theorem zJ:yW Tryz.prog 100 0=some (0,1,true):=by kernel_rfl
theorem GK:yW Tryz.prog 100 1=some (1,512,true):=by kernel_rfl
theorem zK:yW Tryz.prog 129 0=some (0,1,false):=by kernel_rfl
theorem j5:yW Tryz.prog 159 0=some (0,1,false):=by kernel_rfl
theorem k7:yW Tryz.prog 159 1=some (1,1,false):=by kernel_rfl
theorem c_:yW Tryz.prog 24 0=some (0,1,false):=by kernel_rfl
theorem BK:yW Tryz.prog 29 0=some (0,1,false):=by kernel_rfl
theorem DS:yW Tryz.prog 29 1=some (1,1,false):=by kernel_rfl
theorem DT:yW Tryz.prog 29 2=some (2,1,false):=by kernel_rfl
theorem iR:yW Tryz.prog 29 3=some (3,1,false):=by kernel_rfl
theorem tY:yW Tryz.prog 29 4=some (4,1,false):=by kernel_rfl
theorem Sr:yW Tryz.prog 36 0=some (0,1,false):=by kernel_rfl
theorem Ss:yW Tryz.prog 36 1=some (1,1,false):=by kernel_rfl
theorem Su:yW Tryz.prog 36 2=some (2,1,false):=by kernel_rfl
theorem Kx:yW Tryz.prog 36 3=some (3,1,false):=by kernel_rfl
theorem Ky:yW Tryz.prog 36 4=some (4,1,false):=by kernel_rfl
theorem rG:yW Tryz.prog 60 0=some (0,1,false):=by kernel_rfl
theorem mY:yW Tryz.prog 60 1=some (1,1,false):=by kernel_rfl
theorem uY:yW Tryz.prog 63 0=some (0,1,false):=by kernel_rfl
theorem s9:yW Tryz.prog 63 1=some (1,1,false):=by kernel_rfl
theorem rH:yW Tryz.prog 63 2=some (2,1,false):=by kernel_rfl
theorem Kz:yW Tryz.prog 65 0=some (0,1,false):=by kernel_rfl
theorem Ho:yW Tryz.prog 65 1=some (1,1,false):=by kernel_rfl
theorem BL:yW Tryz.prog 67 0=some (0,1,false):=by kernel_rfl
theorem yp:yW Tryz.prog 67 1=some (1,1,false):=by kernel_rfl
theorem yq:yW Tryz.prog 67 2=some (2,1,false):=by kernel_rfl
theorem vR:yW Tryz.prog 69 0=some (0,3,true):=by kernel_rfl
theorem zL:yW Tryz.prog 69 1=some (3,1,false):=by kernel_rfl
theorem Sv:yW Tryz.prog 70 0=some (0,1,false):=by kernel_rfl
theorem Hq:yW Tryz.prog 70 1=some (1,1,false):=by kernel_rfl
theorem Sw:yW Tryz.prog 71 0=some (0,3,true):=by kernel_rfl
theorem Hu:yW Tryz.prog 71 1=some (3,1,false):=by kernel_rfl
theorem Q6:∀v w,(method (Tryz.prog.types.size+Made.depth) 211 v "inquest/edge.is").run Tryz.prog w=.ok (203,v) w:=by intro v w;kernel_rfl
theorem Q7:∀v w,(method (Tryz.prog.types.size+Made.depth) 212 v "inquest/edge.is").run Tryz.prog w=.ok (204,v) w:=by intro v w;kernel_rfl
theorem Q8:∀v w,(method (Tryz.prog.types.size+Made.depth) 213 v "inquest/edge.is").run Tryz.prog w=.ok (206,v) w:=by intro v w;kernel_rfl
theorem Q9:∀v w,(method (Tryz.prog.types.size+Made.depth) 214 v "inquest/edge.is").run Tryz.prog w=.ok (211,v) w:=by intro v w;kernel_rfl
theorem U5:xx Tryz.prog 101=some (1,false):=by kernel_rfl
theorem NS:xx Tryz.prog 111=some (1,false):=by kernel_rfl
theorem sY:xx Tryz.prog 157=some (1,false):=by kernel_rfl
theorem fS:xx Tryz.prog 159=some (2,true):=by kernel_rfl
theorem uP:xx Tryz.prog 179=some (1,false):=by kernel_rfl
theorem ahn:xx Tryz.prog 214=some (1,false):=by kernel_rfl
theorem iH:xx Tryz.prog 22=some (1,false):=by kernel_rfl
theorem Ql:xx Tryz.prog 222=some (1,false):=by kernel_rfl
theorem gz:xx Tryz.prog 24=some (1,true):=by kernel_rfl
theorem gj:xx Tryz.prog 25=some (1,false):=by kernel_rfl
theorem qf:xx Tryz.prog 26=some (1,false):=by kernel_rfl
theorem yL:xx Tryz.prog 27=some (1,false):=by kernel_rfl
theorem yM:xx Tryz.prog 29=some (5,true):=by kernel_rfl
theorem dS:xx Tryz.prog 3=some (1,false):=by kernel_rfl
theorem WV:xx Tryz.prog 33=some (1,false):=by kernel_rfl
theorem WW:xx Tryz.prog 34=some (1,false):=by kernel_rfl
theorem aay:xx Tryz.prog 36=some (5,true):=by kernel_rfl
theorem Fj:xx Tryz.prog 4=some (1,false):=by kernel_rfl
theorem Fk:xx Tryz.prog 60=some (2,true):=by kernel_rfl
theorem yN:xx Tryz.prog 61=some (1,false):=by kernel_rfl
theorem Jt:xx Tryz.prog 63=some (3,true):=by kernel_rfl
theorem WX:xx Tryz.prog 65=some (2,true):=by kernel_rfl
theorem As:xx Tryz.prog 67=some (3,true):=by kernel_rfl
theorem IK:xx Tryz.prog 69=some (4,true):=by kernel_rfl
theorem Eg:xx Tryz.prog 77=some (1,false):=by kernel_rfl
theorem Ju:xx Tryz.prog 96=some (1,false):=by kernel_rfl
theorem YB:(xJ Tryz.prog 5).isSome=true:=by kernel_rfl
theorem ahO:(xJ Tryz.prog 179).isSome=true:=by kernel_rfl
theorem YC:(xJ Tryz.prog 222).isSome=true:=by kernel_rfl
theorem alB:(xJ Tryz.prog 63).isSome=true:=by kernel_rfl
theorem Bk:(xJ Tryz.prog 3).isSome=true:=by kernel_rfl
theorem Dz:(xJ Tryz.prog 65).isSome=true:=by kernel_rfl
theorem ahP:(xJ Tryz.prog 69).isSome=true:=by kernel_rfl
theorem alC:(xJ Tryz.prog 70).isSome=true:=by kernel_rfl
theorem alD:(xJ Tryz.prog 71).isSome=true:=by kernel_rfl
theorem aa5:(xJ Tryz.prog 60).isSome=true:=by kernel_rfl
theorem Xo:(xJ Tryz.prog 67).isSome=true:=by kernel_rfl
theorem alE:(xJ Tryz.prog 61).isSome=true:=by kernel_rfl
theorem ahQ:xJ Tryz.prog 101=some (.nilFunc):=by kernel_rfl
theorem ahR:xJ Tryz.prog 111=some (.slice none 0 0):=by kernel_rfl
theorem ahS:xJ Tryz.prog 138=some (.agg (List.replicate 32 (Value.bool false)).toArray):=by kernel_rfl
theorem ahT:xJ Tryz.prog 139=some (.agg (List.replicate 16 (Value.int .i64 0)).toArray):=by kernel_rfl
theorem qI:xJ Tryz.prog 159=some (.agg #[.int .i64 0,.slice none 0 0]):=by kernel_rfl
theorem alF:xJ Tryz.prog 24=some (.agg #[.slice none 0 0]):=by kernel_rfl
theorem aa6:xJ Tryz.prog 25=some (.slice none 0 0):=by kernel_rfl
theorem Lv:xJ Tryz.prog 29=some (.agg #[.int .i64 0,.bool false,.slice none 0 0,.slice none 0 0,.slice none 0 0]):=by kernel_rfl
theorem zr3:xJ Tryz.prog 3=some (.int .i64 0):=by kernel_rfl
theorem ahU:xJ Tryz.prog 36=some (.agg #[.int .i64 0,.bool false,.slice none 0 0,.slice none 0 0,.slice none 0 0]):=by kernel_rfl
theorem zr4:xJ Tryz.prog 4=some (.bool false):=by kernel_rfl
theorem aa7:xJ Tryz.prog 60=some (.agg #[.int .i64 0,.int .i64 0]):=by kernel_rfl
theorem aa8:xJ Tryz.prog 63=some (.agg #[.int .i64 0,.slice none 0 0,.slice none 0 0]):=by kernel_rfl
theorem ahV:xJ Tryz.prog 65=some (.agg #[.int .i64 0,.slice none 0 0]):=by kernel_rfl
theorem aa9:xJ Tryz.prog 67=some (.agg #[.int .i64 0,.int .i64 0,.int .i64 0]):=by kernel_rfl
theorem Pz:xJ Tryz.prog 69=some (.agg #[.int .i64 0,.int .i64 0,.int .i64 0,.slice none 0 0]):=by kernel_rfl
theorem ahW:xJ Tryz.prog 77=some (.nilFunc):=by kernel_rfl
theorem alH:xJ Tryz.prog 95=some (.agg #[.int .i64 0,.int .i64 0,.int .i64 0,.int .i64 0,.int .i64 0,.int .i64 0,.int .i64 0,.int .i64 0]):=by kernel_rfl
theorem alI:xJ Tryz.prog 96=some (.pointer none):=by kernel_rfl
theorem alJ:xJ Tryz.prog 3=some (.int .i64 0):=by kernel_rfl
theorem alK:xJ Tryz.prog 61=some (.slice none 0 0):=by kernel_rfl
theorem AG:JP Tryz.prog 67 3=true:=by kernel_rfl
theorem tV(x y:G.aa):decide ([x.Key,x.A,x.B]=[y.Key,y.A,y.B])=decide (x=y):=by cases x;cases y;simp
theorem AL{W0:eo}{fr:Fr}{H:bu}{o:Oper}{t':TypeId}{x y:Operand}{a b:G.aa}(ho:o.op=.binOp .eql 67 x y t')(hx:bH fr x=some (G.aa.av a))(hy:bH fr y=some (G.aa.av b)):fO Tryz.prog W0 o fr H (bl (decide (a=b))) H:=(RA [a.Key,a.A,a.B] [b.Key,b.A,b.B] AG rfl rfl ho hx hy).conv (by rw[tV])
theorem Gy{W0:eo}{fr:Fr}{H:bu}{o:Oper}{t':TypeId}{x y:Operand}{a b:G.aa}(ho:o.op=.binOp .neq 67 x y t')(hx:bH fr x=some (G.aa.av a))(hy:bH fr y=some (G.aa.av b)):fO Tryz.prog W0 o fr H (bl (!decide (a=b))) H:=(J8 [a.Key,a.A,a.B] [b.Key,b.A,b.B] AG rfl rfl ho hx hy).conv (by rw[tV])
theorem Jh:JP Tryz.prog 60 2=true:=by kernel_rfl
theorem zI(x y:G.ak):decide ([x.Key,x.bY]=[y.Key,y.bY])=decide (x=y):=by cases x;cases y;simp
theorem DH{W0:eo}{fr:Fr}{H:bu}{o:Oper}{t':TypeId}{x y:Operand}{a b:G.ak}(ho:o.op=.binOp .neq 60 x y t')(hx:bH fr x=some (G.ak.av a))(hy:bH fr y=some (G.ak.av b)):fO Tryz.prog W0 o fr H (bl (!decide (a=b))) H:=(J8 [a.Key,a.bY] [b.Key,b.bY] Jh rfl rfl ho hx hy).conv (by rw[zI])
end Wk
