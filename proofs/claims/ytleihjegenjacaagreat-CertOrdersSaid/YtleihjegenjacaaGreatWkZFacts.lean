/- What the types of the loaded program are. -/
import Derived.Test.YtleihjegenjacaaGreatSh
import Derived.Test.YtleihjegenjacaaGreatRows
import Derived.KernelRfl
import Derived.Test.YtleihjegenjacaaGreatWkZLay
open Go Go.Av Go.Proofs
namespace Wk
def dU(_:World):Prop:=True
theorem Mw:nO Tryz.prog 138=some (32,1):=by kernel_rfl
theorem Mx:nO Tryz.prog 139=some (16,1):=by kernel_rfl
theorem PB:nO Tryz.prog 95=some (8,1):=by kernel_rfl
theorem Lh:nO Tryz.prog 97=some (32,1):=by kernel_rfl
theorem Li:nO Tryz.prog 98=some (16,32):=by kernel_rfl
theorem My:Df Tryz.prog 129=some ([(0,1)],[.slice none 0 0]):=by kernel_rfl
theorem Mz:Df Tryz.prog 181=some ([],[]):=by kernel_rfl
theorem PD:Df Tryz.prog 211=some ([],[]):=by kernel_rfl
theorem PE:Df Tryz.prog 212=some ([],[]):=by kernel_rfl
theorem TD:Df Tryz.prog 24=some ([(0,1)],[.slice none 0 0]):=by kernel_rfl
theorem H_:Df Tryz.prog 29=some ([(0,1),(1,1),(2,1),(3,1),(4,1)],[.int .i64 0,.bool false,.slice none 0 0,.slice none 0 0,.slice none 0 0]):=by kernel_rfl
theorem TE:Df Tryz.prog 36=some ([(0,1),(1,1),(2,1),(3,1),(4,1)],[.int .i64 0,.bool false,.slice none 0 0,.slice none 0 0,.slice none 0 0]):=by kernel_rfl
theorem PF:Df Tryz.prog 60=some ([(0,1),(1,1)],[.int .i64 0,.int .i64 0]):=by kernel_rfl
theorem PG:Df Tryz.prog 63=some ([(0,1),(1,1),(2,1)],[.int .i64 0,.slice none 0 0,.slice none 0 0]):=by kernel_rfl
theorem vD:Df Tryz.prog 65=some ([(0,1),(1,1)],[.int .i64 0,.slice none 0 0]):=by kernel_rfl
theorem Np:Df Tryz.prog 67=some ([(0,1),(1,1),(2,1)],[.int .i64 0,.int .i64 0,.int .i64 0]):=by kernel_rfl
theorem PI:Df Tryz.prog 69=some ([(0,3),(3,1)],[.int .i64 0,.int .i64 0,.int .i64 0,.slice none 0 0]):=by kernel_rfl
theorem TF:Df Tryz.prog 70=some ([(0,1),(1,1)],[.int .i64 0,.slice none 0 0]):=by kernel_rfl
theorem TG:Df Tryz.prog 71=some ([(0,3),(3,1)],[.int .i64 0,.int .i64 0,.int .i64 0,.slice none 0 0]):=by kernel_rfl
theorem PJ:Df Tryz.prog 100=some ([(0,1),(1,512)],.slice none 0 0::List.replicate 512 (.int .i64 0)):=by kernel_rfl
theorem PL:iu Tryz.prog 124:=jg Tryz.func124 (by kernel_rfl) rfl
theorem TJ:iu Tryz.prog 93:=jg Tryz.func93 (by kernel_rfl) rfl
theorem PM:iu Tryz.prog 99:=jg Tryz.func99 (by kernel_rfl) rfl
theorem MA:uB Tryz.prog 111=some (5,1,1):=by kernel_rfl
theorem MB:uB Tryz.prog 213=some (67,3,24):=by kernel_rfl
theorem MC:uB Tryz.prog 214=some (67,3,24):=by kernel_rfl
theorem yL:uB Tryz.prog 219=some (222,1,16):=by kernel_rfl
theorem lN:uB Tryz.prog 22=some (63,3,56):=by kernel_rfl
theorem dS:uB Tryz.prog 25=some (3,1,8):=by kernel_rfl
theorem nP:uB Tryz.prog 26=some (65,2,32):=by kernel_rfl
theorem uO:uB Tryz.prog 27=some (69,4,48):=by kernel_rfl
theorem zM:uB Tryz.prog 33=some (70,2,32):=by kernel_rfl
theorem zN:uB Tryz.prog 34=some (71,4,48):=by kernel_rfl
theorem sD:uB Tryz.prog 61=some (60,2,16):=by kernel_rfl
theorem Ih:uB Tryz.prog 89=some (67,3,24):=by kernel_rfl
theorem Ii:uB Tryz.prog 92=some (61,1,24):=by kernel_rfl
theorem MD:Dn Tryz.prog 111 5 1 1 (.int .u8 0):=⟨by kernel_rfl,by kernel_rfl,rfl,by simp[Value.cells,Value.oneCell'],by decide,by decide⟩
theorem w_:Dn Tryz.prog 25 3 1 8 (.int .i64 0):=⟨by kernel_rfl,by kernel_rfl,rfl,by simp[Value.cells,Value.oneCell'],by decide,by decide⟩
theorem vI:Dn Tryz.prog 26 65 2 32 (.agg #[.int .i64 0,.slice none 0 0]):=⟨by kernel_rfl,by kernel_rfl,rfl,by simp[Value.cells,Value.oneCell'],by decide,by decide⟩
theorem PS:Dn Tryz.prog 27 69 4 48 (.agg #[.int .i64 0,.int .i64 0,.int .i64 0,.slice none 0 0]):=⟨by kernel_rfl,by kernel_rfl,rfl,by simp[Value.cells,Value.oneCell'],by decide,by decide⟩
theorem TN:Dn Tryz.prog 33 70 2 32 (.agg #[.int .i64 0,.slice none 0 0]):=⟨by kernel_rfl,by kernel_rfl,rfl,by simp[Value.cells,Value.oneCell'],by decide,by decide⟩
theorem TO:Dn Tryz.prog 34 71 4 48 (.agg #[.int .i64 0,.int .i64 0,.int .i64 0,.slice none 0 0]):=⟨by kernel_rfl,by kernel_rfl,rfl,by simp[Value.cells,Value.oneCell'],by decide,by decide⟩
theorem TP:Dn Tryz.prog 61 60 2 16 (.agg #[.int .i64 0,.int .i64 0]):=⟨by kernel_rfl,by kernel_rfl,rfl,by simp[Value.cells,Value.oneCell'],by decide,by decide⟩
theorem PT:Dn Tryz.prog 89 67 3 24 (.agg #[.int .i64 0,.int .i64 0,.int .i64 0]):=⟨by kernel_rfl,by kernel_rfl,rfl,by simp[Value.cells,Value.oneCell'],by decide,by decide⟩
theorem tj:tr Tryz.prog 100 0=some (0,1,true):=by kernel_rfl
theorem zu:tr Tryz.prog 100 1=some (1,512,true):=by kernel_rfl
theorem tn:tr Tryz.prog 129 0=some (0,1,false):=by kernel_rfl
theorem fm:tr Tryz.prog 24 0=some (0,1,false):=by kernel_rfl
theorem x8:tr Tryz.prog 29 0=some (0,1,false):=by kernel_rfl
theorem x_:tr Tryz.prog 29 1=some (1,1,false):=by kernel_rfl
theorem ya:tr Tryz.prog 29 2=some (2,1,false):=by kernel_rfl
theorem fO:tr Tryz.prog 29 3=some (3,1,false):=by kernel_rfl
theorem qK:tr Tryz.prog 29 4=some (4,1,false):=by kernel_rfl
theorem Il:tr Tryz.prog 36 0=some (0,1,false):=by kernel_rfl
theorem Im:tr Tryz.prog 36 1=some (1,1,false):=by kernel_rfl
theorem Io:tr Tryz.prog 36 2=some (2,1,false):=by kernel_rfl
theorem Cj:tr Tryz.prog 36 3=some (3,1,false):=by kernel_rfl
theorem Ck:tr Tryz.prog 36 4=some (4,1,false):=by kernel_rfl
theorem tq:tr Tryz.prog 60 0=some (0,1,false):=by kernel_rfl
theorem qL:tr Tryz.prog 60 1=some (1,1,false):=by kernel_rfl
theorem wo:tr Tryz.prog 63 0=some (0,1,false):=by kernel_rfl
theorem uQ:tr Tryz.prog 63 1=some (1,1,false):=by kernel_rfl
theorem uR:tr Tryz.prog 63 2=some (2,1,false):=by kernel_rfl
theorem Cl:tr Tryz.prog 65 0=some (0,1,false):=by kernel_rfl
theorem Cm:tr Tryz.prog 65 1=some (1,1,false):=by kernel_rfl
theorem yb:tr Tryz.prog 67 0=some (0,1,false):=by kernel_rfl
theorem yc:tr Tryz.prog 67 1=some (1,1,false):=by kernel_rfl
theorem yd:tr Tryz.prog 67 2=some (2,1,false):=by kernel_rfl
theorem pV:tr Tryz.prog 69 0=some (0,3,true):=by kernel_rfl
theorem uS:tr Tryz.prog 69 1=some (3,1,false):=by kernel_rfl
theorem Ip:tr Tryz.prog 70 0=some (0,1,false):=by kernel_rfl
theorem zO:tr Tryz.prog 70 1=some (1,1,false):=by kernel_rfl
theorem Iq:tr Tryz.prog 71 0=some (0,3,true):=by kernel_rfl
theorem zP:tr Tryz.prog 71 1=some (3,1,false):=by kernel_rfl
theorem GV:∀v w,(method (Tryz.prog.types.size+Made.depth) 211 v "inquest/edge.is").run Tryz.prog w=.ok (203,v) w:=by intro v w;kernel_rfl
theorem GW:∀v w,(method (Tryz.prog.types.size+Made.depth) 212 v "inquest/edge.is").run Tryz.prog w=.ok (204,v) w:=by intro v w;kernel_rfl
theorem GX:∀v w,(method (Tryz.prog.types.size+Made.depth) 213 v "inquest/edge.is").run Tryz.prog w=.ok (206,v) w:=by intro v w;kernel_rfl
theorem GY:∀v w,(method (Tryz.prog.types.size+Made.depth) 214 v "inquest/edge.is").run Tryz.prog w=.ok (211,v) w:=by intro v w;kernel_rfl
theorem KL:su Tryz.prog 101=some (1,false):=by kernel_rfl
theorem EM:su Tryz.prog 111=some (1,false):=by kernel_rfl
theorem SN:su Tryz.prog 214=some (1,false):=by kernel_rfl
theorem mH:su Tryz.prog 22=some (1,false):=by kernel_rfl
theorem Gt:su Tryz.prog 222=some (1,false):=by kernel_rfl
theorem iE:su Tryz.prog 24=some (1,true):=by kernel_rfl
theorem fo:su Tryz.prog 25=some (1,false):=by kernel_rfl
theorem kE:su Tryz.prog 26=some (1,false):=by kernel_rfl
theorem uz:su Tryz.prog 27=some (1,false):=by kernel_rfl
theorem mI:su Tryz.prog 29=some (5,true):=by kernel_rfl
theorem eA:su Tryz.prog 3=some (1,false):=by kernel_rfl
theorem L_:su Tryz.prog 33=some (1,false):=by kernel_rfl
theorem Ma:su Tryz.prog 34=some (1,false):=by kernel_rfl
theorem OL:su Tryz.prog 36=some (5,true):=by kernel_rfl
theorem xU:su Tryz.prog 4=some (1,false):=by kernel_rfl
theorem Bo:su Tryz.prog 60=some (2,true):=by kernel_rfl
theorem AO:su Tryz.prog 61=some (1,false):=by kernel_rfl
theorem Mb:su Tryz.prog 63=some (3,true):=by kernel_rfl
theorem Mc:su Tryz.prog 65=some (2,true):=by kernel_rfl
theorem yD:su Tryz.prog 67=some (3,true):=by kernel_rfl
theorem AP:su Tryz.prog 69=some (4,true):=by kernel_rfl
theorem wI:su Tryz.prog 77=some (1,false):=by kernel_rfl
theorem Bp:su Tryz.prog 96=some (1,false):=by kernel_rfl
theorem Ng:(sw Tryz.prog 5).isSome=true:=by kernel_rfl
theorem Nh:(sw Tryz.prog 222).isSome=true:=by kernel_rfl
theorem Wp:(sw Tryz.prog 63).isSome=true:=by kernel_rfl
theorem wN:(sw Tryz.prog 3).isSome=true:=by kernel_rfl
theorem vQ:(sw Tryz.prog 65).isSome=true:=by kernel_rfl
theorem S0:(sw Tryz.prog 69).isSome=true:=by kernel_rfl
theorem Wq:(sw Tryz.prog 70).isSome=true:=by kernel_rfl
theorem Wr:(sw Tryz.prog 71).isSome=true:=by kernel_rfl
theorem S1:(sw Tryz.prog 60).isSome=true:=by kernel_rfl
theorem S2:(sw Tryz.prog 67).isSome=true:=by kernel_rfl
theorem S3:sw Tryz.prog 101=some (.nilFunc):=by kernel_rfl
theorem S4:sw Tryz.prog 111=some (.slice none 0 0):=by kernel_rfl
theorem S5:sw Tryz.prog 138=some (.agg (List.replicate 32 (Value.bool false)).toArray):=by kernel_rfl
theorem S6:sw Tryz.prog 139=some (.agg (List.replicate 16 (Value.int .i64 0)).toArray):=by kernel_rfl
theorem Ws:sw Tryz.prog 24=some (.agg #[.slice none 0 0]):=by kernel_rfl
theorem O2:sw Tryz.prog 25=some (.slice none 0 0):=by kernel_rfl
theorem xQ:sw Tryz.prog 29=some (.agg #[.int .i64 0,.bool false,.slice none 0 0,.slice none 0 0,.slice none 0 0]):=by kernel_rfl
theorem WR:sw Tryz.prog 3=some (.int .i64 0):=by kernel_rfl
theorem S7:sw Tryz.prog 36=some (.agg #[.int .i64 0,.bool false,.slice none 0 0,.slice none 0 0,.slice none 0 0]):=by kernel_rfl
theorem Wt:sw Tryz.prog 4=some (.bool false):=by kernel_rfl
theorem S8:sw Tryz.prog 60=some (.agg #[.int .i64 0,.int .i64 0]):=by kernel_rfl
theorem S9:sw Tryz.prog 63=some (.agg #[.int .i64 0,.slice none 0 0,.slice none 0 0]):=by kernel_rfl
theorem S_:sw Tryz.prog 65=some (.agg #[.int .i64 0,.slice none 0 0]):=by kernel_rfl
theorem Wu:sw Tryz.prog 67=some (.agg #[.int .i64 0,.int .i64 0,.int .i64 0]):=by kernel_rfl
theorem F0:sw Tryz.prog 69=some (.agg #[.int .i64 0,.int .i64 0,.int .i64 0,.slice none 0 0]):=by kernel_rfl
theorem Ta:sw Tryz.prog 77=some (.nilFunc):=by kernel_rfl
theorem Wv:sw Tryz.prog 95=some (.agg #[.int .i64 0,.int .i64 0,.int .i64 0,.int .i64 0,.int .i64 0,.int .i64 0,.int .i64 0,.int .i64 0]):=by kernel_rfl
theorem Ww:sw Tryz.prog 96=some (.pointer none):=by kernel_rfl
theorem Wx:sw Tryz.prog 3=some (.int .i64 0):=by kernel_rfl
theorem Wy:sw Tryz.prog 61=some (.slice none 0 0):=by kernel_rfl
theorem tZ:BF Tryz.prog 67 3=true:=by kernel_rfl
theorem uM(x y:G.aa):decide ([x.Key,x.A,x.B]=[y.Key,y.A,y.B])=decide (x=y):=by cases x;cases y;simp
theorem ue{W0:dy}{fr:Fr}{H:aP}{o:Oper}{t':TypeId}{x y:Operand}{a b:G.aa}(ho:o.op=.binOp .eql 67 x y t')(hx:aY fr x=some (G.aa.av a))(hy:aY fr y=some (G.aa.av b)):eE Tryz.prog W0 o fr H (bl (decide (a=b))) H:=(Hu [a.Key,a.A,a.B] [b.Key,b.A,b.B] tZ rfl rfl ho hx hy).conv (by rw[uM])
theorem zd{W0:dy}{fr:Fr}{H:aP}{o:Oper}{t':TypeId}{x y:Operand}{a b:G.aa}(ho:o.op=.binOp .neq 67 x y t')(hx:aY fr x=some (G.aa.av a))(hy:aY fr y=some (G.aa.av b)):eE Tryz.prog W0 o fr H (bl (!decide (a=b))) H:=(BX [a.Key,a.A,a.B] [b.Key,b.A,b.B] tZ rfl rfl ho hx hy).conv (by rw[uM])
theorem Bd:BF Tryz.prog 60 2=true:=by kernel_rfl
theorem td(x y:G.aj):decide ([x.Key,x.dn]=[y.Key,y.dn])=decide (x=y):=by cases x;cases y;simp
theorem Bq{W0:dy}{fr:Fr}{H:aP}{o:Oper}{t':TypeId}{x y:Operand}{a b:G.aj}(ho:o.op=.binOp .neq 60 x y t')(hx:aY fr x=some (G.aj.av a))(hy:aY fr y=some (G.aj.av b)):eE Tryz.prog W0 o fr H (bl (!decide (a=b))) H:=(BX [a.Key,a.dn] [b.Key,b.dn] Bd rfl rfl ho hx hy).conv (by rw[td])
end Wk
