/- What the types of the loaded program are. -/
import Derived.Test.YtmnmbaehidfebaaGreatDoorSh
import Derived.Test.YtmnmbaehidfebaaGreatDoorRows
import Derived.KernelRfl
import Derived.Test.YtmnmbaehidfebaaGreatDoorWkWLay
open Go Go.Av Go.Proofs
namespace Wk
def cR(W0:World):Prop:=Wr W0 0
theorem aaX:Uh Tryz.prog 137=some (64,1):=by kernel_rfl
theorem Qq:Uh Tryz.prog 77=some (64,1):=by kernel_rfl
theorem Wt:Kb Tryz.prog 106=some ([(0,1),(1,1)],[.int .i64 0,.int .i64 0]):=by kernel_rfl
theorem aaY:Kb Tryz.prog 113=some ([(0,1),(1,1)],[.int .i64 0,.int .i64 0]):=by kernel_rfl
theorem aaZ:Kb Tryz.prog 151=some ([(0,1),(1,2)],[.int .i64 0,.int .i64 0,.int .i64 0]):=by kernel_rfl
theorem aa0:Kb Tryz.prog 154=some ([],[]):=by kernel_rfl
theorem aa1:Kb Tryz.prog 155=some ([],[]):=by kernel_rfl
theorem aiM:Kb Tryz.prog 24=some ([(0,1)],[.slice none 0 0]):=by kernel_rfl
theorem aa2:Kb Tryz.prog 45=some ([(0,1),(1,1),(2,1)],[.int .i64 0,.slice none 0 0,.slice none 0 0]):=by kernel_rfl
theorem Kp:Kb Tryz.prog 47=some ([(0,1),(1,1),(2,1)],[.int .i64 0,.int .i64 0,.int .i64 0]):=by kernel_rfl
theorem aa3:Kb Tryz.prog 49=some ([(0,3),(3,1),(4,1),(5,1),(6,1)],[.int .i64 0,.int .i64 0,.int .i64 0,.int .i64 0,.int .i64 0,.int .i64 0,.slice none 0 0]):=by kernel_rfl
theorem Um:Kb Tryz.prog 51=some ([(0,3),(3,1)],[.int .i64 0,.int .i64 0,.int .i64 0,.slice none 0 0]):=by kernel_rfl
theorem OI:Kb Tryz.prog 52=some ([(0,3),(3,1)],[.int .i64 0,.int .i64 0,.int .i64 0,.slice none 0 0]):=by kernel_rfl
theorem Ew:Kb Tryz.prog 59=some ([(0,1),(1,1)],[.int .i64 0,.slice none 0 0]):=by kernel_rfl
theorem aiN:Kb Tryz.prog 64=some ([(0,3),(3,1),(4,1),(5,1),(6,1)],[.int .i64 0,.int .i64 0,.int .i64 0,.int .i64 0,.int .i64 0,.int .i64 0,.slice none 0 0]):=by kernel_rfl
theorem aiO:Kb Tryz.prog 68=some ([(0,1),(1,1)],[.int .i64 0,.slice none 0 0]):=by kernel_rfl
theorem Un:Kb Tryz.prog 94=some ([(0,1),(1,1)],[.int .i64 0,.nilFunc]):=by kernel_rfl
theorem Uo:Kb Tryz.prog 96=some ([(0,1),(1,1),(2,1),(3,7)],[.slice none 0 0,.int .i64 0,.slice none 0 0,.int .i64 0,.int .i64 0,.int .i64 0,.int .i64 0,.int .i64 0,.int .i64 0,.slice none 0 0]):=by kernel_rfl
theorem aa6:oR Tryz.prog 102:=sF Tryz.func102 (by kernel_rfl) rfl
theorem aa7:oR Tryz.prog 113:=sF Tryz.func113 (by kernel_rfl) rfl
theorem NU:yc Tryz.prog 101=some (59,2,32):=by kernel_rfl
theorem QI:yc Tryz.prog 110=some (113,2,16):=by kernel_rfl
theorem Wv:yc Tryz.prog 156=some (47,3,24):=by kernel_rfl
theorem D9:yc Tryz.prog 161=some (164,1,16):=by kernel_rfl
theorem Ww:yc Tryz.prog 176=some (47,3,24):=by kernel_rfl
theorem fM:yc Tryz.prog 22=some (45,3,56):=by kernel_rfl
theorem uf:yc Tryz.prog 25=some (49,7,72):=by kernel_rfl
theorem CF:yc Tryz.prog 26=some (51,4,48):=by kernel_rfl
theorem CG:yc Tryz.prog 34=some (52,4,48):=by kernel_rfl
theorem Bq:yc Tryz.prog 37=some (64,7,72):=by kernel_rfl
theorem fR:yc Tryz.prog 42=some (3,1,8):=by kernel_rfl
theorem sL:yc Tryz.prog 43=some (106,2,16):=by kernel_rfl
theorem si:yc Tryz.prog 55=some (47,3,24):=by kernel_rfl
theorem oD:yc Tryz.prog 57=some (80,1,8):=by kernel_rfl
theorem OL:yc Tryz.prog 90=some (94,2,16):=by kernel_rfl
theorem aa_:Ow Tryz.prog 110 113 2 16 (.agg #[.int .i64 0,.int .i64 0]):=⟨by kernel_rfl,by kernel_rfl,rfl,by simp[Value.cells,Value.oneCell'],by decide,by decide⟩
theorem XM:Ow Tryz.prog 26 51 4 48 (.agg #[.int .i64 0,.int .i64 0,.int .i64 0,.slice none 0 0]):=⟨by kernel_rfl,by kernel_rfl,rfl,by simp[Value.cells,Value.oneCell'],by decide,by decide⟩
theorem Ut:Ow Tryz.prog 34 52 4 48 (.agg #[.int .i64 0,.int .i64 0,.int .i64 0,.slice none 0 0]):=⟨by kernel_rfl,by kernel_rfl,rfl,by simp[Value.cells,Value.oneCell'],by decide,by decide⟩
theorem aiQ:Ow Tryz.prog 37 64 7 72 (.agg #[.int .i64 0,.int .i64 0,.int .i64 0,.int .i64 0,.int .i64 0,.int .i64 0,.slice none 0 0]):=⟨by kernel_rfl,by kernel_rfl,rfl,by simp[Value.cells,Value.oneCell'],by decide,by decide⟩
theorem Jb:Ow Tryz.prog 42 3 1 8 (.int .i64 0):=⟨by kernel_rfl,by kernel_rfl,rfl,by simp[Value.cells,Value.oneCell'],by decide,by decide⟩
theorem QJ:Ow Tryz.prog 55 47 3 24 (.agg #[.int .i64 0,.int .i64 0,.int .i64 0]):=⟨by kernel_rfl,by kernel_rfl,rfl,by simp[Value.cells,Value.oneCell'],by decide,by decide⟩
theorem aiR:Ow Tryz.prog 57 80 1 8 (.int .u64 0):=⟨by kernel_rfl,by kernel_rfl,rfl,by simp[Value.cells,Value.oneCell'],by decide,by decide⟩
theorem oQ:u7 Tryz.prog 106 0=some (0,1,false):=by kernel_rfl
theorem gi:u7 Tryz.prog 106 1=some (1,1,false):=by kernel_rfl
theorem Uu:u7 Tryz.prog 113 0=some (0,1,false):=by kernel_rfl
theorem NV:u7 Tryz.prog 113 1=some (1,1,false):=by kernel_rfl
theorem Uv:u7 Tryz.prog 151 0=some (0,1,false):=by kernel_rfl
theorem NW:u7 Tryz.prog 151 1=some (1,2,true):=by kernel_rfl
theorem cQ:u7 Tryz.prog 24 0=some (0,1,false):=by kernel_rfl
theorem MJ:u7 Tryz.prog 28 0=some (0,1,true):=by kernel_rfl
theorem QM:u7 Tryz.prog 28 1=some (1,1,false):=by kernel_rfl
theorem FE:u7 Tryz.prog 28 2=some (2,1,false):=by kernel_rfl
theorem FF:u7 Tryz.prog 28 3=some (3,1,false):=by kernel_rfl
theorem uH:u7 Tryz.prog 45 0=some (0,1,false):=by kernel_rfl
theorem sj:u7 Tryz.prog 45 1=some (1,1,false):=by kernel_rfl
theorem qh:u7 Tryz.prog 45 2=some (2,1,false):=by kernel_rfl
theorem oT:u7 Tryz.prog 47 0=some (0,1,false):=by kernel_rfl
theorem jr:u7 Tryz.prog 47 1=some (1,1,false):=by kernel_rfl
theorem jH:u7 Tryz.prog 47 2=some (2,1,false):=by kernel_rfl
theorem rC:u7 Tryz.prog 49 0=some (0,3,true):=by kernel_rfl
theorem Dx:u7 Tryz.prog 49 1=some (3,1,false):=by kernel_rfl
theorem vC:u7 Tryz.prog 49 2=some (4,1,false):=by kernel_rfl
theorem B9:u7 Tryz.prog 49 3=some (5,1,false):=by kernel_rfl
theorem Jd:u7 Tryz.prog 49 4=some (6,1,false):=by kernel_rfl
theorem QN:u7 Tryz.prog 51 0=some (0,3,true):=by kernel_rfl
theorem MK:u7 Tryz.prog 51 1=some (3,1,false):=by kernel_rfl
theorem QO:u7 Tryz.prog 52 0=some (0,3,true):=by kernel_rfl
theorem FG:u7 Tryz.prog 52 1=some (3,1,false):=by kernel_rfl
theorem tI:u7 Tryz.prog 59 0=some (0,1,false):=by kernel_rfl
theorem oL:u7 Tryz.prog 59 1=some (1,1,false):=by kernel_rfl
theorem qz:u7 Tryz.prog 64 0=some (0,3,true):=by kernel_rfl
theorem QS:u7 Tryz.prog 64 1=some (3,1,false):=by kernel_rfl
theorem wU:u7 Tryz.prog 64 2=some (4,1,false):=by kernel_rfl
theorem Dy:u7 Tryz.prog 64 3=some (5,1,false):=by kernel_rfl
theorem QT:u7 Tryz.prog 64 4=some (6,1,false):=by kernel_rfl
theorem nH:u7 Tryz.prog 68 0=some (0,1,false):=by kernel_rfl
theorem pL:u7 Tryz.prog 68 1=some (1,1,false):=by kernel_rfl
theorem Je:u7 Tryz.prog 94 0=some (0,1,false):=by kernel_rfl
theorem Jf:u7 Tryz.prog 94 1=some (1,1,false):=by kernel_rfl
theorem FH:u7 Tryz.prog 96 0=some (0,1,true):=by kernel_rfl
theorem XO:u7 Tryz.prog 96 1=some (1,1,false):=by kernel_rfl
theorem Jg:u7 Tryz.prog 96 2=some (2,1,false):=by kernel_rfl
theorem kS:u7 Tryz.prog 96 3=some (3,7,true):=by kernel_rfl
theorem O9:∀v w,(method (Tryz.prog.types.size+Made.depth) 154 v "inquest/edge.is").run Tryz.prog w=.ok (153,v) w:=by intro v w;kernel_rfl
theorem O_:∀v w,(method (Tryz.prog.types.size+Made.depth) 155 v "inquest/edge.is").run Tryz.prog w=.ok (154,v) w:=by intro v w;kernel_rfl
theorem Pa:∀v w,(method (Tryz.prog.types.size+Made.depth) 156 v "inquest/edge.is").run Tryz.prog w=.ok (158,v) w:=by intro v w;kernel_rfl
theorem Pb:∀v w,(method (Tryz.prog.types.size+Made.depth) 176 v "inquest/edge.is").run Tryz.prog w=.ok (163,v) w:=by intro v w;kernel_rfl
theorem uY:vU Tryz.prog 106=some (2,true):=by kernel_rfl
theorem Xn:vU Tryz.prog 113=some (2,true):=by kernel_rfl
theorem ahW:vU Tryz.prog 151=some (3,true):=by kernel_rfl
theorem Ol:vU Tryz.prog 164=some (1,false):=by kernel_rfl
theorem ahX:vU Tryz.prog 176=some (1,false):=by kernel_rfl
theorem iw:vU Tryz.prog 22=some (1,false):=by kernel_rfl
theorem er:vU Tryz.prog 24=some (1,true):=by kernel_rfl
theorem J0:vU Tryz.prog 25=some (1,false):=by kernel_rfl
theorem TI:vU Tryz.prog 26=some (1,false):=by kernel_rfl
theorem alq:vU Tryz.prog 28=some (4,true):=by kernel_rfl
theorem cD:vU Tryz.prog 3=some (1,false):=by kernel_rfl
theorem sz4:vU Tryz.prog 4=some (1,false):=by kernel_rfl
theorem rU:vU Tryz.prog 42=some (1,false):=by kernel_rfl
theorem zN:vU Tryz.prog 43=some (1,false):=by kernel_rfl
theorem vT:vU Tryz.prog 45=some (3,true):=by kernel_rfl
theorem ql:vU Tryz.prog 47=some (3,true):=by kernel_rfl
theorem GV:vU Tryz.prog 49=some (7,true):=by kernel_rfl
theorem sz5:vU Tryz.prog 5=some (1,false):=by kernel_rfl
theorem ahY:vU Tryz.prog 51=some (4,true):=by kernel_rfl
theorem pg:vU Tryz.prog 57=some (1,false):=by kernel_rfl
theorem e9:vU Tryz.prog 59=some (2,true):=by kernel_rfl
theorem Zy:vU Tryz.prog 64=some (7,true):=by kernel_rfl
theorem oI:vU Tryz.prog 68=some (2,true):=by kernel_rfl
theorem VH:vU Tryz.prog 77=some (64,true):=by kernel_rfl
theorem rV:vU Tryz.prog 80=some (1,false):=by kernel_rfl
theorem VI:vU Tryz.prog 92=some (1,false):=by kernel_rfl
theorem L_:vU Tryz.prog 94=some (2,true):=by kernel_rfl
theorem Zz:vU Tryz.prog 98=some (1,false):=by kernel_rfl
theorem Xw:(wP Tryz.prog 59).isSome=true:=by kernel_rfl
theorem ah_:(wP Tryz.prog 113).isSome=true:=by kernel_rfl
theorem Xx:(wP Tryz.prog 164).isSome=true:=by kernel_rfl
theorem alR:(wP Tryz.prog 45).isSome=true:=by kernel_rfl
theorem aia:(wP Tryz.prog 49).isSome=true:=by kernel_rfl
theorem Wl:(wP Tryz.prog 51).isSome=true:=by kernel_rfl
theorem Wm:(wP Tryz.prog 52).isSome=true:=by kernel_rfl
theorem alS:(wP Tryz.prog 64).isSome=true:=by kernel_rfl
theorem Dk:(wP Tryz.prog 3).isSome=true:=by kernel_rfl
theorem T8:(wP Tryz.prog 47).isSome=true:=by kernel_rfl
theorem Wn:(wP Tryz.prog 80).isSome=true:=by kernel_rfl
theorem alT:(wP Tryz.prog 94).isSome=true:=by kernel_rfl
theorem Mm:wP Tryz.prog 106=some (.agg #[.int .i64 0,.int .i64 0]):=by kernel_rfl
theorem aib:wP Tryz.prog 113=some (.agg #[.int .i64 0,.int .i64 0]):=by kernel_rfl
theorem aic:wP Tryz.prog 151=some (.agg #[.int .i64 0,.int .i64 0,.int .i64 0]):=by kernel_rfl
theorem alU:wP Tryz.prog 24=some (.agg #[.slice none 0 0]):=by kernel_rfl
theorem zr4:wP Tryz.prog 4=some (.bool false):=by kernel_rfl
theorem alV:wP Tryz.prog 42=some (.slice none 0 0):=by kernel_rfl
theorem J_:wP Tryz.prog 45=some (.agg #[.int .i64 0,.slice none 0 0,.slice none 0 0]):=by kernel_rfl
theorem Ka:wP Tryz.prog 47=some (.agg #[.int .i64 0,.int .i64 0,.int .i64 0]):=by kernel_rfl
theorem aaF:wP Tryz.prog 49=some (.agg #[.int .i64 0,.int .i64 0,.int .i64 0,.int .i64 0,.int .i64 0,.int .i64 0,.slice none 0 0]):=by kernel_rfl
theorem alW:wP Tryz.prog 51=some (.agg #[.int .i64 0,.int .i64 0,.int .i64 0,.slice none 0 0]):=by kernel_rfl
theorem sD:wP Tryz.prog 59=some (.agg #[.int .i64 0,.slice none 0 0]):=by kernel_rfl
theorem xj:wP Tryz.prog 68=some (.agg #[.int .i64 0,.slice none 0 0]):=by kernel_rfl
theorem aid:wP Tryz.prog 77=some (.agg (List.replicate 64 (Value.int .i64 0)).toArray):=by kernel_rfl
theorem Wo:wP Tryz.prog 94=some (.agg #[.int .i64 0,.nilFunc]):=by kernel_rfl
theorem alX:wP Tryz.prog 98=some (.nilFunc):=by kernel_rfl
theorem alY:wP Tryz.prog 51=some (.agg #[.int .i64 0,.int .i64 0,.int .i64 0,.slice none 0 0]):=by kernel_rfl
theorem alZ:wP Tryz.prog 80=some (.int .u64 0):=by kernel_rfl
theorem zb:Ik Tryz.prog 47 3=true:=by kernel_rfl
theorem qw(x y:G.aa):decide ([x.Key,x.A,x.B]=[y.Key,y.A,y.B])=decide (x=y):=by cases x;cases y;simp
theorem uS{W0:dU}{fr:Fr}{H:aX}{o:Oper}{t':TypeId}{x y:Operand}{a b:G.aa}(ho:o.op=.binOp .eql 47 x y t')(hx:bA fr x=some (G.aa.av a))(hy:bA fr y=some (G.aa.av b)):gD Tryz.prog W0 o fr H (bl (decide (a=b))) H:=(II [a.Key,a.A,a.B] [b.Key,b.A,b.B] zb rfl rfl ho hx hy).conv (by rw[qw])
theorem EK{W0:dU}{fr:Fr}{H:aX}{o:Oper}{t':TypeId}{x y:Operand}{a b:G.aa}(ho:o.op=.binOp .neq 47 x y t')(hx:bA fr x=some (G.aa.av a))(hy:bA fr y=some (G.aa.av b)):gD Tryz.prog W0 o fr H (bl (!decide (a=b))) H:=(PE [a.Key,a.A,a.B] [b.Key,b.A,b.B] zb rfl rfl ho hx hy).conv (by rw[qw])
theorem HC:Ik Tryz.prog 106 2=true:=by kernel_rfl
theorem ya(x y:G.aC):decide ([x.Key,x.bH]=[y.Key,y.bH])=decide (x=y):=by cases x;cases y;simp
theorem HO{W0:dU}{fr:Fr}{H:aX}{o:Oper}{t':TypeId}{x y:Operand}{a b:G.aC}(ho:o.op=.binOp .eql 106 x y t')(hx:bA fr x=some (G.aC.av a))(hy:bA fr y=some (G.aC.av b)):gD Tryz.prog W0 o fr H (bl (decide (a=b))) H:=(II [a.Key,a.bH] [b.Key,b.bH] HC rfl rfl ho hx hy).conv (by rw[ya])
end Wk
