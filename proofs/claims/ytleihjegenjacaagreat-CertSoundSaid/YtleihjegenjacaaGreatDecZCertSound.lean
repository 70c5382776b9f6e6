/- How the arguments of CertSound are read. -/
import Derived.Test.YtleihjegenjacaaGreatWkZinquestlaw27CertSound
open Go Go.Av Go.Proofs
namespace WkCertSound
def Gd(x:G.ak):Prop:=(fun n:Int=> -9223372036854775808≤n∧n≤9223372036854775807) x.Key∧(fun n:Int=> -9223372036854775808≤n∧n≤9223372036854775807) x.bY
theorem zI:RV Tryz.prog 60 G.ak.av Gd:=by
  intro H enc w spare held fuel cs d ps h
  obtain⟨fuel',xs,e1,e2⟩:=zH Tryz.underlying60 h
  simp only[List.mapM_cons,List.mapM_nil,Option.bind_eq_bind,Option.bind_eq_some_iff,Option.pure_def,Option.some.injEq] at e2
  obtain⟨y1,q1,_,⟨y2,q2,_,rfl,rfl⟩,rfl⟩:=e2
  obtain⟨x1,p1,e1x⟩:=(sZ Tryz.underlying3) _ _ _ _ _ _ _ _ q1
  obtain⟨x2,p2,e2x⟩:=(sZ Tryz.underlying3) _ _ _ _ _ _ _ _ q2
  refine⟨⟨x1,x2⟩,⟨p1,p2⟩, ?_⟩
  rw[e1];simp only[List.map_cons,List.map_nil,oW,e1x,e2x];rfl
def H_(x:G.ah):Prop:=(fun n:Int=> -9223372036854775808≤n∧n≤9223372036854775807) x.bw∧(fun l:List Int=>(∀x∈l,(fun n:Int=> -9223372036854775808≤n∧n≤9223372036854775807) x)∧l.length≤9223372036854775807) x.bA∧(fun l:List G.ak=>(∀x∈l,Gd x)∧l.length≤9223372036854775807) x.Reads
theorem LX:RV Tryz.prog 63 G.ah.av H_:=by
  intro H enc w spare held fuel cs d ps h
  obtain⟨fuel',xs,e1,e2⟩:=zH Tryz.underlying63 h
  simp only[List.mapM_cons,List.mapM_nil,Option.bind_eq_bind,Option.bind_eq_some_iff,Option.pure_def,Option.some.injEq] at e2
  obtain⟨y1,q1,_,⟨y2,q2,_,⟨y3,q3,_,rfl,rfl⟩,rfl⟩,rfl⟩:=e2
  obtain⟨x1,p1,e1x⟩:=(sZ Tryz.underlying3) _ _ _ _ _ _ _ _ q1
  obtain⟨x2,p2,e2x⟩:=(tw Tryz.underlying25 (sZ Tryz.underlying3)) _ _ _ _ _ _ _ _ q2
  obtain⟨x3,p3,e3x⟩:=(tw Tryz.underlying61 zI) _ _ _ _ _ _ _ _ q3
  refine⟨⟨x1,x2,x3⟩,⟨p1,p2,p3⟩, ?_⟩
  rw[e1];simp only[List.map_cons,List.map_nil,oW,e1x,e2x,e3x];rfl
def Ni(x:G.af):Prop:=(fun l:List G.ah=>(∀x∈l,H_ x)∧l.length≤9223372036854775807) x.az
theorem Kv:RV Tryz.prog 24 G.af.av Ni:=by
  intro H enc w spare held fuel cs d ps h
  obtain⟨fuel',xs,e1,e2⟩:=zH Tryz.underlying24 h
  simp only[List.mapM_cons,List.mapM_nil,Option.bind_eq_bind,Option.bind_eq_some_iff,Option.pure_def,Option.some.injEq] at e2
  obtain⟨y1,q1,_,rfl,rfl⟩:=e2
  obtain⟨x1,p1,e1x⟩:=(tw Tryz.underlying22 LX) _ _ _ _ _ _ _ _ q1
  refine⟨⟨x1⟩,p1, ?_⟩
  rw[e1];simp only[List.map_cons,List.map_nil,oW,e1x];rfl
def JT(x:G.aA):Prop:=(fun n:Int=> -9223372036854775808≤n∧n≤9223372036854775807) x.Key∧(fun l:List Int=>(∀x∈l,(fun n:Int=> -9223372036854775808≤n∧n≤9223372036854775807) x)∧l.length≤9223372036854775807) x.L
theorem Oy:RV Tryz.prog 65 G.aA.av JT:=by
  intro H enc w spare held fuel cs d ps h
  obtain⟨fuel',xs,e1,e2⟩:=zH Tryz.underlying65 h
  simp only[List.mapM_cons,List.mapM_nil,Option.bind_eq_bind,Option.bind_eq_some_iff,Option.pure_def,Option.some.injEq] at e2
  obtain⟨y1,q1,_,⟨y2,q2,_,rfl,rfl⟩,rfl⟩:=e2
  obtain⟨x1,p1,e1x⟩:=(sZ Tryz.underlying3) _ _ _ _ _ _ _ _ q1
  obtain⟨x2,p2,e2x⟩:=(tw Tryz.underlying25 (sZ Tryz.underlying3)) _ _ _ _ _ _ _ _ q2
  refine⟨⟨x1,x2⟩,⟨p1,p2⟩, ?_⟩
  rw[e1];simp only[List.map_cons,List.map_nil,oW,e1x,e2x];rfl
def DF(x:G.aa):Prop:=(fun n:Int=> -9223372036854775808≤n∧n≤9223372036854775807) x.Key∧(fun n:Int=> -9223372036854775808≤n∧n≤9223372036854775807) x.A∧(fun n:Int=> -9223372036854775808≤n∧n≤9223372036854775807) x.B
theorem tV:RV Tryz.prog 67 G.aa.av DF:=by
  intro H enc w spare held fuel cs d ps h
  obtain⟨fuel',xs,e1,e2⟩:=zH Tryz.underlying67 h
  simp only[List.mapM_cons,List.mapM_nil,Option.bind_eq_bind,Option.bind_eq_some_iff,Option.pure_def,Option.some.injEq] at e2
  obtain⟨y1,q1,_,⟨y2,q2,_,⟨y3,q3,_,rfl,rfl⟩,rfl⟩,rfl⟩:=e2
  obtain⟨x1,p1,e1x⟩:=(sZ Tryz.underlying3) _ _ _ _ _ _ _ _ q1
  obtain⟨x2,p2,e2x⟩:=(sZ Tryz.underlying3) _ _ _ _ _ _ _ _ q2
  obtain⟨x3,p3,e3x⟩:=(sZ Tryz.underlying3) _ _ _ _ _ _ _ _ q3
  refine⟨⟨x1,x2,x3⟩,⟨p1,p2,p3⟩, ?_⟩
  rw[e1];simp only[List.map_cons,List.map_nil,oW,e1x,e2x,e3x];rfl
def Ci(x:G.aq):Prop:=DF x.C∧(fun l:List Int=>(∀x∈l,(fun n:Int=> -9223372036854775808≤n∧n≤9223372036854775807) x)∧l.length≤9223372036854775807) x.dY
theorem Gq:RV Tryz.prog 69 G.aq.av Ci:=by
  intro H enc w spare held fuel cs d ps h
  obtain⟨fuel',xs,e1,e2⟩:=zH Tryz.underlying69 h
  simp only[List.mapM_cons,List.mapM_nil,Option.bind_eq_bind,Option.bind_eq_some_iff,Option.pure_def,Option.some.injEq] at e2
  obtain⟨y1,q1,_,⟨y2,q2,_,rfl,rfl⟩,rfl⟩:=e2
  obtain⟨x1,p1,e1x⟩:=tV _ _ _ _ _ _ _ _ q1
  obtain⟨x2,p2,e2x⟩:=(tw Tryz.underlying25 (sZ Tryz.underlying3)) _ _ _ _ _ _ _ _ q2
  refine⟨⟨x1,x2⟩,⟨p1,p2⟩, ?_⟩
  rw[e1];simp only[List.map_cons,List.map_nil,oW,e1x,e2x];rfl
def KO(x:G.bn):Prop:=(fun n:Int=> -9223372036854775808≤n∧n≤9223372036854775807) x.Level∧(fun _:Bool=>True) x.pL∧(fun l:List Int=>(∀x∈l,(fun n:Int=> -9223372036854775808≤n∧n≤9223372036854775807) x)∧l.length≤9223372036854775807) x.Order∧(fun l:List G.aA=>(∀x∈l,JT x)∧l.length≤9223372036854775807) x.Rows∧(fun l:List G.aq=>(∀x∈l,Ci x)∧l.length≤9223372036854775807) x.Tree
theorem Ja:RV Tryz.prog 29 G.bn.av KO:=by
  intro H enc w spare held fuel cs d ps h
  obtain⟨fuel',xs,e1,e2⟩:=zH Tryz.underlying29 h
  simp only[List.mapM_cons,List.mapM_nil,Option.bind_eq_bind,Option.bind_eq_some_iff,Option.pure_def,Option.some.injEq] at e2
  obtain⟨y1,q1,_,⟨y2,q2,_,⟨y3,q3,_,⟨y4,q4,_,⟨y5,q5,_,rfl,rfl⟩,rfl⟩,rfl⟩,rfl⟩,rfl⟩:=e2
  obtain⟨x1,p1,e1x⟩:=(sZ Tryz.underlying3) _ _ _ _ _ _ _ _ q1
  obtain⟨x2,p2,e2x⟩:=(Sj Tryz.underlying4) _ _ _ _ _ _ _ _ q2
  obtain⟨x3,p3,e3x⟩:=(tw Tryz.underlying25 (sZ Tryz.underlying3)) _ _ _ _ _ _ _ _ q3
  obtain⟨x4,p4,e4x⟩:=(tw Tryz.underlying26 Oy) _ _ _ _ _ _ _ _ q4
  obtain⟨x5,p5,e5x⟩:=(tw Tryz.underlying27 Gq) _ _ _ _ _ _ _ _ q5
  refine⟨⟨x1,x2,x3,x4,x5⟩,⟨p1,p2,p3,p4,p5⟩, ?_⟩
  rw[e1];simp only[List.map_cons,List.map_nil,oW,e1x,e2x,e3x,e4x,e5x];rfl
end WkCertSound
