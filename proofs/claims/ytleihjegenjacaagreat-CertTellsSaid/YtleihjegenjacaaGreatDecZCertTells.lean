/- How the arguments of CertTells are read. -/
import Derived.Test.YtleihjegenjacaaGreatWkZinquestlaw27CertTells
open Go Go.Av Go.Proofs
namespace WkCertTells
def Ic(x:G.an):Prop:=(fun n:Int=> -9223372036854775808≤n∧n≤9223372036854775807) x.Key∧(fun n:Int=> -9223372036854775808≤n∧n≤9223372036854775807) x.bT
theorem BQ:S2 Tryz.prog 60 G.an.av Ic:=by
  intro H enc w spare held fuel cs d ps h
  obtain⟨fuel',xs,e1,e2⟩:=BP Tryz.underlying60 h
  simp only[List.mapM_cons,List.mapM_nil,Option.bind_eq_bind,Option.bind_eq_some_iff,Option.pure_def,Option.some.injEq] at e2
  obtain⟨y1,q1,_,⟨y2,q2,_,rfl,rfl⟩,rfl⟩:=e2
  obtain⟨x1,p1,e1x⟩:=(u0 Tryz.underlying3) _ _ _ _ _ _ _ _ q1
  obtain⟨x2,p2,e2x⟩:=(u0 Tryz.underlying3) _ _ _ _ _ _ _ _ q2
  refine⟨⟨x1,x2⟩,⟨p1,p2⟩, ?_⟩
  rw[e1];simp only[List.map_cons,List.map_nil,qL,e1x,e2x];rfl
def JX(x:G.ai):Prop:=(fun n:Int=> -9223372036854775808≤n∧n≤9223372036854775807) x.bB∧(fun l:List Int=>(∀x∈l,(fun n:Int=> -9223372036854775808≤n∧n≤9223372036854775807) x)∧l.length≤9223372036854775807) x.bH∧(fun l:List G.an=>(∀x∈l,Ic x)∧l.length≤9223372036854775807) x.Reads
theorem Ol:S2 Tryz.prog 63 G.ai.av JX:=by
  intro H enc w spare held fuel cs d ps h
  obtain⟨fuel',xs,e1,e2⟩:=BP Tryz.underlying63 h
  simp only[List.mapM_cons,List.mapM_nil,Option.bind_eq_bind,Option.bind_eq_some_iff,Option.pure_def,Option.some.injEq] at e2
  obtain⟨y1,q1,_,⟨y2,q2,_,⟨y3,q3,_,rfl,rfl⟩,rfl⟩,rfl⟩:=e2
  obtain⟨x1,p1,e1x⟩:=(u0 Tryz.underlying3) _ _ _ _ _ _ _ _ q1
  obtain⟨x2,p2,e2x⟩:=(vq Tryz.underlying25 (u0 Tryz.underlying3)) _ _ _ _ _ _ _ _ q2
  obtain⟨x3,p3,e3x⟩:=(vq Tryz.underlying61 BQ) _ _ _ _ _ _ _ _ q3
  refine⟨⟨x1,x2,x3⟩,⟨p1,p2,p3⟩, ?_⟩
  rw[e1];simp only[List.map_cons,List.map_nil,qL,e1x,e2x,e3x];rfl
def Ph(x:G.af):Prop:=(fun l:List G.ai=>(∀x∈l,JX x)∧l.length≤9223372036854775807) x.aC
theorem MQ:S2 Tryz.prog 24 G.af.av Ph:=by
  intro H enc w spare held fuel cs d ps h
  obtain⟨fuel',xs,e1,e2⟩:=BP Tryz.underlying24 h
  simp only[List.mapM_cons,List.mapM_nil,Option.bind_eq_bind,Option.bind_eq_some_iff,Option.pure_def,Option.some.injEq] at e2
  obtain⟨y1,q1,_,rfl,rfl⟩:=e2
  obtain⟨x1,p1,e1x⟩:=(vq Tryz.underlying22 Ol) _ _ _ _ _ _ _ _ q1
  refine⟨⟨x1⟩,p1, ?_⟩
  rw[e1];simp only[List.map_cons,List.map_nil,qL,e1x];rfl
def Mf(x:G.aP):Prop:=(fun n:Int=> -9223372036854775808≤n∧n≤9223372036854775807) x.Key∧(fun l:List Int=>(∀x∈l,(fun n:Int=> -9223372036854775808≤n∧n≤9223372036854775807) x)∧l.length≤9223372036854775807) x.L
theorem QF:S2 Tryz.prog 65 G.aP.av Mf:=by
  intro H enc w spare held fuel cs d ps h
  obtain⟨fuel',xs,e1,e2⟩:=BP Tryz.underlying65 h
  simp only[List.mapM_cons,List.mapM_nil,Option.bind_eq_bind,Option.bind_eq_some_iff,Option.pure_def,Option.some.injEq] at e2
  obtain⟨y1,q1,_,⟨y2,q2,_,rfl,rfl⟩,rfl⟩:=e2
  obtain⟨x1,p1,e1x⟩:=(u0 Tryz.underlying3) _ _ _ _ _ _ _ _ q1
  obtain⟨x2,p2,e2x⟩:=(vq Tryz.underlying25 (u0 Tryz.underlying3)) _ _ _ _ _ _ _ _ q2
  refine⟨⟨x1,x2⟩,⟨p1,p2⟩, ?_⟩
  rw[e1];simp only[List.map_cons,List.map_nil,qL,e1x,e2x];rfl
def E7(x:G.aa):Prop:=(fun n:Int=> -9223372036854775808≤n∧n≤9223372036854775807) x.Key∧(fun n:Int=> -9223372036854775808≤n∧n≤9223372036854775807) x.A∧(fun n:Int=> -9223372036854775808≤n∧n≤9223372036854775807) x.B
theorem vT:S2 Tryz.prog 67 G.aa.av E7:=by
  intro H enc w spare held fuel cs d ps h
  obtain⟨fuel',xs,e1,e2⟩:=BP Tryz.underlying67 h
  simp only[List.mapM_cons,List.mapM_nil,Option.bind_eq_bind,Option.bind_eq_some_iff,Option.pure_def,Option.some.injEq] at e2
  obtain⟨y1,q1,_,⟨y2,q2,_,⟨y3,q3,_,rfl,rfl⟩,rfl⟩,rfl⟩:=e2
  obtain⟨x1,p1,e1x⟩:=(u0 Tryz.underlying3) _ _ _ _ _ _ _ _ q1
  obtain⟨x2,p2,e2x⟩:=(u0 Tryz.underlying3) _ _ _ _ _ _ _ _ q2
  obtain⟨x3,p3,e3x⟩:=(u0 Tryz.underlying3) _ _ _ _ _ _ _ _ q3
  refine⟨⟨x1,x2,x3⟩,⟨p1,p2,p3⟩, ?_⟩
  rw[e1];simp only[List.map_cons,List.map_nil,qL,e1x,e2x,e3x];rfl
def DI(x:G.au):Prop:=E7 x.C∧(fun l:List Int=>(∀x∈l,(fun n:Int=> -9223372036854775808≤n∧n≤9223372036854775807) x)∧l.length≤9223372036854775807) x.bR
theorem Ix:S2 Tryz.prog 69 G.au.av DI:=by
  intro H enc w spare held fuel cs d ps h
  obtain⟨fuel',xs,e1,e2⟩:=BP Tryz.underlying69 h
  simp only[List.mapM_cons,List.mapM_nil,Option.bind_eq_bind,Option.bind_eq_some_iff,Option.pure_def,Option.some.injEq] at e2
  obtain⟨y1,q1,_,⟨y2,q2,_,rfl,rfl⟩,rfl⟩:=e2
  obtain⟨x1,p1,e1x⟩:=vT _ _ _ _ _ _ _ _ q1
  obtain⟨x2,p2,e2x⟩:=(vq Tryz.underlying25 (u0 Tryz.underlying3)) _ _ _ _ _ _ _ _ q2
  refine⟨⟨x1,x2⟩,⟨p1,p2⟩, ?_⟩
  rw[e1];simp only[List.map_cons,List.map_nil,qL,e1x,e2x];rfl
def Nk(x:G.bh):Prop:=(fun n:Int=> -9223372036854775808≤n∧n≤9223372036854775807) x.Level∧(fun _:Bool=>True) x.j9∧(fun l:List Int=>(∀x∈l,(fun n:Int=> -9223372036854775808≤n∧n≤9223372036854775807) x)∧l.length≤9223372036854775807) x.Order∧(fun l:List G.aP=>(∀x∈l,Mf x)∧l.length≤9223372036854775807) x.Rows∧(fun l:List G.au=>(∀x∈l,DI x)∧l.length≤9223372036854775807) x.Tree
theorem K_:S2 Tryz.prog 29 G.bh.av Nk:=by
  intro H enc w spare held fuel cs d ps h
  obtain⟨fuel',xs,e1,e2⟩:=BP Tryz.underlying29 h
  simp only[List.mapM_cons,List.mapM_nil,Option.bind_eq_bind,Option.bind_eq_some_iff,Option.pure_def,Option.some.injEq] at e2
  obtain⟨y1,q1,_,⟨y2,q2,_,⟨y3,q3,_,⟨y4,q4,_,⟨y5,q5,_,rfl,rfl⟩,rfl⟩,rfl⟩,rfl⟩,rfl⟩:=e2
  obtain⟨x1,p1,e1x⟩:=(u0 Tryz.underlying3) _ _ _ _ _ _ _ _ q1
  obtain⟨x2,p2,e2x⟩:=(UW Tryz.underlying4) _ _ _ _ _ _ _ _ q2
  obtain⟨x3,p3,e3x⟩:=(vq Tryz.underlying25 (u0 Tryz.underlying3)) _ _ _ _ _ _ _ _ q3
  obtain⟨x4,p4,e4x⟩:=(vq Tryz.underlying26 QF) _ _ _ _ _ _ _ _ q4
  obtain⟨x5,p5,e5x⟩:=(vq Tryz.underlying27 Ix) _ _ _ _ _ _ _ _ q5
  refine⟨⟨x1,x2,x3,x4,x5⟩,⟨p1,p2,p3,p4,p5⟩, ?_⟩
  rw[e1];simp only[List.map_cons,List.map_nil,qL,e1x,e2x,e3x,e4x,e5x];rfl
end WkCertTells
