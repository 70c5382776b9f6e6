/- How the arguments of FrontTells are read. -/
import Derived.Test.YtmnmbaehidfebaaGreatDoorWkWinquestlaw25FrontTells
import Derived.Test.YtmnmbaehidfebaaGreatDoorBase2
open Go Go.Av Go.Proofs
namespace WkFrontTells
def Eg(x:G.aC):Prop:=(fun n:Int=> -9223372036854775808≤n∧n≤9223372036854775807) x.Key∧(fun n:Int=> -9223372036854775808≤n∧n≤9223372036854775807) x.bH
theorem ya:Qc Tryz.prog 106 G.aC.av Eg:=by
  intro H enc w spare held fuel cs d ps h
  obtain⟨fuel',xs,e1,e2⟩:=x_ Tryz.underlying106 h
  simp only[List.mapM_cons,List.mapM_nil,Option.bind_eq_bind,Option.bind_eq_some_iff,Option.pure_def,Option.some.injEq] at e2
  obtain⟨y1,q1,_,⟨y2,q2,_,rfl,rfl⟩,rfl⟩:=e2
  obtain⟨x1,p1,e1x⟩:=(qU Tryz.underlying3) _ _ _ _ _ _ _ _ q1
  obtain⟨x2,p2,e2x⟩:=(qU Tryz.underlying3) _ _ _ _ _ _ _ _ q2
  refine⟨⟨x1,x2⟩,⟨p1,p2⟩, ?_⟩
  rw[e1];simp only[List.map_cons,List.map_nil,ox,e1x,e2x];rfl
def GB(x:G.ai):Prop:=(fun n:Int=> -9223372036854775808≤n∧n≤9223372036854775807) x.bt∧(fun l:List Int=>(∀x∈l,(fun n:Int=> -9223372036854775808≤n∧n≤9223372036854775807) x)∧l.length≤9223372036854775807) x.br∧(fun l:List G.aC=>(∀x∈l,Eg x)∧l.length≤9223372036854775807) x.Reads
theorem Ky:Qc Tryz.prog 45 G.ai.av GB:=by
  intro H enc w spare held fuel cs d ps h
  obtain⟨fuel',xs,e1,e2⟩:=x_ Tryz.underlying45 h
  simp only[List.mapM_cons,List.mapM_nil,Option.bind_eq_bind,Option.bind_eq_some_iff,Option.pure_def,Option.some.injEq] at e2
  obtain⟨y1,q1,_,⟨y2,q2,_,⟨y3,q3,_,rfl,rfl⟩,rfl⟩,rfl⟩:=e2
  obtain⟨x1,p1,e1x⟩:=(qU Tryz.underlying3) _ _ _ _ _ _ _ _ q1
  obtain⟨x2,p2,e2x⟩:=(tD Tryz.underlying42 (qU Tryz.underlying3)) _ _ _ _ _ _ _ _ q2
  obtain⟨x3,p3,e3x⟩:=(tD Tryz.underlying43 ya) _ _ _ _ _ _ _ _ q3
  refine⟨⟨x1,x2,x3⟩,⟨p1,p2,p3⟩, ?_⟩
  rw[e1];simp only[List.map_cons,List.map_nil,ox,e1x,e2x,e3x];rfl
def Ef(x:G.ah):Prop:=(fun l:List G.ai=>(∀x∈l,GB x)∧l.length≤9223372036854775807) x.au
theorem I_:Qc Tryz.prog 24 G.ah.av Ef:=by
  intro H enc w spare held fuel cs d ps h
  obtain⟨fuel',xs,e1,e2⟩:=x_ Tryz.underlying24 h
  simp only[List.mapM_cons,List.mapM_nil,Option.bind_eq_bind,Option.bind_eq_some_iff,Option.pure_def,Option.some.injEq] at e2
  obtain⟨y1,q1,_,rfl,rfl⟩:=e2
  obtain⟨x1,p1,e1x⟩:=(tD Tryz.underlying22 Ky) _ _ _ _ _ _ _ _ q1
  refine⟨⟨x1⟩,p1, ?_⟩
  rw[e1];simp only[List.map_cons,List.map_nil,ox,e1x];rfl
def w_(x:G.aa):Prop:=(fun n:Int=> -9223372036854775808≤n∧n≤9223372036854775807) x.Key∧(fun n:Int=> -9223372036854775808≤n∧n≤9223372036854775807) x.A∧(fun n:Int=> -9223372036854775808≤n∧n≤9223372036854775807) x.B
theorem qw:Qc Tryz.prog 47 G.aa.av w_:=by
  intro H enc w spare held fuel cs d ps h
  obtain⟨fuel',xs,e1,e2⟩:=x_ Tryz.underlying47 h
  simp only[List.mapM_cons,List.mapM_nil,Option.bind_eq_bind,Option.bind_eq_some_iff,Option.pure_def,Option.some.injEq] at e2
  obtain⟨y1,q1,_,⟨y2,q2,_,⟨y3,q3,_,rfl,rfl⟩,rfl⟩,rfl⟩:=e2
  obtain⟨x1,p1,e1x⟩:=(qU Tryz.underlying3) _ _ _ _ _ _ _ _ q1
  obtain⟨x2,p2,e2x⟩:=(qU Tryz.underlying3) _ _ _ _ _ _ _ _ q2
  obtain⟨x3,p3,e3x⟩:=(qU Tryz.underlying3) _ _ _ _ _ _ _ _ q3
  refine⟨⟨x1,x2,x3⟩,⟨p1,p2,p3⟩, ?_⟩
  rw[e1];simp only[List.map_cons,List.map_nil,ox,e1x,e2x,e3x];rfl
def CT(x:G.az):Prop:=w_ x.C∧(fun n:Int=> -9223372036854775808≤n∧n≤9223372036854775807) x.Kind∧(fun n:Int=> -9223372036854775808≤n∧n≤9223372036854775807) x.I∧(fun n:Int=> -9223372036854775808≤n∧n≤9223372036854775807) x.J∧(fun l:List Int=>(∀x∈l,(fun n:Int=> -9223372036854775808≤n∧n≤9223372036854775807) x)∧l.length≤9223372036854775807) x.bI
theorem Hq:Qc Tryz.prog 49 G.az.av CT:=by
  intro H enc w spare held fuel cs d ps h
  obtain⟨fuel',xs,e1,e2⟩:=x_ Tryz.underlying49 h
  simp only[List.mapM_cons,List.mapM_nil,Option.bind_eq_bind,Option.bind_eq_some_iff,Option.pure_def,Option.some.injEq] at e2
  obtain⟨y1,q1,_,⟨y2,q2,_,⟨y3,q3,_,⟨y4,q4,_,⟨y5,q5,_,rfl,rfl⟩,rfl⟩,rfl⟩,rfl⟩,rfl⟩:=e2
  obtain⟨x1,p1,e1x⟩:=qw _ _ _ _ _ _ _ _ q1
  obtain⟨x2,p2,e2x⟩:=(qU Tryz.underlying3) _ _ _ _ _ _ _ _ q2
  obtain⟨x3,p3,e3x⟩:=(qU Tryz.underlying3) _ _ _ _ _ _ _ _ q3
  obtain⟨x4,p4,e4x⟩:=(qU Tryz.underlying3) _ _ _ _ _ _ _ _ q4
  obtain⟨x5,p5,e5x⟩:=(tD Tryz.underlying42 (qU Tryz.underlying3)) _ _ _ _ _ _ _ _ q5
  refine⟨⟨x1,x2,x3,x4,x5⟩,⟨p1,p2,p3,p4,p5⟩, ?_⟩
  rw[e1];simp only[List.map_cons,List.map_nil,ox,e1x,e2x,e3x,e4x,e5x];rfl
def AE(x:G.aB):Prop:=w_ x.C∧(fun l:List Int=>(∀x∈l,(fun n:Int=> -9223372036854775808≤n∧n≤9223372036854775807) x)∧l.length≤9223372036854775807) x.bI
theorem Ey:Qc Tryz.prog 51 G.aB.av AE:=by
  intro H enc w spare held fuel cs d ps h
  obtain⟨fuel',xs,e1,e2⟩:=x_ Tryz.underlying51 h
  simp only[List.mapM_cons,List.mapM_nil,Option.bind_eq_bind,Option.bind_eq_some_iff,Option.pure_def,Option.some.injEq] at e2
  obtain⟨y1,q1,_,⟨y2,q2,_,rfl,rfl⟩,rfl⟩:=e2
  obtain⟨x1,p1,e1x⟩:=qw _ _ _ _ _ _ _ _ q1
  obtain⟨x2,p2,e2x⟩:=(tD Tryz.underlying42 (qU Tryz.underlying3)) _ _ _ _ _ _ _ _ q2
  refine⟨⟨x1,x2⟩,⟨p1,p2⟩, ?_⟩
  rw[e1];simp only[List.map_cons,List.map_nil,ox,e1x,e2x];rfl
def AD(x:G.bz):Prop:=Ef x.H∧(fun n:Int=> -9223372036854775808≤n∧n≤9223372036854775807) x.Level∧(fun l:List G.az=>(∀x∈l,CT x)∧l.length≤9223372036854775807) x.L∧(fun l:List G.aB=>(∀x∈l,AE x)∧l.length≤9223372036854775807) x.Tree
theorem zi:Qc Tryz.prog 28 G.bz.av AD:=by
  intro H enc w spare held fuel cs d ps h
  obtain⟨fuel',xs,e1,e2⟩:=x_ Tryz.underlying28 h
  simp only[List.mapM_cons,List.mapM_nil,Option.bind_eq_bind,Option.bind_eq_some_iff,Option.pure_def,Option.some.injEq] at e2
  obtain⟨y1,q1,_,⟨y2,q2,_,⟨y3,q3,_,⟨y4,q4,_,rfl,rfl⟩,rfl⟩,rfl⟩,rfl⟩:=e2
  obtain⟨x1,p1,e1x⟩:=I_ _ _ _ _ _ _ _ _ q1
  obtain⟨x2,p2,e2x⟩:=(qU Tryz.underlying3) _ _ _ _ _ _ _ _ q2
  obtain⟨x3,p3,e3x⟩:=(tD Tryz.underlying25 Hq) _ _ _ _ _ _ _ _ q3
  obtain⟨x4,p4,e4x⟩:=(tD Tryz.underlying26 Ey) _ _ _ _ _ _ _ _ q4
  refine⟨⟨x1,x2,x3,x4⟩,⟨p1,p2,p3,p4⟩, ?_⟩
  rw[e1];simp only[List.map_cons,List.map_nil,ox,e1x,e2x,e3x,e4x];rfl
end WkFrontTells
