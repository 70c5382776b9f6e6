/- How the arguments of CertOrders are read. -/
import Derived.Test.YtleihjegenjacaaGreatWkZinquestlaw27CertOrders
import Derived.Test.YtleihjegenjacaaGreatBase2
open Go Go.Av Go.Proofs
namespace WkCertOrders
def yQ(x:G.aj):Prop:=(fun n:Int=> -9223372036854775808≤n∧n≤9223372036854775807) x.Key∧(fun n:Int=> -9223372036854775808≤n∧n≤9223372036854775807) x.dn
theorem td:Nj Tryz.prog 60 G.aj.av yQ:=by
  intro H enc w spare held fuel cs d ps h
  obtain⟨fuel',xs,e1,e2⟩:=Cg Tryz.underlying60 h
  simp only[List.mapM_cons,List.mapM_nil,Option.bind_eq_bind,Option.bind_eq_some_iff,Option.pure_def,Option.some.injEq] at e2
  obtain⟨y1,q1,_,⟨y2,q2,_,rfl,rfl⟩,rfl⟩:=e2
  obtain⟨x1,p1,e1x⟩:=(w8 Tryz.underlying3) _ _ _ _ _ _ _ _ q1
  obtain⟨x2,p2,e2x⟩:=(w8 Tryz.underlying3) _ _ _ _ _ _ _ _ q2
  refine⟨⟨x1,x2⟩,⟨p1,p2⟩, ?_⟩
  rw[e1];simp only[List.map_cons,List.map_nil,mK,e1x,e2x];rfl
def Ak(x:G.ah):Prop:=(fun n:Int=> -9223372036854775808≤n∧n≤9223372036854775807) x.bt∧(fun l:List Int=>(∀x∈l,(fun n:Int=> -9223372036854775808≤n∧n≤9223372036854775807) x)∧l.length≤9223372036854775807) x.bD∧(fun l:List G.aj=>(∀x∈l,yQ x)∧l.length≤9223372036854775807) x.Reads
theorem DF:Nj Tryz.prog 63 G.ah.av Ak:=by
  intro H enc w spare held fuel cs d ps h
  obtain⟨fuel',xs,e1,e2⟩:=Cg Tryz.underlying63 h
  simp only[List.mapM_cons,List.mapM_nil,Option.bind_eq_bind,Option.bind_eq_some_iff,Option.pure_def,Option.some.injEq] at e2
  obtain⟨y1,q1,_,⟨y2,q2,_,⟨y3,q3,_,rfl,rfl⟩,rfl⟩,rfl⟩:=e2
  obtain⟨x1,p1,e1x⟩:=(w8 Tryz.underlying3) _ _ _ _ _ _ _ _ q1
  obtain⟨x2,p2,e2x⟩:=(vq Tryz.underlying25 (w8 Tryz.underlying3)) _ _ _ _ _ _ _ _ q2
  obtain⟨x3,p3,e3x⟩:=(vq Tryz.underlying61 td) _ _ _ _ _ _ _ _ q3
  refine⟨⟨x1,x2,x3⟩,⟨p1,p2,p3⟩, ?_⟩
  rw[e1];simp only[List.map_cons,List.map_nil,mK,e1x,e2x,e3x];rfl
def Ev(x:G.af):Prop:=(fun l:List G.ah=>(∀x∈l,Ak x)∧l.length≤9223372036854775807) x.aG
theorem Ch:Nj Tryz.prog 24 G.af.av Ev:=by
  intro H enc w spare held fuel cs d ps h
  obtain⟨fuel',xs,e1,e2⟩:=Cg Tryz.underlying24 h
  simp only[List.mapM_cons,List.mapM_nil,Option.bind_eq_bind,Option.bind_eq_some_iff,Option.pure_def,Option.some.injEq] at e2
  obtain⟨y1,q1,_,rfl,rfl⟩:=e2
  obtain⟨x1,p1,e1x⟩:=(vq Tryz.underlying22 DF) _ _ _ _ _ _ _ _ q1
  refine⟨⟨x1⟩,p1, ?_⟩
  rw[e1];simp only[List.map_cons,List.map_nil,mK,e1x];rfl
end WkCertOrders
