/- How the arguments of TopEnds are read. -/
import Derived.Test.YtanbmobkolihaaaGreatDoorWhRm13
open List renaming mapM_cons→acT,mapM_nil→aqR,map_cons→ac7,map_nil→ara
open Option renaming bind_eq_bind→aeY,bind_eq_some_iff→ae1,pure_def→afd
open Go Go.Av Go.Proofs
namespace WkTopEnds
def NR(x:G.bu):Prop:=(fun n:Int=> -9223372036854775808≤n∧n≤9223372036854775807) x.c0∧(fun n:Int=> -9223372036854775808≤n∧n≤9223372036854775807) x.c1∧(fun n:Int=> -9223372036854775808≤n∧n≤9223372036854775807) x.c2∧(fun n:Int=> -9223372036854775808≤n∧n≤9223372036854775807) x.c3
theorem ach:Tryz.prog.cellsOf 22=4:=by kernel_rfl
theorem qe:Tryz.prog.cellsOf 3=1:=by kernel_rfl
theorem SZ:Dec Tryz.prog 22 G.bu.av NR:=by
  intro H enc w spare held fuel cs d ps h
  cases fuel with
  |zero=>simp[DataW.trod] at h
  |succ fuel=>
    simp only[DataW.trod,Tryz.underlying22,qe,ach,Nat.mul_one] at h
    split at h
    · obtain⟨xs,hm,hx⟩:=Option.map_eq_some_iff.1 h
      rw[show List.range 4=[0,1,2,3] from rfl] at hm
      simp only[acT,aqR,aeY,ae1,afd,Option.some.injEq] at hm
      obtain⟨y1,q1,_,⟨y2,q2,_,⟨y3,q3,_,⟨y4,q4,_,rfl,rfl⟩,rfl⟩,rfl⟩,rfl⟩:=hm
      obtain⟨x1,p1,e1x⟩:=(CO Tryz.underlying3) _ _ _ _ _ _ _ _ q1
      obtain⟨x2,p2,e2x⟩:=(CO Tryz.underlying3) _ _ _ _ _ _ _ _ q2
      obtain⟨x3,p3,e3x⟩:=(CO Tryz.underlying3) _ _ _ _ _ _ _ _ q3
      obtain⟨x4,p4,e4x⟩:=(CO Tryz.underlying3) _ _ _ _ _ _ _ _ q4
      obtain rfl:=(congrArg Prod.fst hx).symm
      refine⟨⟨x1,x2,x3,x4⟩,⟨p1,p2,p3,p4⟩, ?_⟩
      show AV.agg (pR _)=_
      simp only[ac7,ara,pR,e1x,e2x,e3x,e4x];rfl
    · cases h
def DL(x:G.bC):Prop:=(fun n:Int=> -9223372036854775808≤n∧n≤9223372036854775807) x.Left∧NR x.bW
theorem Jc:Dec Tryz.prog 24 G.bC.av DL:=by
  intro H enc w spare held fuel cs d ps h
  obtain⟨fuel',xs,e1,e2⟩:=UZ Tryz.underlying24 h
  simp only[acT,aqR,aeY,ae1,afd,Option.some.injEq] at e2
  obtain⟨y1,q1,_,⟨y2,q2,_,rfl,rfl⟩,rfl⟩:=e2
  obtain⟨x1,p1,e1x⟩:=(CO Tryz.underlying3) _ _ _ _ _ _ _ _ q1
  obtain⟨x2,p2,e2x⟩:=SZ _ _ _ _ _ _ _ _ q2
  refine⟨⟨x1,x2⟩,⟨p1,p2⟩, ?_⟩
  rw[e1];simp only[ac7,ara,pR,e1x,e2x];rfl
def Is(x:G.bf):Prop:=(fun _:List UInt8=>True) x.Text∧(fun n:Int=> -9223372036854775808≤n∧n≤9223372036854775807) x.Level∧DL x.B∧(fun _:List UInt8=>True) x.dR
theorem GM:Dec Tryz.prog 26 G.bf.av Is:=by
  intro H enc w spare held fuel cs d ps h
  obtain⟨fuel',xs,e1,e2⟩:=UZ Tryz.underlying26 h
  simp only[acT,aqR,aeY,ae1,afd,Option.some.injEq] at e2
  obtain⟨y1,q1,_,⟨y2,q2,_,⟨y3,q3,_,⟨y4,q4,_,rfl,rfl⟩,rfl⟩,rfl⟩,rfl⟩:=e2
  obtain⟨x1,p1,e1x⟩:=(U0 Tryz.underlying9) _ _ _ _ _ _ _ _ q1
  obtain⟨x2,p2,e2x⟩:=(CO Tryz.underlying3) _ _ _ _ _ _ _ _ q2
  obtain⟨x3,p3,e3x⟩:=Jc _ _ _ _ _ _ _ _ q3
  obtain⟨x4,p4,e4x⟩:=(U0 Tryz.underlying9) _ _ _ _ _ _ _ _ q4
  refine⟨⟨x1,x2,x3,x4⟩,⟨p1,p2,p3,p4⟩, ?_⟩
  rw[e1];simp only[ac7,ara,pR,e1x,e2x,e3x,e4x];rfl
end WkTopEnds
