/- The statement of CertOrders: it answers true of every input that its arguments' types allow. -/
import Derived.Test.YtleihjegenjacaaGreatPl
import Derived.Test.YtleihjegenjacaaGreatDecZCertOrders
import Derived.Test.YtleihjegenjacaaGreatRows
import Derived.WalkKit
import Derived.ProofKit
import Derived.OpenShut
import Derived.Deep.DeepHandedRow
import Derived.Lib.LaidTab
namespace Go.Proofs.YtleihjegenjacaaGreat.certOrders
open Go.ChangeShapes Go.WideShapes Go.ChangeAt Go.RowKit Go.Av

theorem own:ownKnob Tryz.prog.godebug=none:=by kernel_rfl
theorem WQ{W:World}(_:laidMetH Tryz.prog Rows.certOrdersRow.laid W):Wk.dU W:=trivial

set_option maxRecDepth 20000 in
theorem Ic(H:Type)(enc:TypeId×Value→H)(W:World)(base:Nat)(args:Array Value)(ds gs:List (DataW H))(before:List MemPlace)
    (hval:∀(j:Nat) t v,Tryz.f6.params[j]? =some t→args[j]? =some v→Value.okWide Tryz.prog W .any base t v)
    (hW:DataW.Whole enc Tryz.prog Tryz.f6.params.toList Rows.certOrdersSpec.vars false W args.toList ds gs before)(hL:laidMetH Tryz.prog Rows.certOrdersRow.laid W):
    Calls Tryz.prog 6 args W fun e W'=>∃v,e=.returned v∧Rows.certOrdersSpec.post enc Tryz.prog Tryz.f6 false true false false W args v W':=by
  have hW':=hW
  obtain⟨p,q,WW,hV,rfl,hfz,hnd⟩:=hW
  have hA:DataW.TrodAll enc Tryz.prog W 0 (fun _=>true) true Tryz.f6.params.toList args.toList ds p:=WW
  rw[Tryz.params6] at hA hval
  obtain⟨v0,YA,d0,Yb,p0,q0,hargs,rfl,rfl,h0,r0⟩:=trodAll_cons hA
  obtain⟨v1,YB,d1,Yc,p1,q1,rfl,rfl,rfl,h1,r1⟩:=trodAll_cons r0
  obtain⟨rfl,rfl,rfl⟩:=trodAll_nil r1
  obtain rfl:args= #[v0,v1]:=by cases args;simp_all
  obtain⟨rfl,rfl⟩:=trodVars_none hV
  obtain⟨x0,Yy,a0⟩:=F6 9 (by kernel_rfl) WkCertOrders.Ch h0 (hval 0 24 v0 rfl rfl)
  obtain⟨x1,Yz,a1⟩:=F6 9 (by kernel_rfl) (vq Tryz.underlying25 (w8 Tryz.underlying3)) h1 (hval 1 25 v1 rfl rfl)
  exact GP (Wk.qP (WQ hL) (Pl.E5 x0 x1)) rfl (SI a0 a1) hW' rfl rfl rfl Tryz.underlying4 (by kernel_rfl) (G0 (by kernel_rfl))

/-- A world for the witness. -/
noncomputable def yl(os:Os):World:=
  World.holding Tryz.prog os ⟨#[], #[],[]⟩
noncomputable def Tz:Array Value:= #[.agg #[.slice none 0 0],.slice none 0 0]
theorem J2(os:Os):laidMet Tryz.prog Rows.certOrdersRow.laid ((yl os).forCall (fun _ _=>0) ⟨#[],Tz,[]⟩).memory:=
  laidMet_of_run' 8 (by kernel_rfl) (by kernel_rfl)
theorem reads(os:Os){H:Type}(enc:TypeId×Value→H):∃places,DataW.whole enc Tryz.prog ((yl os).forCall (fun _ _=>0) ⟨#[],Tz,[]⟩).memory Tryz.f6.params.toList Rows.certOrdersSpec.vars false Tz.toList 8=some ([.agg [.nil],.nil],[],places):=
  ⟨[],by kernel_rfl⟩

set_option maxRecDepth 100000 in
theorem lifted(os:Os)(started:os.Started)(H:Type)(enc:TypeId×Value→H)(F:Stop.Interp):
    ReturnsInHanded {} Tryz.checked os 6 .any ((OpenSpec.ofChange Rows.certOrdersSpec).preRow enc Tryz.prog Tryz.f6 Rows.certOrdersRow.domain false Rows.certOrdersRow.laid) (((OpenSpec.ofChange Rows.certOrdersSpec).at F).post enc Tryz.prog Tryz.f6 false true false false):=by
  obtain⟨places,hx⟩:=reads os enc
  refine returnsInHanded_of_row (C:=Tryz.checked) (s:=OpenSpec.ofChange Rows.certOrdersSpec) own started (by kernel_rfl) Tryz.func6
    (witness_row_at (enc:=enc) (C:=Tryz.checked) false (yl os) Tz rfl (by kernel_rfl) (by kernel_rfl) (by kernel_rfl)
      (OpenSpec.preRow_of_cond 8 hx (by kernel_rfl) (fun k hk=>by cases hk) (by kernel_rfl) (J2 os))) ?_
  intro W base args ds gs before hval hW _ _ _ hL _ _
  exact Ic H enc W base args ds gs before hval hW hL

theorem said:Rows.CertOrdersSaid:=
  OpenClaim.holds_of_cond 6 Tryz.f6 rfl rfl rfl rfl rfl rfl rfl ⟨rfl,rfl,rfl,rfl,rfl⟩ rfl rfl rfl rfl rfl (by kernel_rfl) Tryz.func6 (by kernel_rfl)
    (of_decide_eq_true (by kernel_rfl)) (by unfold Func.isWrapper;first|(rw[if_pos (by decide+kernel)];kernel_rfl)|(rw[if_neg (by decide+kernel)];exact⟨rfl,rfl⟩))
    (fun os started H enc _ F=>by rw[OpenClaim.pre_eq_preRow];exact lifted os started H enc F)

end Go.Proofs.YtleihjegenjacaaGreat.certOrders
