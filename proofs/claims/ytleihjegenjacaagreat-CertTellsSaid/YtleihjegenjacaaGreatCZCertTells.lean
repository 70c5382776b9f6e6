/- The statement of CertTells: it answers true of every input that its arguments' types allow. -/
import Derived.Test.YtleihjegenjacaaGreatPl1
import Derived.Test.YtleihjegenjacaaGreatDecZCertTells
import Derived.Test.YtleihjegenjacaaGreatRows
import Derived.WalkKit
import Derived.ProofKit
import Derived.OpenShut
import Derived.Deep.DeepHandedRow
import Derived.Lib.LaidTab
set_option linter.unusedVariables false
namespace Go.Proofs.YtleihjegenjacaaGreat.certTells
open Go.ChangeShapes Go.WideShapes Go.ChangeAt Go.RowKit Go.Av

theorem own:ownKnob Tryz.prog.godebug=none:=by kernel_rfl
theorem tab{W:World}(_:laidMetH Tryz.prog Rows.certTellsRow.laid W):Wk.Tab W:=trivial

set_option maxRecDepth 20000 in
theorem UU(H:Type)(enc:TypeId×Value→H)(W:World)(base:Nat)(args:Array Value)(ds gs:List (DataW H))(before:List MemPlace)
    (hval:∀(j:Nat) t v,Tryz.f3.params[j]? =some t→args[j]? =some v→Value.okWide Tryz.prog W .any base t v)
    (hW:DataW.Whole enc Tryz.prog Tryz.f3.params.toList Rows.certTellsSpec.vars false W args.toList ds gs before)(hL:laidMetH Tryz.prog Rows.certTellsRow.laid W):
    Calls Tryz.prog 3 args W fun e W'=>∃v,e=.returned v∧Rows.certTellsSpec.post enc Tryz.prog Tryz.f3 false true false false W args v W':=by
  have hW':=hW
  obtain⟨p,q,hA0,hV,rfl,hfz,hnd⟩:=hW
  have hA:DataW.TrodAll enc Tryz.prog W 0 (fun _=>true) true Tryz.f3.params.toList args.toList ds p:=hA0
  rw[Tryz.params3] at hA hval
  obtain⟨v0,vs0,d0,ds0,p0,q0,hargs,rfl,rfl,h0,r0⟩:=trodAll_cons hA
  obtain⟨v1,vs1,d1,ds1,p1,q1,rfl,rfl,rfl,h1,r1⟩:=trodAll_cons r0
  obtain⟨v2,vs2,d2,ds2,p2,q2,rfl,rfl,rfl,h2,r2⟩:=trodAll_cons r1
  obtain⟨rfl,rfl,rfl⟩:=trodAll_nil r2
  obtain rfl:args= #[v0,v1,v2]:=by cases args;simp_all
  obtain⟨rfl,rfl⟩:=trodVars_none hV
  obtain⟨x0,ok0,a0⟩:=MG 9 (by kernel_rfl) WkCertTells.MQ h0 (hval 0 24 v0 rfl rfl)
  obtain⟨x1,ok1,a1⟩:=MG 9 (by kernel_rfl) WkCertTells.K_ h1 (hval 1 29 v1 rfl rfl)
  obtain⟨x2,ok2,a2⟩:=MG 9 (by kernel_rfl) (Y1 Tryz.underlying9) h2 (hval 2 9 v2 rfl rfl)
  exact TB (Wk.Ah (Pl.S1 x0 x1 x2 ⟨ok0.2,fun t ht=>(ok0.1 t ht).2.1.2,fun t ht=>(ok0.1 t ht).2.2.2⟩)) rfl (amO a0 a1 a2) hW' rfl rfl rfl Tryz.underlying4 (by kernel_rfl) (TL (by kernel_rfl))

/-- A world for the witness. -/
noncomputable def Hw(os:Os):World:=
  World.holding Tryz.prog os ⟨#[], #[],[]⟩
noncomputable def wit:Array Value:= #[.agg #[.slice none 0 0],.agg #[.int .i64 0,.bool false,.slice none 0 0,.slice none 0 0,.slice none 0 0],.string ByteArray.empty]
theorem WI(os:Os):laidMet Tryz.prog Rows.certTellsRow.laid ((Hw os).forCall (fun _ _=>0) ⟨#[],wit,[]⟩).memory:=
  laidMet_of_run' 8 (by kernel_rfl) (by kernel_rfl)
theorem reads(os:Os){H:Type}(enc:TypeId×Value→H):∃places,DataW.whole enc Tryz.prog ((Hw os).forCall (fun _ _=>0) ⟨#[],wit,[]⟩).memory Tryz.f3.params.toList Rows.certTellsSpec.vars false wit.toList 8=some ([.agg [.nil],.agg [.lit (.int .i64 0),.lit (.bool false),.nil,.nil,.nil],.lit (.string [])],[],places):=
  ⟨[],by kernel_rfl⟩

set_option maxRecDepth 100000 in
theorem lifted(os:Os)(started:os.Started)(H:Type)(enc:TypeId×Value→H)(F:Stop.Interp):
    ReturnsInHanded {} Tryz.checked os 3 .any ((OpenSpec.ofChange Rows.certTellsSpec).preRow enc Tryz.prog Tryz.f3 Rows.certTellsRow.domain false Rows.certTellsRow.laid) (((OpenSpec.ofChange Rows.certTellsSpec).at F).post enc Tryz.prog Tryz.f3 false true false false):=by
  obtain⟨places,hx⟩:=reads os enc
  refine returnsInHanded_of_row (C:=Tryz.checked) (s:=OpenSpec.ofChange Rows.certTellsSpec) own started (by kernel_rfl) Tryz.func3
    (witness_row_at (enc:=enc) (C:=Tryz.checked) false (Hw os) wit rfl (by kernel_rfl) (by kernel_rfl) (by kernel_rfl)
      (OpenSpec.preRow_of_cond 8 hx (by kernel_rfl) (fun k hk=>by cases hk) (by kernel_rfl) (WI os))) ?_
  intro W base args ds gs before hval hW _ _ _ hL _ _
  exact UU H enc W base args ds gs before hval hW hL

theorem said:Rows.CertTellsSaid:=
  OpenClaim.holds_of_cond 3 Tryz.f3 rfl rfl rfl rfl rfl rfl rfl ⟨rfl,rfl,rfl,rfl,rfl⟩ rfl rfl rfl rfl rfl (by kernel_rfl) Tryz.func3 (by kernel_rfl)
    (of_decide_eq_true (by kernel_rfl)) (by unfold Func.isWrapper;first|(rw[if_pos (by decide+kernel)];kernel_rfl)|(rw[if_neg (by decide+kernel)];exact⟨rfl,rfl⟩))
    (fun os started H enc _ F=>by rw[OpenClaim.pre_eq_preRow];exact lifted os started H enc F)

end Go.Proofs.YtleihjegenjacaaGreat.certTells
