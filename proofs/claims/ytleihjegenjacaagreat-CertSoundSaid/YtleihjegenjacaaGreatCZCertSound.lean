/- The statement of CertSound: it answers true of every input that its arguments' types allow. -/
import Derived.Test.YtleihjegenjacaaGreatPl1
import Derived.Test.YtleihjegenjacaaGreatDecZCertSound
import Derived.Test.YtleihjegenjacaaGreatRows
import Derived.WalkKit
import Derived.ProofKit
import Derived.OpenShut
import Derived.Deep.DeepHandedRow
import Derived.Lib.LaidTab
namespace Go.Proofs.YtleihjegenjacaaGreat.certSound
open Go.ChangeShapes Go.WideShapes Go.ChangeAt Go.RowKit Go.Av

theorem own:ownKnob Tryz.prog.godebug=none:=by kernel_rfl
theorem tab{W:World}(_:laidMetH Tryz.prog Rows.certSoundRow.laid W):Wk.dc W:=trivial

set_option maxRecDepth 20000 in
theorem Si(H:Type)(enc:TypeId×Value→H)(W:World)(base:Nat)(args:Array Value)(ds gs:List (DataW H))(before:List MemPlace)
    (hval:∀(j:Nat) t v,Tryz.f4.params[j]? =some t→args[j]? =some v→Value.okWide Tryz.prog W .any base t v)
    (hW:DataW.Whole enc Tryz.prog Tryz.f4.params.toList Rows.certSoundSpec.vars false W args.toList ds gs before)(hL:laidMetH Tryz.prog Rows.certSoundRow.laid W):
    Calls Tryz.prog 4 args W fun e W'=>∃v,e=.returned v∧Rows.certSoundSpec.post enc Tryz.prog Tryz.f4 false true false false W args v W':=by
  have hW':=hW
  obtain⟨p,q,hA0,hV,rfl,hfz,hnd⟩:=hW
  have hA:DataW.TrodAll enc Tryz.prog W 0 (fun _=>true) true Tryz.f4.params.toList args.toList ds p:=hA0
  rw[Tryz.params4] at hA hval
  obtain⟨v0,vs0,d0,ds0,p0,q0,hargs,rfl,rfl,h0,r0⟩:=trodAll_cons hA
  obtain⟨v1,vs1,d1,ds1,p1,q1,rfl,rfl,rfl,h1,r1⟩:=trodAll_cons r0
  obtain⟨rfl,rfl,rfl⟩:=trodAll_nil r1
  obtain rfl:args= #[v0,v1]:=by cases args;simp_all
  obtain⟨rfl,rfl⟩:=trodVars_none hV
  obtain⟨x0,ok0,a0⟩:=PE 9 (by kernel_rfl) WkCertSound.Kv h0 (hval 0 24 v0 rfl rfl)
  obtain⟨x1,ok1,a1⟩:=PE 9 (by kernel_rfl) WkCertSound.Ja h1 (hval 1 29 v1 rfl rfl)
  exact Q2 (Wk.xC (tab hL) (Pl.Qt x0 x1 ⟨ok0.2,fun t ht=>(ok0.1 t ht).2.1.2,fun t ht=>(ok0.1 t ht).2.2.2⟩)) rfl (ahj a0 a1) hW' rfl rfl rfl Tryz.underlying4 (by kernel_rfl) (Ra (by kernel_rfl))

/-- A world for the witness. -/
noncomputable def FH(os:Os):World:=
  World.holding Tryz.prog os ⟨#[], #[],[]⟩
noncomputable def wit:Array Value:= #[.agg #[.slice none 0 0],.agg #[.int .i64 0,.bool false,.slice none 0 0,.slice none 0 0,.slice none 0 0]]
theorem T0(os:Os):laidMet Tryz.prog Rows.certSoundRow.laid ((FH os).forCall (fun _ _=>0) ⟨#[],wit,[]⟩).memory:=
  laidMet_of_run' 8 (by kernel_rfl) (by kernel_rfl)
theorem reads(os:Os){H:Type}(enc:TypeId×Value→H):∃places,DataW.whole enc Tryz.prog ((FH os).forCall (fun _ _=>0) ⟨#[],wit,[]⟩).memory Tryz.f4.params.toList Rows.certSoundSpec.vars false wit.toList 8=some ([.agg [.nil],.agg [.lit (.int .i64 0),.lit (.bool false),.nil,.nil,.nil]],[],places):=
  ⟨[],by kernel_rfl⟩

set_option maxRecDepth 100000 in
theorem lifted(os:Os)(started:os.Started)(H:Type)(enc:TypeId×Value→H)(F:Stop.Interp):
    ReturnsInHanded {} Tryz.checked os 4 .any ((OpenSpec.ofChange Rows.certSoundSpec).preRow enc Tryz.prog Tryz.f4 Rows.certSoundRow.domain false Rows.certSoundRow.laid) (((OpenSpec.ofChange Rows.certSoundSpec).at F).post enc Tryz.prog Tryz.f4 false true false false):=by
  obtain⟨places,hx⟩:=reads os enc
  refine returnsInHanded_of_row (C:=Tryz.checked) (s:=OpenSpec.ofChange Rows.certSoundSpec) own started (by kernel_rfl) Tryz.func4
    (witness_row_at (enc:=enc) (C:=Tryz.checked) false (FH os) wit rfl (by kernel_rfl) (by kernel_rfl) (by kernel_rfl)
      (OpenSpec.preRow_of_cond 8 hx (by kernel_rfl) (fun k hk=>by cases hk) (by kernel_rfl) (T0 os))) ?_
  intro W base args ds gs before hval hW _ _ _ hL _ _
  exact Si H enc W base args ds gs before hval hW hL

theorem said:Rows.CertSoundSaid:=
  OpenClaim.holds_of_cond 4 Tryz.f4 rfl rfl rfl rfl rfl rfl rfl ⟨rfl,rfl,rfl,rfl,rfl⟩ rfl rfl rfl rfl rfl (by kernel_rfl) Tryz.func4 (by kernel_rfl)
    (of_decide_eq_true (by kernel_rfl)) (by unfold Func.isWrapper;first|(rw[if_pos (by decide+kernel)];kernel_rfl)|(rw[if_neg (by decide+kernel)];exact⟨rfl,rfl⟩))
    (fun os started H enc _ F=>by rw[OpenClaim.pre_eq_preRow];exact lifted os started H enc F)

end Go.Proofs.YtleihjegenjacaaGreat.certSound
