/- The tied card of FrontTells: it answers true of every input that its arguments' types allow. -/
import Derived.Test.YtmnmbaehidfebaaGreatDoorPl1
import Derived.Test.YtmnmbaehidfebaaGreatDoorDecWFrontTells
import Derived.Test.YtmnmbaehidfebaaGreatDoorCards
import Derived.Test.YtmnmbaehidfebaaGreatDoorTie
import Derived.WalkKit
import Derived.ProofKit
import Derived.OpenShut
import Derived.Deep.DeepHandedRow
import Derived.Lib.LaidTab
namespace Go.Proofs.YtmnmbaehidfebaaGreatDoor.frontTells
open Go.ChangeShapes Go.WideShapes Go.ChangeAt Go.RowKit Go.Av

theorem own:ownKnob Tryz.prog.godebug=none:=by kernel_rfl
theorem aba:Tryz.prog.globalNamed "math/bits.deBruijn64tab" =some 0:=by kernel_rfl
theorem Q1:(Tryz.prog.globals[0]?).map (·.type)=some 137:=by kernel_rfl
theorem Qw:Tryz.prog.cellsOf 137=64:=by kernel_rfl
theorem XG:Tryz.prog.cellsOf 5=1:=by kernel_rfl
theorem table{W:World}(h:laidMetH Tryz.prog Rows.frontTellsRow.laid W):Lib.TabIs Tryz.prog W "math/bits.deBruijn64tab" .u8 (Bv.TJ.map fun(k:Nat)=>(k:Int)):=
  Lib.tabIs_of_head (rest:=[]) aba Q1 Tryz.underlying137 Tryz.underlying5 XG Qw h
theorem TJ{W:World}(h:laidMetH Tryz.prog Rows.frontTellsRow.laid W):Wk.cR W:=ZG (table h) aba

set_option maxRecDepth 20000 in
theorem Qz(H:Type)(enc:TypeId×Value→H)(W:World)(base:Nat)(args:Array Value)(ds gs:List (DataW H))(before:List MemPlace)
    (hval:∀(j:Nat) t v,Tryz.f3.params[j]? =some t→args[j]? =some v→Value.okWide Tryz.prog W .any base t v)
    (hW:DataW.Whole enc Tryz.prog Tryz.f3.params.toList Rows.frontTellsSpec.vars false W args.toList ds gs before)(hL:laidMetH Tryz.prog Rows.frontTellsRow.laid W):
    Calls Tryz.prog 3 args W fun e W'=>∃v,e=.returned v∧Rows.frontTellsSpec.post enc Tryz.prog Tryz.f3 false true false false W args v W':=by
  have hW':=hW
  obtain⟨p,q,hA0,hV,rfl,hfz,hnd⟩:=hW
  have hA:DataW.TrodAll enc Tryz.prog W 0 (fun _=>true) true Tryz.f3.params.toList args.toList ds p:=hA0
  rw[Tryz.params3] at hA hval
  obtain⟨v0,vs0,d0,ds0,p0,q0,hargs,rfl,rfl,h0,r0⟩:=trodAll_cons hA
  obtain⟨rfl,rfl,rfl⟩:=trodAll_nil r0
  obtain rfl:args= #[v0]:=by cases args;simp_all
  obtain⟨rfl,rfl⟩:=trodVars_none hV
  obtain⟨x0,ok0,a0⟩:=Uj 9 (by kernel_rfl) WkFrontTells.zi h0 (hval 0 28 v0 rfl rfl)
  exact OZ (Wk.vE (TJ hL) (Pl.Mt x0)) rfl (ahQ a0) hW' rfl rfl rfl Tryz.underlying4 (by kernel_rfl) (Ph (by kernel_rfl))

/-- A world for the witness. -/
noncomputable def DM(os:Os):World:=
  {World.holding Tryz.prog os ⟨#[], #[],[]⟩ with heap:=(World.holding Tryz.prog os ⟨#[], #[],[]⟩).heap.modify 0 fun
      |.cells _ t frozen=>.cells (Bv.TJ.map fun(k:Nat)=>Value.int .u8 (k:Int)).toArray t frozen
      |o=>o}
noncomputable def wit:Array Value:= #[.agg #[.slice none 0 0,.int .i64 0,.slice none 0 0,.slice none 0 0]]
theorem SV(os:Os):laidMet Tryz.prog Rows.frontTellsRow.laid ((DM os).forCall (fun _ _=>0) ⟨#[],wit,[]⟩).memory:=
  laidMet_of_run' 8 (by kernel_rfl) (by kernel_rfl)
theorem reads(os:Os){H:Type}(enc:TypeId×Value→H):∃places,DataW.whole enc Tryz.prog ((DM os).forCall (fun _ _=>0) ⟨#[],wit,[]⟩).memory Tryz.f3.params.toList Rows.frontTellsSpec.vars false wit.toList 8=some ([.agg [.agg [.nil],.lit (.int .i64 0),.nil,.nil]],[],places):=
  ⟨[],by kernel_rfl⟩

set_option maxRecDepth 100000 in
theorem lifted(os:Os)(started:os.Started)(H:Type)(enc:TypeId×Value→H)(F:Stop.Interp):
    ReturnsInHanded {} Tryz.checked os 3 .any ((OpenSpec.ofChange Rows.frontTellsSpec).preRow enc Tryz.prog Tryz.f3 Rows.frontTellsRow.domain false Rows.frontTellsRow.laid) (((OpenSpec.ofChange Rows.frontTellsSpec).at F).post enc Tryz.prog Tryz.f3 false true false false):=by
  obtain⟨places,hx⟩:=reads os enc
  refine returnsInHanded_of_row (C:=Tryz.checked) (s:=OpenSpec.ofChange Rows.frontTellsSpec) own started (by kernel_rfl) Tryz.func3
    (witness_row_at (enc:=enc) (C:=Tryz.checked) false (DM os) wit rfl (by kernel_rfl) (by kernel_rfl) (by kernel_rfl)
      (OpenSpec.preRow_of_cond 8 hx (by kernel_rfl) (fun k hk=>by cases hk) (by kernel_rfl) (SV os))) ?_
  intro W base args ds gs before hval hW _ _ _ hL _ _
  exact Qz H enc W base args ds gs before hval hW hL

theorem said:Rows.FrontTellsSaid:=
  OpenClaim.holds_of_cond 3 Tryz.f3 rfl rfl rfl rfl rfl rfl rfl ⟨rfl,rfl,rfl,rfl,rfl⟩ rfl rfl rfl rfl rfl (by kernel_rfl) Tryz.func3 (by kernel_rfl)
    (of_decide_eq_true (by kernel_rfl)) (by unfold Func.isWrapper;first|(rw[if_pos (by decide+kernel)];kernel_rfl)|(rw[if_neg (by decide+kernel)];exact⟨rfl,rfl⟩))
    (fun os started H enc _ F=>by rw[OpenClaim.pre_eq_preRow];exact lifted os started H enc F)

theorem plain(f:FuncId)(fn:Func)(hf:Tryz.pinned.checked.prog.funcNamed "inquest/inquestlaw25.FrontTells" =some f)(hfn:Tryz.pinned.checked.prog.funcs[f]? =some fn):
    false=Tryz.pinned.checked.prog.looks []∧∀(j:Nat) t,fn.params[j]? =some t→Tryz.pinned.checked.prog.wantsStandIn t=false:=by
  obtain rfl:f=3:=Option.some.inj ((show Tryz.prog.funcNamed "inquest/inquestlaw25.FrontTells" =some 3 by kernel_rfl).symm.trans hf)|>.symm
  obtain rfl:fn=Tryz.f3:=(Option.some.inj (Tryz.func3.symm.trans hfn)).symm
  refine⟨by kernel_rfl,fun j t ht=> ?_⟩
  rw[Tryz.params3] at ht
  have hm:t=28:=by simpa using Array.mem_of_getElem? ht
  obtain rfl:=hm
  · exact(show Tryz.prog.wantsStandIn 28=false by kernel_rfl)

theorem card:Rows.FrontTellsCardSaid:=
  Claim7.holds_tied_plain_at .later [] _ _ _ _ said (fun _ h=>by cases h) (by kernel_rfl) (fun _ h=>by cases h) frontTells_row_tie rfl ⟨rfl,rfl⟩ (by kernel_rfl) rfl plain (by kernel_rfl)
end Go.Proofs.YtmnmbaehidfebaaGreatDoor.frontTells
