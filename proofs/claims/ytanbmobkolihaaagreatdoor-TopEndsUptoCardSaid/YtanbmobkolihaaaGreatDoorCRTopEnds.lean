/- The tied card of TopEnds, second form: it answers true of every input of bounded bulk. -/
import Derived.Test.YtanbmobkolihaaaGreatDoorPl1
import Derived.Test.YtanbmobkolihaaaGreatDoorDecRTopEnds
import Derived.Test.YtanbmobkolihaaaGreatDoorCKCTopEnds
import Derived.Test.YtanbmobkolihaaaGreatDoorCards
import Derived.Test.YtanbmobkolihaaaGreatDoorTie
import Derived.WalkKit
import Derived.ProofKit
import Derived.OpenShut
import Derived.Deep.DeepHandedRow
import Derived.Lib.LaidTab
import Derived.LaidHandle
import Derived.Shelf.Vars
import Derived.Deep.DeepWitnessRowRef
open List renaming getElem?_eq_none→arf,getElem?_map→ab_,map_cons→ac7
open Go.Proofs.Tryz renaming prog→abQ
namespace Go.Proofs.YtanbmobkolihaaaGreatDoor.topEnds
open Go.ChangeShapes Go.WideShapes Go.ChangeAt Go.RowKit Go.Av

theorem own:ownKnob abQ.godebug=none:=by kernel_rfl
theorem alJ:abQ.globalNamed "math/bits.deBruijn64tab" =some 5:=by kernel_rfl
theorem Y4:(abQ.globals[5]?).map (·.type)=some 490:=by kernel_rfl
theorem Yw:abQ.cellsOf 490=64:=by kernel_rfl
theorem agj:abQ.cellsOf 5=1:=by kernel_rfl
theorem afa:(Rows.topEndsUptoRow.laid.filter fun x=>x.2.handleName?.isNone)=[("math/bits.deBruijn64tab",Rows.laid_math_bits_deBruijn64tab),("unicode/utf8.acceptRanges",Rows.laid_unicode_utf8_acceptRanges),("inquest/event.words",Rows.laid_inquest_event_words),("unicode/utf8.first",Rows.laid_unicode_utf8_first)]:=by kernel_rfl
theorem alB:(Rows.topEndsUptoRow.laid.filter fun x=>x.2.handleName?.isSome)=[("errors.errorType",Rows.laid_errors_errorType)]:=by kernel_rfl
theorem Rr{W:World}(h:laidMetH abQ Rows.topEndsUptoRow.laid W):laidMet abQ [("math/bits.deBruijn64tab",Rows.laid_math_bits_deBruijn64tab),("unicode/utf8.acceptRanges",Rows.laid_unicode_utf8_acceptRanges),("inquest/event.words",Rows.laid_inquest_event_words),("unicode/utf8.first",Rows.laid_unicode_utf8_first)] W:=by
  unfold laidMetH at h
  rw[alB,afa] at h
  exact h.1
theorem table{W:World}(h:laidMetH abQ Rows.topEndsUptoRow.laid W):Lib.TabIs abQ W "math/bits.deBruijn64tab" .u8 (Bv.tab.map fun(k:Nat)=>(k:Int)):=
  Lib.tabIs_of_head alJ Y4 Tryz.underlying490 Tryz.underlying5 agj Yw (Rr h)
theorem Y5:abQ.globalNamed "inquest/event.words" =some 1:=by kernel_rfl
theorem Tf:(abQ.globals[1]?).map (·.type)=some 178:=by kernel_rfl
theorem Yv:abQ.cellsOf 178=5:=by kernel_rfl
theorem agk:abQ.cellsOf 9=1:=by kernel_rfl
/-- A table of strings, cell by cell. -/
theorem MI{H:Type}{enc:TypeId×Value→H}{P:Program}{w:World}{base:Nat}{sp:Nat→Bool}{held:Bool}{fuel:Nat}{t e:TypeId}{n:Nat}{cs:List Value}{zs:List (List UInt8)}{p:List MemPlace}
    (ht:P.underlying t=some (.array n e))(he:P.underlying e=some .string)(hce:P.cellsOf e=1)(hct:P.cellsOf t=n)
    (h:DataW.trod enc P w base sp held fuel t cs=some (.agg (zs.map fun z=>.lit (.string z)),p)):cs=zs.map fun z=>Value.string ⟨z.toArray⟩:=by
  cases fuel with
  |zero=>simp[DataW.trod] at h
  |succ fuel=>
    simp only[DataW.trod,ht,hce,hct,Nat.mul_one] at h
    split at h
    · rename_i hl
      obtain⟨xs,hm,hx⟩:=Option.map_eq_some_iff.1 h
      have hxs:xs.map (·.1)=zs.map fun z=>(DataW.lit (.string z):DataW H):=by
        have:=congrArg Prod.fst hx
        simpa using this
      have hxl:xs.length=n:=by simpa using Lib.mapM_length hm
      have hzl:zs.length=n:=by
        have:=congrArg List.length hxs
        simp at this
        omega
      apply List.ext_getElem?
      intro i
      by_cases hi:i<n
      · obtain⟨b,hb,hf⟩:=Lib.mapM_at hm i i (by simp[hi])
        obtain⟨z,hc,rfl,_⟩:=DataW.trod_string he hf
        have h1:cs[i]? =some (.string z):=by
          have:=congrArg (·[0]?) hc
          simpa [List.getElem?_take,List.getElem?_drop] using this
        have h2:(xs.map (·.1))[i]? =some (DataW.lit (.string z.data.toList):DataW H):=by simp[hb]
        rw[hxs] at h2
        simp only[ab_,Option.map_eq_some_iff,DataW.lit.injEq,Lit.string.injEq] at h2
        obtain⟨z',hz',rfl⟩:=h2
        simp[h1,hz']
      · rw[arf (by omega),arf (by simp;omega)]
    · cases h
theorem aeJ{W:World}(h:laidMetH abQ Rows.topEndsUptoRow.laid W):SC W 1 G.uB:=by
  obtain⟨ps,⟨_,_,_,_,_,_,_,_,_,_,⟨_,_,_,_,_,_,_,_,_,_,⟨g',t',cs,fuel,p,q,hg',ht',hvar,hd,_,_⟩,_⟩,_⟩,_⟩:=Rr h
  obtain rfl:=Option.some.inj (Y5.symm.trans hg')
  obtain rfl:=Option.some.inj (Tf.symm.trans ht')
  have hcs:=MI (zs:=G.uB) Tryz.underlying178 Tryz.underlying9 agk Yv hd
  intro j x hx
  have:=World.var?_cell (P:=abQ) (w:=W) Y5 hvar j
  rw[this,←Array.getElem?_toList,hcs,ab_,hx]
  rfl
theorem tab{W:World}(h:laidMetH abQ Rows.topEndsUptoRow.laid W)(hs:W.ShapedOpen abQ):Wk.yW W:=
  ⟨aiV (table h) alJ,cell_of_shapedOpen_int (g:=2) (t:=3) (zero:= #[.int .i64 0]) hs (of_decide_eq_true (by kernel_rfl)) (by kernel_rfl) rfl (by kernel_rfl) (by kernel_rfl) Tryz.underlying3,aeJ h⟩
/-- The text is no longer than the bulk. -/
theorem ab8{H:Type}{enc:TypeId×Value→H}{w:World}{spare:Nat→Bool}{held:Bool}{fuel:Nat}{cs:List Value}{d:DataW H}{ps:List MemPlace}{x:G.bf}(h:DataW.trod enc abQ w 0 spare held fuel 26 cs=some (d,ps))(e:Bw d=G.bf.av x):x.Text.length≤Rows.uptoBulk d:=by
  cases fuel with
  |zero=>simp[DataW.trod] at h
  |succ fuel=>
    obtain⟨xs,_,rfl,e2⟩:=ud Tryz.underlying26 h
    simp only[List.mapM_cons,List.mapM_nil,Option.bind_eq_bind,Option.bind_eq_some_iff,Option.pure_def,Option.some.injEq] at e2
    obtain⟨y1,q1,_,⟨y2,q2,_,⟨y3,q3,_,⟨y4,q4,_,rfl,rfl⟩,rfl⟩,rfl⟩,rfl⟩:=e2
    obtain⟨s,_,rfl,_⟩:=DataW.trod_string Tryz.underlying9 q1
    have e3:(s.data.toList).toArray=x.Text.toArray:=by
      have:=AV.agg.inj e
      simp only[ac7,pR] at this
      have:=List.head_eq_of_cons_eq this
      have h5:dP s.data.toList=dP x.Text:=this
      simpa [dP] using h5
    have e4:s.data.toList=x.Text:=by simpa using congrArg Array.toList e3
    simp only[ac7,Rows.uptoBulk,Rows.uptoBulkAll,e4]
    omega

set_option maxRecDepth 20000 in
theorem Yz(H:Type)(enc:TypeId×Value→H)(W:World)(base:Nat)(args:Array Value)(ds gs:List (DataW H))(before:List MemPlace)
    (hval:∀(j:Nat) t v,Tryz.f5.params[j]? =some t→args[j]? =some v→Value.okWide abQ W .any base t v)
    (hW:DataW.Whole enc abQ Tryz.f5.params.toList Rows.topEndsSpec.vars false W args.toList ds gs before)(hL:laidMetH abQ Rows.topEndsUptoRow.laid W)(hs:W.ShapedOpen abQ)(hk:Rows.uptoSmall H (ds++gs)=true):
    Calls abQ 5 args W fun e W'=>∃v,e=.returned v∧Rows.topEndsSpec.post enc abQ Tryz.f5 false true false false W args v W':=by
  have hW':=hW
  obtain⟨p,q,hA0,hV,rfl,hfz,hnd⟩:=hW
  have hA:DataW.TrodAll enc abQ W 0 (fun _=>true) true Tryz.f5.params.toList args.toList ds p:=hA0
  rw[Tryz.params5] at hA hval
  obtain⟨v0,vs0,d0,ds0,p0,q0,hargs,rfl,rfl,h0,r0⟩:=trodAll_cons hA
  obtain⟨v1,vs1,d1,ds1,p1,q1,rfl,rfl,rfl,h1,r1⟩:=trodAll_cons r0
  obtain⟨rfl,rfl,rfl⟩:=trodAll_nil r1
  obtain rfl:args= #[v0,v1]:=by cases args;simp_all
  obtain⟨rfl,rfl⟩:=trodVars_none hV
  obtain⟨afb,Ve⟩:=h0
  obtain⟨x0,ok0,e0⟩:=WkTopEnds.GM enc W _ _ afb _ d0 p0 Ve
  have a0:c4 (Ctx.start W) (G.bf.av x0) v0:=e0▸UO 9 (by kernel_rfl) ⟨afb,Ve⟩ (hval 0 26 v0 rfl rfl)
  have hlen:x0.Text.length<4294967281:=by
    have h1:=ab8 Ve e0
    have h2:=of_decide_eq_true hk
    simp only[List.cons_append,Rows.uptoBulkAll] at h2
    omega
  obtain⟨x1,ok1,a1⟩:=ab7 9 (by kernel_rfl) (CO Tryz.underlying3) h1 (hval 1 3 v1 rfl rfl)
  exact WU (Wk.D2 (tab hL hs) (Pl.abY x0 x1 hlen)) rfl (aoX a0 a1) hW' rfl rfl rfl Tryz.underlying4 (by kernel_rfl) (Xc (by kernel_rfl))

/-- A world for the witness. -/
def anH:DataW Unit→Value
  |.lit (.int k n)=>.int k n
  |_=>.int .u8 0
def agb:DataW Unit→List (DataW Unit)
  |.agg l=>l
  |_=>[]
noncomputable def WT:Nat→Array Value
  |0=> #[.iface 213 (.agg #[.pointer (some ⟨6,76,none⟩)])]
  |1=>(G.uB.map fun x=>Value.string ⟨x.toArray⟩).toArray
  |3=>((agb Rows.laid_unicode_utf8_first).map anH).toArray
  |4=>(((agb Rows.laid_unicode_utf8_acceptRanges).map agb).flatten.map anH).toArray
  |_=>(Bv.tab.map fun(k:Nat)=>Value.int .u8 (k:Int)).toArray
noncomputable def Q9(w:World)(g:Nat):World:={w with heap:=w.heap.modify g fun
      |.cells _ t frozen=>.cells (WT g) t frozen
      |o=>o}
noncomputable def Jo(os:Os):World:=Q9 (Q9 (Q9 (Q9 (Q9 (World.holding abQ os ⟨#[], #[],[]⟩) 0) 1) 3) 4) 5
noncomputable def wit:Array Value:= #[.agg #[.string ByteArray.empty,.int .i64 0,.int .i64 0,.int .i64 0,.int .i64 0,.int .i64 0,.int .i64 0,.string ByteArray.empty],.int .i64 0]
theorem ZH(os:Os):laidMetH abQ Rows.topEndsUptoRow.laid ((Jo os).forCall (fun _ _=>0) ⟨#[],wit,[]⟩).memory:=
  laidMetH_of_parts (by rw[afa];exact laidMet_of_run' 8 (by kernel_rfl) (by kernel_rfl)) (by kernel_rfl)
theorem reads(os:Os){H:Type}(enc:TypeId×Value→H):∃places,DataW.whole enc abQ ((Jo os).forCall (fun _ _=>0) ⟨#[],wit,[]⟩).memory Tryz.f5.params.toList Rows.topEndsSpec.vars false wit.toList 8=some ([.agg [.lit (.string []),.lit (.int .i64 0),.agg [.lit (.int .i64 0),.agg [.lit (.int .i64 0),.lit (.int .i64 0),.lit (.int .i64 0),.lit (.int .i64 0)]],.lit (.string [])],.lit (.int .i64 0)],[],places):=
  ⟨[],by kernel_rfl⟩

set_option maxRecDepth 100000 in
theorem lifted(os:Os)(started:os.Started)(H:Type)(enc:TypeId×Value→H)(F:Stop.Interp):
    ReturnsInHanded {} Tryz.checked os 5 .any ((Rows.OpenSpec.upto Rows.topEndsSpec).preRow enc abQ Tryz.f5 Rows.topEndsUptoRow.domain false Rows.topEndsUptoRow.laid) (((Rows.OpenSpec.upto Rows.topEndsSpec).at F).post enc abQ Tryz.f5 false true false false):=by
  obtain⟨places,hx⟩:=reads os enc
  refine returnsInHanded_of_row (C:=Tryz.checked) (s:=Rows.OpenSpec.upto Rows.topEndsSpec) own started (by kernel_rfl) Tryz.func5
    (witness_row_at (enc:=enc) (C:=Tryz.checked) false (Jo os) wit rfl (by kernel_rfl) (by kernel_rfl) (by kernel_rfl)
      (OpenSpec.preRow_of_cond 8 hx (by kernel_rfl) (fun k hk=>by cases hk;kernel_rfl) (by kernel_rfl) (ZH os))) ?_
  intro W base args ds gs before hval hW _ hcond _ hL hs _
  exact Yz H enc W base args ds gs before hval hW hL hs (hcond _ rfl)

theorem said:Rows.TopEndsUptoSaid:=
  OpenClaim.holds_of_cond 5 Tryz.f5 rfl rfl rfl rfl rfl rfl rfl ⟨rfl,rfl,rfl,rfl,rfl⟩ rfl rfl rfl rfl rfl (by kernel_rfl) Tryz.func5 facts
    (of_decide_eq_true (by kernel_rfl)) (by unfold Func.isWrapper;first|(rw[if_pos (by decide+kernel)];kernel_rfl)|(rw[if_neg (by decide+kernel)];exact⟨rfl,rfl⟩))
    (fun os started H enc _ F=>by rw[OpenClaim.pre_eq_preRow];exact lifted os started H enc F)
end Go.Proofs.YtanbmobkolihaaaGreatDoor.topEnds
