/- What the card of TopEnds says of the program is so. -/
import Derived.Test.YtanbmobkolihaaaGreatDoorCards
import Derived.Test.YtanbmobkolihaaaGreatDoorTie
import Derived.WalkKit
import Derived.ProofKit
import Derived.OpenShut
import Derived.Deep.DeepHandedRow
namespace Go.Proofs.YtanbmobkolihaaaGreatDoor.topEnds
open Go Go.ChangeShapes Go.WideShapes Go.ChangeAt Go.RowKit
theorem kWf:OpenClaim.wfByText (Rows.OpenSpec.upto Rows.topEndsSpec) Rows.topEndsUptoRow=true:=by kernel_rfl
theorem kMain:Tryz.pinned.checked.prog.mainIs=some (Rows.topEndsUptoCard.stood.harness.1,Rows.topEndsUptoCard.stood.harness.2.toList):=by kernel_rfl
theorem kGo:false=Rows.topEndsUptoRow.goesBy Tryz.pinned.checked.prog:=by kernel_rfl
theorem plain(f:FuncId)(fn:Func)(hf:Tryz.pinned.checked.prog.funcNamed "inquest/inquesttop.TopEnds" =some f)(hfn:Tryz.pinned.checked.prog.funcs[f]? =some fn):
    true=Tryz.pinned.checked.prog.looks []∧∀(j:Nat) t,fn.params[j]? =some t→Tryz.pinned.checked.prog.wantsStandIn t=false:=by
  obtain rfl:f=5:=Option.some.inj ((show Tryz.prog.funcNamed "inquest/inquesttop.TopEnds" =some 5 by kernel_rfl).symm.trans hf)|>.symm
  obtain rfl:fn=Tryz.f5:=(Option.some.inj (Tryz.func5.symm.trans hfn)).symm
  refine⟨by kernel_rfl,fun j t ht=> ?_⟩
  rw[Tryz.params5] at ht
  have hm:t=26∨t=3:=by simpa using Array.mem_of_getElem? ht
  rcases hm with rfl|rfl
  · exact(show Tryz.prog.wantsStandIn 26=false by kernel_rfl)
  · exact(show Tryz.prog.wantsStandIn 3=false by kernel_rfl)
end Go.Proofs.YtanbmobkolihaaaGreatDoor.topEnds
