/- What the row of TopEnds says is so. -/
import Derived.Test.YtanbmobkolihaaaGreatDoorCKATopEnds
import Derived.Test.YtanbmobkolihaaaGreatDoorCKBTopEnds
import Derived.Test.YtanbmobkolihaaaGreatDoorCards
import Derived.Test.YtanbmobkolihaaaGreatDoorTie
import Derived.WalkKit
import Derived.ProofKit
import Derived.OpenShut
import Derived.Deep.DeepHandedRow
namespace Go.Proofs.YtanbmobkolihaaaGreatDoor.topEnds
open Go.ChangeShapes Go.WideShapes Go.ChangeAt Go.RowKit
theorem facts:joinedFacts Tryz.pinned.checked.prog 5 Tryz.f5 (Rows.OpenSpec.upto Rows.topEndsSpec).bare Rows.topEndsUptoRow=true:=by
  unfold joinedFacts
  rw[kIn,kUn,kRe,kNa]
  kernel_rfl
end Go.Proofs.YtanbmobkolihaaaGreatDoor.topEnds
