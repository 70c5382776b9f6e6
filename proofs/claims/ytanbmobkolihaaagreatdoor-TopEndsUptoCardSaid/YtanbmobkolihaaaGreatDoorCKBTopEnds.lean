/- What the row of TopEnds says of what recurs and what is named is so. -/
import Derived.Test.YtanbmobkolihaaaGreatDoorCards
import Derived.Test.YtanbmobkolihaaaGreatDoorTie
import Derived.WalkKit
import Derived.ProofKit
import Derived.OpenShut
import Derived.Deep.DeepHandedRow
namespace Go.Proofs.YtanbmobkolihaaaGreatDoor.topEnds
open Go.ChangeShapes Go.WideShapes Go.ChangeAt Go.RowKit
theorem kRe:(Rows.topEndsUptoRow.recurses==Tryz.pinned.checked.prog.recurses 5)=true:=by kernel_rfl
theorem kNa:(Rows.topEndsUptoRow.named==Tryz.pinned.checked.prog.varsNamed 5)=true:=by kernel_rfl
end Go.Proofs.YtanbmobkolihaaaGreatDoor.topEnds
