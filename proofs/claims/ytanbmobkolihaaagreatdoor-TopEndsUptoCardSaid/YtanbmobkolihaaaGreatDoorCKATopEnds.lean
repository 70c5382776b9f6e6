/- What the row of TopEnds says of what is changed in place and not followed is so. -/
import Derived.Test.YtanbmobkolihaaaGreatDoorCards
import Derived.Test.YtanbmobkolihaaaGreatDoorTie
import Derived.WalkKit
import Derived.ProofKit
import Derived.OpenShut
import Derived.Deep.DeepHandedRow
namespace Go.Proofs.YtanbmobkolihaaaGreatDoor.topEnds
open Go.ChangeShapes Go.WideShapes Go.ChangeAt Go.RowKit
theorem kIn:(Rows.topEndsUptoRow.inPlace==Tryz.pinned.checked.prog.inPlace 5)=true:=by kernel_rfl
theorem kUn:(Rows.topEndsUptoRow.unfollowed==Tryz.pinned.checked.prog.unfollowed 5)=true:=by kernel_rfl
end Go.Proofs.YtanbmobkolihaaaGreatDoor.topEnds
