/- The card of TopEnds. -/
import Derived.Test.YtanbmobkolihaaaGreatDoorCRTopEnds
import Derived.Test.YtanbmobkolihaaaGreatDoorCKDTopEnds
namespace Go.Proofs.YtanbmobkolihaaaGreatDoor.topEnds
open Go
theorem card:Rows.TopEndsUptoCardSaid:=
  Claim7.holds_tied_plain_at .later [] _ _ _ _ said (fun _ h=>by cases h) kWf (fun _ h=>by cases h) topEndsUpto_row_tie rfl ⟨rfl,rfl⟩ kMain rfl plain kGo
end Go.Proofs.YtanbmobkolihaaaGreatDoor.topEnds
