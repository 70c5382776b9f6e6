/-
  DERIVED. GIVEN WITH THE SEED: THE CARDS: each row of YtmmeihaoldinnaaDoorRows.lean that lists a variable, with what it lists TIED to the program's text (the seventh form; the later family's looks); each row that meets fmt, with fmt's text TOLD by the authors' own Lean function (tested against real Go, not proved from fmt's source: count such statements apart). THE CARD IS WHAT COUNTS. Prove the row's statement (the work); the ties are given (YtmmeihaoldinnaaDoorTie.lean); close each card by the builder's one call (the guide's Derived/Test/ToyasCard.lean, 'card_holds'). Laid BY PROGRAM, IN A SANDBOX (cutbox-door.mjs). By AI agents, Wed Nov 11 2026. No macro, syntax, notation, axiom, sorry.
-/
import Derived.Test.YtmmeihaoldinnaaDoorRows
import GoSem.ClaimSeven
namespace Go.Proofs.YtmmeihaoldinnaaDoor
namespace Rows

/-- THE TIED CARD OF 'inquestlaw12.GraphTells'. -/
def graphTellsCard : Claim7 := { stood := { row := graphTellsRow, standIns := [], harness := (true, "10688c76b88013ecd680dfc84e7991d2d05dda33c7cda18aeb4d549539efb6a8"), looks := false }, kinds := [], alts := [], laidByText := true, laidKinds := [.data], laidTests := true, laidLooks := .later }
def GraphTellsCardSaid : Prop := Claim7.holds Tryd.pinned (.plain (OpenSpec.ofChange graphTellsSpec)) graphTellsCard

/-- THE TIED CARD OF 'inquestlaw12.GraphEdges'. -/
def graphEdgesCard : Claim7 := { stood := { row := graphEdgesRow, standIns := [], harness := (true, "10688c76b88013ecd680dfc84e7991d2d05dda33c7cda18aeb4d549539efb6a8"), looks := false }, kinds := [], alts := [], laidByText := true, laidKinds := [.data], laidTests := true, laidLooks := .later }
def GraphEdgesCardSaid : Prop := Claim7.holds Tryd.pinned (.plain (OpenSpec.ofChange graphEdgesSpec)) graphEdgesCard

/-- THE TIED CARD OF 'inquestlaw13.ReachTells'. -/
def reachTellsCard : Claim7 := { stood := { row := reachTellsRow, standIns := [], harness := (true, "10688c76b88013ecd680dfc84e7991d2d05dda33c7cda18aeb4d549539efb6a8"), looks := false }, kinds := [], alts := [], laidByText := true, laidKinds := [.data], laidTests := true, laidLooks := .later }
def ReachTellsCardSaid : Prop := Claim7.holds Tryd.pinned (.plain (OpenSpec.ofChange reachTellsSpec)) reachTellsCard

/-- THE TIED CARD OF 'inquestlaw13.ReachMore'. -/
def reachMoreCard : Claim7 := { stood := { row := reachMoreRow, standIns := [], harness := (true, "10688c76b88013ecd680dfc84e7991d2d05dda33c7cda18aeb4d549539efb6a8"), looks := false }, kinds := [], alts := [], laidByText := true, laidKinds := [.data], laidTests := true, laidLooks := .later }
def ReachMoreCardSaid : Prop := Claim7.holds Tryd.pinned (.plain (OpenSpec.ofChange reachMoreSpec)) reachMoreCard

/-- THE TIED CARD OF 'inquestlaw12.GraphBoth'. -/
def graphBothCard : Claim7 := { stood := { row := graphBothRow, standIns := [], harness := (true, "10688c76b88013ecd680dfc84e7991d2d05dda33c7cda18aeb4d549539efb6a8"), looks := false }, kinds := [], alts := [], laidByText := true, laidKinds := [.data], laidTests := true, laidLooks := .later }
def GraphBothCardSaid : Prop := Claim7.holds Tryd.pinned (.plain (OpenSpec.ofChange graphBothSpec)) graphBothCard

/-- THE TIED CARD OF 'inquestlaw12.GraphTurns'. -/
def graphTurnsCard : Claim7 := { stood := { row := graphTurnsRow, standIns := [], harness := (true, "10688c76b88013ecd680dfc84e7991d2d05dda33c7cda18aeb4d549539efb6a8"), looks := false }, kinds := [], alts := [], laidByText := true, laidKinds := [.data], laidTests := true, laidLooks := .later }
def GraphTurnsCardSaid : Prop := Claim7.holds Tryd.pinned (.plain (OpenSpec.ofChange graphTurnsSpec)) graphTurnsCard

/-- THE TIED CARD OF 'inquestlaw16.TopoTells'. -/
def topoTellsCard : Claim7 := { stood := { row := topoTellsRow, standIns := [], harness := (true, "10688c76b88013ecd680dfc84e7991d2d05dda33c7cda18aeb4d549539efb6a8"), looks := false }, kinds := [], alts := [], laidByText := true, laidKinds := [.data], laidTests := true, laidLooks := .later }
def TopoTellsCardSaid : Prop := Claim7.holds Tryd.pinned (.plain (OpenSpec.ofChange topoTellsSpec)) topoTellsCard

/-- THE TIED CARD OF 'inquestlaw16.TopoLeast'. -/
def topoLeastCard : Claim7 := { stood := { row := topoLeastRow, standIns := [], harness := (true, "10688c76b88013ecd680dfc84e7991d2d05dda33c7cda18aeb4d549539efb6a8"), looks := false }, kinds := [], alts := [], laidByText := true, laidKinds := [.data], laidTests := true, laidLooks := .later }
def TopoLeastCardSaid : Prop := Claim7.holds Tryd.pinned (.plain (OpenSpec.ofChange topoLeastSpec)) topoLeastCard

/-- THE TIED CARD OF 'inquestlaw13.ReachWays'. -/
def reachWaysCard : Claim7 := { stood := { row := reachWaysRow, standIns := [], harness := (true, "10688c76b88013ecd680dfc84e7991d2d05dda33c7cda18aeb4d549539efb6a8"), looks := false }, kinds := [], alts := [], laidByText := true, laidKinds := [.data], laidTests := true, laidLooks := .later }
def ReachWaysCardSaid : Prop := Claim7.holds Tryd.pinned (.plain (OpenSpec.ofChange reachWaysSpec)) reachWaysCard

/-- THE TIED CARD OF 'inquestlaw13.ReachBack'. -/
def reachBackCard : Claim7 := { stood := { row := reachBackRow, standIns := [], harness := (true, "10688c76b88013ecd680dfc84e7991d2d05dda33c7cda18aeb4d549539efb6a8"), looks := false }, kinds := [], alts := [], laidByText := true, laidKinds := [.data], laidTests := true, laidLooks := .later }
def ReachBackCardSaid : Prop := Claim7.holds Tryd.pinned (.plain (OpenSpec.ofChange reachBackSpec)) reachBackCard

/-- THE TIED CARD OF 'inquestlaw16.TopoHas'. -/
def topoHasCard : Claim7 := { stood := { row := topoHasRow, standIns := [], harness := (true, "10688c76b88013ecd680dfc84e7991d2d05dda33c7cda18aeb4d549539efb6a8"), looks := false }, kinds := [], alts := [], laidByText := true, laidKinds := [.data], laidTests := true, laidLooks := .later }
def TopoHasCardSaid : Prop := Claim7.holds Tryd.pinned (.plain (OpenSpec.ofChange topoHasSpec)) topoHasCard

/-- THE TIED CARD OF 'inquestlaw16.TopoLess'. -/
def topoLessCard : Claim7 := { stood := { row := topoLessRow, standIns := [], harness := (true, "10688c76b88013ecd680dfc84e7991d2d05dda33c7cda18aeb4d549539efb6a8"), looks := false }, kinds := [], alts := [], laidByText := true, laidKinds := [.data], laidTests := true, laidLooks := .later }
def TopoLessCardSaid : Prop := Claim7.holds Tryd.pinned (.plain (OpenSpec.ofChange topoLessSpec)) topoLessCard

/-- THE SECOND FORM's CARD OF 'inquestlaw12.GraphTells'. -/
def graphTellsUptoCard : Claim7 := { stood := { row := graphTellsUptoRow, standIns := [], harness := (true, "10688c76b88013ecd680dfc84e7991d2d05dda33c7cda18aeb4d549539efb6a8"), looks := false }, kinds := [], alts := [], laidByText := true, laidKinds := [.data], laidTests := true, laidLooks := .later }
def GraphTellsUptoCardSaid : Prop := Claim7.holds Tryd.pinned (.plain (OpenSpec.upto graphTellsSpec)) graphTellsUptoCard

/-- THE SECOND FORM's CARD OF 'inquestlaw12.GraphEdges'. -/
def graphEdgesUptoCard : Claim7 := { stood := { row := graphEdgesUptoRow, standIns := [], harness := (true, "10688c76b88013ecd680dfc84e7991d2d05dda33c7cda18aeb4d549539efb6a8"), looks := false }, kinds := [], alts := [], laidByText := true, laidKinds := [.data], laidTests := true, laidLooks := .later }
def GraphEdgesUptoCardSaid : Prop := Claim7.holds Tryd.pinned (.plain (OpenSpec.upto graphEdgesSpec)) graphEdgesUptoCard

/-- THE SECOND FORM's CARD OF 'inquestlaw13.ReachTells'. -/
def reachTellsUptoCard : Claim7 := { stood := { row := reachTellsUptoRow, standIns := [], harness := (true, "10688c76b88013ecd680dfc84e7991d2d05dda33c7cda18aeb4d549539efb6a8"), looks := false }, kinds := [], alts := [], laidByText := true, laidKinds := [.data], laidTests := true, laidLooks := .later }
def ReachTellsUptoCardSaid : Prop := Claim7.holds Tryd.pinned (.plain (OpenSpec.upto reachTellsSpec)) reachTellsUptoCard

/-- THE SECOND FORM's CARD OF 'inquestlaw13.ReachMore'. -/
def reachMoreUptoCard : Claim7 := { stood := { row := reachMoreUptoRow, standIns := [], harness := (true, "10688c76b88013ecd680dfc84e7991d2d05dda33c7cda18aeb4d549539efb6a8"), looks := false }, kinds := [], alts := [], laidByText := true, laidKinds := [.data], laidTests := true, laidLooks := .later }
def ReachMoreUptoCardSaid : Prop := Claim7.holds Tryd.pinned (.plain (OpenSpec.upto reachMoreSpec)) reachMoreUptoCard

/-- THE SECOND FORM's CARD OF 'inquestlaw12.GraphBoth'. -/
def graphBothUptoCard : Claim7 := { stood := { row := graphBothUptoRow, standIns := [], harness := (true, "10688c76b88013ecd680dfc84e7991d2d05dda33c7cda18aeb4d549539efb6a8"), looks := false }, kinds := [], alts := [], laidByText := true, laidKinds := [.data], laidTests := true, laidLooks := .later }
def GraphBothUptoCardSaid : Prop := Claim7.holds Tryd.pinned (.plain (OpenSpec.upto graphBothSpec)) graphBothUptoCard

/-- THE SECOND FORM's CARD OF 'inquestlaw12.GraphTurns'. -/
def graphTurnsUptoCard : Claim7 := { stood := { row := graphTurnsUptoRow, standIns := [], harness := (true, "10688c76b88013ecd680dfc84e7991d2d05dda33c7cda18aeb4d549539efb6a8"), looks := false }, kinds := [], alts := [], laidByText := true, laidKinds := [.data], laidTests := true, laidLooks := .later }
def GraphTurnsUptoCardSaid : Prop := Claim7.holds Tryd.pinned (.plain (OpenSpec.upto graphTurnsSpec)) graphTurnsUptoCard

/-- THE SECOND FORM's CARD OF 'inquestlaw16.TopoTells'. -/
def topoTellsUptoCard : Claim7 := { stood := { row := topoTellsUptoRow, standIns := [], harness := (true, "10688c76b88013ecd680dfc84e7991d2d05dda33c7cda18aeb4d549539efb6a8"), looks := false }, kinds := [], alts := [], laidByText := true, laidKinds := [.data], laidTests := true, laidLooks := .later }
def TopoTellsUptoCardSaid : Prop := Claim7.holds Tryd.pinned (.plain (OpenSpec.upto topoTellsSpec)) topoTellsUptoCard

/-- THE SECOND FORM's CARD OF 'inquestlaw16.TopoLeast'. -/
def topoLeastUptoCard : Claim7 := { stood := { row := topoLeastUptoRow, standIns := [], harness := (true, "10688c76b88013ecd680dfc84e7991d2d05dda33c7cda18aeb4d549539efb6a8"), looks := false }, kinds := [], alts := [], laidByText := true, laidKinds := [.data], laidTests := true, laidLooks := .later }
def TopoLeastUptoCardSaid : Prop := Claim7.holds Tryd.pinned (.plain (OpenSpec.upto topoLeastSpec)) topoLeastUptoCard

/-- THE SECOND FORM's CARD OF 'inquestlaw13.ReachWays'. -/
def reachWaysUptoCard : Claim7 := { stood := { row := reachWaysUptoRow, standIns := [], harness := (true, "10688c76b88013ecd680dfc84e7991d2d05dda33c7cda18aeb4d549539efb6a8"), looks := false }, kinds := [], alts := [], laidByText := true, laidKinds := [.data], laidTests := true, laidLooks := .later }
def ReachWaysUptoCardSaid : Prop := Claim7.holds Tryd.pinned (.plain (OpenSpec.upto reachWaysSpec)) reachWaysUptoCard

/-- THE SECOND FORM's CARD OF 'inquestlaw13.ReachBack'. -/
def reachBackUptoCard : Claim7 := { stood := { row := reachBackUptoRow, standIns := [], harness := (true, "10688c76b88013ecd680dfc84e7991d2d05dda33c7cda18aeb4d549539efb6a8"), looks := false }, kinds := [], alts := [], laidByText := true, laidKinds := [.data], laidTests := true, laidLooks := .later }
def ReachBackUptoCardSaid : Prop := Claim7.holds Tryd.pinned (.plain (OpenSpec.upto reachBackSpec)) reachBackUptoCard

/-- THE SECOND FORM's CARD OF 'inquestlaw16.TopoHas'. -/
def topoHasUptoCard : Claim7 := { stood := { row := topoHasUptoRow, standIns := [], harness := (true, "10688c76b88013ecd680dfc84e7991d2d05dda33c7cda18aeb4d549539efb6a8"), looks := false }, kinds := [], alts := [], laidByText := true, laidKinds := [.data], laidTests := true, laidLooks := .later }
def TopoHasUptoCardSaid : Prop := Claim7.holds Tryd.pinned (.plain (OpenSpec.upto topoHasSpec)) topoHasUptoCard

/-- THE SECOND FORM's CARD OF 'inquestlaw16.TopoLess'. -/
def topoLessUptoCard : Claim7 := { stood := { row := topoLessUptoRow, standIns := [], harness := (true, "10688c76b88013ecd680dfc84e7991d2d05dda33c7cda18aeb4d549539efb6a8"), looks := false }, kinds := [], alts := [], laidByText := true, laidKinds := [.data], laidTests := true, laidLooks := .later }
def TopoLessUptoCardSaid : Prop := Claim7.holds Tryd.pinned (.plain (OpenSpec.upto topoLessSpec)) topoLessUptoCard
end Rows
end Go.Proofs.YtmmeihaoldinnaaDoor
