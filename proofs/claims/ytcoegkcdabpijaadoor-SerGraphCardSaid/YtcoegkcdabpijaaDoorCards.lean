/-
  DERIVED. GIVEN WITH THE SEED: THE CARDS: each row of YtcoegkcdabpijaaDoorRows.lean that lists a variable, with what it lists TIED to the program's text (the seventh form; the later family's looks); each row that meets fmt, with fmt's text TOLD by the authors' own Lean function (tested against real Go, not proved from fmt's source: count such statements apart). THE CARD IS WHAT COUNTS. Prove the row's statement (the work); the ties are given (YtcoegkcdabpijaaDoorTie.lean); close each card by the builder's one call (the guide's Derived/Test/ToyasCard.lean, 'card_holds'). Laid BY PROGRAM, IN A SANDBOX (cutbox-door.mjs). By AI agents, Wed Nov 11 2026. No macro, syntax, notation, axiom, sorry.
-/
import Derived.Test.YtcoegkcdabpijaaDoorRows
import GoSem.ClaimSeven
namespace Go.Proofs.YtcoegkcdabpijaaDoor
namespace Rows

/-- THE TIED CARD OF 'inquestlaw19.EdgeGraph'. -/
def edgeGraphCard : Claim7 := { stood := { row := edgeGraphRow, standIns := [], harness := (true, "67fade578ed0808b3483a6eae1b87079d5fc5b410e9d24bc336bdd3880770ac7"), looks := false }, kinds := [], alts := [], laidByText := true, laidKinds := [.data], laidTests := true, laidLooks := .later }
def EdgeGraphCardSaid : Prop := Claim7.holds Tryd.pinned (.plain (OpenSpec.ofChange edgeGraphSpec)) edgeGraphCard

/-- THE TIED CARD OF 'inquestlaw20.SerGraph'. -/
def serGraphCard : Claim7 := { stood := { row := serGraphRow, standIns := [], harness := (true, "67fade578ed0808b3483a6eae1b87079d5fc5b410e9d24bc336bdd3880770ac7"), looks := false }, kinds := [], alts := [], laidByText := true, laidKinds := [.data], laidTests := true, laidLooks := .later }
def SerGraphCardSaid : Prop := Claim7.holds Tryd.pinned (.plain (OpenSpec.ofChange serGraphSpec)) serGraphCard

/-- THE TIED CARD OF 'inquestlaw19.EdgeCycle'. -/
def edgeCycleCard : Claim7 := { stood := { row := edgeCycleRow, standIns := [], harness := (true, "67fade578ed0808b3483a6eae1b87079d5fc5b410e9d24bc336bdd3880770ac7"), looks := false }, kinds := [], alts := [], laidByText := true, laidKinds := [.data], laidTests := true, laidLooks := .later }
def EdgeCycleCardSaid : Prop := Claim7.holds Tryd.pinned (.plain (OpenSpec.ofChange edgeCycleSpec)) edgeCycleCard

/-- THE SECOND FORM's CARD OF 'inquestlaw19.EdgeGraph'. -/
def edgeGraphUptoCard : Claim7 := { stood := { row := edgeGraphUptoRow, standIns := [], harness := (true, "67fade578ed0808b3483a6eae1b87079d5fc5b410e9d24bc336bdd3880770ac7"), looks := false }, kinds := [], alts := [], laidByText := true, laidKinds := [.data], laidTests := true, laidLooks := .later }
def EdgeGraphUptoCardSaid : Prop := Claim7.holds Tryd.pinned (.plain (OpenSpec.upto edgeGraphSpec)) edgeGraphUptoCard

/-- THE SECOND FORM's CARD OF 'inquestlaw20.SerGraph'. -/
def serGraphUptoCard : Claim7 := { stood := { row := serGraphUptoRow, standIns := [], harness := (true, "67fade578ed0808b3483a6eae1b87079d5fc5b410e9d24bc336bdd3880770ac7"), looks := false }, kinds := [], alts := [], laidByText := true, laidKinds := [.data], laidTests := true, laidLooks := .later }
def SerGraphUptoCardSaid : Prop := Claim7.holds Tryd.pinned (.plain (OpenSpec.upto serGraphSpec)) serGraphUptoCard

/-- THE SECOND FORM's CARD OF 'inquestlaw19.EdgeCycle'. -/
def edgeCycleUptoCard : Claim7 := { stood := { row := edgeCycleUptoRow, standIns := [], harness := (true, "67fade578ed0808b3483a6eae1b87079d5fc5b410e9d24bc336bdd3880770ac7"), looks := false }, kinds := [], alts := [], laidByText := true, laidKinds := [.data], laidTests := true, laidLooks := .later }
def EdgeCycleUptoCardSaid : Prop := Claim7.holds Tryd.pinned (.plain (OpenSpec.upto edgeCycleSpec)) edgeCycleUptoCard
end Rows
end Go.Proofs.YtcoegkcdabpijaaDoor
