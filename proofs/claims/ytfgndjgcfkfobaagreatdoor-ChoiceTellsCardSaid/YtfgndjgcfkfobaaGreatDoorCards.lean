/-
  DERIVED. GIVEN WITH THE SEED: THE CARDS: each row of YtfgndjgcfkfobaaGreatDoorRows.lean that lists a variable, with what it lists TIED to the program's text (the seventh form; the later family's looks); each row that meets fmt, with fmt's text TOLD by the authors' own Lean function (tested against real Go, not proved from fmt's source: count such statements apart). THE CARD IS WHAT COUNTS. Prove the row's statement (the work); the ties are given (YtfgndjgcfkfobaaGreatDoorTie.lean); close each card by the builder's one call (the guide's Derived/Test/ToyasCard.lean, 'card_holds'). Laid BY PROGRAM, IN A SANDBOX (cutbox-door.mjs). By AI agents, Wed Nov 11 2026. No macro, syntax, notation, axiom, sorry.
-/
import Derived.Test.YtfgndjgcfkfobaaGreatDoorRows
import GoSem.ClaimSeven
namespace Go.Proofs.YtfgndjgcfkfobaaGreatDoor
namespace Rows

/-- THE TIED CARD OF 'inquestlaw18.ChoiceTells'. -/
def choiceTellsCard : Claim7 := { stood := { row := choiceTellsRow, standIns := [], harness := (true, "62368f218aaf83395d39ee772f164d2be35804aa5c226c3197a3adbc6d56c424"), looks := false }, kinds := [], alts := [], laidByText := true, laidKinds := [.data], laidTests := true, laidLooks := .later }
def ChoiceTellsCardSaid : Prop := Claim7.holds Tryz.pinned (.plain (OpenSpec.ofChange choiceTellsSpec)) choiceTellsCard

/-- THE SECOND FORM's CARD OF 'inquestlaw18.ChoiceTells'. -/
def choiceTellsUptoCard : Claim7 := { stood := { row := choiceTellsUptoRow, standIns := [], harness := (true, "62368f218aaf83395d39ee772f164d2be35804aa5c226c3197a3adbc6d56c424"), looks := false }, kinds := [], alts := [], laidByText := true, laidKinds := [.data], laidTests := true, laidLooks := .later }
def ChoiceTellsUptoCardSaid : Prop := Claim7.holds Tryz.pinned (.plain (OpenSpec.upto choiceTellsSpec)) choiceTellsUptoCard
end Rows
end Go.Proofs.YtfgndjgcfkfobaaGreatDoor
