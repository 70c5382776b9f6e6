/-
  DERIVED. GIVEN WITH THE SEED: THE CARDS: each row of YtmnmbaehidfebaaGreatDoorRows.lean that lists a variable, with what it lists TIED to the program's text (the seventh form; the later family's looks); each row that meets fmt, with fmt's text TOLD by the authors' own Lean function (tested against real Go, not proved from fmt's source: count such statements apart). THE CARD IS WHAT COUNTS. Prove the row's statement (the work); the ties are given (YtmnmbaehidfebaaGreatDoorTie.lean); close each card by the builder's one call (the guide's Derived/Test/ToyasCard.lean, 'card_holds'). Laid BY PROGRAM, IN A SANDBOX (cutbox-door.mjs). By AI agents, Wed Nov 11 2026. No macro, syntax, notation, axiom, sorry.
-/
import Derived.Test.YtmnmbaehidfebaaGreatDoorRows
import GoSem.ClaimSeven
namespace Go.Proofs.YtmnmbaehidfebaaGreatDoor
namespace Rows

/-- THE TIED CARD OF 'inquestlaw25.FrontTells'. -/
def frontTellsCard : Claim7 := { stood := { row := frontTellsRow, standIns := [], harness := (true, "6a6999a3f7309b2d0a030c7349775f81a1eb5e8f3d7f2e8b57224f2ffe71f351"), looks := false }, kinds := [], alts := [], laidByText := true, laidKinds := [.data], laidTests := true, laidLooks := .later }
def FrontTellsCardSaid : Prop := Claim7.holds Tryz.pinned (.plain (OpenSpec.ofChange frontTellsSpec)) frontTellsCard

/-- THE SECOND FORM's CARD OF 'inquestlaw25.FrontTells'. -/
def frontTellsUptoCard : Claim7 := { stood := { row := frontTellsUptoRow, standIns := [], harness := (true, "6a6999a3f7309b2d0a030c7349775f81a1eb5e8f3d7f2e8b57224f2ffe71f351"), looks := false }, kinds := [], alts := [], laidByText := true, laidKinds := [.data], laidTests := true, laidLooks := .later }
def FrontTellsUptoCardSaid : Prop := Claim7.holds Tryz.pinned (.plain (OpenSpec.upto frontTellsSpec)) frontTellsUptoCard
end Rows
end Go.Proofs.YtmnmbaehidfebaaGreatDoor
