/-
  DERIVED. GIVEN WITH THE SEED: THE CARDS: each row of YtfgndjgcfkfobaaDoorRows.lean that lists a variable, with what it lists TIED to the program's text (the seventh form; the later family's looks); each row that meets fmt, with fmt's text TOLD by the authors' own Lean function (tested against real Go, not proved from fmt's source: count such statements apart). THE CARD IS WHAT COUNTS. Prove the row's statement (the work); the ties are given (YtfgndjgcfkfobaaDoorTie.lean); close each card by the builder's one call (the guide's Derived/Test/ToyasCard.lean, 'card_holds'). Laid BY PROGRAM, IN A SANDBOX (cutbox-door.mjs). By AI agents, Wed Nov 11 2026. No macro, syntax, notation, axiom, sorry.
-/
import Derived.Test.YtfgndjgcfkfobaaDoorRows
import GoSem.ClaimSeven
namespace Go.Proofs.YtfgndjgcfkfobaaDoor
namespace Rows

/-- THE TIED CARD OF 'inquestlaw17.KnownTells'. -/
def knownTellsCard : Claim7 := { stood := { row := knownTellsRow, standIns := [], harness := (true, "6152724ebd869cbcdc4e79d3af14b6329aa4f7a074ab04ce6ac1e93c4bb8d4d2"), looks := false }, kinds := [], alts := [], laidByText := true, laidKinds := [.data], laidTests := true, laidLooks := .later }
def KnownTellsCardSaid : Prop := Claim7.holds Tryd.pinned (.plain (OpenSpec.ofChange knownTellsSpec)) knownTellsCard

/-- THE TIED CARD OF 'inquestlaw17.KnownSelf'. -/
def knownSelfCard : Claim7 := { stood := { row := knownSelfRow, standIns := [], harness := (true, "6152724ebd869cbcdc4e79d3af14b6329aa4f7a074ab04ce6ac1e93c4bb8d4d2"), looks := false }, kinds := [], alts := [], laidByText := true, laidKinds := [.data], laidTests := true, laidLooks := .later }
def KnownSelfCardSaid : Prop := Claim7.holds Tryd.pinned (.plain (OpenSpec.ofChange knownSelfSpec)) knownSelfCard

/-- THE TIED CARD OF 'inquestlaw17.KnownReads'. -/
def knownReadsCard : Claim7 := { stood := { row := knownReadsRow, standIns := [], harness := (true, "6152724ebd869cbcdc4e79d3af14b6329aa4f7a074ab04ce6ac1e93c4bb8d4d2"), looks := false }, kinds := [], alts := [], laidByText := true, laidKinds := [.data], laidTests := true, laidLooks := .later }
def KnownReadsCardSaid : Prop := Claim7.holds Tryd.pinned (.plain (OpenSpec.ofChange knownReadsSpec)) knownReadsCard

/-- THE TIED CARD OF 'inquestlaw17.KnownSo'. -/
def knownSoCard : Claim7 := { stood := { row := knownSoRow, standIns := [], harness := (true, "6152724ebd869cbcdc4e79d3af14b6329aa4f7a074ab04ce6ac1e93c4bb8d4d2"), looks := false }, kinds := [], alts := [], laidByText := true, laidKinds := [.data], laidTests := true, laidLooks := .later }
def KnownSoCardSaid : Prop := Claim7.holds Tryd.pinned (.plain (OpenSpec.ofChange knownSoSpec)) knownSoCard

/-- THE TIED CARD OF 'inquestlaw18.ChoiceBack'. -/
def choiceBackCard : Claim7 := { stood := { row := choiceBackRow, standIns := [], harness := (true, "6152724ebd869cbcdc4e79d3af14b6329aa4f7a074ab04ce6ac1e93c4bb8d4d2"), looks := false }, kinds := [], alts := [], laidByText := true, laidKinds := [.data], laidTests := true, laidLooks := .later }
def ChoiceBackCardSaid : Prop := Claim7.holds Tryd.pinned (.plain (OpenSpec.ofChange choiceBackSpec)) choiceBackCard

/-- THE TIED CARD OF 'inquestlaw18.ChoiceMore'. -/
def choiceMoreCard : Claim7 := { stood := { row := choiceMoreRow, standIns := [], harness := (true, "6152724ebd869cbcdc4e79d3af14b6329aa4f7a074ab04ce6ac1e93c4bb8d4d2"), looks := false }, kinds := [], alts := [], laidByText := true, laidKinds := [.data], laidTests := true, laidLooks := .later }
def ChoiceMoreCardSaid : Prop := Claim7.holds Tryd.pinned (.plain (OpenSpec.ofChange choiceMoreSpec)) choiceMoreCard

/-- THE TIED CARD OF 'inquestlaw18.ChoiceOf'. -/
def choiceOfCard : Claim7 := { stood := { row := choiceOfRow, standIns := [], harness := (true, "6152724ebd869cbcdc4e79d3af14b6329aa4f7a074ab04ce6ac1e93c4bb8d4d2"), looks := false }, kinds := [], alts := [], laidByText := true, laidKinds := [.data], laidTests := true, laidLooks := .later }
def ChoiceOfCardSaid : Prop := Claim7.holds Tryd.pinned (.plain (OpenSpec.ofChange choiceOfSpec)) choiceOfCard

/-- THE SECOND FORM's CARD OF 'inquestlaw17.KnownTells'. -/
def knownTellsUptoCard : Claim7 := { stood := { row := knownTellsUptoRow, standIns := [], harness := (true, "6152724ebd869cbcdc4e79d3af14b6329aa4f7a074ab04ce6ac1e93c4bb8d4d2"), looks := false }, kinds := [], alts := [], laidByText := true, laidKinds := [.data], laidTests := true, laidLooks := .later }
def KnownTellsUptoCardSaid : Prop := Claim7.holds Tryd.pinned (.plain (OpenSpec.upto knownTellsSpec)) knownTellsUptoCard

/-- THE SECOND FORM's CARD OF 'inquestlaw17.KnownSelf'. -/
def knownSelfUptoCard : Claim7 := { stood := { row := knownSelfUptoRow, standIns := [], harness := (true, "6152724ebd869cbcdc4e79d3af14b6329aa4f7a074ab04ce6ac1e93c4bb8d4d2"), looks := false }, kinds := [], alts := [], laidByText := true, laidKinds := [.data], laidTests := true, laidLooks := .later }
def KnownSelfUptoCardSaid : Prop := Claim7.holds Tryd.pinned (.plain (OpenSpec.upto knownSelfSpec)) knownSelfUptoCard

/-- THE SECOND FORM's CARD OF 'inquestlaw17.KnownReads'. -/
def knownReadsUptoCard : Claim7 := { stood := { row := knownReadsUptoRow, standIns := [], harness := (true, "6152724ebd869cbcdc4e79d3af14b6329aa4f7a074ab04ce6ac1e93c4bb8d4d2"), looks := false }, kinds := [], alts := [], laidByText := true, laidKinds := [.data], laidTests := true, laidLooks := .later }
def KnownReadsUptoCardSaid : Prop := Claim7.holds Tryd.pinned (.plain (OpenSpec.upto knownReadsSpec)) knownReadsUptoCard

/-- THE SECOND FORM's CARD OF 'inquestlaw17.KnownSo'. -/
def knownSoUptoCard : Claim7 := { stood := { row := knownSoUptoRow, standIns := [], harness := (true, "6152724ebd869cbcdc4e79d3af14b6329aa4f7a074ab04ce6ac1e93c4bb8d4d2"), looks := false }, kinds := [], alts := [], laidByText := true, laidKinds := [.data], laidTests := true, laidLooks := .later }
def KnownSoUptoCardSaid : Prop := Claim7.holds Tryd.pinned (.plain (OpenSpec.upto knownSoSpec)) knownSoUptoCard

/-- THE SECOND FORM's CARD OF 'inquestlaw18.ChoiceBack'. -/
def choiceBackUptoCard : Claim7 := { stood := { row := choiceBackUptoRow, standIns := [], harness := (true, "6152724ebd869cbcdc4e79d3af14b6329aa4f7a074ab04ce6ac1e93c4bb8d4d2"), looks := false }, kinds := [], alts := [], laidByText := true, laidKinds := [.data], laidTests := true, laidLooks := .later }
def ChoiceBackUptoCardSaid : Prop := Claim7.holds Tryd.pinned (.plain (OpenSpec.upto choiceBackSpec)) choiceBackUptoCard

/-- THE SECOND FORM's CARD OF 'inquestlaw18.ChoiceMore'. -/
def choiceMoreUptoCard : Claim7 := { stood := { row := choiceMoreUptoRow, standIns := [], harness := (true, "6152724ebd869cbcdc4e79d3af14b6329aa4f7a074ab04ce6ac1e93c4bb8d4d2"), looks := false }, kinds := [], alts := [], laidByText := true, laidKinds := [.data], laidTests := true, laidLooks := .later }
def ChoiceMoreUptoCardSaid : Prop := Claim7.holds Tryd.pinned (.plain (OpenSpec.upto choiceMoreSpec)) choiceMoreUptoCard

/-- THE SECOND FORM's CARD OF 'inquestlaw18.ChoiceOf'. -/
def choiceOfUptoCard : Claim7 := { stood := { row := choiceOfUptoRow, standIns := [], harness := (true, "6152724ebd869cbcdc4e79d3af14b6329aa4f7a074ab04ce6ac1e93c4bb8d4d2"), looks := false }, kinds := [], alts := [], laidByText := true, laidKinds := [.data], laidTests := true, laidLooks := .later }
def ChoiceOfUptoCardSaid : Prop := Claim7.holds Tryd.pinned (.plain (OpenSpec.upto choiceOfSpec)) choiceOfUptoCard
end Rows
end Go.Proofs.YtfgndjgcfkfobaaDoor
