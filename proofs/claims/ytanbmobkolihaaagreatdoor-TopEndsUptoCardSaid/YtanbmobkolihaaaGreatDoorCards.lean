/-
  DERIVED. GIVEN WITH THE SEED: THE CARDS: each row of YtanbmobkolihaaaGreatDoorRows.lean that lists a variable, with what it lists TIED to the program's text (the seventh form; the later family's looks); each row that meets fmt, with fmt's text TOLD by the authors' own Lean function (tested against real Go, not proved from fmt's source: count such statements apart). THE CARD IS WHAT COUNTS. Prove the row's statement (the work); the ties are given (YtanbmobkolihaaaGreatDoorTie.lean); close each card by the builder's one call (the guide's Derived/Test/ToyasCard.lean, 'card_holds'). Laid BY PROGRAM, IN A SANDBOX (cutbox-door.mjs). By AI agents, Wed Nov 11 2026. No macro, syntax, notation, axiom, sorry.
-/
import Derived.Test.YtanbmobkolihaaaGreatDoorRows
import GoSem.ClaimSeven
namespace Go.Proofs.YtanbmobkolihaaaGreatDoor
namespace Rows

/-- THE TIED CARD OF 'inquesttop.TopSound'. -/
def topSoundCard : Claim7 := { stood := { row := topSoundRow, standIns := [], harness := (true, "fb7db8f64c0ed2502bf6435752eb13c4d63d14de6531e7c7ae6141e3d5fff220"), looks := true }, kinds := [], alts := [], laidByText := true, laidKinds := [.data, .data, .handle, .data, .pinned], laidTests := true, laidLooks := .later }
def TopSoundCardSaid : Prop := Claim7.holds Tryz.pinned (.plain (OpenSpec.ofChange topSoundSpec)) topSoundCard

/-- THE TIED CARD OF 'inquesttop.TopAgree'. -/
def topAgreeCard : Claim7 := { stood := { row := topAgreeRow, standIns := [], harness := (true, "fb7db8f64c0ed2502bf6435752eb13c4d63d14de6531e7c7ae6141e3d5fff220"), looks := true }, kinds := [], alts := [], laidByText := true, laidKinds := [.data, .data, .handle, .data, .pinned], laidTests := true, laidLooks := .later }
def TopAgreeCardSaid : Prop := Claim7.holds Tryz.pinned (.plain (OpenSpec.ofChange topAgreeSpec)) topAgreeCard

/-- THE TIED CARD OF 'inquesttop.TopEnds'. -/
def topEndsCard : Claim7 := { stood := { row := topEndsRow, standIns := [], harness := (true, "fb7db8f64c0ed2502bf6435752eb13c4d63d14de6531e7c7ae6141e3d5fff220"), looks := true }, kinds := [], alts := [], laidByText := true, laidKinds := [.data, .data, .handle, .data, .pinned], laidTests := true, laidLooks := .later }
def TopEndsCardSaid : Prop := Claim7.holds Tryz.pinned (.plain (OpenSpec.ofChange topEndsSpec)) topEndsCard

/-- THE SECOND FORM's CARD OF 'inquesttop.TopSound'. -/
def topSoundUptoCard : Claim7 := { stood := { row := topSoundUptoRow, standIns := [], harness := (true, "fb7db8f64c0ed2502bf6435752eb13c4d63d14de6531e7c7ae6141e3d5fff220"), looks := true }, kinds := [], alts := [], laidByText := true, laidKinds := [.data, .data, .handle, .data, .pinned], laidTests := true, laidLooks := .later }
def TopSoundUptoCardSaid : Prop := Claim7.holds Tryz.pinned (.plain (OpenSpec.upto topSoundSpec)) topSoundUptoCard

/-- THE SECOND FORM's CARD OF 'inquesttop.TopAgree'. -/
def topAgreeUptoCard : Claim7 := { stood := { row := topAgreeUptoRow, standIns := [], harness := (true, "fb7db8f64c0ed2502bf6435752eb13c4d63d14de6531e7c7ae6141e3d5fff220"), looks := true }, kinds := [], alts := [], laidByText := true, laidKinds := [.data, .data, .handle, .data, .pinned], laidTests := true, laidLooks := .later }
def TopAgreeUptoCardSaid : Prop := Claim7.holds Tryz.pinned (.plain (OpenSpec.upto topAgreeSpec)) topAgreeUptoCard

/-- THE SECOND FORM's CARD OF 'inquesttop.TopEnds'. -/
def topEndsUptoCard : Claim7 := { stood := { row := topEndsUptoRow, standIns := [], harness := (true, "fb7db8f64c0ed2502bf6435752eb13c4d63d14de6531e7c7ae6141e3d5fff220"), looks := true }, kinds := [], alts := [], laidByText := true, laidKinds := [.data, .data, .handle, .data, .pinned], laidTests := true, laidLooks := .later }
def TopEndsUptoCardSaid : Prop := Claim7.holds Tryz.pinned (.plain (OpenSpec.upto topEndsSpec)) topEndsUptoCard
end Rows
end Go.Proofs.YtanbmobkolihaaaGreatDoor
