/-
  DERIVED. GIVEN WITH THE SEED: THE CARDS: each row of YtkiiigfefobdlaaDoorRows.lean that lists a variable, with what it lists TIED to the program's text (the seventh form; the later family's looks); each row that meets fmt, with fmt's text TOLD by the authors' own Lean function (tested against real Go, not proved from fmt's source: count such statements apart). THE CARD IS WHAT COUNTS. Prove the row's statement (the work); the ties are given (YtkiiigfefobdlaaDoorTie.lean); close each card by the builder's one call (the guide's Derived/Test/ToyasCard.lean, 'card_holds'). Laid BY PROGRAM, IN A SANDBOX (cutbox-door.mjs). By AI agents, Wed Nov 11 2026. No macro, syntax, notation, axiom, sorry.
-/
import Derived.Test.YtkiiigfefobdlaaDoorRows
import GoSem.ClaimSeven
namespace Go.Proofs.YtkiiigfefobdlaaDoor
namespace Rows

/-- THE TIED CARD OF 'inquestlaw15.CycleTells'. -/
def cycleTellsCard : Claim7 := { stood := { row := cycleTellsRow, standIns := [], harness := (true, "1998d5e31ed6c8e243dd695a4dd9d27fc687ec22a0b8488c0533c35c9b06463c"), looks := false }, kinds := [], alts := [], laidByText := true, laidKinds := [.data], laidTests := true, laidLooks := .later }
def CycleTellsCardSaid : Prop := Claim7.holds Tryd.pinned (.plain (OpenSpec.ofChange cycleTellsSpec)) cycleTellsCard

/-- THE TIED CARD OF 'inquestlaw15.CycleTurns'. -/
def cycleTurnsCard : Claim7 := { stood := { row := cycleTurnsRow, standIns := [], harness := (true, "1998d5e31ed6c8e243dd695a4dd9d27fc687ec22a0b8488c0533c35c9b06463c"), looks := false }, kinds := [], alts := [], laidByText := true, laidKinds := [.data], laidTests := true, laidLooks := .later }
def CycleTurnsCardSaid : Prop := Claim7.holds Tryd.pinned (.plain (OpenSpec.ofChange cycleTurnsSpec)) cycleTurnsCard

/-- THE TIED CARD OF 'inquestlaw15.CycleShort'. -/
def cycleShortCard : Claim7 := { stood := { row := cycleShortRow, standIns := [], harness := (true, "1998d5e31ed6c8e243dd695a4dd9d27fc687ec22a0b8488c0533c35c9b06463c"), looks := false }, kinds := [], alts := [], laidByText := true, laidKinds := [.data], laidTests := true, laidLooks := .later }
def CycleShortCardSaid : Prop := Claim7.holds Tryd.pinned (.plain (OpenSpec.ofChange cycleShortSpec)) cycleShortCard

/-- THE TIED CARD OF 'inquestlaw14.SccTells'. -/
def sccTellsCard : Claim7 := { stood := { row := sccTellsRow, standIns := [], harness := (true, "1998d5e31ed6c8e243dd695a4dd9d27fc687ec22a0b8488c0533c35c9b06463c"), looks := false }, kinds := [], alts := [], laidByText := true, laidKinds := [.data], laidTests := true, laidLooks := .later }
def SccTellsCardSaid : Prop := Claim7.holds Tryd.pinned (.plain (OpenSpec.ofChange sccTellsSpec)) sccTellsCard

/-- THE TIED CARD OF 'inquestlaw14.SccParts'. -/
def sccPartsCard : Claim7 := { stood := { row := sccPartsRow, standIns := [], harness := (true, "1998d5e31ed6c8e243dd695a4dd9d27fc687ec22a0b8488c0533c35c9b06463c"), looks := false }, kinds := [], alts := [], laidByText := true, laidKinds := [.data], laidTests := true, laidLooks := .later }
def SccPartsCardSaid : Prop := Claim7.holds Tryd.pinned (.plain (OpenSpec.ofChange sccPartsSpec)) sccPartsCard

/-- THE TIED CARD OF 'inquestlaw14.SccReach'. -/
def sccReachCard : Claim7 := { stood := { row := sccReachRow, standIns := [], harness := (true, "1998d5e31ed6c8e243dd695a4dd9d27fc687ec22a0b8488c0533c35c9b06463c"), looks := false }, kinds := [], alts := [], laidByText := true, laidKinds := [.data], laidTests := true, laidLooks := .later }
def SccReachCardSaid : Prop := Claim7.holds Tryd.pinned (.plain (OpenSpec.ofChange sccReachSpec)) sccReachCard

/-- THE TIED CARD OF 'inquestlaw14.SccTurned'. -/
def sccTurnedCard : Claim7 := { stood := { row := sccTurnedRow, standIns := [], harness := (true, "1998d5e31ed6c8e243dd695a4dd9d27fc687ec22a0b8488c0533c35c9b06463c"), looks := false }, kinds := [], alts := [], laidByText := true, laidKinds := [.data], laidTests := true, laidLooks := .later }
def SccTurnedCardSaid : Prop := Claim7.holds Tryd.pinned (.plain (OpenSpec.ofChange sccTurnedSpec)) sccTurnedCard

/-- THE TIED CARD OF 'inquestlaw15.CycleFinds'. -/
def cycleFindsCard : Claim7 := { stood := { row := cycleFindsRow, standIns := [], harness := (true, "1998d5e31ed6c8e243dd695a4dd9d27fc687ec22a0b8488c0533c35c9b06463c"), looks := false }, kinds := [], alts := [], laidByText := true, laidKinds := [.data], laidTests := true, laidLooks := .later }
def CycleFindsCardSaid : Prop := Claim7.holds Tryd.pinned (.plain (OpenSpec.ofChange cycleFindsSpec)) cycleFindsCard

/-- THE SECOND FORM's CARD OF 'inquestlaw15.CycleTells'. -/
def cycleTellsUptoCard : Claim7 := { stood := { row := cycleTellsUptoRow, standIns := [], harness := (true, "1998d5e31ed6c8e243dd695a4dd9d27fc687ec22a0b8488c0533c35c9b06463c"), looks := false }, kinds := [], alts := [], laidByText := true, laidKinds := [.data], laidTests := true, laidLooks := .later }
def CycleTellsUptoCardSaid : Prop := Claim7.holds Tryd.pinned (.plain (OpenSpec.upto cycleTellsSpec)) cycleTellsUptoCard

/-- THE SECOND FORM's CARD OF 'inquestlaw15.CycleTurns'. -/
def cycleTurnsUptoCard : Claim7 := { stood := { row := cycleTurnsUptoRow, standIns := [], harness := (true, "1998d5e31ed6c8e243dd695a4dd9d27fc687ec22a0b8488c0533c35c9b06463c"), looks := false }, kinds := [], alts := [], laidByText := true, laidKinds := [.data], laidTests := true, laidLooks := .later }
def CycleTurnsUptoCardSaid : Prop := Claim7.holds Tryd.pinned (.plain (OpenSpec.upto cycleTurnsSpec)) cycleTurnsUptoCard

/-- THE SECOND FORM's CARD OF 'inquestlaw15.CycleShort'. -/
def cycleShortUptoCard : Claim7 := { stood := { row := cycleShortUptoRow, standIns := [], harness := (true, "1998d5e31ed6c8e243dd695a4dd9d27fc687ec22a0b8488c0533c35c9b06463c"), looks := false }, kinds := [], alts := [], laidByText := true, laidKinds := [.data], laidTests := true, laidLooks := .later }
def CycleShortUptoCardSaid : Prop := Claim7.holds Tryd.pinned (.plain (OpenSpec.upto cycleShortSpec)) cycleShortUptoCard

/-- THE SECOND FORM's CARD OF 'inquestlaw14.SccTells'. -/
def sccTellsUptoCard : Claim7 := { stood := { row := sccTellsUptoRow, standIns := [], harness := (true, "1998d5e31ed6c8e243dd695a4dd9d27fc687ec22a0b8488c0533c35c9b06463c"), looks := false }, kinds := [], alts := [], laidByText := true, laidKinds := [.data], laidTests := true, laidLooks := .later }
def SccTellsUptoCardSaid : Prop := Claim7.holds Tryd.pinned (.plain (OpenSpec.upto sccTellsSpec)) sccTellsUptoCard

/-- THE SECOND FORM's CARD OF 'inquestlaw14.SccParts'. -/
def sccPartsUptoCard : Claim7 := { stood := { row := sccPartsUptoRow, standIns := [], harness := (true, "1998d5e31ed6c8e243dd695a4dd9d27fc687ec22a0b8488c0533c35c9b06463c"), looks := false }, kinds := [], alts := [], laidByText := true, laidKinds := [.data], laidTests := true, laidLooks := .later }
def SccPartsUptoCardSaid : Prop := Claim7.holds Tryd.pinned (.plain (OpenSpec.upto sccPartsSpec)) sccPartsUptoCard

/-- THE SECOND FORM's CARD OF 'inquestlaw14.SccReach'. -/
def sccReachUptoCard : Claim7 := { stood := { row := sccReachUptoRow, standIns := [], harness := (true, "1998d5e31ed6c8e243dd695a4dd9d27fc687ec22a0b8488c0533c35c9b06463c"), looks := false }, kinds := [], alts := [], laidByText := true, laidKinds := [.data], laidTests := true, laidLooks := .later }
def SccReachUptoCardSaid : Prop := Claim7.holds Tryd.pinned (.plain (OpenSpec.upto sccReachSpec)) sccReachUptoCard

/-- THE SECOND FORM's CARD OF 'inquestlaw14.SccTurned'. -/
def sccTurnedUptoCard : Claim7 := { stood := { row := sccTurnedUptoRow, standIns := [], harness := (true, "1998d5e31ed6c8e243dd695a4dd9d27fc687ec22a0b8488c0533c35c9b06463c"), looks := false }, kinds := [], alts := [], laidByText := true, laidKinds := [.data], laidTests := true, laidLooks := .later }
def SccTurnedUptoCardSaid : Prop := Claim7.holds Tryd.pinned (.plain (OpenSpec.upto sccTurnedSpec)) sccTurnedUptoCard

/-- THE SECOND FORM's CARD OF 'inquestlaw15.CycleFinds'. -/
def cycleFindsUptoCard : Claim7 := { stood := { row := cycleFindsUptoRow, standIns := [], harness := (true, "1998d5e31ed6c8e243dd695a4dd9d27fc687ec22a0b8488c0533c35c9b06463c"), looks := false }, kinds := [], alts := [], laidByText := true, laidKinds := [.data], laidTests := true, laidLooks := .later }
def CycleFindsUptoCardSaid : Prop := Claim7.holds Tryd.pinned (.plain (OpenSpec.upto cycleFindsSpec)) cycleFindsUptoCard
end Rows
end Go.Proofs.YtkiiigfefobdlaaDoor
