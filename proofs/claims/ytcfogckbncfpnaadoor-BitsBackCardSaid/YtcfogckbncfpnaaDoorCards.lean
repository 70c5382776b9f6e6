/-
  DERIVED. GIVEN WITH THE SEED: THE CARDS: each row of YtcfogckbncfpnaaDoorRows.lean that lists a variable, with what it lists TIED to the program's text (the seventh form; the later family's looks); each row that meets fmt, with fmt's text TOLD by the authors' own Lean function (tested against real Go, not proved from fmt's source: count such statements apart). THE CARD IS WHAT COUNTS. Prove the row's statement (the work); the ties are given (YtcfogckbncfpnaaDoorTie.lean); close each card by the builder's one call (the guide's Derived/Test/ToyasCard.lean, 'card_holds'). Laid BY PROGRAM, IN A SANDBOX (cutbox-door.mjs). By AI agents, Wed Nov 11 2026. No macro, syntax, notation, axiom, sorry.
-/
import Derived.Test.YtcfogckbncfpnaaDoorRows
import GoSem.ClaimSeven
namespace Go.Proofs.YtcfogckbncfpnaaDoor
namespace Rows

/-- THE TIED CARD OF 'inquestlaw10.BitsJoin'. -/
def bitsJoinCard : Claim7 := { stood := { row := bitsJoinRow, standIns := [], harness := (true, "35cd75362815b85e6e96e13839881ce4373d73e2e7a8fb281f3a8b4986e05a69"), looks := false }, kinds := [], alts := [], laidByText := true, laidKinds := [.data], laidTests := true, laidLooks := .later }
def BitsJoinCardSaid : Prop := Claim7.holds Tryd.pinned (.plain (OpenSpec.ofChange bitsJoinSpec)) bitsJoinCard

/-- THE TIED CARD OF 'inquestlaw10.BitsBack'. -/
def bitsBackCard : Claim7 := { stood := { row := bitsBackRow, standIns := [], harness := (true, "35cd75362815b85e6e96e13839881ce4373d73e2e7a8fb281f3a8b4986e05a69"), looks := false }, kinds := [], alts := [], laidByText := true, laidKinds := [.data], laidTests := true, laidLooks := .later }
def BitsBackCardSaid : Prop := Claim7.holds Tryd.pinned (.plain (OpenSpec.ofChange bitsBackSpec)) bitsBackCard

/-- THE TIED CARD OF 'inquestlaw10.BitsTell'. -/
def bitsTellCard : Claim7 := { stood := { row := bitsTellRow, standIns := [], harness := (true, "35cd75362815b85e6e96e13839881ce4373d73e2e7a8fb281f3a8b4986e05a69"), looks := false }, kinds := [], alts := [], laidByText := true, laidKinds := [.data], laidTests := true, laidLooks := .later }
def BitsTellCardSaid : Prop := Claim7.holds Tryd.pinned (.plain (OpenSpec.ofChange bitsTellSpec)) bitsTellCard

/-- THE TIED CARD OF 'inquestlaw10.BitsWith'. -/
def bitsWithCard : Claim7 := { stood := { row := bitsWithRow, standIns := [], harness := (true, "35cd75362815b85e6e96e13839881ce4373d73e2e7a8fb281f3a8b4986e05a69"), looks := false }, kinds := [], alts := [], laidByText := true, laidKinds := [.data], laidTests := true, laidLooks := .later }
def BitsWithCardSaid : Prop := Claim7.holds Tryd.pinned (.plain (OpenSpec.ofChange bitsWithSpec)) bitsWithCard

/-- THE SECOND FORM's CARD OF 'inquestlaw10.BitsJoin'. -/
def bitsJoinUptoCard : Claim7 := { stood := { row := bitsJoinUptoRow, standIns := [], harness := (true, "35cd75362815b85e6e96e13839881ce4373d73e2e7a8fb281f3a8b4986e05a69"), looks := false }, kinds := [], alts := [], laidByText := true, laidKinds := [.data], laidTests := true, laidLooks := .later }
def BitsJoinUptoCardSaid : Prop := Claim7.holds Tryd.pinned (.plain (OpenSpec.upto bitsJoinSpec)) bitsJoinUptoCard

/-- THE SECOND FORM's CARD OF 'inquestlaw10.BitsBack'. -/
def bitsBackUptoCard : Claim7 := { stood := { row := bitsBackUptoRow, standIns := [], harness := (true, "35cd75362815b85e6e96e13839881ce4373d73e2e7a8fb281f3a8b4986e05a69"), looks := false }, kinds := [], alts := [], laidByText := true, laidKinds := [.data], laidTests := true, laidLooks := .later }
def BitsBackUptoCardSaid : Prop := Claim7.holds Tryd.pinned (.plain (OpenSpec.upto bitsBackSpec)) bitsBackUptoCard

/-- THE SECOND FORM's CARD OF 'inquestlaw10.BitsTell'. -/
def bitsTellUptoCard : Claim7 := { stood := { row := bitsTellUptoRow, standIns := [], harness := (true, "35cd75362815b85e6e96e13839881ce4373d73e2e7a8fb281f3a8b4986e05a69"), looks := false }, kinds := [], alts := [], laidByText := true, laidKinds := [.data], laidTests := true, laidLooks := .later }
def BitsTellUptoCardSaid : Prop := Claim7.holds Tryd.pinned (.plain (OpenSpec.upto bitsTellSpec)) bitsTellUptoCard

/-- THE SECOND FORM's CARD OF 'inquestlaw10.BitsWith'. -/
def bitsWithUptoCard : Claim7 := { stood := { row := bitsWithUptoRow, standIns := [], harness := (true, "35cd75362815b85e6e96e13839881ce4373d73e2e7a8fb281f3a8b4986e05a69"), looks := false }, kinds := [], alts := [], laidByText := true, laidKinds := [.data], laidTests := true, laidLooks := .later }
def BitsWithUptoCardSaid : Prop := Claim7.holds Tryd.pinned (.plain (OpenSpec.upto bitsWithSpec)) bitsWithUptoCard
end Rows
end Go.Proofs.YtcfogckbncfpnaaDoor
