/-
  NARROWER THAN 'FOR EVERY INPUT', by the rows' own cells (each row's printed sentence says how): CycleTells: laid · CycleTurns: laid · CycleShort: laid · SccTells: laid · SccParts: laid · SccReach: laid · SccTurned: laid · CycleFinds: laid.
  DERIVED. THE GIVEN ROWS OF THIS SEAT. 8 by the template 'for every input the law returns true; each argument reads behind the call as it read before'; 0 by the template 'total and deterministic' (their statements: YtkiiigfefobdlaaDoorTotals.lean).
  GIVEN WITH THE SEED: the statements are not yours to turn. If you find one false, say at which input.
  Laid BY PROGRAM, IN A SANDBOX (cutbox-rows.mjs): the forced cells as the released guide's own fill.sh prints them over the translation c835877d925ee379… (all of the seat's roots in one cut). By AI agents, Wed Nov 11 2026. No macro, syntax, notation, axiom, sorry.
-/
import Derived.Test.YtkiiigfefobdlaaDoorChecked
import GoSem.Claim
import GoSem.ClaimJoined
import GoSem.ClaimMapViews
import Derived.JoinedTies
import Derived.KernelRfl
namespace Go.Proofs.YtkiiigfefobdlaaDoor
/- THE CELL 'sum', in the pinned program and in every row, IS THE sha256 OF THE DUMP (.gsa) THAT YtkiiigfefobdlaaDoorProg.lean LOADS. Nothing in Lean hashes anything: it is a label: what it is worth is what the hold of that sum in a sandbox is worth. -/
noncomputable def Tryd.pinned : Pinned := { name := "ytkiiigfefobdlaadoor", sum := "c835877d925ee379bb2d85d89b08f3e45e9ef74eb29c2eb4445e5c7e51d2a11b", checked := Tryd.checked }
namespace Rows
def none {H : Type} : Left H := { results := [], args := [] }

/- WHAT THE LISTED PACKAGE-LEVEL VARIABLES READ AS WHEN THE CALL BEGINS. Each datum BY PROGRAM (the guide's laid-datum.mjs) off the statement by which the dump's own 'gosem.cut.vars' lays the variable. In a bare row this is a premise. The card (YtkiiigfefobdlaaDoorCards.lean) ties it to the program's text. -/
def laid_math_bits_deBruijn64tab {H : Type} : DataW H := .agg [.lit (.int .u8 0), .lit (.int .u8 1), .lit (.int .u8 56), .lit (.int .u8 2), .lit (.int .u8 57), .lit (.int .u8 49), .lit (.int .u8 28), .lit (.int .u8 3), .lit (.int .u8 61), .lit (.int .u8 58), .lit (.int .u8 42), .lit (.int .u8 50), .lit (.int .u8 38), .lit (.int .u8 29), .lit (.int .u8 17), .lit (.int .u8 4), .lit (.int .u8 62), .lit (.int .u8 47), .lit (.int .u8 59), .lit (.int .u8 36), .lit (.int .u8 45), .lit (.int .u8 43), .lit (.int .u8 51), .lit (.int .u8 22), .lit (.int .u8 53), .lit (.int .u8 39), .lit (.int .u8 33), .lit (.int .u8 30), .lit (.int .u8 24), .lit (.int .u8 18), .lit (.int .u8 12), .lit (.int .u8 5), .lit (.int .u8 63), .lit (.int .u8 55), .lit (.int .u8 48), .lit (.int .u8 27), .lit (.int .u8 60), .lit (.int .u8 41), .lit (.int .u8 37), .lit (.int .u8 16), .lit (.int .u8 46), .lit (.int .u8 35), .lit (.int .u8 44), .lit (.int .u8 21), .lit (.int .u8 52), .lit (.int .u8 32), .lit (.int .u8 23), .lit (.int .u8 11), .lit (.int .u8 54), .lit (.int .u8 26), .lit (.int .u8 40), .lit (.int .u8 15), .lit (.int .u8 34), .lit (.int .u8 20), .lit (.int .u8 31), .lit (.int .u8 10), .lit (.int .u8 25), .lit (.int .u8 14), .lit (.int .u8 19), .lit (.int .u8 9), .lit (.int .u8 13), .lit (.int .u8 8), .lit (.int .u8 7), .lit (.int .u8 6)]

/-- 'inquestlaw15.CycleTells': WHATEVER THE INPUT: true; the input reads as it did. -/
def cycleTellsSpec : ChangeSpec := { name := "cycleTells", fn := fun _ => fun
  | [d1, d2] => { results := [.lit (.bool true)], args := [d1, d2] }
  | _ => none }
def cycleTellsRow : OpenClaim := { program := "ytkiiigfefobdlaadoor", sum := "c835877d925ee379bb2d85d89b08f3e45e9ef74eb29c2eb4445e5c7e51d2a11b", func := "inquest/inquestlaw15.CycleTells", spec := "cycleTells", named := ["math/bits.deBruijn64tab"], apart := false, laid := [("math/bits.deBruijn64tab", laid_math_bits_deBruijn64tab)] }
def CycleTellsSaid : Prop := cycleTellsRow.holds Tryd.pinned (OpenSpec.ofChange cycleTellsSpec)

/-- ITS FALSE NEIGHBOUR: 'it returns false'. Refute it at one input. -/
def cycleTellsWrong : ChangeSpec := { name := "cycleTells", fn := fun _ => fun
  | [d1, d2] => { results := [.lit (.bool false)], args := [d1, d2] }
  | _ => none }
def CycleTellsWrongFalsely : Prop := cycleTellsRow.holds Tryd.pinned (OpenSpec.ofChange cycleTellsWrong)

/-- 'inquestlaw15.CycleTurns': WHATEVER THE INPUT: true; the input reads as it did. -/
def cycleTurnsSpec : ChangeSpec := { name := "cycleTurns", fn := fun _ => fun
  | [d1, d2, d3] => { results := [.lit (.bool true)], args := [d1, d2, d3] }
  | _ => none }
def cycleTurnsRow : OpenClaim := { program := "ytkiiigfefobdlaadoor", sum := "c835877d925ee379bb2d85d89b08f3e45e9ef74eb29c2eb4445e5c7e51d2a11b", func := "inquest/inquestlaw15.CycleTurns", spec := "cycleTurns", named := ["math/bits.deBruijn64tab"], apart := false, laid := [("math/bits.deBruijn64tab", laid_math_bits_deBruijn64tab)] }
def CycleTurnsSaid : Prop := cycleTurnsRow.holds Tryd.pinned (OpenSpec.ofChange cycleTurnsSpec)

/-- ITS FALSE NEIGHBOUR: 'it returns false'. Refute it at one input. -/
def cycleTurnsWrong : ChangeSpec := { name := "cycleTurns", fn := fun _ => fun
  | [d1, d2, d3] => { results := [.lit (.bool false)], args := [d1, d2, d3] }
  | _ => none }
def CycleTurnsWrongFalsely : Prop := cycleTurnsRow.holds Tryd.pinned (OpenSpec.ofChange cycleTurnsWrong)

/-- 'inquestlaw15.CycleShort': WHATEVER THE INPUT: true; the input reads as it did. -/
def cycleShortSpec : ChangeSpec := { name := "cycleShort", fn := fun _ => fun
  | [d] => { results := [.lit (.bool true)], args := [d] }
  | _ => none }
def cycleShortRow : OpenClaim := { program := "ytkiiigfefobdlaadoor", sum := "c835877d925ee379bb2d85d89b08f3e45e9ef74eb29c2eb4445e5c7e51d2a11b", func := "inquest/inquestlaw15.CycleShort", spec := "cycleShort", named := ["math/bits.deBruijn64tab"], apart := false, laid := [("math/bits.deBruijn64tab", laid_math_bits_deBruijn64tab)] }
def CycleShortSaid : Prop := cycleShortRow.holds Tryd.pinned (OpenSpec.ofChange cycleShortSpec)

/-- ITS FALSE NEIGHBOUR: 'it returns false'. Refute it at one input. -/
def cycleShortWrong : ChangeSpec := { name := "cycleShort", fn := fun _ => fun
  | [d] => { results := [.lit (.bool false)], args := [d] }
  | _ => none }
def CycleShortWrongFalsely : Prop := cycleShortRow.holds Tryd.pinned (OpenSpec.ofChange cycleShortWrong)

/-- 'inquestlaw14.SccTells': WHATEVER THE INPUT: true; the input reads as it did. -/
def sccTellsSpec : ChangeSpec := { name := "sccTells", fn := fun _ => fun
  | [d] => { results := [.lit (.bool true)], args := [d] }
  | _ => none }
def sccTellsRow : OpenClaim := { program := "ytkiiigfefobdlaadoor", sum := "c835877d925ee379bb2d85d89b08f3e45e9ef74eb29c2eb4445e5c7e51d2a11b", func := "inquest/inquestlaw14.SccTells", spec := "sccTells", unfollowed := true, recurses := true, named := ["math/bits.deBruijn64tab"], apart := false, laid := [("math/bits.deBruijn64tab", laid_math_bits_deBruijn64tab)] }
def SccTellsSaid : Prop := sccTellsRow.holds Tryd.pinned (OpenSpec.ofChange sccTellsSpec)

/-- ITS FALSE NEIGHBOUR: 'it returns false'. Refute it at one input. -/
def sccTellsWrong : ChangeSpec := { name := "sccTells", fn := fun _ => fun
  | [d] => { results := [.lit (.bool false)], args := [d] }
  | _ => none }
def SccTellsWrongFalsely : Prop := sccTellsRow.holds Tryd.pinned (OpenSpec.ofChange sccTellsWrong)

/-- 'inquestlaw14.SccParts': WHATEVER THE INPUT: true; the input reads as it did. -/
def sccPartsSpec : ChangeSpec := { name := "sccParts", fn := fun _ => fun
  | [d] => { results := [.lit (.bool true)], args := [d] }
  | _ => none }
def sccPartsRow : OpenClaim := { program := "ytkiiigfefobdlaadoor", sum := "c835877d925ee379bb2d85d89b08f3e45e9ef74eb29c2eb4445e5c7e51d2a11b", func := "inquest/inquestlaw14.SccParts", spec := "sccParts", unfollowed := true, recurses := true, named := ["math/bits.deBruijn64tab"], apart := false, laid := [("math/bits.deBruijn64tab", laid_math_bits_deBruijn64tab)] }
def SccPartsSaid : Prop := sccPartsRow.holds Tryd.pinned (OpenSpec.ofChange sccPartsSpec)

/-- ITS FALSE NEIGHBOUR: 'it returns false'. Refute it at one input. -/
def sccPartsWrong : ChangeSpec := { name := "sccParts", fn := fun _ => fun
  | [d] => { results := [.lit (.bool false)], args := [d] }
  | _ => none }
def SccPartsWrongFalsely : Prop := sccPartsRow.holds Tryd.pinned (OpenSpec.ofChange sccPartsWrong)

/-- 'inquestlaw14.SccReach': WHATEVER THE INPUT: true; the input reads as it did. -/
def sccReachSpec : ChangeSpec := { name := "sccReach", fn := fun _ => fun
  | [d1, d2, d3] => { results := [.lit (.bool true)], args := [d1, d2, d3] }
  | _ => none }
def sccReachRow : OpenClaim := { program := "ytkiiigfefobdlaadoor", sum := "c835877d925ee379bb2d85d89b08f3e45e9ef74eb29c2eb4445e5c7e51d2a11b", func := "inquest/inquestlaw14.SccReach", spec := "sccReach", unfollowed := true, recurses := true, named := ["math/bits.deBruijn64tab"], apart := false, laid := [("math/bits.deBruijn64tab", laid_math_bits_deBruijn64tab)] }
def SccReachSaid : Prop := sccReachRow.holds Tryd.pinned (OpenSpec.ofChange sccReachSpec)

/-- ITS FALSE NEIGHBOUR: 'it returns false'. Refute it at one input. -/
def sccReachWrong : ChangeSpec := { name := "sccReach", fn := fun _ => fun
  | [d1, d2, d3] => { results := [.lit (.bool false)], args := [d1, d2, d3] }
  | _ => none }
def SccReachWrongFalsely : Prop := sccReachRow.holds Tryd.pinned (OpenSpec.ofChange sccReachWrong)

/-- 'inquestlaw14.SccTurned': WHATEVER THE INPUT: true; the input reads as it did. -/
def sccTurnedSpec : ChangeSpec := { name := "sccTurned", fn := fun _ => fun
  | [d] => { results := [.lit (.bool true)], args := [d] }
  | _ => none }
def sccTurnedRow : OpenClaim := { program := "ytkiiigfefobdlaadoor", sum := "c835877d925ee379bb2d85d89b08f3e45e9ef74eb29c2eb4445e5c7e51d2a11b", func := "inquest/inquestlaw14.SccTurned", spec := "sccTurned", unfollowed := true, recurses := true, named := ["math/bits.deBruijn64tab"], apart := false, laid := [("math/bits.deBruijn64tab", laid_math_bits_deBruijn64tab)] }
def SccTurnedSaid : Prop := sccTurnedRow.holds Tryd.pinned (OpenSpec.ofChange sccTurnedSpec)

/-- ITS FALSE NEIGHBOUR: 'it returns false'. Refute it at one input. -/
def sccTurnedWrong : ChangeSpec := { name := "sccTurned", fn := fun _ => fun
  | [d] => { results := [.lit (.bool false)], args := [d] }
  | _ => none }
def SccTurnedWrongFalsely : Prop := sccTurnedRow.holds Tryd.pinned (OpenSpec.ofChange sccTurnedWrong)

/-- 'inquestlaw15.CycleFinds': WHATEVER THE INPUT: true; the input reads as it did. -/
def cycleFindsSpec : ChangeSpec := { name := "cycleFinds", fn := fun _ => fun
  | [d] => { results := [.lit (.bool true)], args := [d] }
  | _ => none }
def cycleFindsRow : OpenClaim := { program := "ytkiiigfefobdlaadoor", sum := "c835877d925ee379bb2d85d89b08f3e45e9ef74eb29c2eb4445e5c7e51d2a11b", func := "inquest/inquestlaw15.CycleFinds", spec := "cycleFinds", unfollowed := true, recurses := true, named := ["math/bits.deBruijn64tab"], apart := false, laid := [("math/bits.deBruijn64tab", laid_math_bits_deBruijn64tab)] }
def CycleFindsSaid : Prop := cycleFindsRow.holds Tryd.pinned (OpenSpec.ofChange cycleFindsSpec)

/-- ITS FALSE NEIGHBOUR: 'it returns false'. Refute it at one input. -/
def cycleFindsWrong : ChangeSpec := { name := "cycleFinds", fn := fun _ => fun
  | [d] => { results := [.lit (.bool false)], args := [d] }
  | _ => none }
def CycleFindsWrongFalsely : Prop := cycleFindsRow.holds Tryd.pinned (OpenSpec.ofChange cycleFindsWrong)

/- THE SECOND FORM. 'bulk': how many values and letters a reading holds, each counted each time it is reached (what is shared counts as often as it is met; a slice's spare places count too). A statement '..UptoSaid' is the law's where the arguments, and the package variables that the reading takes, are together of bulk at most 1048576: NARROWER than '..Said'. Prove '..Said' where nothing that the law and all that it calls make is longer than what came in: it says more and counts as full. Else prove '..UptoSaid'. A law counts once. -/
mutual
def uptoBulk {H : Type} : DataW H → Nat
  | .lit (.string bytes) => bytes.length + 1
  | .lit _ => 1
  | .nil => 1
  | .ptr d => uptoBulk d + 1
  | .slice elems spare => uptoBulkAll elems + uptoBulkAll spare + 1
  | .agg parts => uptoBulkAll parts + 1
  | .iface _ d => uptoBulk d + 1
  | .map entries => uptoBulkEntries entries + 1
  | .held _ => 1
def uptoBulkAll {H : Type} : List (DataW H) → Nat
  | [] => 0
  | d :: r => uptoBulk d + uptoBulkAll r
def uptoBulkEntries {H : Type} : List (Lit × DataW H) → Nat
  | [] => 0
  | x :: r => uptoBulkEntry x + uptoBulkEntries r
def uptoBulkEntry {H : Type} : Lit × DataW H → Nat
  | (.string bytes, d) => bytes.length + uptoBulk d + 1
  | (_, d) => uptoBulk d + 1
 end
def uptoSmall : (H : Type) → List (DataW H) → Bool := fun _ ds => decide (uptoBulkAll ds ≤ 1048576)
def OpenSpec.upto (s : _root_.Go.ChangeSpec) : _root_.Go.OpenSpec := { _root_.Go.OpenSpec.ofChange s with cond := some uptoSmall }

/-- 'inquestlaw15.CycleTells', WHERE WHAT IT READS IS OF BULK AT MOST 1048576: true; the input reads as it did. -/
def cycleTellsUptoRow : OpenClaim := { program := "ytkiiigfefobdlaadoor", sum := "c835877d925ee379bb2d85d89b08f3e45e9ef74eb29c2eb4445e5c7e51d2a11b", func := "inquest/inquestlaw15.CycleTells", spec := "cycleTells", named := ["math/bits.deBruijn64tab"], apart := false, laid := [("math/bits.deBruijn64tab", laid_math_bits_deBruijn64tab)], narrowed := true }
def CycleTellsUptoSaid : Prop := cycleTellsUptoRow.holds Tryd.pinned (OpenSpec.upto cycleTellsSpec)

/-- 'inquestlaw15.CycleTurns', WHERE WHAT IT READS IS OF BULK AT MOST 1048576: true; the input reads as it did. -/
def cycleTurnsUptoRow : OpenClaim := { program := "ytkiiigfefobdlaadoor", sum := "c835877d925ee379bb2d85d89b08f3e45e9ef74eb29c2eb4445e5c7e51d2a11b", func := "inquest/inquestlaw15.CycleTurns", spec := "cycleTurns", named := ["math/bits.deBruijn64tab"], apart := false, laid := [("math/bits.deBruijn64tab", laid_math_bits_deBruijn64tab)], narrowed := true }
def CycleTurnsUptoSaid : Prop := cycleTurnsUptoRow.holds Tryd.pinned (OpenSpec.upto cycleTurnsSpec)

/-- 'inquestlaw15.CycleShort', WHERE WHAT IT READS IS OF BULK AT MOST 1048576: true; the input reads as it did. -/
def cycleShortUptoRow : OpenClaim := { program := "ytkiiigfefobdlaadoor", sum := "c835877d925ee379bb2d85d89b08f3e45e9ef74eb29c2eb4445e5c7e51d2a11b", func := "inquest/inquestlaw15.CycleShort", spec := "cycleShort", named := ["math/bits.deBruijn64tab"], apart := false, laid := [("math/bits.deBruijn64tab", laid_math_bits_deBruijn64tab)], narrowed := true }
def CycleShortUptoSaid : Prop := cycleShortUptoRow.holds Tryd.pinned (OpenSpec.upto cycleShortSpec)

/-- 'inquestlaw14.SccTells', WHERE WHAT IT READS IS OF BULK AT MOST 1048576: true; the input reads as it did. -/
def sccTellsUptoRow : OpenClaim := { program := "ytkiiigfefobdlaadoor", sum := "c835877d925ee379bb2d85d89b08f3e45e9ef74eb29c2eb4445e5c7e51d2a11b", func := "inquest/inquestlaw14.SccTells", spec := "sccTells", unfollowed := true, recurses := true, named := ["math/bits.deBruijn64tab"], apart := false, laid := [("math/bits.deBruijn64tab", laid_math_bits_deBruijn64tab)], narrowed := true }
def SccTellsUptoSaid : Prop := sccTellsUptoRow.holds Tryd.pinned (OpenSpec.upto sccTellsSpec)

/-- 'inquestlaw14.SccParts', WHERE WHAT IT READS IS OF BULK AT MOST 1048576: true; the input reads as it did. -/
def sccPartsUptoRow : OpenClaim := { program := "ytkiiigfefobdlaadoor", sum := "c835877d925ee379bb2d85d89b08f3e45e9ef74eb29c2eb4445e5c7e51d2a11b", func := "inquest/inquestlaw14.SccParts", spec := "sccParts", unfollowed := true, recurses := true, named := ["math/bits.deBruijn64tab"], apart := false, laid := [("math/bits.deBruijn64tab", laid_math_bits_deBruijn64tab)], narrowed := true }
def SccPartsUptoSaid : Prop := sccPartsUptoRow.holds Tryd.pinned (OpenSpec.upto sccPartsSpec)

/-- 'inquestlaw14.SccReach', WHERE WHAT IT READS IS OF BULK AT MOST 1048576: true; the input reads as it did. -/
def sccReachUptoRow : OpenClaim := { program := "ytkiiigfefobdlaadoor", sum := "c835877d925ee379bb2d85d89b08f3e45e9ef74eb29c2eb4445e5c7e51d2a11b", func := "inquest/inquestlaw14.SccReach", spec := "sccReach", unfollowed := true, recurses := true, named := ["math/bits.deBruijn64tab"], apart := false, laid := [("math/bits.deBruijn64tab", laid_math_bits_deBruijn64tab)], narrowed := true }
def SccReachUptoSaid : Prop := sccReachUptoRow.holds Tryd.pinned (OpenSpec.upto sccReachSpec)

/-- 'inquestlaw14.SccTurned', WHERE WHAT IT READS IS OF BULK AT MOST 1048576: true; the input reads as it did. -/
def sccTurnedUptoRow : OpenClaim := { program := "ytkiiigfefobdlaadoor", sum := "c835877d925ee379bb2d85d89b08f3e45e9ef74eb29c2eb4445e5c7e51d2a11b", func := "inquest/inquestlaw14.SccTurned", spec := "sccTurned", unfollowed := true, recurses := true, named := ["math/bits.deBruijn64tab"], apart := false, laid := [("math/bits.deBruijn64tab", laid_math_bits_deBruijn64tab)], narrowed := true }
def SccTurnedUptoSaid : Prop := sccTurnedUptoRow.holds Tryd.pinned (OpenSpec.upto sccTurnedSpec)

/-- 'inquestlaw15.CycleFinds', WHERE WHAT IT READS IS OF BULK AT MOST 1048576: true; the input reads as it did. -/
def cycleFindsUptoRow : OpenClaim := { program := "ytkiiigfefobdlaadoor", sum := "c835877d925ee379bb2d85d89b08f3e45e9ef74eb29c2eb4445e5c7e51d2a11b", func := "inquest/inquestlaw15.CycleFinds", spec := "cycleFinds", unfollowed := true, recurses := true, named := ["math/bits.deBruijn64tab"], apart := false, laid := [("math/bits.deBruijn64tab", laid_math_bits_deBruijn64tab)], narrowed := true }
def CycleFindsUptoSaid : Prop := cycleFindsUptoRow.holds Tryd.pinned (OpenSpec.upto cycleFindsSpec)

end Rows
end Go.Proofs.YtkiiigfefobdlaaDoor
