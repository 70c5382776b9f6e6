/-
  No cell of these rows narrows 'for every input' (looked for: loops, veiled, ifaces, maps, wideKeys, modest, calm, conditions, laid).
  DERIVED. THE GIVEN ROWS OF THIS SEAT. 5 by the template 'for every input the law returns true; each argument reads behind the call as it read before'; 0 by the template 'total and deterministic' (their statements: YtcoegkcdabpijaaTotals.lean).
  GIVEN WITH THE SEED: the statements are not yours to turn. If you find one false, say at which input.
  Laid BY PROGRAM, IN A SANDBOX (cutbox-rows.mjs): the forced cells as the released guide's own fill.sh prints them over the translation bc1a1b3477101f72… (all of the seat's roots in one cut). By AI agents, Wed Nov 11 2026. No macro, syntax, notation, axiom, sorry.
-/
import Derived.Test.YtcoegkcdabpijaaChecked
import GoSem.Claim
import GoSem.ClaimJoined
import GoSem.ClaimMapViews
import Derived.JoinedTies
import Derived.KernelRfl
namespace Go.Proofs.Ytcoegkcdabpijaa
/- THE CELL 'sum', in the pinned program and in every row, IS THE sha256 OF THE DUMP (.gsa) THAT YtcoegkcdabpijaaProg.lean LOADS. Nothing in Lean hashes anything: it is a label: what it is worth is what the hold of that sum in a sandbox is worth. -/
noncomputable def Try.pinned : Pinned := { name := "ytcoegkcdabpijaa", sum := "bc1a1b3477101f72c3a4b153cba40f6d4e18499765f6b65a43461ab2073ea186", checked := Try.checked }
namespace Rows
def none {H : Type} : Left H := { results := [], args := [] }

/-- 'inquestlaw20.SerTells': WHATEVER THE INPUT: true; the input reads as it did. -/
def serTellsSpec : ChangeSpec := { name := "serTells", fn := fun _ => fun
  | [d1, d2] => { results := [.lit (.bool true)], args := [d1, d2] }
  | _ => none }
def serTellsRow : OpenClaim := { program := "ytcoegkcdabpijaa", sum := "bc1a1b3477101f72c3a4b153cba40f6d4e18499765f6b65a43461ab2073ea186", func := "inquest/inquestlaw20.SerTells", spec := "serTells", unfollowed := true, recurses := true, apart := false }
def SerTellsSaid : Prop := serTellsRow.holds Try.pinned (OpenSpec.ofChange serTellsSpec)

/-- ITS FALSE NEIGHBOUR: 'it returns false'. Refute it at one input. -/
def serTellsWrong : ChangeSpec := { name := "serTells", fn := fun _ => fun
  | [d1, d2] => { results := [.lit (.bool false)], args := [d1, d2] }
  | _ => none }
def SerTellsWrongFalsely : Prop := serTellsRow.holds Try.pinned (OpenSpec.ofChange serTellsWrong)

/-- 'inquestlaw20.SerPlays': WHATEVER THE INPUT: true; the input reads as it did. -/
def serPlaysSpec : ChangeSpec := { name := "serPlays", fn := fun _ => fun
  | [d1, d2] => { results := [.lit (.bool true)], args := [d1, d2] }
  | _ => none }
def serPlaysRow : OpenClaim := { program := "ytcoegkcdabpijaa", sum := "bc1a1b3477101f72c3a4b153cba40f6d4e18499765f6b65a43461ab2073ea186", func := "inquest/inquestlaw20.SerPlays", spec := "serPlays", unfollowed := true, recurses := true, apart := false }
def SerPlaysSaid : Prop := serPlaysRow.holds Try.pinned (OpenSpec.ofChange serPlaysSpec)

/-- ITS FALSE NEIGHBOUR: 'it returns false'. Refute it at one input. -/
def serPlaysWrong : ChangeSpec := { name := "serPlays", fn := fun _ => fun
  | [d1, d2] => { results := [.lit (.bool false)], args := [d1, d2] }
  | _ => none }
def SerPlaysWrongFalsely : Prop := serPlaysRow.holds Try.pinned (OpenSpec.ofChange serPlaysWrong)

/-- 'inquestlaw20.SerSwaps': WHATEVER THE INPUT: true; the input reads as it did. -/
def serSwapsSpec : ChangeSpec := { name := "serSwaps", fn := fun _ => fun
  | [d1, d2, d3] => { results := [.lit (.bool true)], args := [d1, d2, d3] }
  | _ => none }
def serSwapsRow : OpenClaim := { program := "ytcoegkcdabpijaa", sum := "bc1a1b3477101f72c3a4b153cba40f6d4e18499765f6b65a43461ab2073ea186", func := "inquest/inquestlaw20.SerSwaps", spec := "serSwaps", unfollowed := true, recurses := true, apart := false }
def SerSwapsSaid : Prop := serSwapsRow.holds Try.pinned (OpenSpec.ofChange serSwapsSpec)

/-- ITS FALSE NEIGHBOUR: 'it returns false'. Refute it at one input. -/
def serSwapsWrong : ChangeSpec := { name := "serSwaps", fn := fun _ => fun
  | [d1, d2, d3] => { results := [.lit (.bool false)], args := [d1, d2, d3] }
  | _ => none }
def SerSwapsWrongFalsely : Prop := serSwapsRow.holds Try.pinned (OpenSpec.ofChange serSwapsWrong)

/-- 'inquestlaw19.EdgeTells': WHATEVER THE INPUT: true; the input reads as it did. -/
def edgeTellsSpec : ChangeSpec := { name := "edgeTells", fn := fun _ => fun
  | [d] => { results := [.lit (.bool true)], args := [d] }
  | _ => none }
def edgeTellsRow : OpenClaim := { program := "ytcoegkcdabpijaa", sum := "bc1a1b3477101f72c3a4b153cba40f6d4e18499765f6b65a43461ab2073ea186", func := "inquest/inquestlaw19.EdgeTells", spec := "edgeTells", unfollowed := true, recurses := true, apart := false }
def EdgeTellsSaid : Prop := edgeTellsRow.holds Try.pinned (OpenSpec.ofChange edgeTellsSpec)

/-- ITS FALSE NEIGHBOUR: 'it returns false'. Refute it at one input. -/
def edgeTellsWrong : ChangeSpec := { name := "edgeTells", fn := fun _ => fun
  | [d] => { results := [.lit (.bool false)], args := [d] }
  | _ => none }
def EdgeTellsWrongFalsely : Prop := edgeTellsRow.holds Try.pinned (OpenSpec.ofChange edgeTellsWrong)

/-- 'inquestlaw19.EdgeMore': WHATEVER THE INPUT: true; the input reads as it did. -/
def edgeMoreSpec : ChangeSpec := { name := "edgeMore", fn := fun _ => fun
  | [d1, d2] => { results := [.lit (.bool true)], args := [d1, d2] }
  | _ => none }
def edgeMoreRow : OpenClaim := { program := "ytcoegkcdabpijaa", sum := "bc1a1b3477101f72c3a4b153cba40f6d4e18499765f6b65a43461ab2073ea186", func := "inquest/inquestlaw19.EdgeMore", spec := "edgeMore", unfollowed := true, recurses := true, apart := false }
def EdgeMoreSaid : Prop := edgeMoreRow.holds Try.pinned (OpenSpec.ofChange edgeMoreSpec)

/-- ITS FALSE NEIGHBOUR: 'it returns false'. Refute it at one input. -/
def edgeMoreWrong : ChangeSpec := { name := "edgeMore", fn := fun _ => fun
  | [d1, d2] => { results := [.lit (.bool false)], args := [d1, d2] }
  | _ => none }
def EdgeMoreWrongFalsely : Prop := edgeMoreRow.holds Try.pinned (OpenSpec.ofChange edgeMoreWrong)

/- THE SECOND FORM. 'bulk': how many values and letters a reading holds, each counted each time it is reached (what is shared counts as often as it is met; a slice's spare places count too). A statement '..UptoSaid' is the law's where the arguments, and the package variables that the reading takes, are together of bulk at most 1048576: NARROWER than '..Said'. Prove '..Said' where nothing that the law and all that it calls make is longer than what came in: it says more and counts as full. Else prove '..UptoSaid'. A law counts once. -/
mutual
def uptoBulk {H : Type} : DataW H → Nat
  | .lit (.string bytes) => bytes.length + 1
  | .lit _ => 1
  | .nil => 1
  | .ptr d => uptoBulk d + 1
  | .slice elems spare => uptoBulkAll elems + uptoBulkAll spare + 1
  | .agg parts => uptoBulkAll parts + 1
  | .iface _ d => uptoBulk d + 1
  | .map entries => uptoBulkEntries entries + 1
  | .held _ => 1
def uptoBulkAll {H : Type} : List (DataW H) → Nat
  | [] => 0
  | d :: r => uptoBulk d + uptoBulkAll r
def uptoBulkEntries {H : Type} : List (Lit × DataW H) → Nat
  | [] => 0
  | x :: r => uptoBulkEntry x + uptoBulkEntries r
def uptoBulkEntry {H : Type} : Lit × DataW H → Nat
  | (.string bytes, d) => bytes.length + uptoBulk d + 1
  | (_, d) => uptoBulk d + 1
 end
def uptoSmall : (H : Type) → List (DataW H) → Bool := fun _ ds => decide (uptoBulkAll ds ≤ 1048576)
def OpenSpec.upto (s : _root_.Go.ChangeSpec) : _root_.Go.OpenSpec := { _root_.Go.OpenSpec.ofChange s with cond := some uptoSmall }

/-- 'inquestlaw20.SerTells', WHERE WHAT IT READS IS OF BULK AT MOST 1048576: true; the input reads as it did. -/
def serTellsUptoRow : OpenClaim := { program := "ytcoegkcdabpijaa", sum := "bc1a1b3477101f72c3a4b153cba40f6d4e18499765f6b65a43461ab2073ea186", func := "inquest/inquestlaw20.SerTells", spec := "serTells", unfollowed := true, recurses := true, apart := false, narrowed := true }
def SerTellsUptoSaid : Prop := serTellsUptoRow.holds Try.pinned (OpenSpec.upto serTellsSpec)

/-- 'inquestlaw20.SerPlays', WHERE WHAT IT READS IS OF BULK AT MOST 1048576: true; the input reads as it did. -/
def serPlaysUptoRow : OpenClaim := { program := "ytcoegkcdabpijaa", sum := "bc1a1b3477101f72c3a4b153cba40f6d4e18499765f6b65a43461ab2073ea186", func := "inquest/inquestlaw20.SerPlays", spec := "serPlays", unfollowed := true, recurses := true, apart := false, narrowed := true }
def SerPlaysUptoSaid : Prop := serPlaysUptoRow.holds Try.pinned (OpenSpec.upto serPlaysSpec)

/-- 'inquestlaw20.SerSwaps', WHERE WHAT IT READS IS OF BULK AT MOST 1048576: true; the input reads as it did. -/
def serSwapsUptoRow : OpenClaim := { program := "ytcoegkcdabpijaa", sum := "bc1a1b3477101f72c3a4b153cba40f6d4e18499765f6b65a43461ab2073ea186", func := "inquest/inquestlaw20.SerSwaps", spec := "serSwaps", unfollowed := true, recurses := true, apart := false, narrowed := true }
def SerSwapsUptoSaid : Prop := serSwapsUptoRow.holds Try.pinned (OpenSpec.upto serSwapsSpec)

/-- 'inquestlaw19.EdgeTells', WHERE WHAT IT READS IS OF BULK AT MOST 1048576: true; the input reads as it did. -/
def edgeTellsUptoRow : OpenClaim := { program := "ytcoegkcdabpijaa", sum := "bc1a1b3477101f72c3a4b153cba40f6d4e18499765f6b65a43461ab2073ea186", func := "inquest/inquestlaw19.EdgeTells", spec := "edgeTells", unfollowed := true, recurses := true, apart := false, narrowed := true }
def EdgeTellsUptoSaid : Prop := edgeTellsUptoRow.holds Try.pinned (OpenSpec.upto edgeTellsSpec)

/-- 'inquestlaw19.EdgeMore', WHERE WHAT IT READS IS OF BULK AT MOST 1048576: true; the input reads as it did. -/
def edgeMoreUptoRow : OpenClaim := { program := "ytcoegkcdabpijaa", sum := "bc1a1b3477101f72c3a4b153cba40f6d4e18499765f6b65a43461ab2073ea186", func := "inquest/inquestlaw19.EdgeMore", spec := "edgeMore", unfollowed := true, recurses := true, apart := false, narrowed := true }
def EdgeMoreUptoSaid : Prop := edgeMoreUptoRow.holds Try.pinned (OpenSpec.upto edgeMoreSpec)

end Rows
end Go.Proofs.Ytcoegkcdabpijaa
