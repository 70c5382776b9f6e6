/-
  No cell of these rows narrows 'for every input' (looked for: loops, veiled, ifaces, maps, wideKeys, modest, calm, conditions, laid).
  DERIVED. THE GIVEN ROWS OF THIS SEAT. 4 by the template 'for every input the law returns true; each argument reads behind the call as it read before'; 0 by the template 'total and deterministic' (their statements: YtfgndjgcfkfobaaTotals.lean).
  GIVEN WITH THE SEED: the statements are not yours to turn. If you find one false, say at which input.
  Laid BY PROGRAM, IN A SANDBOX (cutbox-rows.mjs): the forced cells as the released guide's own fill.sh prints them over the translation a3449ac8c493e565… (all of the seat's roots in one cut). By AI agents, Wed Nov 11 2026. No macro, syntax, notation, axiom, sorry.
-/
import Derived.Test.YtfgndjgcfkfobaaChecked
import GoSem.Claim
import GoSem.ClaimJoined
import GoSem.ClaimMapViews
import Derived.JoinedTies
import Derived.KernelRfl
namespace Go.Proofs.Ytfgndjgcfkfobaa
/- THE CELL 'sum', in the pinned program and in every row, IS THE sha256 OF THE DUMP (.gsa) THAT YtfgndjgcfkfobaaProg.lean LOADS. Nothing in Lean hashes anything: it is a label: what it is worth is what the hold of that sum in a sandbox is worth. -/
noncomputable def Try.pinned : Pinned := { name := "ytfgndjgcfkfobaa", sum := "a3449ac8c493e5652a4bfac8ffe9e167d32b1f554fd89ffcd5adcd4ca10e41b3", checked := Try.checked }
namespace Rows
def none {H : Type} : Left H := { results := [], args := [] }

/-- 'inquestlaw09.IndexTells': WHATEVER THE INPUT: true; the input reads as it did. -/
def indexTellsSpec : ChangeSpec := { name := "indexTells", fn := fun _ => fun
  | [d1, d2, d3] => { results := [.lit (.bool true)], args := [d1, d2, d3] }
  | _ => none }
def indexTellsRow : OpenClaim := { program := "ytfgndjgcfkfobaa", sum := "a3449ac8c493e5652a4bfac8ffe9e167d32b1f554fd89ffcd5adcd4ca10e41b3", func := "inquest/inquestlaw09.IndexTells", spec := "indexTells", unfollowed := true, recurses := true, apart := false }
def IndexTellsSaid : Prop := indexTellsRow.holds Try.pinned (OpenSpec.ofChange indexTellsSpec)

/-- ITS FALSE NEIGHBOUR: 'it returns false'. Refute it at one input. -/
def indexTellsWrong : ChangeSpec := { name := "indexTells", fn := fun _ => fun
  | [d1, d2, d3] => { results := [.lit (.bool false)], args := [d1, d2, d3] }
  | _ => none }
def IndexTellsWrongFalsely : Prop := indexTellsRow.holds Try.pinned (OpenSpec.ofChange indexTellsWrong)

/-- 'inquestlaw09.IndexPairs': WHATEVER THE INPUT: true; the input reads as it did. -/
def indexPairsSpec : ChangeSpec := { name := "indexPairs", fn := fun _ => fun
  | [d] => { results := [.lit (.bool true)], args := [d] }
  | _ => none }
def indexPairsRow : OpenClaim := { program := "ytfgndjgcfkfobaa", sum := "a3449ac8c493e5652a4bfac8ffe9e167d32b1f554fd89ffcd5adcd4ca10e41b3", func := "inquest/inquestlaw09.IndexPairs", spec := "indexPairs", unfollowed := true, recurses := true, apart := false }
def IndexPairsSaid : Prop := indexPairsRow.holds Try.pinned (OpenSpec.ofChange indexPairsSpec)

/-- ITS FALSE NEIGHBOUR: 'it returns false'. Refute it at one input. -/
def indexPairsWrong : ChangeSpec := { name := "indexPairs", fn := fun _ => fun
  | [d] => { results := [.lit (.bool false)], args := [d] }
  | _ => none }
def IndexPairsWrongFalsely : Prop := indexPairsRow.holds Try.pinned (OpenSpec.ofChange indexPairsWrong)

/-- 'inquestlaw09.IndexReads': WHATEVER THE INPUT: true; the input reads as it did. -/
def indexReadsSpec : ChangeSpec := { name := "indexReads", fn := fun _ => fun
  | [d] => { results := [.lit (.bool true)], args := [d] }
  | _ => none }
def indexReadsRow : OpenClaim := { program := "ytfgndjgcfkfobaa", sum := "a3449ac8c493e5652a4bfac8ffe9e167d32b1f554fd89ffcd5adcd4ca10e41b3", func := "inquest/inquestlaw09.IndexReads", spec := "indexReads", unfollowed := true, recurses := true, apart := false }
def IndexReadsSaid : Prop := indexReadsRow.holds Try.pinned (OpenSpec.ofChange indexReadsSpec)

/-- ITS FALSE NEIGHBOUR: 'it returns false'. Refute it at one input. -/
def indexReadsWrong : ChangeSpec := { name := "indexReads", fn := fun _ => fun
  | [d] => { results := [.lit (.bool false)], args := [d] }
  | _ => none }
def IndexReadsWrongFalsely : Prop := indexReadsRow.holds Try.pinned (OpenSpec.ofChange indexReadsWrong)

/-- 'inquestlaw09.IndexKeys': WHATEVER THE INPUT: true; the input reads as it did. -/
def indexKeysSpec : ChangeSpec := { name := "indexKeys", fn := fun _ => fun
  | [d1, d2] => { results := [.lit (.bool true)], args := [d1, d2] }
  | _ => none }
def indexKeysRow : OpenClaim := { program := "ytfgndjgcfkfobaa", sum := "a3449ac8c493e5652a4bfac8ffe9e167d32b1f554fd89ffcd5adcd4ca10e41b3", func := "inquest/inquestlaw09.IndexKeys", spec := "indexKeys", unfollowed := true, recurses := true, apart := false }
def IndexKeysSaid : Prop := indexKeysRow.holds Try.pinned (OpenSpec.ofChange indexKeysSpec)

/-- ITS FALSE NEIGHBOUR: 'it returns false'. Refute it at one input. -/
def indexKeysWrong : ChangeSpec := { name := "indexKeys", fn := fun _ => fun
  | [d1, d2] => { results := [.lit (.bool false)], args := [d1, d2] }
  | _ => none }
def IndexKeysWrongFalsely : Prop := indexKeysRow.holds Try.pinned (OpenSpec.ofChange indexKeysWrong)

/- THE SECOND FORM. 'bulk': how many values and letters a reading holds, each counted each time it is reached (what is shared counts as often as it is met; a slice's spare places count too). A statement '..UptoSaid' is the law's where the arguments, and the package variables that the reading takes, are together of bulk at most 1048576: NARROWER than '..Said'. Prove '..Said' where nothing that the law and all that it calls make is longer than what came in: it says more and counts as full. Else prove '..UptoSaid'. A law counts once. -/
mutual
def uptoBulk {H : Type} : DataW H → Nat
  | .lit (.string bytes) => bytes.length + 1
  | .lit _ => 1
  | .nil => 1
  | .ptr d => uptoBulk d + 1
  | .slice elems spare => uptoBulkAll elems + uptoBulkAll spare + 1
  | .agg parts => uptoBulkAll parts + 1
  | .iface _ d => uptoBulk d + 1
  | .map entries => uptoBulkEntries entries + 1
  | .held _ => 1
def uptoBulkAll {H : Type} : List (DataW H) → Nat
  | [] => 0
  | d :: r => uptoBulk d + uptoBulkAll r
def uptoBulkEntries {H : Type} : List (Lit × DataW H) → Nat
  | [] => 0
  | x :: r => uptoBulkEntry x + uptoBulkEntries r
def uptoBulkEntry {H : Type} : Lit × DataW H → Nat
  | (.string bytes, d) => bytes.length + uptoBulk d + 1
  | (_, d) => uptoBulk d + 1
 end
def uptoSmall : (H : Type) → List (DataW H) → Bool := fun _ ds => decide (uptoBulkAll ds ≤ 1048576)
def OpenSpec.upto (s : _root_.Go.ChangeSpec) : _root_.Go.OpenSpec := { _root_.Go.OpenSpec.ofChange s with cond := some uptoSmall }

/-- 'inquestlaw09.IndexTells', WHERE WHAT IT READS IS OF BULK AT MOST 1048576: true; the input reads as it did. -/
def indexTellsUptoRow : OpenClaim := { program := "ytfgndjgcfkfobaa", sum := "a3449ac8c493e5652a4bfac8ffe9e167d32b1f554fd89ffcd5adcd4ca10e41b3", func := "inquest/inquestlaw09.IndexTells", spec := "indexTells", unfollowed := true, recurses := true, apart := false, narrowed := true }
def IndexTellsUptoSaid : Prop := indexTellsUptoRow.holds Try.pinned (OpenSpec.upto indexTellsSpec)

/-- 'inquestlaw09.IndexPairs', WHERE WHAT IT READS IS OF BULK AT MOST 1048576: true; the input reads as it did. -/
def indexPairsUptoRow : OpenClaim := { program := "ytfgndjgcfkfobaa", sum := "a3449ac8c493e5652a4bfac8ffe9e167d32b1f554fd89ffcd5adcd4ca10e41b3", func := "inquest/inquestlaw09.IndexPairs", spec := "indexPairs", unfollowed := true, recurses := true, apart := false, narrowed := true }
def IndexPairsUptoSaid : Prop := indexPairsUptoRow.holds Try.pinned (OpenSpec.upto indexPairsSpec)

/-- 'inquestlaw09.IndexReads', WHERE WHAT IT READS IS OF BULK AT MOST 1048576: true; the input reads as it did. -/
def indexReadsUptoRow : OpenClaim := { program := "ytfgndjgcfkfobaa", sum := "a3449ac8c493e5652a4bfac8ffe9e167d32b1f554fd89ffcd5adcd4ca10e41b3", func := "inquest/inquestlaw09.IndexReads", spec := "indexReads", unfollowed := true, recurses := true, apart := false, narrowed := true }
def IndexReadsUptoSaid : Prop := indexReadsUptoRow.holds Try.pinned (OpenSpec.upto indexReadsSpec)

/-- 'inquestlaw09.IndexKeys', WHERE WHAT IT READS IS OF BULK AT MOST 1048576: true; the input reads as it did. -/
def indexKeysUptoRow : OpenClaim := { program := "ytfgndjgcfkfobaa", sum := "a3449ac8c493e5652a4bfac8ffe9e167d32b1f554fd89ffcd5adcd4ca10e41b3", func := "inquest/inquestlaw09.IndexKeys", spec := "indexKeys", unfollowed := true, recurses := true, apart := false, narrowed := true }
def IndexKeysUptoSaid : Prop := indexKeysUptoRow.holds Try.pinned (OpenSpec.upto indexKeysSpec)

end Rows
end Go.Proofs.Ytfgndjgcfkfobaa
