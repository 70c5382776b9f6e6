/-
  NARROWER THAN 'FOR EVERY INPUT', by the rows' own cells (each row's printed sentence says how): KnownTells: laid · KnownSelf: laid · KnownReads: laid · KnownSo: laid · ChoiceBack: laid · ChoiceMore: laid · ChoiceOf: laid.
  DERIVED. THE GIVEN ROWS OF THIS SEAT. 7 by the template 'for every input the law returns true; each argument reads behind the call as it read before'; 0 by the template 'total and deterministic' (their statements: YtfgndjgcfkfobaaDoorTotals.lean).
  GIVEN WITH THE SEED: the statements are not yours to turn. If you find one false, say at which input.
  Laid BY PROGRAM, IN A SANDBOX (cutbox-rows.mjs): the forced cells as the released guide's own fill.sh prints them over the translation d5ddb16f497ad244… (all of the seat's roots in one cut). By AI agents, Wed Nov 11 2026. No macro, syntax, notation, axiom, sorry.
-/
import Derived.Test.YtfgndjgcfkfobaaDoorChecked
import GoSem.Claim
import GoSem.ClaimJoined
import GoSem.ClaimMapViews
import Derived.JoinedTies
import Derived.KernelRfl
namespace Go.Proofs.YtfgndjgcfkfobaaDoor
/- THE CELL 'sum', in the pinned program and in every row, IS THE sha256 OF THE DUMP (.gsa) THAT YtfgndjgcfkfobaaDoorProg.lean LOADS. Nothing in Lean hashes anything: it is a label: what it is worth is what the hold of that sum in a sandbox is worth. -/
noncomputable def Tryd.pinned : Pinned := { name := "ytfgndjgcfkfobaadoor", sum := "d5ddb16f497ad244337176494e4e3df820ef58264dd4422ffe0964a0bc96e7c0", checked := Tryd.checked }
namespace Rows
def none {H : Type} : Left H := { results := [], args := [] }

/- WHAT THE LISTED PACKAGE-LEVEL VARIABLES READ AS WHEN THE CALL BEGINS. Each datum BY PROGRAM (the guide's laid-datum.mjs) off the statement by which the dump's own 'gosem.cut.vars' lays the variable. In a bare row this is a premise. The card (YtfgndjgcfkfobaaDoorCards.lean) ties it to the program's text. -/
def laid_math_bits_deBruijn64tab {H : Type} : DataW H := .agg [.lit (.int .u8 0), .lit (.int .u8 1), .lit (.int .u8 56), .lit (.int .u8 2), .lit (.int .u8 57), .lit (.int .u8 49), .lit (.int .u8 28), .lit (.int .u8 3), .lit (.int .u8 61), .lit (.int .u8 58), .lit (.int .u8 42), .lit (.int .u8 50), .lit (.int .u8 38), .lit (.int .u8 29), .lit (.int .u8 17), .lit (.int .u8 4), .lit (.int .u8 62), .lit (.int .u8 47), .lit (.int .u8 59), .lit (.int .u8 36), .lit (.int .u8 45), .lit (.int .u8 43), .lit (.int .u8 51), .lit (.int .u8 22), .lit (.int .u8 53), .lit (.int .u8 39), .lit (.int .u8 33), .lit (.int .u8 30), .lit (.int .u8 24), .lit (.int .u8 18), .lit (.int .u8 12), .lit (.int .u8 5), .lit (.int .u8 63), .lit (.int .u8 55), .lit (.int .u8 48), .lit (.int .u8 27), .lit (.int .u8 60), .lit (.int .u8 41), .lit (.int .u8 37), .lit (.int .u8 16), .lit (.int .u8 46), .lit (.int .u8 35), .lit (.int .u8 44), .lit (.int .u8 21), .lit (.int .u8 52), .lit (.int .u8 32), .lit (.int .u8 23), .lit (.int .u8 11), .lit (.int .u8 54), .lit (.int .u8 26), .lit (.int .u8 40), .lit (.int .u8 15), .lit (.int .u8 34), .lit (.int .u8 20), .lit (.int .u8 31), .lit (.int .u8 10), .lit (.int .u8 25), .lit (.int .u8 14), .lit (.int .u8 19), .lit (.int .u8 9), .lit (.int .u8 13), .lit (.int .u8 8), .lit (.int .u8 7), .lit (.int .u8 6)]

/-- 'inquestlaw17.KnownTells': WHATEVER THE INPUT: true; the input reads as it did. -/
def knownTellsSpec : ChangeSpec := { name := "knownTells", fn := fun _ => fun
  | [d] => { results := [.lit (.bool true)], args := [d] }
  | _ => none }
def knownTellsRow : OpenClaim := { program := "ytfgndjgcfkfobaadoor", sum := "d5ddb16f497ad244337176494e4e3df820ef58264dd4422ffe0964a0bc96e7c0", func := "inquest/inquestlaw17.KnownTells", spec := "knownTells", unfollowed := true, recurses := true, named := ["math/bits.deBruijn64tab"], apart := false, laid := [("math/bits.deBruijn64tab", laid_math_bits_deBruijn64tab)] }
def KnownTellsSaid : Prop := knownTellsRow.holds Tryd.pinned (OpenSpec.ofChange knownTellsSpec)

/-- ITS FALSE NEIGHBOUR: 'it returns false'. Refute it at one input. -/
def knownTellsWrong : ChangeSpec := { name := "knownTells", fn := fun _ => fun
  | [d] => { results := [.lit (.bool false)], args := [d] }
  | _ => none }
def KnownTellsWrongFalsely : Prop := knownTellsRow.holds Tryd.pinned (OpenSpec.ofChange knownTellsWrong)

/-- 'inquestlaw17.KnownSelf': WHATEVER THE INPUT: true; the input reads as it did. -/
def knownSelfSpec : ChangeSpec := { name := "knownSelf", fn := fun _ => fun
  | [d] => { results := [.lit (.bool true)], args := [d] }
  | _ => none }
def knownSelfRow : OpenClaim := { program := "ytfgndjgcfkfobaadoor", sum := "d5ddb16f497ad244337176494e4e3df820ef58264dd4422ffe0964a0bc96e7c0", func := "inquest/inquestlaw17.KnownSelf", spec := "knownSelf", unfollowed := true, recurses := true, named := ["math/bits.deBruijn64tab"], apart := false, laid := [("math/bits.deBruijn64tab", laid_math_bits_deBruijn64tab)] }
def KnownSelfSaid : Prop := knownSelfRow.holds Tryd.pinned (OpenSpec.ofChange knownSelfSpec)

/-- ITS FALSE NEIGHBOUR: 'it returns false'. Refute it at one input. -/
def knownSelfWrong : ChangeSpec := { name := "knownSelf", fn := fun _ => fun
  | [d] => { results := [.lit (.bool false)], args := [d] }
  | _ => none }
def KnownSelfWrongFalsely : Prop := knownSelfRow.holds Tryd.pinned (OpenSpec.ofChange knownSelfWrong)

/-- 'inquestlaw17.KnownReads': WHATEVER THE INPUT: true; the input reads as it did. -/
def knownReadsSpec : ChangeSpec := { name := "knownReads", fn := fun _ => fun
  | [d1, d2, d3] => { results := [.lit (.bool true)], args := [d1, d2, d3] }
  | _ => none }
def knownReadsRow : OpenClaim := { program := "ytfgndjgcfkfobaadoor", sum := "d5ddb16f497ad244337176494e4e3df820ef58264dd4422ffe0964a0bc96e7c0", func := "inquest/inquestlaw17.KnownReads", spec := "knownReads", unfollowed := true, recurses := true, named := ["math/bits.deBruijn64tab"], apart := false, laid := [("math/bits.deBruijn64tab", laid_math_bits_deBruijn64tab)] }
def KnownReadsSaid : Prop := knownReadsRow.holds Tryd.pinned (OpenSpec.ofChange knownReadsSpec)

/-- ITS FALSE NEIGHBOUR: 'it returns false'. Refute it at one input. -/
def knownReadsWrong : ChangeSpec := { name := "knownReads", fn := fun _ => fun
  | [d1, d2, d3] => { results := [.lit (.bool false)], args := [d1, d2, d3] }
  | _ => none }
def KnownReadsWrongFalsely : Prop := knownReadsRow.holds Tryd.pinned (OpenSpec.ofChange knownReadsWrong)

/-- 'inquestlaw17.KnownSo': WHATEVER THE INPUT: true; the input reads as it did. -/
def knownSoSpec : ChangeSpec := { name := "knownSo", fn := fun _ => fun
  | [d1, d2, d3] => { results := [.lit (.bool true)], args := [d1, d2, d3] }
  | _ => none }
def knownSoRow : OpenClaim := { program := "ytfgndjgcfkfobaadoor", sum := "d5ddb16f497ad244337176494e4e3df820ef58264dd4422ffe0964a0bc96e7c0", func := "inquest/inquestlaw17.KnownSo", spec := "knownSo", unfollowed := true, recurses := true, named := ["math/bits.deBruijn64tab"], apart := false, laid := [("math/bits.deBruijn64tab", laid_math_bits_deBruijn64tab)] }
def KnownSoSaid : Prop := knownSoRow.holds Tryd.pinned (OpenSpec.ofChange knownSoSpec)

/-- ITS FALSE NEIGHBOUR: 'it returns false'. Refute it at one input. -/
def knownSoWrong : ChangeSpec := { name := "knownSo", fn := fun _ => fun
  | [d1, d2, d3] => { results := [.lit (.bool false)], args := [d1, d2, d3] }
  | _ => none }
def KnownSoWrongFalsely : Prop := knownSoRow.holds Tryd.pinned (OpenSpec.ofChange knownSoWrong)

/-- 'inquestlaw18.ChoiceBack': WHATEVER THE INPUT: true; the input reads as it did. -/
def choiceBackSpec : ChangeSpec := { name := "choiceBack", fn := fun _ => fun
  | [d1, d2] => { results := [.lit (.bool true)], args := [d1, d2] }
  | _ => none }
def choiceBackRow : OpenClaim := { program := "ytfgndjgcfkfobaadoor", sum := "d5ddb16f497ad244337176494e4e3df820ef58264dd4422ffe0964a0bc96e7c0", func := "inquest/inquestlaw18.ChoiceBack", spec := "choiceBack", unfollowed := true, recurses := true, named := ["math/bits.deBruijn64tab"], apart := false, laid := [("math/bits.deBruijn64tab", laid_math_bits_deBruijn64tab)] }
def ChoiceBackSaid : Prop := choiceBackRow.holds Tryd.pinned (OpenSpec.ofChange choiceBackSpec)

/-- ITS FALSE NEIGHBOUR: 'it returns false'. Refute it at one input. -/
def choiceBackWrong : ChangeSpec := { name := "choiceBack", fn := fun _ => fun
  | [d1, d2] => { results := [.lit (.bool false)], args := [d1, d2] }
  | _ => none }
def ChoiceBackWrongFalsely : Prop := choiceBackRow.holds Tryd.pinned (OpenSpec.ofChange choiceBackWrong)

/-- 'inquestlaw18.ChoiceMore': WHATEVER THE INPUT: true; the input reads as it did. -/
def choiceMoreSpec : ChangeSpec := { name := "choiceMore", fn := fun _ => fun
  | [d] => { results := [.lit (.bool true)], args := [d] }
  | _ => none }
def choiceMoreRow : OpenClaim := { program := "ytfgndjgcfkfobaadoor", sum := "d5ddb16f497ad244337176494e4e3df820ef58264dd4422ffe0964a0bc96e7c0", func := "inquest/inquestlaw18.ChoiceMore", spec := "choiceMore", unfollowed := true, recurses := true, named := ["math/bits.deBruijn64tab"], apart := false, laid := [("math/bits.deBruijn64tab", laid_math_bits_deBruijn64tab)] }
def ChoiceMoreSaid : Prop := choiceMoreRow.holds Tryd.pinned (OpenSpec.ofChange choiceMoreSpec)

/-- ITS FALSE NEIGHBOUR: 'it returns false'. Refute it at one input. -/
def choiceMoreWrong : ChangeSpec := { name := "choiceMore", fn := fun _ => fun
  | [d] => { results := [.lit (.bool false)], args := [d] }
  | _ => none }
def ChoiceMoreWrongFalsely : Prop := choiceMoreRow.holds Tryd.pinned (OpenSpec.ofChange choiceMoreWrong)

/-- 'inquestlaw18.ChoiceOf': WHATEVER THE INPUT: true; the input reads as it did. -/
def choiceOfSpec : ChangeSpec := { name := "choiceOf", fn := fun _ => fun
  | [d1, d2] => { results := [.lit (.bool true)], args := [d1, d2] }
  | _ => none }
def choiceOfRow : OpenClaim := { program := "ytfgndjgcfkfobaadoor", sum := "d5ddb16f497ad244337176494e4e3df820ef58264dd4422ffe0964a0bc96e7c0", func := "inquest/inquestlaw18.ChoiceOf", spec := "choiceOf", unfollowed := true, recurses := true, named := ["math/bits.deBruijn64tab"], apart := false, laid := [("math/bits.deBruijn64tab", laid_math_bits_deBruijn64tab)] }
def ChoiceOfSaid : Prop := choiceOfRow.holds Tryd.pinned (OpenSpec.ofChange choiceOfSpec)

/-- ITS FALSE NEIGHBOUR: 'it returns false'. Refute it at one input. -/
def choiceOfWrong : ChangeSpec := { name := "choiceOf", fn := fun _ => fun
  | [d1, d2] => { results := [.lit (.bool false)], args := [d1, d2] }
  | _ => none }
def ChoiceOfWrongFalsely : Prop := choiceOfRow.holds Tryd.pinned (OpenSpec.ofChange choiceOfWrong)

/- THE SECOND FORM. 'bulk': how many values and letters a reading holds, each counted each time it is reached (what is shared counts as often as it is met; a slice's spare places count too). A statement '..UptoSaid' is the law's where the arguments, and the package variables that the reading takes, are together of bulk at most 1048576: NARROWER than '..Said'. Prove '..Said' where nothing that the law and all that it calls make is longer than what came in: it says more and counts as full. Else prove '..UptoSaid'. A law counts once. -/
mutual
def uptoBulk {H : Type} : DataW H → Nat
  | .lit (.string bytes) => bytes.length + 1
  | .lit _ => 1
  | .nil => 1
  | .ptr d => uptoBulk d + 1
  | .slice elems spare => uptoBulkAll elems + uptoBulkAll spare + 1
  | .agg parts => uptoBulkAll parts + 1
  | .iface _ d => uptoBulk d + 1
  | .map entries => uptoBulkEntries entries + 1
  | .held _ => 1
def uptoBulkAll {H : Type} : List (DataW H) → Nat
  | [] => 0
  | d :: r => uptoBulk d + uptoBulkAll r
def uptoBulkEntries {H : Type} : List (Lit × DataW H) → Nat
  | [] => 0
  | x :: r => uptoBulkEntry x + uptoBulkEntries r
def uptoBulkEntry {H : Type} : Lit × DataW H → Nat
  | (.string bytes, d) => bytes.length + uptoBulk d + 1
  | (_, d) => uptoBulk d + 1
 end
def uptoSmall : (H : Type) → List (DataW H) → Bool := fun _ ds => decide (uptoBulkAll ds ≤ 1048576)
def OpenSpec.upto (s : _root_.Go.ChangeSpec) : _root_.Go.OpenSpec := { _root_.Go.OpenSpec.ofChange s with cond := some uptoSmall }

/-- 'inquestlaw17.KnownTells', WHERE WHAT IT READS IS OF BULK AT MOST 1048576: true; the input reads as it did. -/
def knownTellsUptoRow : OpenClaim := { program := "ytfgndjgcfkfobaadoor", sum := "d5ddb16f497ad244337176494e4e3df820ef58264dd4422ffe0964a0bc96e7c0", func := "inquest/inquestlaw17.KnownTells", spec := "knownTells", unfollowed := true, recurses := true, named := ["math/bits.deBruijn64tab"], apart := false, laid := [("math/bits.deBruijn64tab", laid_math_bits_deBruijn64tab)], narrowed := true }
def KnownTellsUptoSaid : Prop := knownTellsUptoRow.holds Tryd.pinned (OpenSpec.upto knownTellsSpec)

/-- 'inquestlaw17.KnownSelf', WHERE WHAT IT READS IS OF BULK AT MOST 1048576: true; the input reads as it did. -/
def knownSelfUptoRow : OpenClaim := { program := "ytfgndjgcfkfobaadoor", sum := "d5ddb16f497ad244337176494e4e3df820ef58264dd4422ffe0964a0bc96e7c0", func := "inquest/inquestlaw17.KnownSelf", spec := "knownSelf", unfollowed := true, recurses := true, named := ["math/bits.deBruijn64tab"], apart := false, laid := [("math/bits.deBruijn64tab", laid_math_bits_deBruijn64tab)], narrowed := true }
def KnownSelfUptoSaid : Prop := knownSelfUptoRow.holds Tryd.pinned (OpenSpec.upto knownSelfSpec)

/-- 'inquestlaw17.KnownReads', WHERE WHAT IT READS IS OF BULK AT MOST 1048576: true; the input reads as it did. -/
def knownReadsUptoRow : OpenClaim := { program := "ytfgndjgcfkfobaadoor", sum := "d5ddb16f497ad244337176494e4e3df820ef58264dd4422ffe0964a0bc96e7c0", func := "inquest/inquestlaw17.KnownReads", spec := "knownReads", unfollowed := true, recurses := true, named := ["math/bits.deBruijn64tab"], apart := false, laid := [("math/bits.deBruijn64tab", laid_math_bits_deBruijn64tab)], narrowed := true }
def KnownReadsUptoSaid : Prop := knownReadsUptoRow.holds Tryd.pinned (OpenSpec.upto knownReadsSpec)

/-- 'inquestlaw17.KnownSo', WHERE WHAT IT READS IS OF BULK AT MOST 1048576: true; the input reads as it did. -/
def knownSoUptoRow : OpenClaim := { program := "ytfgndjgcfkfobaadoor", sum := "d5ddb16f497ad244337176494e4e3df820ef58264dd4422ffe0964a0bc96e7c0", func := "inquest/inquestlaw17.KnownSo", spec := "knownSo", unfollowed := true, recurses := true, named := ["math/bits.deBruijn64tab"], apart := false, laid := [("math/bits.deBruijn64tab", laid_math_bits_deBruijn64tab)], narrowed := true }
def KnownSoUptoSaid : Prop := knownSoUptoRow.holds Tryd.pinned (OpenSpec.upto knownSoSpec)

/-- 'inquestlaw18.ChoiceBack', WHERE WHAT IT READS IS OF BULK AT MOST 1048576: true; the input reads as it did. -/
def choiceBackUptoRow : OpenClaim := { program := "ytfgndjgcfkfobaadoor", sum := "d5ddb16f497ad244337176494e4e3df820ef58264dd4422ffe0964a0bc96e7c0", func := "inquest/inquestlaw18.ChoiceBack", spec := "choiceBack", unfollowed := true, recurses := true, named := ["math/bits.deBruijn64tab"], apart := false, laid := [("math/bits.deBruijn64tab", laid_math_bits_deBruijn64tab)], narrowed := true }
def ChoiceBackUptoSaid : Prop := choiceBackUptoRow.holds Tryd.pinned (OpenSpec.upto choiceBackSpec)

/-- 'inquestlaw18.ChoiceMore', WHERE WHAT IT READS IS OF BULK AT MOST 1048576: true; the input reads as it did. -/
def choiceMoreUptoRow : OpenClaim := { program := "ytfgndjgcfkfobaadoor", sum := "d5ddb16f497ad244337176494e4e3df820ef58264dd4422ffe0964a0bc96e7c0", func := "inquest/inquestlaw18.ChoiceMore", spec := "choiceMore", unfollowed := true, recurses := true, named := ["math/bits.deBruijn64tab"], apart := false, laid := [("math/bits.deBruijn64tab", laid_math_bits_deBruijn64tab)], narrowed := true }
def ChoiceMoreUptoSaid : Prop := choiceMoreUptoRow.holds Tryd.pinned (OpenSpec.upto choiceMoreSpec)

/-- 'inquestlaw18.ChoiceOf', WHERE WHAT IT READS IS OF BULK AT MOST 1048576: true; the input reads as it did. -/
def choiceOfUptoRow : OpenClaim := { program := "ytfgndjgcfkfobaadoor", sum := "d5ddb16f497ad244337176494e4e3df820ef58264dd4422ffe0964a0bc96e7c0", func := "inquest/inquestlaw18.ChoiceOf", spec := "choiceOf", unfollowed := true, recurses := true, named := ["math/bits.deBruijn64tab"], apart := false, laid := [("math/bits.deBruijn64tab", laid_math_bits_deBruijn64tab)], narrowed := true }
def ChoiceOfUptoSaid : Prop := choiceOfUptoRow.holds Tryd.pinned (OpenSpec.upto choiceOfSpec)

end Rows
end Go.Proofs.YtfgndjgcfkfobaaDoor
