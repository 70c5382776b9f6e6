/-
  No cell of these rows narrows 'for every input' (looked for: loops, veiled, ifaces, maps, wideKeys, modest, calm, conditions, laid).
  DERIVED. THE GIVEN ROWS OF THIS SEAT. 8 by the template 'for every input the law returns true; each argument reads behind the call as it read before'; 0 by the template 'total and deterministic' (their statements: YtmnmbaehidfebaaTotals.lean).
  GIVEN WITH THE SEED: the statements are not yours to turn. If you find one false, say at which input.
  Laid BY PROGRAM, IN A SANDBOX (cutbox-rows.mjs): the forced cells as the released guide's own fill.sh prints them over the translation 2eb443c9172734db… (all of the seat's roots in one cut). By AI agents, Wed Nov 11 2026. No macro, syntax, notation, axiom, sorry.
-/
import Derived.Test.YtmnmbaehidfebaaChecked
import GoSem.Claim
import GoSem.ClaimJoined
import GoSem.ClaimMapViews
import Derived.JoinedTies
import Derived.KernelRfl
namespace Go.Proofs.Ytmnmbaehidfebaa
/- THE CELL 'sum', in the pinned program and in every row, IS THE sha256 OF THE DUMP (.gsa) THAT YtmnmbaehidfebaaProg.lean LOADS. Nothing in Lean hashes anything: it is a label: what it is worth is what the hold of that sum in a sandbox is worth. -/
noncomputable def Try.pinned : Pinned := { name := "ytmnmbaehidfebaa", sum := "2eb443c9172734dbe2d836bd657b867294c4cb4010e03268c4353c8a28795515", checked := Try.checked }
namespace Rows
def none {H : Type} : Left H := { results := [], args := [] }

/-- 'inquestlaw24.RefuteTells': WHATEVER THE INPUT: true; the input reads as it did. -/
def refuteTellsSpec : ChangeSpec := { name := "refuteTells", fn := fun _ => fun
  | [d] => { results := [.lit (.bool true)], args := [d] }
  | _ => none }
def refuteTellsRow : OpenClaim := { program := "ytmnmbaehidfebaa", sum := "2eb443c9172734dbe2d836bd657b867294c4cb4010e03268c4353c8a28795515", func := "inquest/inquestlaw24.RefuteTells", spec := "refuteTells", unfollowed := true, recurses := true, apart := false }
def RefuteTellsSaid : Prop := refuteTellsRow.holds Try.pinned (OpenSpec.ofChange refuteTellsSpec)

/-- ITS FALSE NEIGHBOUR: 'it returns false'. Refute it at one input. -/
def refuteTellsWrong : ChangeSpec := { name := "refuteTells", fn := fun _ => fun
  | [d] => { results := [.lit (.bool false)], args := [d] }
  | _ => none }
def RefuteTellsWrongFalsely : Prop := refuteTellsRow.holds Try.pinned (OpenSpec.ofChange refuteTellsWrong)

/-- 'inquestlaw24.RefuteSound': WHATEVER THE INPUT: true; the input reads as it did. -/
def refuteSoundSpec : ChangeSpec := { name := "refuteSound", fn := fun _ => fun
  | [d] => { results := [.lit (.bool true)], args := [d] }
  | _ => none }
def refuteSoundRow : OpenClaim := { program := "ytmnmbaehidfebaa", sum := "2eb443c9172734dbe2d836bd657b867294c4cb4010e03268c4353c8a28795515", func := "inquest/inquestlaw24.RefuteSound", spec := "refuteSound", unfollowed := true, recurses := true, apart := false }
def RefuteSoundSaid : Prop := refuteSoundRow.holds Try.pinned (OpenSpec.ofChange refuteSoundSpec)

/-- ITS FALSE NEIGHBOUR: 'it returns false'. Refute it at one input. -/
def refuteSoundWrong : ChangeSpec := { name := "refuteSound", fn := fun _ => fun
  | [d] => { results := [.lit (.bool false)], args := [d] }
  | _ => none }
def RefuteSoundWrongFalsely : Prop := refuteSoundRow.holds Try.pinned (OpenSpec.ofChange refuteSoundWrong)

/-- 'inquestlaw24.RefuteMore': WHATEVER THE INPUT: true; the input reads as it did. -/
def refuteMoreSpec : ChangeSpec := { name := "refuteMore", fn := fun _ => fun
  | [d1, d2] => { results := [.lit (.bool true)], args := [d1, d2] }
  | _ => none }
def refuteMoreRow : OpenClaim := { program := "ytmnmbaehidfebaa", sum := "2eb443c9172734dbe2d836bd657b867294c4cb4010e03268c4353c8a28795515", func := "inquest/inquestlaw24.RefuteMore", spec := "refuteMore", unfollowed := true, recurses := true, apart := false }
def RefuteMoreSaid : Prop := refuteMoreRow.holds Try.pinned (OpenSpec.ofChange refuteMoreSpec)

/-- ITS FALSE NEIGHBOUR: 'it returns false'. Refute it at one input. -/
def refuteMoreWrong : ChangeSpec := { name := "refuteMore", fn := fun _ => fun
  | [d1, d2] => { results := [.lit (.bool false)], args := [d1, d2] }
  | _ => none }
def RefuteMoreWrongFalsely : Prop := refuteMoreRow.holds Try.pinned (OpenSpec.ofChange refuteMoreWrong)

/-- 'inquestlaw24.RefuteJoins': WHATEVER THE INPUT: true; the input reads as it did. -/
def refuteJoinsSpec : ChangeSpec := { name := "refuteJoins", fn := fun _ => fun
  | [d1, d2, d3] => { results := [.lit (.bool true)], args := [d1, d2, d3] }
  | _ => none }
def refuteJoinsRow : OpenClaim := { program := "ytmnmbaehidfebaa", sum := "2eb443c9172734dbe2d836bd657b867294c4cb4010e03268c4353c8a28795515", func := "inquest/inquestlaw24.RefuteJoins", spec := "refuteJoins", unfollowed := true, recurses := true, apart := false }
def RefuteJoinsSaid : Prop := refuteJoinsRow.holds Try.pinned (OpenSpec.ofChange refuteJoinsSpec)

/-- ITS FALSE NEIGHBOUR: 'it returns false'. Refute it at one input. -/
def refuteJoinsWrong : ChangeSpec := { name := "refuteJoins", fn := fun _ => fun
  | [d1, d2, d3] => { results := [.lit (.bool false)], args := [d1, d2, d3] }
  | _ => none }
def RefuteJoinsWrongFalsely : Prop := refuteJoinsRow.holds Try.pinned (OpenSpec.ofChange refuteJoinsWrong)

/-- 'inquestlaw22.FactTells': WHATEVER THE INPUT: true; the input reads as it did. -/
def factTellsSpec : ChangeSpec := { name := "factTells", fn := fun _ => fun
  | [d] => { results := [.lit (.bool true)], args := [d] }
  | _ => none }
def factTellsRow : OpenClaim := { program := "ytmnmbaehidfebaa", sum := "2eb443c9172734dbe2d836bd657b867294c4cb4010e03268c4353c8a28795515", func := "inquest/inquestlaw22.FactTells", spec := "factTells", unfollowed := true, recurses := true, apart := false }
def FactTellsSaid : Prop := factTellsRow.holds Try.pinned (OpenSpec.ofChange factTellsSpec)

/-- ITS FALSE NEIGHBOUR: 'it returns false'. Refute it at one input. -/
def factTellsWrong : ChangeSpec := { name := "factTells", fn := fun _ => fun
  | [d] => { results := [.lit (.bool false)], args := [d] }
  | _ => none }
def FactTellsWrongFalsely : Prop := factTellsRow.holds Try.pinned (OpenSpec.ofChange factTellsWrong)

/-- 'inquestlaw22.FactMust': WHATEVER THE INPUT: true; the input reads as it did. -/
def factMustSpec : ChangeSpec := { name := "factMust", fn := fun _ => fun
  | [d] => { results := [.lit (.bool true)], args := [d] }
  | _ => none }
def factMustRow : OpenClaim := { program := "ytmnmbaehidfebaa", sum := "2eb443c9172734dbe2d836bd657b867294c4cb4010e03268c4353c8a28795515", func := "inquest/inquestlaw22.FactMust", spec := "factMust", unfollowed := true, recurses := true, apart := false }
def FactMustSaid : Prop := factMustRow.holds Try.pinned (OpenSpec.ofChange factMustSpec)

/-- ITS FALSE NEIGHBOUR: 'it returns false'. Refute it at one input. -/
def factMustWrong : ChangeSpec := { name := "factMust", fn := fun _ => fun
  | [d] => { results := [.lit (.bool false)], args := [d] }
  | _ => none }
def FactMustWrongFalsely : Prop := factMustRow.holds Try.pinned (OpenSpec.ofChange factMustWrong)

/-- 'inquestlaw22.FactMore': WHATEVER THE INPUT: true; the input reads as it did. -/
def factMoreSpec : ChangeSpec := { name := "factMore", fn := fun _ => fun
  | [d1, d2] => { results := [.lit (.bool true)], args := [d1, d2] }
  | _ => none }
def factMoreRow : OpenClaim := { program := "ytmnmbaehidfebaa", sum := "2eb443c9172734dbe2d836bd657b867294c4cb4010e03268c4353c8a28795515", func := "inquest/inquestlaw22.FactMore", spec := "factMore", unfollowed := true, recurses := true, apart := false }
def FactMoreSaid : Prop := factMoreRow.holds Try.pinned (OpenSpec.ofChange factMoreSpec)

/-- ITS FALSE NEIGHBOUR: 'it returns false'. Refute it at one input. -/
def factMoreWrong : ChangeSpec := { name := "factMore", fn := fun _ => fun
  | [d1, d2] => { results := [.lit (.bool false)], args := [d1, d2] }
  | _ => none }
def FactMoreWrongFalsely : Prop := factMoreRow.holds Try.pinned (OpenSpec.ofChange factMoreWrong)

/-- 'inquestlaw22.FactBoth': WHATEVER THE INPUT: true; the input reads as it did. -/
def factBothSpec : ChangeSpec := { name := "factBoth", fn := fun _ => fun
  | [d1, d2] => { results := [.lit (.bool true)], args := [d1, d2] }
  | _ => none }
def factBothRow : OpenClaim := { program := "ytmnmbaehidfebaa", sum := "2eb443c9172734dbe2d836bd657b867294c4cb4010e03268c4353c8a28795515", func := "inquest/inquestlaw22.FactBoth", spec := "factBoth", unfollowed := true, recurses := true, apart := false }
def FactBothSaid : Prop := factBothRow.holds Try.pinned (OpenSpec.ofChange factBothSpec)

/-- ITS FALSE NEIGHBOUR: 'it returns false'. Refute it at one input. -/
def factBothWrong : ChangeSpec := { name := "factBoth", fn := fun _ => fun
  | [d1, d2] => { results := [.lit (.bool false)], args := [d1, d2] }
  | _ => none }
def FactBothWrongFalsely : Prop := factBothRow.holds Try.pinned (OpenSpec.ofChange factBothWrong)

/- THE SECOND FORM. 'bulk': how many values and letters a reading holds, each counted each time it is reached (what is shared counts as often as it is met; a slice's spare places count too). A statement '..UptoSaid' is the law's where the arguments, and the package variables that the reading takes, are together of bulk at most 1048576: NARROWER than '..Said'. Prove '..Said' where nothing that the law and all that it calls make is longer than what came in: it says more and counts as full. Else prove '..UptoSaid'. A law counts once. -/
mutual
def uptoBulk {H : Type} : DataW H → Nat
  | .lit (.string bytes) => bytes.length + 1
  | .lit _ => 1
  | .nil => 1
  | .ptr d => uptoBulk d + 1
  | .slice elems spare => uptoBulkAll elems + uptoBulkAll spare + 1
  | .agg parts => uptoBulkAll parts + 1
  | .iface _ d => uptoBulk d + 1
  | .map entries => uptoBulkEntries entries + 1
  | .held _ => 1
def uptoBulkAll {H : Type} : List (DataW H) → Nat
  | [] => 0
  | d :: r => uptoBulk d + uptoBulkAll r
def uptoBulkEntries {H : Type} : List (Lit × DataW H) → Nat
  | [] => 0
  | x :: r => uptoBulkEntry x + uptoBulkEntries r
def uptoBulkEntry {H : Type} : Lit × DataW H → Nat
  | (.string bytes, d) => bytes.length + uptoBulk d + 1
  | (_, d) => uptoBulk d + 1
 end
def uptoSmall : (H : Type) → List (DataW H) → Bool := fun _ ds => decide (uptoBulkAll ds ≤ 1048576)
def OpenSpec.upto (s : _root_.Go.ChangeSpec) : _root_.Go.OpenSpec := { _root_.Go.OpenSpec.ofChange s with cond := some uptoSmall }

/-- 'inquestlaw24.RefuteTells', WHERE WHAT IT READS IS OF BULK AT MOST 1048576: true; the input reads as it did. -/
def refuteTellsUptoRow : OpenClaim := { program := "ytmnmbaehidfebaa", sum := "2eb443c9172734dbe2d836bd657b867294c4cb4010e03268c4353c8a28795515", func := "inquest/inquestlaw24.RefuteTells", spec := "refuteTells", unfollowed := true, recurses := true, apart := false, narrowed := true }
def RefuteTellsUptoSaid : Prop := refuteTellsUptoRow.holds Try.pinned (OpenSpec.upto refuteTellsSpec)

/-- 'inquestlaw24.RefuteSound', WHERE WHAT IT READS IS OF BULK AT MOST 1048576: true; the input reads as it did. -/
def refuteSoundUptoRow : OpenClaim := { program := "ytmnmbaehidfebaa", sum := "2eb443c9172734dbe2d836bd657b867294c4cb4010e03268c4353c8a28795515", func := "inquest/inquestlaw24.RefuteSound", spec := "refuteSound", unfollowed := true, recurses := true, apart := false, narrowed := true }
def RefuteSoundUptoSaid : Prop := refuteSoundUptoRow.holds Try.pinned (OpenSpec.upto refuteSoundSpec)

/-- 'inquestlaw24.RefuteMore', WHERE WHAT IT READS IS OF BULK AT MOST 1048576: true; the input reads as it did. -/
def refuteMoreUptoRow : OpenClaim := { program := "ytmnmbaehidfebaa", sum := "2eb443c9172734dbe2d836bd657b867294c4cb4010e03268c4353c8a28795515", func := "inquest/inquestlaw24.RefuteMore", spec := "refuteMore", unfollowed := true, recurses := true, apart := false, narrowed := true }
def RefuteMoreUptoSaid : Prop := refuteMoreUptoRow.holds Try.pinned (OpenSpec.upto refuteMoreSpec)

/-- 'inquestlaw24.RefuteJoins', WHERE WHAT IT READS IS OF BULK AT MOST 1048576: true; the input reads as it did. -/
def refuteJoinsUptoRow : OpenClaim := { program := "ytmnmbaehidfebaa", sum := "2eb443c9172734dbe2d836bd657b867294c4cb4010e03268c4353c8a28795515", func := "inquest/inquestlaw24.RefuteJoins", spec := "refuteJoins", unfollowed := true, recurses := true, apart := false, narrowed := true }
def RefuteJoinsUptoSaid : Prop := refuteJoinsUptoRow.holds Try.pinned (OpenSpec.upto refuteJoinsSpec)

/-- 'inquestlaw22.FactTells', WHERE WHAT IT READS IS OF BULK AT MOST 1048576: true; the input reads as it did. -/
def factTellsUptoRow : OpenClaim := { program := "ytmnmbaehidfebaa", sum := "2eb443c9172734dbe2d836bd657b867294c4cb4010e03268c4353c8a28795515", func := "inquest/inquestlaw22.FactTells", spec := "factTells", unfollowed := true, recurses := true, apart := false, narrowed := true }
def FactTellsUptoSaid : Prop := factTellsUptoRow.holds Try.pinned (OpenSpec.upto factTellsSpec)

/-- 'inquestlaw22.FactMust', WHERE WHAT IT READS IS OF BULK AT MOST 1048576: true; the input reads as it did. -/
def factMustUptoRow : OpenClaim := { program := "ytmnmbaehidfebaa", sum := "2eb443c9172734dbe2d836bd657b867294c4cb4010e03268c4353c8a28795515", func := "inquest/inquestlaw22.FactMust", spec := "factMust", unfollowed := true, recurses := true, apart := false, narrowed := true }
def FactMustUptoSaid : Prop := factMustUptoRow.holds Try.pinned (OpenSpec.upto factMustSpec)

/-- 'inquestlaw22.FactMore', WHERE WHAT IT READS IS OF BULK AT MOST 1048576: true; the input reads as it did. -/
def factMoreUptoRow : OpenClaim := { program := "ytmnmbaehidfebaa", sum := "2eb443c9172734dbe2d836bd657b867294c4cb4010e03268c4353c8a28795515", func := "inquest/inquestlaw22.FactMore", spec := "factMore", unfollowed := true, recurses := true, apart := false, narrowed := true }
def FactMoreUptoSaid : Prop := factMoreUptoRow.holds Try.pinned (OpenSpec.upto factMoreSpec)

/-- 'inquestlaw22.FactBoth', WHERE WHAT IT READS IS OF BULK AT MOST 1048576: true; the input reads as it did. -/
def factBothUptoRow : OpenClaim := { program := "ytmnmbaehidfebaa", sum := "2eb443c9172734dbe2d836bd657b867294c4cb4010e03268c4353c8a28795515", func := "inquest/inquestlaw22.FactBoth", spec := "factBoth", unfollowed := true, recurses := true, apart := false, narrowed := true }
def FactBothUptoSaid : Prop := factBothUptoRow.holds Try.pinned (OpenSpec.upto factBothSpec)

end Rows
end Go.Proofs.Ytmnmbaehidfebaa
