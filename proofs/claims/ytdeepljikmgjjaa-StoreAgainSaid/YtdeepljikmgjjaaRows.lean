/-
  No cell of these rows narrows 'for every input' (looked for: loops, veiled, ifaces, maps, wideKeys, modest, calm, conditions, laid).
  DERIVED. THE GIVEN ROWS OF THIS SEAT. 4 by the template 'for every input the law returns true; each argument reads behind the call as it read before'; 0 by the template 'total and deterministic' (their statements: YtdeepljikmgjjaaTotals.lean).
  GIVEN WITH THE SEED: the statements are not yours to turn. If you find one false, say at which input.
  Laid BY PROGRAM, IN A SANDBOX (cutbox-rows.mjs): the forced cells as the released guide's own fill.sh prints them over the translation ba039ddc3ddf2741… (all of the seat's roots in one cut). By AI agents, Wed Nov 11 2026. No macro, syntax, notation, axiom, sorry.
-/
import Derived.Test.YtdeepljikmgjjaaChecked
import GoSem.Claim
import GoSem.ClaimJoined
import GoSem.ClaimMapViews
import Derived.JoinedTies
import Derived.KernelRfl
namespace Go.Proofs.Ytdeepljikmgjjaa
/- THE CELL 'sum', in the pinned program and in every row, IS THE sha256 OF THE DUMP (.gsa) THAT YtdeepljikmgjjaaProg.lean LOADS. Nothing in Lean hashes anything: it is a label: what it is worth is what the hold of that sum in a sandbox is worth. -/
noncomputable def Try.pinned : Pinned := { name := "ytdeepljikmgjjaa", sum := "ba039ddc3ddf2741505ce807c2364254fbafb70bd1d544e0c302709599d1c307", checked := Try.checked }
namespace Rows
def none {H : Type} : Left H := { results := [], args := [] }

/-- 'inquestlaw23.StoreAgain': WHATEVER THE INPUT: true; the input reads as it did. -/
def storeAgainSpec : ChangeSpec := { name := "storeAgain", fn := fun _ => fun
  | [d1, d2, d3] => { results := [.lit (.bool true)], args := [d1, d2, d3] }
  | _ => none }
def storeAgainRow : OpenClaim := { program := "ytdeepljikmgjjaa", sum := "ba039ddc3ddf2741505ce807c2364254fbafb70bd1d544e0c302709599d1c307", func := "inquest/inquestlaw23.StoreAgain", spec := "storeAgain", unfollowed := true, recurses := true, plainKeys := false, apart := false }
def StoreAgainSaid : Prop := storeAgainRow.holds Try.pinned (OpenSpec.ofChange storeAgainSpec)

/-- ITS FALSE NEIGHBOUR: 'it returns false'. Refute it at one input. -/
def storeAgainWrong : ChangeSpec := { name := "storeAgain", fn := fun _ => fun
  | [d1, d2, d3] => { results := [.lit (.bool false)], args := [d1, d2, d3] }
  | _ => none }
def StoreAgainWrongFalsely : Prop := storeAgainRow.holds Try.pinned (OpenSpec.ofChange storeAgainWrong)

/-- 'inquestlaw23.StoreDoes': WHATEVER THE INPUT: true; the input reads as it did. -/
def storeDoesSpec : ChangeSpec := { name := "storeDoes", fn := fun _ => fun
  | [d1, d2, d3] => { results := [.lit (.bool true)], args := [d1, d2, d3] }
  | _ => none }
def storeDoesRow : OpenClaim := { program := "ytdeepljikmgjjaa", sum := "ba039ddc3ddf2741505ce807c2364254fbafb70bd1d544e0c302709599d1c307", func := "inquest/inquestlaw23.StoreDoes", spec := "storeDoes", unfollowed := true, recurses := true, plainKeys := false, apart := false }
def StoreDoesSaid : Prop := storeDoesRow.holds Try.pinned (OpenSpec.ofChange storeDoesSpec)

/-- ITS FALSE NEIGHBOUR: 'it returns false'. Refute it at one input. -/
def storeDoesWrong : ChangeSpec := { name := "storeDoes", fn := fun _ => fun
  | [d1, d2, d3] => { results := [.lit (.bool false)], args := [d1, d2, d3] }
  | _ => none }
def StoreDoesWrongFalsely : Prop := storeDoesRow.holds Try.pinned (OpenSpec.ofChange storeDoesWrong)

/-- 'inquestlaw23.StoreOnce': WHATEVER THE INPUT: true; the input reads as it did. -/
def storeOnceSpec : ChangeSpec := { name := "storeOnce", fn := fun _ => fun
  | [d1, d2, d3] => { results := [.lit (.bool true)], args := [d1, d2, d3] }
  | _ => none }
def storeOnceRow : OpenClaim := { program := "ytdeepljikmgjjaa", sum := "ba039ddc3ddf2741505ce807c2364254fbafb70bd1d544e0c302709599d1c307", func := "inquest/inquestlaw23.StoreOnce", spec := "storeOnce", unfollowed := true, recurses := true, plainKeys := false, apart := false }
def StoreOnceSaid : Prop := storeOnceRow.holds Try.pinned (OpenSpec.ofChange storeOnceSpec)

/-- ITS FALSE NEIGHBOUR: 'it returns false'. Refute it at one input. -/
def storeOnceWrong : ChangeSpec := { name := "storeOnce", fn := fun _ => fun
  | [d1, d2, d3] => { results := [.lit (.bool false)], args := [d1, d2, d3] }
  | _ => none }
def StoreOnceWrongFalsely : Prop := storeOnceRow.holds Try.pinned (OpenSpec.ofChange storeOnceWrong)

/-- 'inquestlaw23.StoreReplays': WHATEVER THE INPUT: true; the input reads as it did. -/
def storeReplaysSpec : ChangeSpec := { name := "storeReplays", fn := fun _ => fun
  | [d1, d2, d3] => { results := [.lit (.bool true)], args := [d1, d2, d3] }
  | _ => none }
def storeReplaysRow : OpenClaim := { program := "ytdeepljikmgjjaa", sum := "ba039ddc3ddf2741505ce807c2364254fbafb70bd1d544e0c302709599d1c307", func := "inquest/inquestlaw23.StoreReplays", spec := "storeReplays", unfollowed := true, recurses := true, plainKeys := false, apart := false }
def StoreReplaysSaid : Prop := storeReplaysRow.holds Try.pinned (OpenSpec.ofChange storeReplaysSpec)

/-- ITS FALSE NEIGHBOUR: 'it returns false'. Refute it at one input. -/
def storeReplaysWrong : ChangeSpec := { name := "storeReplays", fn := fun _ => fun
  | [d1, d2, d3] => { results := [.lit (.bool false)], args := [d1, d2, d3] }
  | _ => none }
def StoreReplaysWrongFalsely : Prop := storeReplaysRow.holds Try.pinned (OpenSpec.ofChange storeReplaysWrong)

/- THE SECOND FORM. 'bulk': how many values and letters a reading holds, each counted each time it is reached (what is shared counts as often as it is met; a slice's spare places count too). A statement '..UptoSaid' is the law's where the arguments, and the package variables that the reading takes, are together of bulk at most 1048576: NARROWER than '..Said'. Prove '..Said' where nothing that the law and all that it calls make is longer than what came in: it says more and counts as full. Else prove '..UptoSaid'. A law counts once. -/
mutual
def uptoBulk {H : Type} : DataW H → Nat
  | .lit (.string bytes) => bytes.length + 1
  | .lit _ => 1
  | .nil => 1
  | .ptr d => uptoBulk d + 1
  | .slice elems spare => uptoBulkAll elems + uptoBulkAll spare + 1
  | .agg parts => uptoBulkAll parts + 1
  | .iface _ d => uptoBulk d + 1
  | .map entries => uptoBulkEntries entries + 1
  | .held _ => 1
def uptoBulkAll {H : Type} : List (DataW H) → Nat
  | [] => 0
  | d :: r => uptoBulk d + uptoBulkAll r
def uptoBulkEntries {H : Type} : List (Lit × DataW H) → Nat
  | [] => 0
  | x :: r => uptoBulkEntry x + uptoBulkEntries r
def uptoBulkEntry {H : Type} : Lit × DataW H → Nat
  | (.string bytes, d) => bytes.length + uptoBulk d + 1
  | (_, d) => uptoBulk d + 1
 end
def uptoSmall : (H : Type) → List (DataW H) → Bool := fun _ ds => decide (uptoBulkAll ds ≤ 1048576)
def OpenSpec.upto (s : _root_.Go.ChangeSpec) : _root_.Go.OpenSpec := { _root_.Go.OpenSpec.ofChange s with cond := some uptoSmall }

/-- 'inquestlaw23.StoreAgain', WHERE WHAT IT READS IS OF BULK AT MOST 1048576: true; the input reads as it did. -/
def storeAgainUptoRow : OpenClaim := { program := "ytdeepljikmgjjaa", sum := "ba039ddc3ddf2741505ce807c2364254fbafb70bd1d544e0c302709599d1c307", func := "inquest/inquestlaw23.StoreAgain", spec := "storeAgain", unfollowed := true, recurses := true, plainKeys := false, apart := false, narrowed := true }
def StoreAgainUptoSaid : Prop := storeAgainUptoRow.holds Try.pinned (OpenSpec.upto storeAgainSpec)

/-- 'inquestlaw23.StoreDoes', WHERE WHAT IT READS IS OF BULK AT MOST 1048576: true; the input reads as it did. -/
def storeDoesUptoRow : OpenClaim := { program := "ytdeepljikmgjjaa", sum := "ba039ddc3ddf2741505ce807c2364254fbafb70bd1d544e0c302709599d1c307", func := "inquest/inquestlaw23.StoreDoes", spec := "storeDoes", unfollowed := true, recurses := true, plainKeys := false, apart := false, narrowed := true }
def StoreDoesUptoSaid : Prop := storeDoesUptoRow.holds Try.pinned (OpenSpec.upto storeDoesSpec)

/-- 'inquestlaw23.StoreOnce', WHERE WHAT IT READS IS OF BULK AT MOST 1048576: true; the input reads as it did. -/
def storeOnceUptoRow : OpenClaim := { program := "ytdeepljikmgjjaa", sum := "ba039ddc3ddf2741505ce807c2364254fbafb70bd1d544e0c302709599d1c307", func := "inquest/inquestlaw23.StoreOnce", spec := "storeOnce", unfollowed := true, recurses := true, plainKeys := false, apart := false, narrowed := true }
def StoreOnceUptoSaid : Prop := storeOnceUptoRow.holds Try.pinned (OpenSpec.upto storeOnceSpec)

/-- 'inquestlaw23.StoreReplays', WHERE WHAT IT READS IS OF BULK AT MOST 1048576: true; the input reads as it did. -/
def storeReplaysUptoRow : OpenClaim := { program := "ytdeepljikmgjjaa", sum := "ba039ddc3ddf2741505ce807c2364254fbafb70bd1d544e0c302709599d1c307", func := "inquest/inquestlaw23.StoreReplays", spec := "storeReplays", unfollowed := true, recurses := true, plainKeys := false, apart := false, narrowed := true }
def StoreReplaysUptoSaid : Prop := storeReplaysUptoRow.holds Try.pinned (OpenSpec.upto storeReplaysSpec)

end Rows
end Go.Proofs.Ytdeepljikmgjjaa
