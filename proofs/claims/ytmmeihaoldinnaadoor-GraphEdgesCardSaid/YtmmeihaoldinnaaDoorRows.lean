/-
  NARROWER THAN 'FOR EVERY INPUT', by the rows' own cells (each row's printed sentence says how): GraphTells: laid · GraphEdges: laid · ReachTells: laid · ReachMore: laid · GraphBoth: laid · GraphTurns: laid · TopoTells: laid · TopoLeast: laid · ReachWays: laid · ReachBack: laid · TopoHas: laid · TopoLess: laid.
  DERIVED. THE GIVEN ROWS OF THIS SEAT. 12 by the template 'for every input the law returns true; each argument reads behind the call as it read before'; 0 by the template 'total and deterministic' (their statements: YtmmeihaoldinnaaDoorTotals.lean).
  GIVEN WITH THE SEED: the statements are not yours to turn. If you find one false, say at which input.
  Laid BY PROGRAM, IN A SANDBOX (cutbox-rows.mjs): the forced cells as the released guide's own fill.sh prints them over the translation bf5f7160652c4542… (all of the seat's roots in one cut). By AI agents, Wed Nov 11 2026. No macro, syntax, notation, axiom, sorry.
-/
import Derived.Test.YtmmeihaoldinnaaDoorChecked
import GoSem.Claim
import GoSem.ClaimJoined
import GoSem.ClaimMapViews
import Derived.JoinedTies
import Derived.KernelRfl
namespace Go.Proofs.YtmmeihaoldinnaaDoor
/- THE CELL 'sum', in the pinned program and in every row, IS THE sha256 OF THE DUMP (.gsa) THAT YtmmeihaoldinnaaDoorProg.lean LOADS. Nothing in Lean hashes anything: it is a label: what it is worth is what the hold of that sum in a sandbox is worth. -/
noncomputable def Tryd.pinned : Pinned := { name := "ytmmeihaoldinnaadoor", sum := "bf5f7160652c4542d4e62d2b1c975f408d34d10a2315c86bae1e4a46118daae6", checked := Tryd.checked }
namespace Rows
def none {H : Type} : Left H := { results := [], args := [] }

/- WHAT THE LISTED PACKAGE-LEVEL VARIABLES READ AS WHEN THE CALL BEGINS. Each datum BY PROGRAM (the guide's laid-datum.mjs) off the statement by which the dump's own 'gosem.cut.vars' lays the variable. In a bare row this is a premise. The card (YtmmeihaoldinnaaDoorCards.lean) ties it to the program's text. -/
def laid_math_bits_deBruijn64tab {H : Type} : DataW H := .agg [.lit (.int .u8 0), .lit (.int .u8 1), .lit (.int .u8 56), .lit (.int .u8 2), .lit (.int .u8 57), .lit (.int .u8 49), .lit (.int .u8 28), .lit (.int .u8 3), .lit (.int .u8 61), .lit (.int .u8 58), .lit (.int .u8 42), .lit (.int .u8 50), .lit (.int .u8 38), .lit (.int .u8 29), .lit (.int .u8 17), .lit (.int .u8 4), .lit (.int .u8 62), .lit (.int .u8 47), .lit (.int .u8 59), .lit (.int .u8 36), .lit (.int .u8 45), .lit (.int .u8 43), .lit (.int .u8 51), .lit (.int .u8 22), .lit (.int .u8 53), .lit (.int .u8 39), .lit (.int .u8 33), .lit (.int .u8 30), .lit (.int .u8 24), .lit (.int .u8 18), .lit (.int .u8 12), .lit (.int .u8 5), .lit (.int .u8 63), .lit (.int .u8 55), .lit (.int .u8 48), .lit (.int .u8 27), .lit (.int .u8 60), .lit (.int .u8 41), .lit (.int .u8 37), .lit (.int .u8 16), .lit (.int .u8 46), .lit (.int .u8 35), .lit (.int .u8 44), .lit (.int .u8 21), .lit (.int .u8 52), .lit (.int .u8 32), .lit (.int .u8 23), .lit (.int .u8 11), .lit (.int .u8 54), .lit (.int .u8 26), .lit (.int .u8 40), .lit (.int .u8 15), .lit (.int .u8 34), .lit (.int .u8 20), .lit (.int .u8 31), .lit (.int .u8 10), .lit (.int .u8 25), .lit (.int .u8 14), .lit (.int .u8 19), .lit (.int .u8 9), .lit (.int .u8 13), .lit (.int .u8 8), .lit (.int .u8 7), .lit (.int .u8 6)]

/-- 'inquestlaw12.GraphTells': WHATEVER THE INPUT: true; the input reads as it did. -/
def graphTellsSpec : ChangeSpec := { name := "graphTells", fn := fun _ => fun
  | [d1, d2, d3] => { results := [.lit (.bool true)], args := [d1, d2, d3] }
  | _ => none }
def graphTellsRow : OpenClaim := { program := "ytmmeihaoldinnaadoor", sum := "bf5f7160652c4542d4e62d2b1c975f408d34d10a2315c86bae1e4a46118daae6", func := "inquest/inquestlaw12.GraphTells", spec := "graphTells", named := ["math/bits.deBruijn64tab"], apart := false, laid := [("math/bits.deBruijn64tab", laid_math_bits_deBruijn64tab)] }
def GraphTellsSaid : Prop := graphTellsRow.holds Tryd.pinned (OpenSpec.ofChange graphTellsSpec)

/-- ITS FALSE NEIGHBOUR: 'it returns false'. Refute it at one input. -/
def graphTellsWrong : ChangeSpec := { name := "graphTells", fn := fun _ => fun
  | [d1, d2, d3] => { results := [.lit (.bool false)], args := [d1, d2, d3] }
  | _ => none }
def GraphTellsWrongFalsely : Prop := graphTellsRow.holds Tryd.pinned (OpenSpec.ofChange graphTellsWrong)

/-- 'inquestlaw12.GraphEdges': WHATEVER THE INPUT: true; the input reads as it did. -/
def graphEdgesSpec : ChangeSpec := { name := "graphEdges", fn := fun _ => fun
  | [d1, d2, d3] => { results := [.lit (.bool true)], args := [d1, d2, d3] }
  | _ => none }
def graphEdgesRow : OpenClaim := { program := "ytmmeihaoldinnaadoor", sum := "bf5f7160652c4542d4e62d2b1c975f408d34d10a2315c86bae1e4a46118daae6", func := "inquest/inquestlaw12.GraphEdges", spec := "graphEdges", named := ["math/bits.deBruijn64tab"], apart := false, laid := [("math/bits.deBruijn64tab", laid_math_bits_deBruijn64tab)] }
def GraphEdgesSaid : Prop := graphEdgesRow.holds Tryd.pinned (OpenSpec.ofChange graphEdgesSpec)

/-- ITS FALSE NEIGHBOUR: 'it returns false'. Refute it at one input. -/
def graphEdgesWrong : ChangeSpec := { name := "graphEdges", fn := fun _ => fun
  | [d1, d2, d3] => { results := [.lit (.bool false)], args := [d1, d2, d3] }
  | _ => none }
def GraphEdgesWrongFalsely : Prop := graphEdgesRow.holds Tryd.pinned (OpenSpec.ofChange graphEdgesWrong)

/-- 'inquestlaw13.ReachTells': WHATEVER THE INPUT: true; the input reads as it did. -/
def reachTellsSpec : ChangeSpec := { name := "reachTells", fn := fun _ => fun
  | [d1, d2, d3] => { results := [.lit (.bool true)], args := [d1, d2, d3] }
  | _ => none }
def reachTellsRow : OpenClaim := { program := "ytmmeihaoldinnaadoor", sum := "bf5f7160652c4542d4e62d2b1c975f408d34d10a2315c86bae1e4a46118daae6", func := "inquest/inquestlaw13.ReachTells", spec := "reachTells", named := ["math/bits.deBruijn64tab"], apart := false, laid := [("math/bits.deBruijn64tab", laid_math_bits_deBruijn64tab)] }
def ReachTellsSaid : Prop := reachTellsRow.holds Tryd.pinned (OpenSpec.ofChange reachTellsSpec)

/-- ITS FALSE NEIGHBOUR: 'it returns false'. Refute it at one input. -/
def reachTellsWrong : ChangeSpec := { name := "reachTells", fn := fun _ => fun
  | [d1, d2, d3] => { results := [.lit (.bool false)], args := [d1, d2, d3] }
  | _ => none }
def ReachTellsWrongFalsely : Prop := reachTellsRow.holds Tryd.pinned (OpenSpec.ofChange reachTellsWrong)

/-- 'inquestlaw13.ReachMore': WHATEVER THE INPUT: true; the input reads as it did. -/
def reachMoreSpec : ChangeSpec := { name := "reachMore", fn := fun _ => fun
  | [d1, d2, d3] => { results := [.lit (.bool true)], args := [d1, d2, d3] }
  | _ => none }
def reachMoreRow : OpenClaim := { program := "ytmmeihaoldinnaadoor", sum := "bf5f7160652c4542d4e62d2b1c975f408d34d10a2315c86bae1e4a46118daae6", func := "inquest/inquestlaw13.ReachMore", spec := "reachMore", named := ["math/bits.deBruijn64tab"], apart := false, laid := [("math/bits.deBruijn64tab", laid_math_bits_deBruijn64tab)] }
def ReachMoreSaid : Prop := reachMoreRow.holds Tryd.pinned (OpenSpec.ofChange reachMoreSpec)

/-- ITS FALSE NEIGHBOUR: 'it returns false'. Refute it at one input. -/
def reachMoreWrong : ChangeSpec := { name := "reachMore", fn := fun _ => fun
  | [d1, d2, d3] => { results := [.lit (.bool false)], args := [d1, d2, d3] }
  | _ => none }
def ReachMoreWrongFalsely : Prop := reachMoreRow.holds Tryd.pinned (OpenSpec.ofChange reachMoreWrong)

/-- 'inquestlaw12.GraphBoth': WHATEVER THE INPUT: true; the input reads as it did. -/
def graphBothSpec : ChangeSpec := { name := "graphBoth", fn := fun _ => fun
  | [d1, d2] => { results := [.lit (.bool true)], args := [d1, d2] }
  | _ => none }
def graphBothRow : OpenClaim := { program := "ytmmeihaoldinnaadoor", sum := "bf5f7160652c4542d4e62d2b1c975f408d34d10a2315c86bae1e4a46118daae6", func := "inquest/inquestlaw12.GraphBoth", spec := "graphBoth", named := ["math/bits.deBruijn64tab"], apart := false, laid := [("math/bits.deBruijn64tab", laid_math_bits_deBruijn64tab)] }
def GraphBothSaid : Prop := graphBothRow.holds Tryd.pinned (OpenSpec.ofChange graphBothSpec)

/-- ITS FALSE NEIGHBOUR: 'it returns false'. Refute it at one input. -/
def graphBothWrong : ChangeSpec := { name := "graphBoth", fn := fun _ => fun
  | [d1, d2] => { results := [.lit (.bool false)], args := [d1, d2] }
  | _ => none }
def GraphBothWrongFalsely : Prop := graphBothRow.holds Tryd.pinned (OpenSpec.ofChange graphBothWrong)

/-- 'inquestlaw12.GraphTurns': WHATEVER THE INPUT: true; the input reads as it did. -/
def graphTurnsSpec : ChangeSpec := { name := "graphTurns", fn := fun _ => fun
  | [d1, d2] => { results := [.lit (.bool true)], args := [d1, d2] }
  | _ => none }
def graphTurnsRow : OpenClaim := { program := "ytmmeihaoldinnaadoor", sum := "bf5f7160652c4542d4e62d2b1c975f408d34d10a2315c86bae1e4a46118daae6", func := "inquest/inquestlaw12.GraphTurns", spec := "graphTurns", named := ["math/bits.deBruijn64tab"], apart := false, laid := [("math/bits.deBruijn64tab", laid_math_bits_deBruijn64tab)] }
def GraphTurnsSaid : Prop := graphTurnsRow.holds Tryd.pinned (OpenSpec.ofChange graphTurnsSpec)

/-- ITS FALSE NEIGHBOUR: 'it returns false'. Refute it at one input. -/
def graphTurnsWrong : ChangeSpec := { name := "graphTurns", fn := fun _ => fun
  | [d1, d2] => { results := [.lit (.bool false)], args := [d1, d2] }
  | _ => none }
def GraphTurnsWrongFalsely : Prop := graphTurnsRow.holds Tryd.pinned (OpenSpec.ofChange graphTurnsWrong)

/-- 'inquestlaw16.TopoTells': WHATEVER THE INPUT: true; the input reads as it did. -/
def topoTellsSpec : ChangeSpec := { name := "topoTells", fn := fun _ => fun
  | [d1, d2] => { results := [.lit (.bool true)], args := [d1, d2] }
  | _ => none }
def topoTellsRow : OpenClaim := { program := "ytmmeihaoldinnaadoor", sum := "bf5f7160652c4542d4e62d2b1c975f408d34d10a2315c86bae1e4a46118daae6", func := "inquest/inquestlaw16.TopoTells", spec := "topoTells", named := ["math/bits.deBruijn64tab"], apart := false, laid := [("math/bits.deBruijn64tab", laid_math_bits_deBruijn64tab)] }
def TopoTellsSaid : Prop := topoTellsRow.holds Tryd.pinned (OpenSpec.ofChange topoTellsSpec)

/-- ITS FALSE NEIGHBOUR: 'it returns false'. Refute it at one input. -/
def topoTellsWrong : ChangeSpec := { name := "topoTells", fn := fun _ => fun
  | [d1, d2] => { results := [.lit (.bool false)], args := [d1, d2] }
  | _ => none }
def TopoTellsWrongFalsely : Prop := topoTellsRow.holds Tryd.pinned (OpenSpec.ofChange topoTellsWrong)

/-- 'inquestlaw16.TopoLeast': WHATEVER THE INPUT: true; the input reads as it did. -/
def topoLeastSpec : ChangeSpec := { name := "topoLeast", fn := fun _ => fun
  | [d1, d2] => { results := [.lit (.bool true)], args := [d1, d2] }
  | _ => none }
def topoLeastRow : OpenClaim := { program := "ytmmeihaoldinnaadoor", sum := "bf5f7160652c4542d4e62d2b1c975f408d34d10a2315c86bae1e4a46118daae6", func := "inquest/inquestlaw16.TopoLeast", spec := "topoLeast", named := ["math/bits.deBruijn64tab"], apart := false, laid := [("math/bits.deBruijn64tab", laid_math_bits_deBruijn64tab)] }
def TopoLeastSaid : Prop := topoLeastRow.holds Tryd.pinned (OpenSpec.ofChange topoLeastSpec)

/-- ITS FALSE NEIGHBOUR: 'it returns false'. Refute it at one input. -/
def topoLeastWrong : ChangeSpec := { name := "topoLeast", fn := fun _ => fun
  | [d1, d2] => { results := [.lit (.bool false)], args := [d1, d2] }
  | _ => none }
def TopoLeastWrongFalsely : Prop := topoLeastRow.holds Tryd.pinned (OpenSpec.ofChange topoLeastWrong)

/-- 'inquestlaw13.ReachWays': WHATEVER THE INPUT: true; the input reads as it did. -/
def reachWaysSpec : ChangeSpec := { name := "reachWays", fn := fun _ => fun
  | [d1, d2] => { results := [.lit (.bool true)], args := [d1, d2] }
  | _ => none }
def reachWaysRow : OpenClaim := { program := "ytmmeihaoldinnaadoor", sum := "bf5f7160652c4542d4e62d2b1c975f408d34d10a2315c86bae1e4a46118daae6", func := "inquest/inquestlaw13.ReachWays", spec := "reachWays", named := ["math/bits.deBruijn64tab"], apart := false, laid := [("math/bits.deBruijn64tab", laid_math_bits_deBruijn64tab)] }
def ReachWaysSaid : Prop := reachWaysRow.holds Tryd.pinned (OpenSpec.ofChange reachWaysSpec)

/-- ITS FALSE NEIGHBOUR: 'it returns false'. Refute it at one input. -/
def reachWaysWrong : ChangeSpec := { name := "reachWays", fn := fun _ => fun
  | [d1, d2] => { results := [.lit (.bool false)], args := [d1, d2] }
  | _ => none }
def ReachWaysWrongFalsely : Prop := reachWaysRow.holds Tryd.pinned (OpenSpec.ofChange reachWaysWrong)

/-- 'inquestlaw13.ReachBack': WHATEVER THE INPUT: true; the input reads as it did. -/
def reachBackSpec : ChangeSpec := { name := "reachBack", fn := fun _ => fun
  | [d] => { results := [.lit (.bool true)], args := [d] }
  | _ => none }
def reachBackRow : OpenClaim := { program := "ytmmeihaoldinnaadoor", sum := "bf5f7160652c4542d4e62d2b1c975f408d34d10a2315c86bae1e4a46118daae6", func := "inquest/inquestlaw13.ReachBack", spec := "reachBack", named := ["math/bits.deBruijn64tab"], apart := false, laid := [("math/bits.deBruijn64tab", laid_math_bits_deBruijn64tab)] }
def ReachBackSaid : Prop := reachBackRow.holds Tryd.pinned (OpenSpec.ofChange reachBackSpec)

/-- ITS FALSE NEIGHBOUR: 'it returns false'. Refute it at one input. -/
def reachBackWrong : ChangeSpec := { name := "reachBack", fn := fun _ => fun
  | [d] => { results := [.lit (.bool false)], args := [d] }
  | _ => none }
def ReachBackWrongFalsely : Prop := reachBackRow.holds Tryd.pinned (OpenSpec.ofChange reachBackWrong)

/-- 'inquestlaw16.TopoHas': WHATEVER THE INPUT: true; the input reads as it did. -/
def topoHasSpec : ChangeSpec := { name := "topoHas", fn := fun _ => fun
  | [d] => { results := [.lit (.bool true)], args := [d] }
  | _ => none }
def topoHasRow : OpenClaim := { program := "ytmmeihaoldinnaadoor", sum := "bf5f7160652c4542d4e62d2b1c975f408d34d10a2315c86bae1e4a46118daae6", func := "inquest/inquestlaw16.TopoHas", spec := "topoHas", named := ["math/bits.deBruijn64tab"], apart := false, laid := [("math/bits.deBruijn64tab", laid_math_bits_deBruijn64tab)] }
def TopoHasSaid : Prop := topoHasRow.holds Tryd.pinned (OpenSpec.ofChange topoHasSpec)

/-- ITS FALSE NEIGHBOUR: 'it returns false'. Refute it at one input. -/
def topoHasWrong : ChangeSpec := { name := "topoHas", fn := fun _ => fun
  | [d] => { results := [.lit (.bool false)], args := [d] }
  | _ => none }
def TopoHasWrongFalsely : Prop := topoHasRow.holds Tryd.pinned (OpenSpec.ofChange topoHasWrong)

/-- 'inquestlaw16.TopoLess': WHATEVER THE INPUT: true; the input reads as it did. -/
def topoLessSpec : ChangeSpec := { name := "topoLess", fn := fun _ => fun
  | [d1, d2] => { results := [.lit (.bool true)], args := [d1, d2] }
  | _ => none }
def topoLessRow : OpenClaim := { program := "ytmmeihaoldinnaadoor", sum := "bf5f7160652c4542d4e62d2b1c975f408d34d10a2315c86bae1e4a46118daae6", func := "inquest/inquestlaw16.TopoLess", spec := "topoLess", named := ["math/bits.deBruijn64tab"], apart := false, laid := [("math/bits.deBruijn64tab", laid_math_bits_deBruijn64tab)] }
def TopoLessSaid : Prop := topoLessRow.holds Tryd.pinned (OpenSpec.ofChange topoLessSpec)

/-- ITS FALSE NEIGHBOUR: 'it returns false'. Refute it at one input. -/
def topoLessWrong : ChangeSpec := { name := "topoLess", fn := fun _ => fun
  | [d1, d2] => { results := [.lit (.bool false)], args := [d1, d2] }
  | _ => none }
def TopoLessWrongFalsely : Prop := topoLessRow.holds Tryd.pinned (OpenSpec.ofChange topoLessWrong)

/- THE SECOND FORM. 'bulk': how many values and letters a reading holds, each counted each time it is reached (what is shared counts as often as it is met; a slice's spare places count too). A statement '..UptoSaid' is the law's where the arguments, and the package variables that the reading takes, are together of bulk at most 1048576: NARROWER than '..Said'. Prove '..Said' where nothing that the law and all that it calls make is longer than what came in: it says more and counts as full. Else prove '..UptoSaid'. A law counts once. -/
mutual
def uptoBulk {H : Type} : DataW H → Nat
  | .lit (.string bytes) => bytes.length + 1
  | .lit _ => 1
  | .nil => 1
  | .ptr d => uptoBulk d + 1
  | .slice elems spare => uptoBulkAll elems + uptoBulkAll spare + 1
  | .agg parts => uptoBulkAll parts + 1
  | .iface _ d => uptoBulk d + 1
  | .map entries => uptoBulkEntries entries + 1
  | .held _ => 1
def uptoBulkAll {H : Type} : List (DataW H) → Nat
  | [] => 0
  | d :: r => uptoBulk d + uptoBulkAll r
def uptoBulkEntries {H : Type} : List (Lit × DataW H) → Nat
  | [] => 0
  | x :: r => uptoBulkEntry x + uptoBulkEntries r
def uptoBulkEntry {H : Type} : Lit × DataW H → Nat
  | (.string bytes, d) => bytes.length + uptoBulk d + 1
  | (_, d) => uptoBulk d + 1
 end
def uptoSmall : (H : Type) → List (DataW H) → Bool := fun _ ds => decide (uptoBulkAll ds ≤ 1048576)
def OpenSpec.upto (s : _root_.Go.ChangeSpec) : _root_.Go.OpenSpec := { _root_.Go.OpenSpec.ofChange s with cond := some uptoSmall }

/-- 'inquestlaw12.GraphTells', WHERE WHAT IT READS IS OF BULK AT MOST 1048576: true; the input reads as it did. -/
def graphTellsUptoRow : OpenClaim := { program := "ytmmeihaoldinnaadoor", sum := "bf5f7160652c4542d4e62d2b1c975f408d34d10a2315c86bae1e4a46118daae6", func := "inquest/inquestlaw12.GraphTells", spec := "graphTells", named := ["math/bits.deBruijn64tab"], apart := false, laid := [("math/bits.deBruijn64tab", laid_math_bits_deBruijn64tab)], narrowed := true }
def GraphTellsUptoSaid : Prop := graphTellsUptoRow.holds Tryd.pinned (OpenSpec.upto graphTellsSpec)

/-- 'inquestlaw12.GraphEdges', WHERE WHAT IT READS IS OF BULK AT MOST 1048576: true; the input reads as it did. -/
def graphEdgesUptoRow : OpenClaim := { program := "ytmmeihaoldinnaadoor", sum := "bf5f7160652c4542d4e62d2b1c975f408d34d10a2315c86bae1e4a46118daae6", func := "inquest/inquestlaw12.GraphEdges", spec := "graphEdges", named := ["math/bits.deBruijn64tab"], apart := false, laid := [("math/bits.deBruijn64tab", laid_math_bits_deBruijn64tab)], narrowed := true }
def GraphEdgesUptoSaid : Prop := graphEdgesUptoRow.holds Tryd.pinned (OpenSpec.upto graphEdgesSpec)

/-- 'inquestlaw13.ReachTells', WHERE WHAT IT READS IS OF BULK AT MOST 1048576: true; the input reads as it did. -/
def reachTellsUptoRow : OpenClaim := { program := "ytmmeihaoldinnaadoor", sum := "bf5f7160652c4542d4e62d2b1c975f408d34d10a2315c86bae1e4a46118daae6", func := "inquest/inquestlaw13.ReachTells", spec := "reachTells", named := ["math/bits.deBruijn64tab"], apart := false, laid := [("math/bits.deBruijn64tab", laid_math_bits_deBruijn64tab)], narrowed := true }
def ReachTellsUptoSaid : Prop := reachTellsUptoRow.holds Tryd.pinned (OpenSpec.upto reachTellsSpec)

/-- 'inquestlaw13.ReachMore', WHERE WHAT IT READS IS OF BULK AT MOST 1048576: true; the input reads as it did. -/
def reachMoreUptoRow : OpenClaim := { program := "ytmmeihaoldinnaadoor", sum := "bf5f7160652c4542d4e62d2b1c975f408d34d10a2315c86bae1e4a46118daae6", func := "inquest/inquestlaw13.ReachMore", spec := "reachMore", named := ["math/bits.deBruijn64tab"], apart := false, laid := [("math/bits.deBruijn64tab", laid_math_bits_deBruijn64tab)], narrowed := true }
def ReachMoreUptoSaid : Prop := reachMoreUptoRow.holds Tryd.pinned (OpenSpec.upto reachMoreSpec)

/-- 'inquestlaw12.GraphBoth', WHERE WHAT IT READS IS OF BULK AT MOST 1048576: true; the input reads as it did. -/
def graphBothUptoRow : OpenClaim := { program := "ytmmeihaoldinnaadoor", sum := "bf5f7160652c4542d4e62d2b1c975f408d34d10a2315c86bae1e4a46118daae6", func := "inquest/inquestlaw12.GraphBoth", spec := "graphBoth", named := ["math/bits.deBruijn64tab"], apart := false, laid := [("math/bits.deBruijn64tab", laid_math_bits_deBruijn64tab)], narrowed := true }
def GraphBothUptoSaid : Prop := graphBothUptoRow.holds Tryd.pinned (OpenSpec.upto graphBothSpec)

/-- 'inquestlaw12.GraphTurns', WHERE WHAT IT READS IS OF BULK AT MOST 1048576: true; the input reads as it did. -/
def graphTurnsUptoRow : OpenClaim := { program := "ytmmeihaoldinnaadoor", sum := "bf5f7160652c4542d4e62d2b1c975f408d34d10a2315c86bae1e4a46118daae6", func := "inquest/inquestlaw12.GraphTurns", spec := "graphTurns", named := ["math/bits.deBruijn64tab"], apart := false, laid := [("math/bits.deBruijn64tab", laid_math_bits_deBruijn64tab)], narrowed := true }
def GraphTurnsUptoSaid : Prop := graphTurnsUptoRow.holds Tryd.pinned (OpenSpec.upto graphTurnsSpec)

/-- 'inquestlaw16.TopoTells', WHERE WHAT IT READS IS OF BULK AT MOST 1048576: true; the input reads as it did. -/
def topoTellsUptoRow : OpenClaim := { program := "ytmmeihaoldinnaadoor", sum := "bf5f7160652c4542d4e62d2b1c975f408d34d10a2315c86bae1e4a46118daae6", func := "inquest/inquestlaw16.TopoTells", spec := "topoTells", named := ["math/bits.deBruijn64tab"], apart := false, laid := [("math/bits.deBruijn64tab", laid_math_bits_deBruijn64tab)], narrowed := true }
def TopoTellsUptoSaid : Prop := topoTellsUptoRow.holds Tryd.pinned (OpenSpec.upto topoTellsSpec)

/-- 'inquestlaw16.TopoLeast', WHERE WHAT IT READS IS OF BULK AT MOST 1048576: true; the input reads as it did. -/
def topoLeastUptoRow : OpenClaim := { program := "ytmmeihaoldinnaadoor", sum := "bf5f7160652c4542d4e62d2b1c975f408d34d10a2315c86bae1e4a46118daae6", func := "inquest/inquestlaw16.TopoLeast", spec := "topoLeast", named := ["math/bits.deBruijn64tab"], apart := false, laid := [("math/bits.deBruijn64tab", laid_math_bits_deBruijn64tab)], narrowed := true }
def TopoLeastUptoSaid : Prop := topoLeastUptoRow.holds Tryd.pinned (OpenSpec.upto topoLeastSpec)

/-- 'inquestlaw13.ReachWays', WHERE WHAT IT READS IS OF BULK AT MOST 1048576: true; the input reads as it did. -/
def reachWaysUptoRow : OpenClaim := { program := "ytmmeihaoldinnaadoor", sum := "bf5f7160652c4542d4e62d2b1c975f408d34d10a2315c86bae1e4a46118daae6", func := "inquest/inquestlaw13.ReachWays", spec := "reachWays", named := ["math/bits.deBruijn64tab"], apart := false, laid := [("math/bits.deBruijn64tab", laid_math_bits_deBruijn64tab)], narrowed := true }
def ReachWaysUptoSaid : Prop := reachWaysUptoRow.holds Tryd.pinned (OpenSpec.upto reachWaysSpec)

/-- 'inquestlaw13.ReachBack', WHERE WHAT IT READS IS OF BULK AT MOST 1048576: true; the input reads as it did. -/
def reachBackUptoRow : OpenClaim := { program := "ytmmeihaoldinnaadoor", sum := "bf5f7160652c4542d4e62d2b1c975f408d34d10a2315c86bae1e4a46118daae6", func := "inquest/inquestlaw13.ReachBack", spec := "reachBack", named := ["math/bits.deBruijn64tab"], apart := false, laid := [("math/bits.deBruijn64tab", laid_math_bits_deBruijn64tab)], narrowed := true }
def ReachBackUptoSaid : Prop := reachBackUptoRow.holds Tryd.pinned (OpenSpec.upto reachBackSpec)

/-- 'inquestlaw16.TopoHas', WHERE WHAT IT READS IS OF BULK AT MOST 1048576: true; the input reads as it did. -/
def topoHasUptoRow : OpenClaim := { program := "ytmmeihaoldinnaadoor", sum := "bf5f7160652c4542d4e62d2b1c975f408d34d10a2315c86bae1e4a46118daae6", func := "inquest/inquestlaw16.TopoHas", spec := "topoHas", named := ["math/bits.deBruijn64tab"], apart := false, laid := [("math/bits.deBruijn64tab", laid_math_bits_deBruijn64tab)], narrowed := true }
def TopoHasUptoSaid : Prop := topoHasUptoRow.holds Tryd.pinned (OpenSpec.upto topoHasSpec)

/-- 'inquestlaw16.TopoLess', WHERE WHAT IT READS IS OF BULK AT MOST 1048576: true; the input reads as it did. -/
def topoLessUptoRow : OpenClaim := { program := "ytmmeihaoldinnaadoor", sum := "bf5f7160652c4542d4e62d2b1c975f408d34d10a2315c86bae1e4a46118daae6", func := "inquest/inquestlaw16.TopoLess", spec := "topoLess", named := ["math/bits.deBruijn64tab"], apart := false, laid := [("math/bits.deBruijn64tab", laid_math_bits_deBruijn64tab)], narrowed := true }
def TopoLessUptoSaid : Prop := topoLessUptoRow.holds Tryd.pinned (OpenSpec.upto topoLessSpec)

end Rows
end Go.Proofs.YtmmeihaoldinnaaDoor
