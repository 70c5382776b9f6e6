/-
  No cell of these rows narrows 'for every input' (looked for: loops, veiled, ifaces, maps, wideKeys, modest, calm, conditions, laid).
  DERIVED. THE GIVEN ROWS OF THIS SEAT. 4 by the template 'for every input the law returns true; each argument reads behind the call as it read before'; 0 by the template 'total and deterministic' (their statements: YtleihjegenjacaaGreatTotals.lean).
  GIVEN WITH THE SEED: the statements are not yours to turn. If you find one false, say at which input.
  Laid BY PROGRAM, IN A SANDBOX (cutbox-rows.mjs): the forced cells as the released guide's own fill.sh prints them over the translation d195af2757b981a9… (all of the seat's roots in one cut). By AI agents, Wed Nov 11 2026. No macro, syntax, notation, axiom, sorry.
-/
import Derived.Test.YtleihjegenjacaaGreatChecked
import GoSem.Claim
import GoSem.ClaimJoined
import GoSem.ClaimMapViews
import Derived.JoinedTies
import Derived.KernelRfl
namespace Go.Proofs.YtleihjegenjacaaGreat
/- THE CELL 'sum', in the pinned program and in every row, IS THE sha256 OF THE DUMP (.gsa) THAT YtleihjegenjacaaGreatProg.lean LOADS. Nothing in Lean hashes anything: it is a label: what it is worth is what the hold of that sum in a sandbox is worth. -/
noncomputable def Tryz.pinned : Pinned := { name := "ytleihjegenjacaagreat", sum := "d195af2757b981a97c1786e3196a3c827dd283da291611c9d5a7dc6b658fa150", checked := Tryz.checked }
namespace Rows
def none {H : Type} : Left H := { results := [], args := [] }

/-- 'inquestlaw27.CertTells': WHATEVER THE INPUT: true; the input reads as it did. -/
def certTellsSpec : ChangeSpec := { name := "certTells", fn := fun _ => fun
  | [d1, d2, d3] => { results := [.lit (.bool true)], args := [d1, d2, d3] }
  | _ => none }
def certTellsRow : OpenClaim := { program := "ytleihjegenjacaagreat", sum := "d195af2757b981a97c1786e3196a3c827dd283da291611c9d5a7dc6b658fa150", func := "inquest/inquestlaw27.CertTells", spec := "certTells", unfollowed := true, recurses := true, apart := false }
def CertTellsSaid : Prop := certTellsRow.holds Tryz.pinned (OpenSpec.ofChange certTellsSpec)

/-- ITS FALSE NEIGHBOUR: 'it returns false'. Refute it at one input. -/
def certTellsWrong : ChangeSpec := { name := "certTells", fn := fun _ => fun
  | [d1, d2, d3] => { results := [.lit (.bool false)], args := [d1, d2, d3] }
  | _ => none }
def CertTellsWrongFalsely : Prop := certTellsRow.holds Tryz.pinned (OpenSpec.ofChange certTellsWrong)

/-- 'inquestlaw27.CertSound': WHATEVER THE INPUT: true; the input reads as it did. -/
def certSoundSpec : ChangeSpec := { name := "certSound", fn := fun _ => fun
  | [d1, d2] => { results := [.lit (.bool true)], args := [d1, d2] }
  | _ => none }
def certSoundRow : OpenClaim := { program := "ytleihjegenjacaagreat", sum := "d195af2757b981a97c1786e3196a3c827dd283da291611c9d5a7dc6b658fa150", func := "inquest/inquestlaw27.CertSound", spec := "certSound", unfollowed := true, recurses := true, apart := false }
def CertSoundSaid : Prop := certSoundRow.holds Tryz.pinned (OpenSpec.ofChange certSoundSpec)

/-- ITS FALSE NEIGHBOUR: 'it returns false'. Refute it at one input. -/
def certSoundWrong : ChangeSpec := { name := "certSound", fn := fun _ => fun
  | [d1, d2] => { results := [.lit (.bool false)], args := [d1, d2] }
  | _ => none }
def CertSoundWrongFalsely : Prop := certSoundRow.holds Tryz.pinned (OpenSpec.ofChange certSoundWrong)

/-- 'inquestlaw27.CertBack': WHATEVER THE INPUT: true; the input reads as it did. -/
def certBackSpec : ChangeSpec := { name := "certBack", fn := fun _ => fun
  | [d1, d2] => { results := [.lit (.bool true)], args := [d1, d2] }
  | _ => none }
def certBackRow : OpenClaim := { program := "ytleihjegenjacaagreat", sum := "d195af2757b981a97c1786e3196a3c827dd283da291611c9d5a7dc6b658fa150", func := "inquest/inquestlaw27.CertBack", spec := "certBack", unfollowed := true, recurses := true, apart := false }
def CertBackSaid : Prop := certBackRow.holds Tryz.pinned (OpenSpec.ofChange certBackSpec)

/-- ITS FALSE NEIGHBOUR: 'it returns false'. Refute it at one input. -/
def certBackWrong : ChangeSpec := { name := "certBack", fn := fun _ => fun
  | [d1, d2] => { results := [.lit (.bool false)], args := [d1, d2] }
  | _ => none }
def CertBackWrongFalsely : Prop := certBackRow.holds Tryz.pinned (OpenSpec.ofChange certBackWrong)

/-- 'inquestlaw27.CertOrders': WHATEVER THE INPUT: true; the input reads as it did. -/
def certOrdersSpec : ChangeSpec := { name := "certOrders", fn := fun _ => fun
  | [d1, d2] => { results := [.lit (.bool true)], args := [d1, d2] }
  | _ => none }
def certOrdersRow : OpenClaim := { program := "ytleihjegenjacaagreat", sum := "d195af2757b981a97c1786e3196a3c827dd283da291611c9d5a7dc6b658fa150", func := "inquest/inquestlaw27.CertOrders", spec := "certOrders", unfollowed := true, recurses := true, apart := false }
def CertOrdersSaid : Prop := certOrdersRow.holds Tryz.pinned (OpenSpec.ofChange certOrdersSpec)

/-- ITS FALSE NEIGHBOUR: 'it returns false'. Refute it at one input. -/
def certOrdersWrong : ChangeSpec := { name := "certOrders", fn := fun _ => fun
  | [d1, d2] => { results := [.lit (.bool false)], args := [d1, d2] }
  | _ => none }
def CertOrdersWrongFalsely : Prop := certOrdersRow.holds Tryz.pinned (OpenSpec.ofChange certOrdersWrong)

/- THE SECOND FORM. 'bulk': how many values and letters a reading holds, each counted each time it is reached (what is shared counts as often as it is met; a slice's spare places count too). A statement '..UptoSaid' is the law's where the arguments, and the package variables that the reading takes, are together of bulk at most 1048576: NARROWER than '..Said'. Prove '..Said' where nothing that the law and all that it calls make is longer than what came in: it says more and counts as full. Else prove '..UptoSaid'. A law counts once. -/
mutual
def uptoBulk {H : Type} : DataW H → Nat
  | .lit (.string bytes) => bytes.length + 1
  | .lit _ => 1
  | .nil => 1
  | .ptr d => uptoBulk d + 1
  | .slice elems spare => uptoBulkAll elems + uptoBulkAll spare + 1
  | .agg parts => uptoBulkAll parts + 1
  | .iface _ d => uptoBulk d + 1
  | .map entries => uptoBulkEntries entries + 1
  | .held _ => 1
def uptoBulkAll {H : Type} : List (DataW H) → Nat
  | [] => 0
  | d :: r => uptoBulk d + uptoBulkAll r
def uptoBulkEntries {H : Type} : List (Lit × DataW H) → Nat
  | [] => 0
  | x :: r => uptoBulkEntry x + uptoBulkEntries r
def uptoBulkEntry {H : Type} : Lit × DataW H → Nat
  | (.string bytes, d) => bytes.length + uptoBulk d + 1
  | (_, d) => uptoBulk d + 1
 end
def uptoSmall : (H : Type) → List (DataW H) → Bool := fun _ ds => decide (uptoBulkAll ds ≤ 1048576)
def OpenSpec.upto (s : _root_.Go.ChangeSpec) : _root_.Go.OpenSpec := { _root_.Go.OpenSpec.ofChange s with cond := some uptoSmall }

/-- 'inquestlaw27.CertTells', WHERE WHAT IT READS IS OF BULK AT MOST 1048576: true; the input reads as it did. -/
def certTellsUptoRow : OpenClaim := { program := "ytleihjegenjacaagreat", sum := "d195af2757b981a97c1786e3196a3c827dd283da291611c9d5a7dc6b658fa150", func := "inquest/inquestlaw27.CertTells", spec := "certTells", unfollowed := true, recurses := true, apart := false, narrowed := true }
def CertTellsUptoSaid : Prop := certTellsUptoRow.holds Tryz.pinned (OpenSpec.upto certTellsSpec)

/-- 'inquestlaw27.CertSound', WHERE WHAT IT READS IS OF BULK AT MOST 1048576: true; the input reads as it did. -/
def certSoundUptoRow : OpenClaim := { program := "ytleihjegenjacaagreat", sum := "d195af2757b981a97c1786e3196a3c827dd283da291611c9d5a7dc6b658fa150", func := "inquest/inquestlaw27.CertSound", spec := "certSound", unfollowed := true, recurses := true, apart := false, narrowed := true }
def CertSoundUptoSaid : Prop := certSoundUptoRow.holds Tryz.pinned (OpenSpec.upto certSoundSpec)

/-- 'inquestlaw27.CertBack', WHERE WHAT IT READS IS OF BULK AT MOST 1048576: true; the input reads as it did. -/
def certBackUptoRow : OpenClaim := { program := "ytleihjegenjacaagreat", sum := "d195af2757b981a97c1786e3196a3c827dd283da291611c9d5a7dc6b658fa150", func := "inquest/inquestlaw27.CertBack", spec := "certBack", unfollowed := true, recurses := true, apart := false, narrowed := true }
def CertBackUptoSaid : Prop := certBackUptoRow.holds Tryz.pinned (OpenSpec.upto certBackSpec)

/-- 'inquestlaw27.CertOrders', WHERE WHAT IT READS IS OF BULK AT MOST 1048576: true; the input reads as it did. -/
def certOrdersUptoRow : OpenClaim := { program := "ytleihjegenjacaagreat", sum := "d195af2757b981a97c1786e3196a3c827dd283da291611c9d5a7dc6b658fa150", func := "inquest/inquestlaw27.CertOrders", spec := "certOrders", unfollowed := true, recurses := true, apart := false, narrowed := true }
def CertOrdersUptoSaid : Prop := certOrdersUptoRow.holds Tryz.pinned (OpenSpec.upto certOrdersSpec)

end Rows
end Go.Proofs.YtleihjegenjacaaGreat
