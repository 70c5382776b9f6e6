/- What the functions compute, as plain functions. -/
import Derived.Test.YtleihjegenjacaaGreatBase1
import Derived.Test.YtleihjegenjacaaGreatBase2
set_option linter.unusedSimpArgs false
set_option linter.unusedVariables false
section
/- The plain types. -/
open Go Go.Av
namespace G
structure api_Choice where
  Key : Int
  A : Int
  B : Int
  deriving DecidableEq, Inhabited
def api_Choice.av (x : api_Choice) : AV := .agg [i64 x.Key, i64 x.A, i64 x.B]
@[simp] theorem api_Choice.noid (x : api_Choice) : NoId (api_Choice.av x) := by simp [api_Choice.av]
@[simp] theorem api_Choice.solid (x : api_Choice) : AV.solid (api_Choice.av x) = true := rfl
@[simp] theorem api_Choice.dry (x : api_Choice) : Dry (api_Choice.av x) := by simp [api_Choice.av]
@[simp] theorem api_Choice.flat (x : api_Choice) : (api_Choice.av x).flat.length = 3 := rfl
structure api_Take where
  Key : Int
  From : Int
  deriving DecidableEq, Inhabited
def api_Take.av (x : api_Take) : AV := .agg [i64 x.Key, i64 x.From]
@[simp] theorem api_Take.noid (x : api_Take) : NoId (api_Take.av x) := by simp [api_Take.av]
@[simp] theorem api_Take.solid (x : api_Take) : AV.solid (api_Take.av x) = true := rfl
@[simp] theorem api_Take.dry (x : api_Take) : Dry (api_Take.av x) := by simp [api_Take.av]
@[simp] theorem api_Take.flat (x : api_Take) : (api_Take.av x).flat.length = 2 := rfl
structure api_Txn where
  Session : Int
  Writes : List Int
  Reads : List G.api_Take
  deriving DecidableEq, Inhabited
def api_Txn.av (x : api_Txn) : AV := .agg [i64 x.Session, .sl (List.map i64 x.Writes), .sl (List.map G.api_Take.av x.Reads)]
@[simp] theorem api_Txn.noid (x : api_Txn) : NoId (api_Txn.av x) := by simp [api_Txn.av]
@[simp] theorem api_Txn.solid (x : api_Txn) : AV.solid (api_Txn.av x) = true := rfl
@[simp] theorem api_Txn.flat (x : api_Txn) : (api_Txn.av x).flat.length = 3 := rfl
structure api_Hist where
  Txns : List G.api_Txn
  deriving DecidableEq, Inhabited
def api_Hist.av (x : api_Hist) : AV := .agg [.sl (List.map G.api_Txn.av x.Txns)]
@[simp] theorem api_Hist.noid (x : api_Hist) : NoId (api_Hist.av x) := by simp [api_Hist.av]
@[simp] theorem api_Hist.solid (x : api_Hist) : AV.solid (api_Hist.av x) = true := rfl
@[simp] theorem api_Hist.flat (x : api_Hist) : (api_Hist.av x).flat.length = 1 := rfl
structure si_Row where
  Key : Int
  L : List Int
  deriving DecidableEq, Inhabited
def si_Row.av (x : si_Row) : AV := .agg [i64 x.Key, .sl (List.map i64 x.L)]
@[simp] theorem si_Row.noid (x : si_Row) : NoId (si_Row.av x) := by simp [si_Row.av]
@[simp] theorem si_Row.solid (x : si_Row) : AV.solid (si_Row.av x) = true := rfl
@[simp] theorem si_Row.flat (x : si_Row) : (si_Row.av x).flat.length = 2 := rfl
structure refute_Node where
  C : G.api_Choice
  Cycle : List Int
  deriving DecidableEq, Inhabited
def refute_Node.av (x : refute_Node) : AV := .agg [i64 x.C.Key, i64 x.C.A, i64 x.C.B, .sl (List.map i64 x.Cycle)]
@[simp] theorem refute_Node.noid (x : refute_Node) : NoId (refute_Node.av x) := by simp [refute_Node.av]
@[simp] theorem refute_Node.solid (x : refute_Node) : AV.solid (refute_Node.av x) = true := rfl
@[simp] theorem refute_Node.flat (x : refute_Node) : (refute_Node.av x).flat.length = 4 := rfl
structure cert_Cert where
  Level : Int
  Yes : Bool
  Order : List Int
  Rows : List G.si_Row
  Tree : List G.refute_Node
  deriving DecidableEq, Inhabited
def cert_Cert.av (x : cert_Cert) : AV := .agg [i64 x.Level, bl x.Yes, .sl (List.map i64 x.Order), .sl (List.map G.si_Row.av x.Rows), .sl (List.map G.refute_Node.av x.Tree)]
@[simp] theorem cert_Cert.noid (x : cert_Cert) : NoId (cert_Cert.av x) := by simp [cert_Cert.av]
@[simp] theorem cert_Cert.solid (x : cert_Cert) : AV.solid (cert_Cert.av x) = true := rfl
@[simp] theorem cert_Cert.flat (x : cert_Cert) : (cert_Cert.av x).flat.length = 5 := rfl
structure inquestref21_R where
  Key : Int
  L : List Int
  deriving DecidableEq, Inhabited
def inquestref21_R.av (x : inquestref21_R) : AV := .agg [i64 x.Key, .sl (List.map i64 x.L)]
@[simp] theorem inquestref21_R.noid (x : inquestref21_R) : NoId (inquestref21_R.av x) := by simp [inquestref21_R.av]
@[simp] theorem inquestref21_R.solid (x : inquestref21_R) : AV.solid (inquestref21_R.av x) = true := rfl
@[simp] theorem inquestref21_R.flat (x : inquestref21_R) : (inquestref21_R.av x).flat.length = 2 := rfl
structure inquestref24_N where
  C : G.api_Choice
  Cycle : List Int
  deriving DecidableEq, Inhabited
def inquestref24_N.av (x : inquestref24_N) : AV := .agg [i64 x.C.Key, i64 x.C.A, i64 x.C.B, .sl (List.map i64 x.Cycle)]
@[simp] theorem inquestref24_N.noid (x : inquestref24_N) : NoId (inquestref24_N.av x) := by simp [inquestref24_N.av]
@[simp] theorem inquestref24_N.solid (x : inquestref24_N) : AV.solid (inquestref24_N.av x) = true := rfl
@[simp] theorem inquestref24_N.flat (x : inquestref24_N) : (inquestref24_N.av x).flat.length = 4 := rfl
structure inquestref27_C where
  Level : Int
  Yes : Bool
  Order : List Int
  Rows : List G.inquestref21_R
  Tree : List G.inquestref24_N
  deriving DecidableEq, Inhabited
def inquestref27_C.av (x : inquestref27_C) : AV := .agg [i64 x.Level, bl x.Yes, .sl (List.map i64 x.Order), .sl (List.map G.inquestref21_R.av x.Rows), .sl (List.map G.inquestref24_N.av x.Tree)]
@[simp] theorem inquestref27_C.noid (x : inquestref27_C) : NoId (inquestref27_C.av x) := by simp [inquestref27_C.av]
@[simp] theorem inquestref27_C.solid (x : inquestref27_C) : AV.solid (inquestref27_C.av x) = true := rfl
@[simp] theorem inquestref27_C.flat (x : inquestref27_C) : (inquestref27_C.av x).flat.length = 5 := rfl
structure refute_reader where
  left : List G.refute_Node
  deriving DecidableEq, Inhabited
def refute_reader.av (x : refute_reader) : AV := .agg [.sl (List.map G.refute_Node.av x.left)]
@[simp] theorem refute_reader.noid (x : refute_reader) : NoId (refute_reader.av x) := by simp [refute_reader.av]
@[simp] theorem refute_reader.solid (x : refute_reader) : AV.solid (refute_reader.av x) = true := rfl
@[simp] theorem refute_reader.flat (x : refute_reader) : (refute_reader.av x).flat.length = 1 := rfl
end G
end

section
/- What the functions of a package compute, as plain functions. -/
open Go Go.Av
set_option linter.unusedVariables false
namespace G
def pack_groups (n_0 : Int) : Option (Unit) :=
  some ()

def pack_Put__r (l_0 : List Int) (y_1 : Int) : Option ((List Int)) :=
  (Sh.app 1 l_0 [y_1]).bind fun l3 =>
  some l3

def pack_groups_1__pack_Put__r_j1 (v29 : List Int) (v30 : Int) : Option ((List Int)) :=
  (G.pack_Put__r v29 (IntKind.u8.wrap v30)).bind fun y31 =>
  some y31

def pack_groups_1__pack_Put__r_b1 (c40 : List Int) (v41 : Int) : Option (((List Int) × Int) ⊕ ((List Int))) :=
  if decide ((128 : Int) ≤ v41) then
    (Sh.rem v41 128).bind fun q47 =>
    (G.pack_Put__r c40 (Sh.bor .u8 (IntKind.u8.wrap q47) 128)).bind fun y48 =>
    (Sh.ishr .i64 v41 ((7#64).toNat : Int)).bind fun s49 =>
    Sh.next (y48, s49)
  else
    Sh.exit (G.pack_groups_1__pack_Put__r_j1 c40 v41)

def pack_groups_1__pack_Put__r (l_0 : List Int) (c_1 : Int) : Option ((List Int)) :=
  Sh.loop (fun (p : (List Int) × Int) => G.pack_groups_1__pack_Put__r_b1 p.1 p.2) (l_0, c_1)

def pack_Put__r_2 (l_0 : List Int) (y_1 : Int) : Option ((List Int)) :=
  (Sh.app 1 l_0 [y_1]).bind fun l3 =>
  some l3

def pack_groups_1__pack_Put__r_2_j1 (v29 : List Int) (v30 : Int) : Option ((List Int)) :=
  (G.pack_Put__r_2 v29 (IntKind.u8.wrap v30)).bind fun y31 =>
  some y31

def pack_groups_1__pack_Put__r_2_b1 (c40 : List Int) (v41 : Int) : Option (((List Int) × Int) ⊕ ((List Int))) :=
  if decide ((128 : Int) ≤ v41) then
    (Sh.rem v41 128).bind fun q47 =>
    (G.pack_Put__r_2 c40 (Sh.bor .u8 (IntKind.u8.wrap q47) 128)).bind fun y48 =>
    (Sh.ishr .i64 v41 ((7#64).toNat : Int)).bind fun s49 =>
    Sh.next (y48, s49)
  else
    Sh.exit (G.pack_groups_1__pack_Put__r_2_j1 c40 v41)

def pack_groups_1__pack_Put__r_2 (l_0 : List Int) (c_1 : Int) : Option ((List Int)) :=
  Sh.loop (fun (p : (List Int) × Int) => G.pack_groups_1__pack_Put__r_2_b1 p.1 p.2) (l_0, c_1)

def pack_Put_j1 (v62 : List Int) : Option ((List UInt8) × Int) :=
  some (Sh.str v62, 0)

def pack_Put_j2 (out79 : List Int) (v80 : Int) (x91 : Int) (v96 : Bool) : Option (((List Int) × Int) ⊕ ((List UInt8) × Int)) :=
  if v96 then
    Sh.exit (some ([], 1))
  else
    (G.pack_groups (w64 (x91 + 1))).bind fun r99 =>
    (G.pack_groups_1__pack_Put__r_2 out79 (w64 (x91 + 1))).bind fun it100 =>
    Sh.next (it100, w64 (v80 + 1))

def pack_Put_b1 (l_0 : List Int) (out79 : List Int) (v80 : Int) : Option (((List Int) × Int) ⊕ ((List UInt8) × Int)) :=
  if decide (v80 < (Sh.len l_0)) then
    (Sh.idx l_0 v80).bind fun x91 =>
    if decide (x91 < (-1)) then
      G.pack_Put_j2 out79 v80 x91 true
    else
      G.pack_Put_j2 out79 v80 x91 (decide ((2147483647 : Int) < x91))
  else
    Sh.exit (G.pack_Put_j1 out79)

def pack_Put (l_0 : List Int) : Option ((List UInt8) × Int) :=
  if decide ((100000 : Int) < (Sh.len l_0)) then
    some ([], 4)
  else
    (G.pack_groups (Sh.len l_0)).bind fun r34 =>
    (G.pack_groups_1__pack_Put__r [] (Sh.len l_0)).bind fun it35 =>
    Sh.loop (fun (p : (List Int) × Int) => G.pack_Put_b1 l_0 p.1 p.2) (it35, 0)

def pack_next_j1 : Option (Int × (List UInt8) × Int) :=
  some (0, [], 2)

def pack_next_j2 (s_0 : List UInt8) (n63 : Int) (i65 : Int) (s79 : Int) (v91 : Bool) : Option ((Int × Int) ⊕ (Int × (List UInt8) × Int)) :=
  if v91 then
    Sh.exit (some (0, [], 2))
  else
    (Sh.sub s_0 (w64 (i65 + 1)) (Sh.len s_0)).bind fun part94 =>
    Sh.exit (some (Sh.bor .i64 n63 s79, part94, 0))

def pack_next_b1 (s_0 : List UInt8) (most_1 : Int) (n63 : Int) (i65 : Int) : Option ((Int × Int) ⊕ (Int × (List UInt8) × Int)) :=
  if decide (i65 < 5) then
    if decide (i65 = (Sh.len s_0)) then
      Sh.exit (some (0, [], 16))
    else
      (Sh.idx s_0 i65).bind fun x78 =>
      (Sh.ishl .i64 (w64 (Sh.band .u8 ((x78).toNat : Int) 127)) (w64 (7 * i65))).bind fun s79 =>
      (Sh.idx s_0 i65).bind fun x82 =>
      if decide ((128 : Int) ≤ ((x82).toNat : Int)) then
        Sh.next (Sh.bor .i64 n63 s79, w64 (i65 + 1))
      else
        if decide ((0 : Int) < i65) then
          (Sh.idx s_0 i65).bind fun x96 =>
          if decide (((x96).toNat : Int) = 0) then
            G.pack_next_j2 s_0 n63 i65 s79 true
          else
            G.pack_next_j2 s_0 n63 i65 s79 (decide (most_1 < (Sh.bor .i64 n63 s79)))
        else
          G.pack_next_j2 s_0 n63 i65 s79 (decide (most_1 < (Sh.bor .i64 n63 s79)))
  else
    Sh.exit (G.pack_next_j1)

def pack_next (s_0 : List UInt8) (most_1 : Int) : Option (Int × (List UInt8) × Int) :=
  Sh.loop (fun (p : Int × Int) => G.pack_next_b1 s_0 most_1 p.1 p.2) (0, 0)

def pack_Get_j1 (s29 : List UInt8) (out30 : List Int) : Option ((List Int) × Int) :=
  if !decide (s29 = []) then
    some ([], 2)
  else
    some (out30, 0)

def pack_Get_b1 (r15 : Int × (List UInt8) × Int) (s39 : List UInt8) (out40 : List Int) (v41 : Int) : Option (((List UInt8) × (List Int) × Int) ⊕ ((List Int) × Int)) :=
  if decide (v41 < r15.1) then
    (G.pack_next s39 2147483648).bind fun r46 =>
    if decide (r46.2.2 ≠ 0) then
      Sh.exit (some ([], r46.2.2))
    else
      (Sh.app 8 out40 [w64 (r46.1 - 1)]).bind fun out48 =>
      Sh.next (r46.2.1, out48, w64 (v41 + 1))
  else
    Sh.exit (G.pack_Get_j1 s39 out40)

def pack_Get (s_0 : List UInt8) : Option ((List Int) × Int) :=
  (G.pack_next s_0 100000).bind fun r15 =>
  if decide (r15.2.2 ≠ 0) then
    some ([], r15.2.2)
  else
    Sh.loop (fun (p : (List UInt8) × (List Int) × Int) => G.pack_Get_b1 r15 p.1 p.2.1 p.2.2) (r15.2.1, [], 0)
end G
end

section
/- What the functions of a package compute, as plain functions. -/
open Go Go.Av
set_option linter.unusedVariables false
namespace G
def refute_reader_next__1 (c_0 : G.refute_reader) : Option (G.refute_Node × G.refute_reader) :=
  if decide ((Sh.len c_0.left) = 0) then
    none
  else
    (Sh.idx c_0.left 0).bind fun x9 =>
    (Sh.sub c_0.left 1 (Sh.len c_0.left)).bind fun part12 =>
    some (x9, (G.refute_reader.mk part12))

def refute_reader_shape__1_step (self : G.refute_reader → Option (G.refute_reader × Int × Int)) (c_0 : G.refute_reader) : Option (G.refute_reader × Int × Int) :=
  (G.refute_reader_next__1 c_0).bind fun r17 =>
  if decide ((0 : Int) < (Sh.len r17.1.Cycle)) then
    some (r17.2, 1, 0)
  else
    (self r17.2).bind fun r20 =>
    (self r20.1).bind fun r22 =>
    some (r22.1, w64 (r20.2.1 + r22.2.1), w64 (1 + (Sh.max r20.2.2 r22.2.2)))

def refute_reader_shape__1_n : Nat → G.refute_reader → Option (G.refute_reader × Int × Int)
  | 0 => fun _ => none
  | n + 1 => G.refute_reader_shape__1_step (refute_reader_shape__1_n n)

def refute_reader_end__1 (c_0 : G.refute_reader) : Option (Unit) :=
  if decide ((0 : Int) < (Sh.len c_0.left)) then
    none
  else
    some ()

def refute_Shape (tree_0 : List G.refute_Node) : Option (Int × Int × Bool) :=
  some (match G.refute_reader_shape__1_n (tree_0.length + 1) (G.refute_reader.mk tree_0) with
    | some r => if decide ((0 : Int) < Sh.len r.1.left) then (0, 0, false) else (r.2.1, r.2.2, true)
    | none => (0, 0, false))

def refute_Check__c_2 (h_0 : G.api_Hist) : Option (Bool) :=
  (G.refute_Shape []).bind fun r4 =>
  some false
end G
end

section
/- What the functions of a package compute, as plain functions. -/
open Go Go.Av
set_option linter.unusedVariables false
namespace G
def slices_Index_int_int_j1 : Option (Int) :=
  some (-1)

def slices_Index_int_int_b1 (s_0 : List Int) (v_1 : Int) (v22 : Int) : Option ((Int) ⊕ (Int)) :=
  if decide (v22 < (Sh.len s_0)) then
    (Sh.idx s_0 v22).bind fun x28 =>
    if decide (v_1 = x28) then
      Sh.exit (some v22)
    else
      Sh.next (w64 (v22 + 1))
  else
    Sh.exit (G.slices_Index_int_int_j1)

def slices_Index_int_int (s_0 : List Int) (v_1 : Int) : Option (Int) :=
  Sh.loop (fun (p : Int) => G.slices_Index_int_int_b1 s_0 v_1 p) 0

def slices_Contains_int_int (s_0 : List Int) (v_1 : Int) : Option (Bool) :=
  (G.slices_Index_int_int s_0 v_1).bind fun r3 =>
  some (decide ((0 : Int) ≤ r3))

def slices_Clone_int_int (s_0 : List Int) : Option (List Int) := Sh.app 8 [] s_0

def slices_Equal_api_Take_api_Take_j1 : Option (Bool) :=
  some true

def slices_Equal_api_Take_api_Take_b1 (s1_0 : List G.api_Take) (s2_1 : List G.api_Take) (v39 : Int) : Option ((Int) ⊕ (Bool)) :=
  if decide (v39 < (Sh.len s1_0)) then
    (Sh.idx s1_0 v39).bind fun x49 =>
    (Sh.idx s2_1 v39).bind fun x51 =>
    if !decide (x49 = x51) then
      Sh.exit (some false)
    else
      Sh.next (w64 (v39 + 1))
  else
    Sh.exit (G.slices_Equal_api_Take_api_Take_j1)

def slices_Equal_api_Take_api_Take (s1_0 : List G.api_Take) (s2_1 : List G.api_Take) : Option (Bool) :=
  if decide ((Sh.len s1_0) ≠ (Sh.len s2_1)) then
    some false
  else
    Sh.loop (fun (p : Int) => G.slices_Equal_api_Take_api_Take_b1 s1_0 s2_1 p) 0
end G
end

section
/- What the functions of a package compute, as plain functions. -/
open Go Go.Av
set_option linter.unusedVariables false
namespace G
def hist_faults (h_0 : G.api_Hist) : Option (Unit) :=
  some ()

def hist_Right__r (c_0 : Bool) (y_1 : Bool) : Option (Bool × Bool) :=
  if !y_1 then
    some (false, false)
  else
    some (c_0, true)

def hist_faults_1__hist_Right__r_j1 (v523 : Int) (c625 : Bool) : Option ((Bool × Int) ⊕ (Bool × Bool)) :=
  Sh.next (c625, w64 (v523 + 1))

def hist_faults_1__hist_Right__r_j3 (v523 : Int) (x628 : G.api_Txn) (v724 : Bool) : Option ((Bool × Int) ⊕ (Bool × Bool)) :=
  if decide ((0 : Int) ≤ x628.Session) then
    (G.hist_Right__r v724 (decide (x628.Session < 8))).bind fun y731 =>
    if y731.2 then
      G.hist_faults_1__hist_Right__r_j1 v523 y731.1
    else
      Sh.exit (some (y731.1, false))
  else
    (G.hist_Right__r v724 false).bind fun y733 =>
    if y733.2 then
      G.hist_faults_1__hist_Right__r_j1 v523 y733.1
    else
      Sh.exit (some (y733.1, false))

def hist_faults_1__hist_Right__r_j5 (v778 : Int) (x801 : G.api_Take) (c819 : Bool) : Option ((Bool × Int × Int) ⊕ ((Bool × Int) ⊕ (Bool × Bool))) :=
  Sh.next (c819, x801.Key, w64 (v778 + 1))

def hist_faults_1__hist_Right__r_j4 (c776 : Bool) (last777 : Int) (v778 : Int) (x801 : G.api_Take) (there810 : Bool) : Option ((Bool × Int × Int) ⊕ ((Bool × Int) ⊕ (Bool × Bool))) :=
  if decide (last777 < x801.Key) then
    if decide (x801.Key < 16) then
      (G.hist_Right__r c776 there810).bind fun y830 =>
      if y830.2 then
        G.hist_faults_1__hist_Right__r_j5 v778 x801 y830.1
      else
        Sh.exit (Sh.exit (some (y830.1, false)))
    else
      (G.hist_Right__r c776 false).bind fun y832 =>
      if y832.2 then
        G.hist_faults_1__hist_Right__r_j5 v778 x801 y832.1
      else
        Sh.exit (Sh.exit (some (y832.1, false)))
  else
    (G.hist_Right__r c776 false).bind fun y834 =>
    if y834.2 then
      G.hist_faults_1__hist_Right__r_j5 v778 x801 y834.1
    else
      Sh.exit (Sh.exit (some (y834.1, false)))

def hist_faults_1__hist_Right__r_b2 (c_1 : G.api_Hist) (v523 : Int) (x628 : G.api_Txn) (c776 : Bool) (last777 : Int) (v778 : Int) : Option ((Bool × Int × Int) ⊕ ((Bool × Int) ⊕ (Bool × Bool))) :=
  if decide (v778 < (Sh.len x628.Reads)) then
    (Sh.idx x628.Reads v778).bind fun x801 =>
    if decide (x801.From = (-1)) then
      G.hist_faults_1__hist_Right__r_j4 c776 last777 v778 x801 true
    else
      if decide ((0 : Int) ≤ x801.From) then
        if decide (x801.From < (Sh.len c_1.Txns)) then
          if decide (x801.From ≠ v523) then
            (Sh.idx c_1.Txns x801.From).bind fun x840 =>
            (G.slices_Contains_int_int x840.Writes x801.Key).bind fun r842 =>
            G.hist_faults_1__hist_Right__r_j4 c776 last777 v778 x801 r842
          else
            G.hist_faults_1__hist_Right__r_j4 c776 last777 v778 x801 false
        else
          G.hist_faults_1__hist_Right__r_j4 c776 last777 v778 x801 false
      else
        G.hist_faults_1__hist_Right__r_j4 c776 last777 v778 x801 false
  else
    Sh.exit (G.hist_faults_1__hist_Right__r_j3 v523 x628 c776)

def hist_faults_1__hist_Right__r_j2 (c_1 : G.api_Hist) (v523 : Int) (x628 : G.api_Txn) (v660 : Bool) : Option ((Bool × Int) ⊕ (Bool × Bool)) :=
  Sh.loop (fun (p : Bool × Int × Int) => G.hist_faults_1__hist_Right__r_b2 c_1 v523 x628 p.1 p.2.1 p.2.2) (v660, (-1), 0)

def hist_faults_1__hist_Right__r_j6 (v864 : Int) (x876 : Int) (c883 : Bool) : Option ((Bool × Int × Int) ⊕ ((Bool × Int) ⊕ (Bool × Bool))) :=
  Sh.next (c883, x876, w64 (v864 + 1))

def hist_faults_1__hist_Right__r_b3 (c_1 : G.api_Hist) (v523 : Int) (x628 : G.api_Txn) (c862 : Bool) (last863 : Int) (v864 : Int) : Option ((Bool × Int × Int) ⊕ ((Bool × Int) ⊕ (Bool × Bool))) :=
  if decide (v864 < (Sh.len x628.Writes)) then
    (Sh.idx x628.Writes v864).bind fun x876 =>
    if decide (last863 < x876) then
      (G.hist_Right__r c862 (decide (x876 < 16))).bind fun y890 =>
      if y890.2 then
        G.hist_faults_1__hist_Right__r_j6 v864 x876 y890.1
      else
        Sh.exit (Sh.exit (some (y890.1, false)))
    else
      (G.hist_Right__r c862 false).bind fun y892 =>
      if y892.2 then
        G.hist_faults_1__hist_Right__r_j6 v864 x876 y892.1
      else
        Sh.exit (Sh.exit (some (y892.1, false)))
  else
    Sh.exit (G.hist_faults_1__hist_Right__r_j2 c_1 v523 x628 c862)

def hist_faults_1__hist_Right__r_b1 (c_1 : G.api_Hist) (c522 : Bool) (v523 : Int) : Option ((Bool × Int) ⊕ (Bool × Bool)) :=
  if decide (v523 < (Sh.len c_1.Txns)) then
    (Sh.idx c_1.Txns v523).bind fun x628 =>
    Sh.loop (fun (p : Bool × Int × Int) => G.hist_faults_1__hist_Right__r_b3 c_1 v523 x628 p.1 p.2.1 p.2.2) (c522, (-1), 0)
  else
    Sh.exit (some (c522, true))

def hist_faults_1__hist_Right__r (c_0 : Bool) (c_1 : G.api_Hist) : Option (Bool × Bool) :=
  (G.hist_Right__r c_0 (decide ((Sh.len c_1.Txns) ≤ 32))).bind fun y316 =>
  if y316.2 then
    Sh.loop (fun (p : Bool × Int) => G.hist_faults_1__hist_Right__r_b1 c_1 p.1 p.2) (y316.1, 0)
  else
    some (y316.1, false)

def hist_Right (h_0 : G.api_Hist) : Option (Bool) :=
  (G.hist_faults h_0).bind fun r8 =>
  (G.hist_faults_1__hist_Right__r false h_0).bind fun it9 =>
  if it9.2 then
    some true
  else
    some it9.1
end G
end

section
/- What the functions of a package compute, as plain functions. -/
open Go Go.Av
set_option linter.unusedVariables false
namespace G
def ser_right_j2 : Option (Bool) :=
  some true

def ser_right_j3 (seen93 : List Bool) (v94 : Int) (x107 : Int) (v118 : Bool) : Option (((List Bool) × Int) ⊕ (Bool)) :=
  if v118 then
    Sh.exit (some false)
  else
    (Sh.aidx 32 seen93 x107).bind fun x120 =>
    Sh.next (Sh.set seen93 x107 true, w64 (v94 + 1))

def ser_right_b1 (order_1 : List Int) (seen93 : List Bool) (v94 : Int) : Option (((List Bool) × Int) ⊕ (Bool)) :=
  if decide (v94 < (Sh.len order_1)) then
    (Sh.idx order_1 v94).bind fun x107 =>
    if decide (x107 < 0) then
      G.ser_right_j3 seen93 v94 x107 true
    else
      if decide ((Sh.len order_1) ≤ x107) then
        G.ser_right_j3 seen93 v94 x107 true
      else
        (Sh.aidx 32 seen93 x107).bind fun x124 =>
        G.ser_right_j3 seen93 v94 x107 x124
  else
    Sh.exit (G.ser_right_j2)

def ser_right_j1 (order_1 : List Int) (v40 : Bool) : Option (Bool) :=
  if v40 then
    some false
  else
    Sh.loop (fun (p : (List Bool) × Int) => G.ser_right_b1 order_1 p.1 p.2) ((List.replicate 32 false), 0)

def ser_right (h_0 : G.api_Hist) (order_1 : List Int) : Option (Bool) :=
  (G.hist_Right h_0).bind fun r126 =>
  if !r126 then
    G.ser_right_j1 order_1 true
  else
    G.ser_right_j1 order_1 (decide ((Sh.len order_1) ≠ (Sh.len h_0.Txns)))

def ser_Play_j1 (out339 : List (List G.api_Take)) : Option ((List (List G.api_Take))) :=
  some out339

def ser_Play_j2 (v451 : Int) (out506 : List (List G.api_Take)) (v507 : List Int) : Option (((List Int) × (List (List G.api_Take)) × Int) ⊕ ((List (List G.api_Take)))) :=
  Sh.next (v507, out506, w64 (v451 + 1))

def ser_Play_b2 (v451 : Int) (x510 : Int) (out545 : List (List G.api_Take)) (x548 : G.api_Txn) (last560 : List Int) (v561 : Int) : Option (((List Int) × Int) ⊕ (((List Int) × (List (List G.api_Take)) × Int) ⊕ ((List (List G.api_Take))))) :=
  if decide (v561 < (Sh.len x548.Writes)) then
    (Sh.idx x548.Writes v561).bind fun x569 =>
    (Sh.aidx 16 last560 x569).bind fun x571 =>
    Sh.next (Sh.set last560 x569 (w64 (x510 + 1)), w64 (v561 + 1))
  else
    Sh.exit (G.ser_Play_j2 v451 out545 last560)

def ser_Play_j3 (h_0 : G.api_Hist) (last449 : List Int) (v451 : Int) (x510 : Int) (out545 : List (List G.api_Take)) : Option (((List Int) × (List (List G.api_Take)) × Int) ⊕ ((List (List G.api_Take)))) :=
  (Sh.idx h_0.Txns x510).bind fun x548 =>
  Sh.loop (fun (p : (List Int) × Int) => G.ser_Play_b2 v451 x510 out545 x548 p.1 p.2) (last449, 0)

def ser_Play_b3 (h_0 : G.api_Hist) (last449 : List Int) (v451 : Int) (x510 : Int) (x575 : G.api_Txn) (out597 : List (List G.api_Take)) (v598 : Int) : Option (((List (List G.api_Take)) × Int) ⊕ (((List Int) × (List (List G.api_Take)) × Int) ⊕ ((List (List G.api_Take))))) :=
  if decide (v598 < (Sh.len x575.Reads)) then
    (Sh.idx x575.Reads v598).bind fun x611 =>
    (Sh.idx out597 x510).bind fun x613 =>
    (Sh.aidx 16 last449 x611.Key).bind fun x615 =>
    (Sh.app 16 x613 ([(G.api_Take.mk x611.Key (w64 (x615 - 1)))] : List G.api_Take)).bind fun l617 =>
    (Sh.idx out597 x510).bind fun x618 =>
    Sh.next (Sh.set out597 x510 l617, w64 (v598 + 1))
  else
    Sh.exit (G.ser_Play_j3 h_0 last449 v451 x510 out597)

def ser_Play_b1 (h_0 : G.api_Hist) (order_1 : List Int) (last449 : List Int) (out450 : List (List G.api_Take)) (v451 : Int) : Option (((List Int) × (List (List G.api_Take)) × Int) ⊕ ((List (List G.api_Take)))) :=
  if decide (v451 < (Sh.len order_1)) then
    (Sh.idx order_1 v451).bind fun x510 =>
    (Sh.idx h_0.Txns x510).bind fun x575 =>
    Sh.loop (fun (p : (List (List G.api_Take)) × Int) => G.ser_Play_b3 h_0 last449 v451 x510 x575 p.1 p.2) (out450, 0)
  else
    Sh.exit (G.ser_Play_j1 out450)

def ser_Play (h_0 : G.api_Hist) (order_1 : List Int) : Option ((List (List G.api_Take))) :=
  (G.ser_right h_0 order_1).bind fun r170 =>
  if !r170 then
    some []
  else
    (Sh.mk 24 (Sh.len order_1) (Sh.len order_1) []).bind fun made173 =>
    Sh.loop (fun (p : (List Int) × (List (List G.api_Take)) × Int) => G.ser_Play_b1 h_0 order_1 p.1 p.2.1 p.2.2) ((List.replicate 16 0), made173, 0)

def ser_Check_j2 : Option (Bool) :=
  some true

def ser_Check_b1 (h_0 : G.api_Hist) (order_1 : List Int) (last116 : List Int) (v117 : Int) : Option (((List Int) × Int) ⊕ (Bool)) :=
  if decide (v117 < (Sh.len order_1)) then
    (Sh.idx order_1 v117).bind fun x129 =>
    (Sh.idx h_0.Txns x129).bind fun x133 =>
    (Sh.aidx 8 last116 x133.Session).bind fun x139 =>
    if decide (x129 < x139) then
      Sh.exit (some false)
    else
      (Sh.aidx 8 last116 x133.Session).bind fun x142 =>
      Sh.next (Sh.set last116 x133.Session (w64 (x129 + 1)), w64 (v117 + 1))
  else
    Sh.exit (G.ser_Check_j2)

def ser_Check_j1 (h_0 : G.api_Hist) (order_1 : List Int) : Option (Bool) :=
  Sh.loop (fun (p : (List Int) × Int) => G.ser_Check_b1 h_0 order_1 p.1 p.2) ((List.replicate 8 0), 0)

def ser_Check_b2 (h_0 : G.api_Hist) (order_1 : List Int) (r145 : (List (List G.api_Take))) (v157 : Int) : Option ((Int) ⊕ (Bool)) :=
  if decide (v157 < (Sh.len r145)) then
    (Sh.idx r145 v157).bind fun x166 =>
    (Sh.idx h_0.Txns v157).bind fun x171 =>
    (G.slices_Equal_api_Take_api_Take x166 x171.Reads).bind fun r173 =>
    if !r173 then
      Sh.exit (some false)
    else
      Sh.next (w64 (v157 + 1))
  else
    Sh.exit (G.ser_Check_j1 h_0 order_1)

def ser_Check (h_0 : G.api_Hist) (order_1 : List Int) : Option (Bool) :=
  (G.ser_right h_0 order_1).bind fun r50 =>
  if !r50 then
    some false
  else
    (G.ser_Play h_0 order_1).bind fun r145 =>
    Sh.loop (fun (p : Int) => G.ser_Check_b2 h_0 order_1 r145 p) 0
end G
end

section
/- What the functions of a package compute, as plain functions. -/
open Go Go.Av
set_option linter.unusedVariables false
namespace G
def cert_Put_1__1 (l_0 : List Int) (l_1 : List Int) : Option ((List Int)) :=
  (Sh.app 8 l_1 [Sh.len l_0]).bind fun l4 =>
  (Sh.app 8 l4 l_0).bind fun l5 =>
  some l5

def cert_Put_j3 (v81 : List Int) : Option ((List UInt8) × Int) :=
  (G.pack_Put v81).bind fun r83 =>
  some (r83.1, r83.2)

def cert_Put_b1 (c_0 : G.cert_Cert) (out94 : List Int) (v95 : Int) : Option (((List Int) × Int) ⊕ ((List UInt8) × Int)) :=
  if decide (v95 < (Sh.len c_0.Tree)) then
    (Sh.idx c_0.Tree v95).bind fun x103 =>
    (Sh.app 8 out94 [x103.C.Key, x103.C.A, x103.C.B]).bind fun l106 =>
    (G.cert_Put_1__1 x103.Cycle l106).bind fun r107 =>
    Sh.next (r107, w64 (v95 + 1))
  else
    Sh.exit (G.cert_Put_j3 out94)

def cert_Put_j2 (c_0 : G.cert_Cert) (v62 : List Int) : Option ((List UInt8) × Int) :=
  (Sh.app 8 v62 [Sh.len c_0.Tree]).bind fun l64 =>
  Sh.loop (fun (p : (List Int) × Int) => G.cert_Put_b1 c_0 p.1 p.2) (l64, 0)

def cert_Put_b2 (c_0 : G.cert_Cert) (out118 : List Int) (v119 : Int) : Option (((List Int) × Int) ⊕ ((List UInt8) × Int)) :=
  if decide (v119 < (Sh.len c_0.Rows)) then
    (Sh.idx c_0.Rows v119).bind fun x127 =>
    (Sh.app 8 out118 [x127.Key]).bind fun l130 =>
    (G.cert_Put_1__1 x127.L l130).bind fun r131 =>
    Sh.next (r131, w64 (v119 + 1))
  else
    Sh.exit (G.cert_Put_j2 c_0 out118)

def cert_Put_j1 (c_0 : G.cert_Cert) (yes39 : Int) : Option ((List UInt8) × Int) :=
  (Sh.app 8 [] [c_0.Level, yes39]).bind fun l41 =>
  (G.cert_Put_1__1 c_0.Order l41).bind fun r43 =>
  (Sh.app 8 r43 [Sh.len c_0.Rows]).bind fun l45 =>
  Sh.loop (fun (p : (List Int) × Int) => G.cert_Put_b2 c_0 p.1 p.2) (l45, 0)

def cert_Put (c_0 : G.cert_Cert) : Option ((List UInt8) × Int) :=
  if c_0.Yes then
    G.cert_Put_j1 c_0 1
  else
    G.cert_Put_j1 c_0 0

def cert_Get_1__1 (c_0 : List Int) (c_1 : Bool) : Option ((List Int) × Bool × Int) :=
  if decide ((Sh.len c_0) = 0) then
    some (c_0, false, 0)
  else
    (Sh.idx c_0 0).bind fun x10 =>
    (Sh.sub c_0 1 (Sh.len c_0)).bind fun part13 =>
    some (part13, c_1, x10)

def cert_Get_2__1_j1 (r8 : (List Int) × Bool × Int) (c10 : Bool) : Option (Int × Bool × (List Int)) :=
  some (r8.2.2, c10, r8.1)

def cert_Get_2__1 (c_0 : Bool) (c_1 : List Int) : Option (Int × Bool × (List Int)) :=
  (G.cert_Get_1__1 c_1 c_0).bind fun r8 =>
  if r8.2.1 then
    G.cert_Get_2__1_j1 r8 (decide ((0 : Int) ≤ r8.2.2))
  else
    G.cert_Get_2__1_j1 r8 false

def cert_Get_3__1_j1 (l52 : List Int) (v53 : Bool) (v54 : List Int) : Option ((List Int) × Bool × (List Int)) :=
  some (l52, v53, v54)

def cert_Get_3__1_j2 (c72 : List Int) (l73 : List Int) (n74 : Int) (c79 : Bool) (v80 : Bool) : Option ((Bool × (List Int) × (List Int) × Int) ⊕ ((List Int) × Bool × (List Int))) :=
  if v80 then
    (G.cert_Get_1__1 c72 c79).bind fun r84 =>
    (Sh.app 8 l73 [r84.2.2]).bind fun l85 =>
    Sh.next (r84.2.1, r84.1, l85, w64 (n74 - 1))
  else
    Sh.exit (G.cert_Get_3__1_j1 l73 c79 c72)

def cert_Get_3__1_b1 (c71 : Bool) (c72 : List Int) (l73 : List Int) (n74 : Int) : Option ((Bool × (List Int) × (List Int) × Int) ⊕ ((List Int) × Bool × (List Int))) :=
  if c71 then
    G.cert_Get_3__1_j2 c72 l73 n74 true (decide ((0 : Int) < n74))
  else
    G.cert_Get_3__1_j2 c72 l73 n74 false false

def cert_Get_3__1 (c_0 : Bool) (c_1 : List Int) : Option ((List Int) × Bool × (List Int)) :=
  (G.cert_Get_2__1 c_0 c_1).bind fun r56 =>
  Sh.loop (fun (p : Bool × (List Int) × (List Int) × Int) => G.cert_Get_3__1_b1 p.1 p.2.1 p.2.2.1 p.2.2.2) (r56.2.1, r56.2.2, [], r56.1)

def cert_Get_j4 (r73 : (List Int) × Bool × Int) (r75 : Int × Bool × (List Int)) (r79 : (List Int) × Bool × (List Int)) (v109 : List G.si_Row) (v145 : List G.refute_Node) (v149 : Bool) : Option (G.cert_Cert × Int) :=
  if v149 then
    some ((G.cert_Cert.mk 0 false [] [] []), 2)
  else
    some ((G.cert_Cert.mk r73.2.2 (decide (r75.1 = 1)) r79.1 v109 v145), 0)

def cert_Get_j3 (r73 : (List Int) × Bool × Int) (r75 : Int × Bool × (List Int)) (r79 : (List Int) × Bool × (List Int)) (v109 : List G.si_Row) (v143 : List Int) (v144 : Bool) (v145 : List G.refute_Node) : Option (G.cert_Cert × Int) :=
  if !v144 then
    G.cert_Get_j4 r73 r75 r79 v109 v145 true
  else
    G.cert_Get_j4 r73 r75 r79 v109 v145 (decide ((0 : Int) < (Sh.len v143)))

def cert_Get_j5 (r73 : (List Int) × Bool × Int) (r75 : Int × Bool × (List Int)) (r79 : (List Int) × Bool × (List Int)) (v109 : List G.si_Row) (left174 : List Int) (cTree176 : List G.refute_Node) (n177 : Int) (good182 : Bool) (v183 : Bool) : Option (((List Int) × Bool × (List G.refute_Node) × Int) ⊕ (G.cert_Cert × Int)) :=
  if v183 then
    (G.cert_Get_1__1 left174 good182).bind fun r191 =>
    (G.cert_Get_1__1 r191.1 r191.2.1).bind fun r193 =>
    (G.cert_Get_1__1 r193.1 r193.2.1).bind fun r195 =>
    (G.cert_Get_3__1 r195.2.1 r195.1).bind fun r197 =>
    (Sh.app 48 cTree176 ([(G.refute_Node.mk (G.api_Choice.mk r191.2.2 r193.2.2 r195.2.2) r197.1)] : List G.refute_Node)).bind fun l198 =>
    Sh.next (r197.2.2, r197.2.1, l198, w64 (n177 - 1))
  else
    Sh.exit (G.cert_Get_j3 r73 r75 r79 v109 left174 good182 cTree176)

def cert_Get_b1 (r73 : (List Int) × Bool × Int) (r75 : Int × Bool × (List Int)) (r79 : (List Int) × Bool × (List Int)) (v109 : List G.si_Row) (left174 : List Int) (good175 : Bool) (cTree176 : List G.refute_Node) (n177 : Int) : Option (((List Int) × Bool × (List G.refute_Node) × Int) ⊕ (G.cert_Cert × Int)) :=
  if good175 then
    G.cert_Get_j5 r73 r75 r79 v109 left174 cTree176 n177 true (decide ((0 : Int) < n177))
  else
    G.cert_Get_j5 r73 r75 r79 v109 left174 cTree176 n177 false false

def cert_Get_j2 (r73 : (List Int) × Bool × Int) (r75 : Int × Bool × (List Int)) (r79 : (List Int) × Bool × (List Int)) (v107 : List Int) (v108 : Bool) (v109 : List G.si_Row) : Option (G.cert_Cert × Int) :=
  (G.cert_Get_2__1 v108 v107).bind fun r153 =>
  Sh.loop (fun (p : (List Int) × Bool × (List G.refute_Node) × Int) => G.cert_Get_b1 r73 r75 r79 v109 p.1 p.2.1 p.2.2.1 p.2.2.2) (r153.2.2, r153.2.1, [], r153.1)

def cert_Get_j6 (r73 : (List Int) × Bool × Int) (r75 : Int × Bool × (List Int)) (r79 : (List Int) × Bool × (List Int)) (left218 : List Int) (cRows220 : List G.si_Row) (n221 : Int) (good226 : Bool) (v227 : Bool) : Option (((List Int) × Bool × (List G.si_Row) × Int) ⊕ (G.cert_Cert × Int)) :=
  if v227 then
    (G.cert_Get_1__1 left218 good226).bind fun r232 =>
    (G.cert_Get_3__1 r232.2.1 r232.1).bind fun r233 =>
    (Sh.app 32 cRows220 ([(G.si_Row.mk r232.2.2 r233.1)] : List G.si_Row)).bind fun l234 =>
    Sh.next (r233.2.2, r233.2.1, l234, w64 (n221 - 1))
  else
    Sh.exit (G.cert_Get_j2 r73 r75 r79 left218 good226 cRows220)

def cert_Get_b2 (r73 : (List Int) × Bool × Int) (r75 : Int × Bool × (List Int)) (r79 : (List Int) × Bool × (List Int)) (left218 : List Int) (good219 : Bool) (cRows220 : List G.si_Row) (n221 : Int) : Option (((List Int) × Bool × (List G.si_Row) × Int) ⊕ (G.cert_Cert × Int)) :=
  if good219 then
    G.cert_Get_j6 r73 r75 r79 left218 cRows220 n221 true (decide ((0 : Int) < n221))
  else
    G.cert_Get_j6 r73 r75 r79 left218 cRows220 n221 false false

def cert_Get_j1 (r73 : (List Int) × Bool × Int) (r75 : Int × Bool × (List Int)) (good77 : Bool) : Option (G.cert_Cert × Int) :=
  (G.cert_Get_3__1 good77 r75.2.2).bind fun r79 =>
  (G.cert_Get_2__1 r79.2.1 r79.2.2).bind fun r201 =>
  Sh.loop (fun (p : (List Int) × Bool × (List G.si_Row) × Int) => G.cert_Get_b2 r73 r75 r79 p.1 p.2.1 p.2.2.1 p.2.2.2) (r201.2.2, r201.2.1, [], r201.1)

def cert_Get (s_0 : List UInt8) : Option (G.cert_Cert × Int) :=
  (G.pack_Get s_0).bind fun r70 =>
  if decide (r70.2 ≠ 0) then
    some ((G.cert_Cert.mk 0 false [] [] []), r70.2)
  else
    (G.cert_Get_1__1 r70.1 true).bind fun r73 =>
    (G.cert_Get_2__1 r73.2.1 r73.1).bind fun r75 =>
    if r75.2.1 then
      G.cert_Get_j1 r73 r75 (decide (r75.1 ≤ 1))
    else
      G.cert_Get_j1 r73 r75 false

def cert_No_j1 (level_0 : Int) (v33 : List G.refute_Node) : Option (G.cert_Cert) :=
  some (G.cert_Cert.mk level_0 false [] [] v33)

def cert_No_b1 (level_0 : Int) (tree_1 : List G.refute_Node) (cTree44 : List G.refute_Node) (v45 : Int) : Option (((List G.refute_Node) × Int) ⊕ (G.cert_Cert)) :=
  if decide (v45 < (Sh.len tree_1)) then
    (Sh.idx tree_1 v45).bind fun x53 =>
    (G.slices_Clone_int_int x53.Cycle).bind fun r55 =>
    (Sh.app 48 cTree44 ([(G.refute_Node.mk (G.api_Choice.mk x53.C.Key x53.C.A x53.C.B) r55)] : List G.refute_Node)).bind fun l56 =>
    Sh.next (l56, w64 (v45 + 1))
  else
    Sh.exit (G.cert_No_j1 level_0 cTree44)

def cert_No (level_0 : Int) (tree_1 : List G.refute_Node) : Option (G.cert_Cert) :=
  Sh.loop (fun (p : (List G.refute_Node) × Int) => G.cert_No_b1 level_0 tree_1 p.1 p.2) ([], 0)

def cert_Yes__c (h_0 : G.api_Hist) (order_1 : List Int) : Option (G.cert_Cert) :=
  (G.slices_Clone_int_int order_1).bind fun r3 =>
  some (G.cert_Cert.mk 0 true r3 [] [])

def cert_Check__c (h_0 : G.api_Hist) (cOrder_1 : List Int) : Option (Bool) :=
  (G.ser_Check h_0 cOrder_1).bind fun r4 =>
  some r4

def cert_Check__c_2 (h_0 : G.api_Hist) : Option (Bool) :=
  (G.refute_Check__c_2 h_0).bind fun r4 =>
  some r4
end G
end

section
/- What the functions of a package compute, as plain functions. -/
open Go Go.Av
set_option linter.unusedVariables false
namespace G
def inquestref07_Ints_j1 : Option (Bool) :=
  some true

def inquestref07_Ints_b1 (a_0 : List Int) (b_1 : List Int) (i39 : Int) : Option ((Int) ⊕ (Bool)) :=
  if decide (i39 < (Sh.len a_0)) then
    (Sh.idx a_0 i39).bind fun x49 =>
    (Sh.idx b_1 i39).bind fun x51 =>
    if decide (x49 ≠ x51) then
      Sh.exit (some false)
    else
      Sh.next (w64 (i39 + 1))
  else
    Sh.exit (G.inquestref07_Ints_j1)

def inquestref07_Ints (a_0 : List Int) (b_1 : List Int) : Option (Bool) :=
  if decide ((Sh.len a_0) ≠ (Sh.len b_1)) then
    some false
  else
    Sh.loop (fun (p : Int) => G.inquestref07_Ints_b1 a_0 b_1 p) 0
end G
end

section
/- What the functions of a package compute, as plain functions. -/
open Go Go.Av
set_option linter.unusedVariables false
namespace G
def inquestref21_Same_j1 : Option (Bool) :=
  some true

def inquestref21_Same_j2 (i343 : Int) : Option ((Int) ⊕ (Bool)) :=
  Sh.next (w64 (i343 + 1))

def inquestref21_Same_b2 (a_0 : List G.inquestref21_R) (b_1 : List G.inquestref21_R) (i343 : Int) (k429 : Int) : Option ((Int) ⊕ ((Int) ⊕ (Bool))) :=
  (Sh.idx a_0 i343).bind fun x434 =>
  if decide (k429 < (Sh.len x434.L)) then
    (Sh.idx a_0 i343).bind fun x453 =>
    (Sh.idx x453.L k429).bind fun x455 =>
    (Sh.idx b_1 i343).bind fun x457 =>
    (Sh.idx x457.L k429).bind fun x459 =>
    if decide (x455 ≠ x459) then
      Sh.exit (Sh.exit (some false))
    else
      Sh.next (w64 (k429 + 1))
  else
    Sh.exit (G.inquestref21_Same_j2 i343)

def inquestref21_Same_j3 (a_0 : List G.inquestref21_R) (b_1 : List G.inquestref21_R) (i343 : Int) (v406 : Bool) : Option ((Int) ⊕ (Bool)) :=
  if v406 then
    Sh.exit (some false)
  else
    Sh.loop (fun (p : Int) => G.inquestref21_Same_b2 a_0 b_1 i343 p) 0

def inquestref21_Same_b1 (a_0 : List G.inquestref21_R) (b_1 : List G.inquestref21_R) (i343 : Int) : Option ((Int) ⊕ (Bool)) :=
  if decide (i343 < (Sh.len a_0)) then
    (Sh.idx a_0 i343).bind fun x462 =>
    (Sh.idx b_1 i343).bind fun x464 =>
    if decide (x462.Key ≠ x464.Key) then
      G.inquestref21_Same_j3 a_0 b_1 i343 true
    else
      (Sh.idx a_0 i343).bind fun x467 =>
      (Sh.idx b_1 i343).bind fun x469 =>
      G.inquestref21_Same_j3 a_0 b_1 i343 (decide ((Sh.len x467.L) ≠ (Sh.len x469.L)))
  else
    Sh.exit (G.inquestref21_Same_j1)

def inquestref21_Same (a_0 : List G.inquestref21_R) (b_1 : List G.inquestref21_R) : Option (Bool) :=
  if decide ((Sh.len a_0) ≠ (Sh.len b_1)) then
    some false
  else
    Sh.loop (fun (p : Int) => G.inquestref21_Same_b1 a_0 b_1 p) 0
end G
end

section
/- What the functions of a package compute, as plain functions. -/
open Go Go.Av
set_option linter.unusedVariables false
namespace G
def inquestref24_Same_j1 : Option (Bool) :=
  some true

def inquestref24_Same_j2 (i343 : Int) : Option ((Int) ⊕ (Bool)) :=
  Sh.next (w64 (i343 + 1))

def inquestref24_Same_b2 (a_0 : List G.inquestref24_N) (b_1 : List G.inquestref24_N) (i343 : Int) (k429 : Int) : Option ((Int) ⊕ ((Int) ⊕ (Bool))) :=
  (Sh.idx a_0 i343).bind fun x434 =>
  if decide (k429 < (Sh.len x434.Cycle)) then
    (Sh.idx a_0 i343).bind fun x453 =>
    (Sh.idx x453.Cycle k429).bind fun x455 =>
    (Sh.idx b_1 i343).bind fun x457 =>
    (Sh.idx x457.Cycle k429).bind fun x459 =>
    if decide (x455 ≠ x459) then
      Sh.exit (Sh.exit (some false))
    else
      Sh.next (w64 (k429 + 1))
  else
    Sh.exit (G.inquestref24_Same_j2 i343)

def inquestref24_Same_j3 (a_0 : List G.inquestref24_N) (b_1 : List G.inquestref24_N) (i343 : Int) (v406 : Bool) : Option ((Int) ⊕ (Bool)) :=
  if v406 then
    Sh.exit (some false)
  else
    Sh.loop (fun (p : Int) => G.inquestref24_Same_b2 a_0 b_1 i343 p) 0

def inquestref24_Same_b1 (a_0 : List G.inquestref24_N) (b_1 : List G.inquestref24_N) (i343 : Int) : Option ((Int) ⊕ (Bool)) :=
  if decide (i343 < (Sh.len a_0)) then
    (Sh.idx a_0 i343).bind fun x462 =>
    (Sh.idx b_1 i343).bind fun x464 =>
    if !decide (x462.C = x464.C) then
      G.inquestref24_Same_j3 a_0 b_1 i343 true
    else
      (Sh.idx a_0 i343).bind fun x467 =>
      (Sh.idx b_1 i343).bind fun x469 =>
      G.inquestref24_Same_j3 a_0 b_1 i343 (decide ((Sh.len x467.Cycle) ≠ (Sh.len x469.Cycle)))
  else
    Sh.exit (G.inquestref24_Same_j1)

def inquestref24_Same (a_0 : List G.inquestref24_N) (b_1 : List G.inquestref24_N) : Option (Bool) :=
  if decide ((Sh.len a_0) ≠ (Sh.len b_1)) then
    some false
  else
    Sh.loop (fun (p : Int) => G.inquestref24_Same_b1 a_0 b_1 p) 0
end G
end

section
/- What the functions of a package compute, as plain functions. -/
open Go Go.Av
set_option linter.unusedVariables false
namespace G
def inquestref27_Same (a_0 : G.inquestref27_C) (b_1 : G.inquestref27_C) : Option (Bool) :=
  (G.inquestref07_Ints a_0.Order b_1.Order).bind fun r10 =>
  (G.inquestref21_Same a_0.Rows b_1.Rows).bind fun r12 =>
  (G.inquestref24_Same a_0.Tree b_1.Tree).bind fun r14 =>
  if decide (a_0.Level = b_1.Level) then
    if a_0.Yes == b_1.Yes then
      if r10 then
        if r12 then
          some r14
        else
          some false
      else
        some false
    else
      some false
  else
    some false
end G
end

section
/- What the functions of a package compute, as plain functions. -/
open Go Go.Av
set_option linter.unusedVariables false
namespace G
def inquestlaw27_Plain_j2 (c_0 : G.cert_Cert) (v58 : List G.inquestref21_R) (v78 : List G.inquestref24_N) : Option (G.inquestref27_C) :=
  some (G.inquestref27_C.mk c_0.Level c_0.Yes c_0.Order v58 v78)

def inquestlaw27_Plain_b1 (c_0 : G.cert_Cert) (v58 : List G.inquestref21_R) (outTree91 : List G.inquestref24_N) (i92 : Int) : Option (((List G.inquestref24_N) × Int) ⊕ (G.inquestref27_C)) :=
  if decide (i92 < (Sh.len c_0.Tree)) then
    (Sh.idx c_0.Tree i92).bind fun x99 =>
    (Sh.idx c_0.Tree i92).bind fun x101 =>
    (Sh.app 48 outTree91 ([(G.inquestref24_N.mk (G.api_Choice.mk x99.C.Key x99.C.A x99.C.B) x101.Cycle)] : List G.inquestref24_N)).bind fun l103 =>
    Sh.next (l103, w64 (i92 + 1))
  else
    Sh.exit (G.inquestlaw27_Plain_j2 c_0 v58 outTree91)

def inquestlaw27_Plain_j1 (c_0 : G.cert_Cert) (v58 : List G.inquestref21_R) : Option (G.inquestref27_C) :=
  Sh.loop (fun (p : (List G.inquestref24_N) × Int) => G.inquestlaw27_Plain_b1 c_0 v58 p.1 p.2) ([], 0)

def inquestlaw27_Plain_b2 (c_0 : G.cert_Cert) (outRows116 : List G.inquestref21_R) (i117 : Int) : Option (((List G.inquestref21_R) × Int) ⊕ (G.inquestref27_C)) :=
  if decide (i117 < (Sh.len c_0.Rows)) then
    (Sh.idx c_0.Rows i117).bind fun x124 =>
    (Sh.idx c_0.Rows i117).bind fun x126 =>
    (Sh.app 32 outRows116 ([(G.inquestref21_R.mk x124.Key x126.L)] : List G.inquestref21_R)).bind fun l128 =>
    Sh.next (l128, w64 (i117 + 1))
  else
    Sh.exit (G.inquestlaw27_Plain_j1 c_0 outRows116)

def inquestlaw27_Plain (c_0 : G.cert_Cert) : Option (G.inquestref27_C) :=
  Sh.loop (fun (p : (List G.inquestref21_R) × Int) => G.inquestlaw27_Plain_b2 c_0 p.1 p.2) ([], 0)

def inquestlaw27_awake : Option (Bool) :=
  (G.cert_Yes__c (G.api_Hist.mk ([(G.api_Txn.mk 1 [] ([(G.api_Take.mk 0 1)] : List G.api_Take)), (G.api_Txn.mk 0 [0] [])] : List G.api_Txn)) [1, 0]).bind fun r11 =>
  (G.cert_Put (G.cert_Cert.mk 0 true [1, 0] [] [])).bind fun r13 =>
  (G.cert_Get ([7, 1, 2, 3, 2, 1, 1, 1] : List UInt8)).bind fun r15 =>
  (G.cert_No 0 []).bind fun r17 =>
  (G.inquestlaw27_Plain (G.cert_Cert.mk 0 true [1, 0] [] [])).bind fun r23 =>
  (G.inquestlaw27_Plain (G.cert_Cert.mk 0 true [1, 0] [] [])).bind fun r24 =>
  (G.inquestref27_Same (G.inquestref27_C.mk 0 true [1, 0] [] []) (G.inquestref27_C.mk 0 true [1, 0] [] [])).bind fun r25 =>
  (G.cert_Check__c (G.api_Hist.mk ([(G.api_Txn.mk 1 [] ([(G.api_Take.mk 0 1)] : List G.api_Take)), (G.api_Txn.mk 0 [0] [])] : List G.api_Txn)) [1, 0]).bind fun r26 =>
  (G.cert_Check__c_2 (G.api_Hist.mk ([(G.api_Txn.mk 1 [] ([(G.api_Take.mk 0 1)] : List G.api_Take)), (G.api_Txn.mk 0 [0] [])] : List G.api_Txn))).bind fun r27 =>
  some true

def inquestlaw27_few_j3 : Option (Bool) :=
  some true

def inquestlaw27_few_b1 (c_0 : G.cert_Cert) (i49 : Int) : Option ((Int) ⊕ (Bool)) :=
  if decide (i49 < (Sh.len c_0.Tree)) then
    (Sh.idx c_0.Tree i49).bind fun x55 =>
    if decide ((40 : Int) < (Sh.len x55.Cycle)) then
      Sh.exit (some false)
    else
      Sh.next (w64 (i49 + 1))
  else
    Sh.exit (G.inquestlaw27_few_j3)

def inquestlaw27_few_j2 (c_0 : G.cert_Cert) : Option (Bool) :=
  Sh.loop (fun (p : Int) => G.inquestlaw27_few_b1 c_0 p) 0

def inquestlaw27_few_b2 (c_0 : G.cert_Cert) (i63 : Int) : Option ((Int) ⊕ (Bool)) :=
  if decide (i63 < (Sh.len c_0.Rows)) then
    (Sh.idx c_0.Rows i63).bind fun x69 =>
    if decide ((40 : Int) < (Sh.len x69.L)) then
      Sh.exit (some false)
    else
      Sh.next (w64 (i63 + 1))
  else
    Sh.exit (G.inquestlaw27_few_j2 c_0)

def inquestlaw27_few_j1 (c_0 : G.cert_Cert) (v25 : Bool) : Option (Bool) :=
  if v25 then
    some false
  else
    Sh.loop (fun (p : Int) => G.inquestlaw27_few_b2 c_0 p) 0

def inquestlaw27_few (c_0 : G.cert_Cert) : Option (Bool) :=
  if decide ((40 : Int) < (Sh.len c_0.Order)) then
    G.inquestlaw27_few_j1 c_0 true
  else
    if decide ((20 : Int) < (Sh.len c_0.Rows)) then
      G.inquestlaw27_few_j1 c_0 true
    else
      G.inquestlaw27_few_j1 c_0 (decide ((80 : Int) < (Sh.len c_0.Tree)))

def inquestlaw27_CertBack_j2 (s_1 : List UInt8) (r32 : (List UInt8) × Int) : Option (Bool) :=
  (G.cert_Get s_1).bind fun r40 =>
  if decide (r40.2 ≠ 0) then
    if !r40.1.Yes then
      if decide (r40.1.Level = 0) then
        if decide ((w64 ((w64 ((Sh.len r40.1.Order) + (Sh.len r40.1.Rows))) + (Sh.len r40.1.Tree))) = 0) then
          if decide (r32.2 = 0) then
            some true
          else
            some (decide (r32.1 = []))
        else
          some false
      else
        some false
    else
      some false
  else
    (G.cert_Put r40.1).bind fun r56 =>
    if decide (r56.2 = 0) then
      some (decide (r56.1 = s_1))
    else
      some false

def inquestlaw27_CertBack_j3 (s_1 : List UInt8) (r32 : (List UInt8) × Int) (v66 : Bool) : Option (Bool) :=
  if v66 then
    some false
  else
    G.inquestlaw27_CertBack_j2 s_1 r32

def inquestlaw27_CertBack_j1 (c_0 : G.cert_Cert) (s_1 : List UInt8) (v29 : Bool) : Option (Bool) :=
  if v29 then
    some true
  else
    (G.cert_Put c_0).bind fun r32 =>
    if decide (r32.2 = 0) then
      (G.cert_Get r32.1).bind fun r61 =>
      if decide (r61.2 ≠ 0) then
        G.inquestlaw27_CertBack_j3 s_1 r32 true
      else
        (G.inquestlaw27_Plain c_0).bind fun r69 =>
        (G.inquestlaw27_Plain r61.1).bind fun r70 =>
        (G.inquestref27_Same r69 r70).bind fun r71 =>
        G.inquestlaw27_CertBack_j3 s_1 r32 (!r71)
    else
      G.inquestlaw27_CertBack_j2 s_1 r32

def inquestlaw27_CertBack (c_0 : G.cert_Cert) (s_1 : List UInt8) : Option (Bool) :=
  (G.inquestlaw27_awake).bind fun r22 =>
  if !r22 then
    some false
  else
    (G.inquestlaw27_few c_0).bind fun r25 =>
    if !r25 then
      G.inquestlaw27_CertBack_j1 c_0 s_1 true
    else
      G.inquestlaw27_CertBack_j1 c_0 s_1 (decide ((600 : Int) < (Sh.len s_1)))
end G
end
