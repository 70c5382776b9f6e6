/- What the functions compute, as plain functions. -/
import Derived.Test.YtcoegkcdabpijaaDoorBase1
import Derived.Test.YtcoegkcdabpijaaDoorBase2
set_option linter.unusedSimpArgs false
set_option linter.unusedVariables false
section
/- The plain types. -/
open Go Go.Av
namespace G
structure api_Choice where
  Key : Int
  A : Int
  B : Int
  deriving DecidableEq, Inhabited
def api_Choice.av (x : api_Choice) : AV := .agg [i64 x.Key, i64 x.A, i64 x.B]
@[simp] theorem api_Choice.noid (x : api_Choice) : NoId (api_Choice.av x) := by simp [api_Choice.av]
@[simp] theorem api_Choice.solid (x : api_Choice) : AV.solid (api_Choice.av x) = true := rfl
@[simp] theorem api_Choice.dry (x : api_Choice) : Dry (api_Choice.av x) := by simp [api_Choice.av]
@[simp] theorem api_Choice.flat (x : api_Choice) : (api_Choice.av x).flat.length = 3 := rfl
structure api_Take where
  Key : Int
  From : Int
  deriving DecidableEq, Inhabited
def api_Take.av (x : api_Take) : AV := .agg [i64 x.Key, i64 x.From]
@[simp] theorem api_Take.noid (x : api_Take) : NoId (api_Take.av x) := by simp [api_Take.av]
@[simp] theorem api_Take.solid (x : api_Take) : AV.solid (api_Take.av x) = true := rfl
@[simp] theorem api_Take.dry (x : api_Take) : Dry (api_Take.av x) := by simp [api_Take.av]
@[simp] theorem api_Take.flat (x : api_Take) : (api_Take.av x).flat.length = 2 := rfl
structure api_Txn where
  Session : Int
  Writes : List Int
  Reads : List G.api_Take
  deriving DecidableEq, Inhabited
def api_Txn.av (x : api_Txn) : AV := .agg [i64 x.Session, .sl (List.map i64 x.Writes), .sl (List.map G.api_Take.av x.Reads)]
@[simp] theorem api_Txn.noid (x : api_Txn) : NoId (api_Txn.av x) := by simp [api_Txn.av]
@[simp] theorem api_Txn.solid (x : api_Txn) : AV.solid (api_Txn.av x) = true := rfl
@[simp] theorem api_Txn.flat (x : api_Txn) : (api_Txn.av x).flat.length = 3 := rfl
structure api_Hist where
  Txns : List G.api_Txn
  deriving DecidableEq, Inhabited
def api_Hist.av (x : api_Hist) : AV := .agg [.sl (List.map G.api_Txn.av x.Txns)]
@[simp] theorem api_Hist.noid (x : api_Hist) : NoId (api_Hist.av x) := by simp [api_Hist.av]
@[simp] theorem api_Hist.solid (x : api_Hist) : AV.solid (api_Hist.av x) = true := rfl
@[simp] theorem api_Hist.flat (x : api_Hist) : (api_Hist.av x).flat.length = 1 := rfl
structure edge_read where
  deriving DecidableEq, Inhabited
def edge_read.av (x : edge_read) : AV := .agg []
@[simp] theorem edge_read.noid (x : edge_read) : NoId (edge_read.av x) := by simp [edge_read.av]
@[simp] theorem edge_read.solid (x : edge_read) : AV.solid (edge_read.av x) = true := rfl
@[simp] theorem edge_read.dry (x : edge_read) : Dry (edge_read.av x) := by simp [edge_read.av]
@[simp] theorem edge_read.flat (x : edge_read) : (edge_read.av x).flat.length = 0 := rfl
structure edge_session where
  deriving DecidableEq, Inhabited
def edge_session.av (x : edge_session) : AV := .agg []
@[simp] theorem edge_session.noid (x : edge_session) : NoId (edge_session.av x) := by simp [edge_session.av]
@[simp] theorem edge_session.solid (x : edge_session) : AV.solid (edge_session.av x) = true := rfl
@[simp] theorem edge_session.dry (x : edge_session) : Dry (edge_session.av x) := by simp [edge_session.av]
@[simp] theorem edge_session.flat (x : edge_session) : (edge_session.av x).flat.length = 0 := rfl
structure graph_Edge where
  A : Int
  B : Int
  deriving DecidableEq, Inhabited
def graph_Edge.av (x : graph_Edge) : AV := .agg [i64 x.A, i64 x.B]
@[simp] theorem graph_Edge.noid (x : graph_Edge) : NoId (graph_Edge.av x) := by simp [graph_Edge.av]
@[simp] theorem graph_Edge.solid (x : graph_Edge) : AV.solid (graph_Edge.av x) = true := rfl
@[simp] theorem graph_Edge.dry (x : graph_Edge) : Dry (graph_Edge.av x) := by simp [graph_Edge.av]
@[simp] theorem graph_Edge.flat (x : graph_Edge) : (graph_Edge.av x).flat.length = 2 := rfl
structure graph_Graph where
  N : Int
  Rows : List (BitVec 64)
  deriving DecidableEq, Inhabited
def graph_Graph.av (x : graph_Graph) : AV := .agg [i64 x.N, .sl (List.map u64 x.Rows)]
@[simp] theorem graph_Graph.noid (x : graph_Graph) : NoId (graph_Graph.av x) := by simp [graph_Graph.av]
@[simp] theorem graph_Graph.solid (x : graph_Graph) : AV.solid (graph_Graph.av x) = true := rfl
@[simp] theorem graph_Graph.flat (x : graph_Graph) : (graph_Graph.av x).flat.length = 2 := rfl
structure index_read where
  t : Int
  Take : G.api_Take
  deriving DecidableEq, Inhabited
def index_read.av (x : index_read) : AV := .agg [i64 x.t, i64 x.Take.Key, i64 x.Take.From]
@[simp] theorem index_read.noid (x : index_read) : NoId (index_read.av x) := by simp [index_read.av]
@[simp] theorem index_read.solid (x : index_read) : AV.solid (index_read.av x) = true := rfl
@[simp] theorem index_read.dry (x : index_read) : Dry (index_read.av x) := by simp [index_read.av]
@[simp] theorem index_read.flat (x : index_read) : (index_read.av x).flat.length = 3 := rfl
structure inquestlaw19_At where
  H : G.api_Hist
  Level : Int
  L : List G.api_Choice
  X : Int
  Y : Int
  Row : List Int
  deriving DecidableEq, Inhabited
def inquestlaw19_At.av (x : inquestlaw19_At) : AV := .agg [.sl (List.map G.api_Txn.av x.H.Txns), i64 x.Level, .sl (List.map G.api_Choice.av x.L), i64 x.X, i64 x.Y, .sl (List.map i64 x.Row)]
@[simp] theorem inquestlaw19_At.noid (x : inquestlaw19_At) : NoId (inquestlaw19_At.av x) := by simp [inquestlaw19_At.av]
@[simp] theorem inquestlaw19_At.solid (x : inquestlaw19_At) : AV.solid (inquestlaw19_At.av x) = true := rfl
@[simp] theorem inquestlaw19_At.flat (x : inquestlaw19_At) : (inquestlaw19_At.av x).flat.length = 6 := rfl
end G
end

section
/- What the functions of a package compute, as plain functions. -/
open Go Go.Av
set_option linter.unusedVariables false
namespace G
end G
end

section
/- What the functions of a package compute, as plain functions. -/
open Go Go.Av
set_option linter.unusedVariables false
namespace G
def slices_Index_int_int_j1 : Option (Int) :=
  some (-1)

def slices_Index_int_int_b1 (s_0 : List Int) (v_1 : Int) (v22 : Int) : Option ((Int) ⊕ (Int)) :=
  if decide (v22 < (Sh.len s_0)) then
    (Sh.idx s_0 v22).bind fun x28 =>
    if decide (v_1 = x28) then
      Sh.exit (some v22)
    else
      Sh.next (w64 (v22 + 1))
  else
    Sh.exit (G.slices_Index_int_int_j1)

def slices_Index_int_int (s_0 : List Int) (v_1 : Int) : Option (Int) :=
  Sh.loop (fun (p : Int) => G.slices_Index_int_int_b1 s_0 v_1 p) 0

def slices_Contains_int_int (s_0 : List Int) (v_1 : Int) : Option (Bool) :=
  (G.slices_Index_int_int s_0 v_1).bind fun r3 =>
  some (decide ((0 : Int) ≤ r3))

def slices_Index_api_Take_api_Take_j1 : Option (Int) :=
  some (-1)

def slices_Index_api_Take_api_Take_b1 (s_0 : List G.api_Take) (v_1 : G.api_Take) (v22 : Int) : Option ((Int) ⊕ (Int)) :=
  if decide (v22 < (Sh.len s_0)) then
    (Sh.idx s_0 v22).bind fun x28 =>
    if decide (v_1 = x28) then
      Sh.exit (some v22)
    else
      Sh.next (w64 (v22 + 1))
  else
    Sh.exit (G.slices_Index_api_Take_api_Take_j1)

def slices_Index_api_Take_api_Take (s_0 : List G.api_Take) (v_1 : G.api_Take) : Option (Int) :=
  Sh.loop (fun (p : Int) => G.slices_Index_api_Take_api_Take_b1 s_0 v_1 p) 0

def slices_Contains_api_Take_api_Take (s_0 : List G.api_Take) (v_1 : G.api_Take) : Option (Bool) :=
  (G.slices_Index_api_Take_api_Take s_0 v_1).bind fun r3 =>
  some (decide ((0 : Int) ≤ r3))

def slices_Equal_api_Take_api_Take_j1 : Option (Bool) :=
  some true

def slices_Equal_api_Take_api_Take_b1 (s1_0 : List G.api_Take) (s2_1 : List G.api_Take) (v39 : Int) : Option ((Int) ⊕ (Bool)) :=
  if decide (v39 < (Sh.len s1_0)) then
    (Sh.idx s1_0 v39).bind fun x49 =>
    (Sh.idx s2_1 v39).bind fun x51 =>
    if !decide (x49 = x51) then
      Sh.exit (some false)
    else
      Sh.next (w64 (v39 + 1))
  else
    Sh.exit (G.slices_Equal_api_Take_api_Take_j1)

def slices_Equal_api_Take_api_Take (s1_0 : List G.api_Take) (s2_1 : List G.api_Take) : Option (Bool) :=
  if decide ((Sh.len s1_0) ≠ (Sh.len s2_1)) then
    some false
  else
    Sh.loop (fun (p : Int) => G.slices_Equal_api_Take_api_Take_b1 s1_0 s2_1 p) 0
end G
end

section
/- What the functions of a package compute, as plain functions. -/
open Go Go.Av
set_option linter.unusedVariables false
namespace G
def hist_faults (h_0 : G.api_Hist) : Option (Unit) :=
  some ()

def hist_Right__r (c_0 : Bool) (y_1 : Bool) : Option (Bool × Bool) :=
  if !y_1 then
    some (false, false)
  else
    some (c_0, true)

def hist_faults_1__hist_Right__r_j1 (v523 : Int) (c625 : Bool) : Option ((Bool × Int) ⊕ (Bool × Bool)) :=
  Sh.next (c625, w64 (v523 + 1))

def hist_faults_1__hist_Right__r_j3 (v523 : Int) (x628 : G.api_Txn) (v724 : Bool) : Option ((Bool × Int) ⊕ (Bool × Bool)) :=
  if decide ((0 : Int) ≤ x628.Session) then
    (G.hist_Right__r v724 (decide (x628.Session < 8))).bind fun y731 =>
    if y731.2 then
      G.hist_faults_1__hist_Right__r_j1 v523 y731.1
    else
      Sh.exit (some (y731.1, false))
  else
    (G.hist_Right__r v724 false).bind fun y733 =>
    if y733.2 then
      G.hist_faults_1__hist_Right__r_j1 v523 y733.1
    else
      Sh.exit (some (y733.1, false))

def hist_faults_1__hist_Right__r_j5 (v778 : Int) (x801 : G.api_Take) (c819 : Bool) : Option ((Bool × Int × Int) ⊕ ((Bool × Int) ⊕ (Bool × Bool))) :=
  Sh.next (c819, x801.Key, w64 (v778 + 1))

def hist_faults_1__hist_Right__r_j4 (c776 : Bool) (last777 : Int) (v778 : Int) (x801 : G.api_Take) (there810 : Bool) : Option ((Bool × Int × Int) ⊕ ((Bool × Int) ⊕ (Bool × Bool))) :=
  if decide (last777 < x801.Key) then
    if decide (x801.Key < 16) then
      (G.hist_Right__r c776 there810).bind fun y830 =>
      if y830.2 then
        G.hist_faults_1__hist_Right__r_j5 v778 x801 y830.1
      else
        Sh.exit (Sh.exit (some (y830.1, false)))
    else
      (G.hist_Right__r c776 false).bind fun y832 =>
      if y832.2 then
        G.hist_faults_1__hist_Right__r_j5 v778 x801 y832.1
      else
        Sh.exit (Sh.exit (some (y832.1, false)))
  else
    (G.hist_Right__r c776 false).bind fun y834 =>
    if y834.2 then
      G.hist_faults_1__hist_Right__r_j5 v778 x801 y834.1
    else
      Sh.exit (Sh.exit (some (y834.1, false)))

def hist_faults_1__hist_Right__r_b2 (c_1 : G.api_Hist) (v523 : Int) (x628 : G.api_Txn) (c776 : Bool) (last777 : Int) (v778 : Int) : Option ((Bool × Int × Int) ⊕ ((Bool × Int) ⊕ (Bool × Bool))) :=
  if decide (v778 < (Sh.len x628.Reads)) then
    (Sh.idx x628.Reads v778).bind fun x801 =>
    if decide (x801.From = (-1)) then
      G.hist_faults_1__hist_Right__r_j4 c776 last777 v778 x801 true
    else
      if decide ((0 : Int) ≤ x801.From) then
        if decide (x801.From < (Sh.len c_1.Txns)) then
          if decide (x801.From ≠ v523) then
            (Sh.idx c_1.Txns x801.From).bind fun x840 =>
            (G.slices_Contains_int_int x840.Writes x801.Key).bind fun r842 =>
            G.hist_faults_1__hist_Right__r_j4 c776 last777 v778 x801 r842
          else
            G.hist_faults_1__hist_Right__r_j4 c776 last777 v778 x801 false
        else
          G.hist_faults_1__hist_Right__r_j4 c776 last777 v778 x801 false
      else
        G.hist_faults_1__hist_Right__r_j4 c776 last777 v778 x801 false
  else
    Sh.exit (G.hist_faults_1__hist_Right__r_j3 v523 x628 c776)

def hist_faults_1__hist_Right__r_j2 (c_1 : G.api_Hist) (v523 : Int) (x628 : G.api_Txn) (v660 : Bool) : Option ((Bool × Int) ⊕ (Bool × Bool)) :=
  Sh.loop (fun (p : Bool × Int × Int) => G.hist_faults_1__hist_Right__r_b2 c_1 v523 x628 p.1 p.2.1 p.2.2) (v660, (-1), 0)

def hist_faults_1__hist_Right__r_j6 (v864 : Int) (x876 : Int) (c883 : Bool) : Option ((Bool × Int × Int) ⊕ ((Bool × Int) ⊕ (Bool × Bool))) :=
  Sh.next (c883, x876, w64 (v864 + 1))

def hist_faults_1__hist_Right__r_b3 (c_1 : G.api_Hist) (v523 : Int) (x628 : G.api_Txn) (c862 : Bool) (last863 : Int) (v864 : Int) : Option ((Bool × Int × Int) ⊕ ((Bool × Int) ⊕ (Bool × Bool))) :=
  if decide (v864 < (Sh.len x628.Writes)) then
    (Sh.idx x628.Writes v864).bind fun x876 =>
    if decide (last863 < x876) then
      (G.hist_Right__r c862 (decide (x876 < 16))).bind fun y890 =>
      if y890.2 then
        G.hist_faults_1__hist_Right__r_j6 v864 x876 y890.1
      else
        Sh.exit (Sh.exit (some (y890.1, false)))
    else
      (G.hist_Right__r c862 false).bind fun y892 =>
      if y892.2 then
        G.hist_faults_1__hist_Right__r_j6 v864 x876 y892.1
      else
        Sh.exit (Sh.exit (some (y892.1, false)))
  else
    Sh.exit (G.hist_faults_1__hist_Right__r_j2 c_1 v523 x628 c862)

def hist_faults_1__hist_Right__r_b1 (c_1 : G.api_Hist) (c522 : Bool) (v523 : Int) : Option ((Bool × Int) ⊕ (Bool × Bool)) :=
  if decide (v523 < (Sh.len c_1.Txns)) then
    (Sh.idx c_1.Txns v523).bind fun x628 =>
    Sh.loop (fun (p : Bool × Int × Int) => G.hist_faults_1__hist_Right__r_b3 c_1 v523 x628 p.1 p.2.1 p.2.2) (c522, (-1), 0)
  else
    Sh.exit (some (c522, true))

def hist_faults_1__hist_Right__r (c_0 : Bool) (c_1 : G.api_Hist) : Option (Bool × Bool) :=
  (G.hist_Right__r c_0 (decide ((Sh.len c_1.Txns) ≤ 32))).bind fun y316 =>
  if y316.2 then
    Sh.loop (fun (p : Bool × Int) => G.hist_faults_1__hist_Right__r_b1 c_1 p.1 p.2) (y316.1, 0)
  else
    some (y316.1, false)

def hist_Right (h_0 : G.api_Hist) : Option (Bool) :=
  (G.hist_faults h_0).bind fun r8 =>
  (G.hist_faults_1__hist_Right__r false h_0).bind fun it9 =>
  if it9.2 then
    some true
  else
    some it9.1
end G
end

section
/- What the functions of a package compute, as plain functions. -/
open Go Go.Av
set_option linter.unusedVariables false
namespace G
def inquestref08_Few_j1 : Option (Bool) :=
  some true

def inquestref08_Few_j2 (i55 : Int) (v68 : Bool) : Option ((Int) ⊕ (Bool)) :=
  if v68 then
    Sh.exit (some false)
  else
    Sh.next (w64 (i55 + 1))

def inquestref08_Few_b1 (h_0 : G.api_Hist) (i55 : Int) : Option ((Int) ⊕ (Bool)) :=
  if decide (i55 < (Sh.len h_0.Txns)) then
    (Sh.idx h_0.Txns i55).bind fun x70 =>
    if decide ((20 : Int) < (Sh.len x70.Writes)) then
      G.inquestref08_Few_j2 i55 true
    else
      (Sh.idx h_0.Txns i55).bind fun x73 =>
      G.inquestref08_Few_j2 i55 (decide ((20 : Int) < (Sh.len x73.Reads)))
  else
    Sh.exit (G.inquestref08_Few_j1)

def inquestref08_Few (h_0 : G.api_Hist) (many_1 : Int) : Option (Bool) :=
  if decide (many_1 < (Sh.len h_0.Txns)) then
    some false
  else
    Sh.loop (fun (p : Int) => G.inquestref08_Few_b1 h_0 p) 0
end G
end

section
/- What the functions of a package compute, as plain functions. -/
open Go Go.Av
set_option linter.unusedVariables false
namespace G
end G
end

section
/- What the functions of a package compute, as plain functions. -/
open Go Go.Av
set_option linter.unusedVariables false
namespace G
def bits_TrailingZeros64 (x_0 : BitVec 64) : Option (Int) :=
  if decide (x_0 = 0#64) then
    some 64
  else
    (Sh.shr ((x_0 &&& (-x_0)) * 285870213051353865#64) ((58#64).toNat : Int)).bind fun s8 =>
    (Sh.idx Sh.tab8 ((s8).toNat : Int)).bind fun x9 =>
    some (w64 x9)
end G
end

section
/- What the functions of a package compute, as plain functions. -/
open Go Go.Av
set_option linter.unusedVariables false
namespace G
def bits_Join_j1 (out21 : BitVec 64) : Option ((BitVec 64)) :=
  some out21

def bits_Join_b1 (l_0 : List (BitVec 64)) (out28 : BitVec 64) (v29 : Int) : Option (((BitVec 64) × Int) ⊕ ((BitVec 64))) :=
  if decide (v29 < (Sh.len l_0)) then
    (Sh.idx l_0 v29).bind fun x35 =>
    Sh.next (out28 ||| x35, w64 (v29 + 1))
  else
    Sh.exit (G.bits_Join_j1 out28)

def bits_Join (l_0 : List (BitVec 64)) : Option ((BitVec 64)) :=
  Sh.loop (fun (p : (BitVec 64) × Int) => G.bits_Join_b1 l_0 p.1 p.2) (0#64, 0)

def bits_Sub (a_0 : BitVec 64) (b_1 : BitVec 64) : Option (Bool) :=
  some (decide ((a_0 &&& ~~~b_1) = 0#64))

def bits_bit_j1 (i_0 : Int) (v7 : Bool) : Option ((BitVec 64)) :=
  if v7 then
    some 0#64
  else
    (Sh.shl 1#64 i_0).bind fun s10 =>
    some s10

def bits_bit (i_0 : Int) : Option ((BitVec 64)) :=
  if decide (i_0 < 0) then
    G.bits_bit_j1 i_0 true
  else
    G.bits_bit_j1 i_0 (decide ((64 : Int) ≤ i_0))

def bits_With (s_0 : BitVec 64) (i_1 : Int) : Option ((BitVec 64)) :=
  (G.bits_bit i_1).bind fun r3 =>
  some (s_0 ||| r3)

def bits_List_j1 (out21 : List Int) : Option ((List Int)) :=
  some out21

def bits_List_b1 (s28 : BitVec 64) (out29 : List Int) : Option (((BitVec 64) × (List Int)) ⊕ ((List Int))) :=
  if decide (s28 ≠ 0#64) then
    (G.bits_TrailingZeros64 s28).bind fun r33 =>
    (Sh.app 8 out29 [r33]).bind fun out34 =>
    Sh.next (s28 &&& (s28 - 1#64), out34)
  else
    Sh.exit (G.bits_List_j1 out29)

def bits_List (s_0 : BitVec 64) : Option ((List Int)) :=
  Sh.loop (fun (p : (BitVec 64) × (List Int)) => G.bits_List_b1 p.1 p.2) (s_0, [])

def bits_Has (s_0 : BitVec 64) (i_1 : Int) : Option (Bool) :=
  (G.bits_bit i_1).bind fun r3 =>
  some (decide ((s_0 &&& r3) ≠ 0#64))
end G
end

section
/- What the functions of a package compute, as plain functions. -/
open Go Go.Av
set_option linter.unusedVariables false
namespace G
def graph_New_j1 (n_0 : Int) (v7 : Bool) : Option (G.graph_Graph × Int) :=
  if v7 then
    some ((G.graph_Graph.mk 0 []), 1)
  else
    (Sh.mk 8 n_0 n_0 0#64).bind fun made10 =>
    some ((G.graph_Graph.mk n_0 made10), 0)

def graph_New (n_0 : Int) : Option (G.graph_Graph × Int) :=
  if decide (n_0 < 0) then
    G.graph_New_j1 n_0 true
  else
    G.graph_New_j1 n_0 (decide ((64 : Int) < n_0))

def graph_nodes (n_0 : Int) : Option ((BitVec 64)) :=
  (Sh.shl 1#64 n_0).bind fun s3 =>
  some (s3 - 1#64)

def graph_Right (g_0 : G.graph_Graph) : Option (Bool) :=
  if decide ((0 : Int) ≤ g_0.N) then
    if decide (g_0.N ≤ 64) then
      if decide ((Sh.len g_0.Rows) = g_0.N) then
        (G.bits_Join g_0.Rows).bind fun r17 =>
        (G.graph_nodes g_0.N).bind fun r18 =>
        (G.bits_Sub r17 r18).bind fun r19 =>
        some r19
      else
        some false
    else
      some false
  else
    some false

def graph_Add_j1 (g_0 : G.graph_Graph) (a_1 : Int) (b_2 : Int) (v26 : Bool) : Option (G.graph_Graph × Int) :=
  if v26 then
    some ((G.graph_Graph.mk 0 []), 1)
  else
    (G.graph_New g_0.N).bind fun r29 =>
    (Sh.cpy r29.1.Rows g_0.Rows).bind fun copied32 =>
    (Sh.idx copied32 a_1).bind fun x39 =>
    (G.bits_With x39 b_2).bind fun r41 =>
    (Sh.idx copied32 a_1).bind fun x42 =>
    some ((G.graph_Graph.mk r29.1.N (Sh.set copied32 a_1 r41)), r29.2)

def graph_Add (g_0 : G.graph_Graph) (a_1 : Int) (b_2 : Int) : Option (G.graph_Graph × Int) :=
  (G.graph_Right g_0).bind fun r44 =>
  if !r44 then
    G.graph_Add_j1 g_0 a_1 b_2 true
  else
    if decide (a_1 < 0) then
      G.graph_Add_j1 g_0 a_1 b_2 true
    else
      if decide (g_0.N ≤ a_1) then
        G.graph_Add_j1 g_0 a_1 b_2 true
      else
        if decide (b_2 < 0) then
          G.graph_Add_j1 g_0 a_1 b_2 true
        else
          G.graph_Add_j1 g_0 a_1 b_2 (decide (g_0.N ≤ b_2))

def graph_like (a_0 : G.graph_Graph) (b_1 : G.graph_Graph) : Option (Bool) :=
  (G.graph_Right a_0).bind fun r10 =>
  if r10 then
    (G.graph_Right b_1).bind fun r12 =>
    if r12 then
      some (decide (a_0.N = b_1.N))
    else
      some false
  else
    some false

def graph_Union_j1 (r33 : G.graph_Graph × Int) (v59 : List (BitVec 64)) : Option (G.graph_Graph × Int) :=
  some ((G.graph_Graph.mk r33.1.N v59), r33.2)

def graph_Union_b1 (a_0 : G.graph_Graph) (b_1 : G.graph_Graph) (r33 : G.graph_Graph × Int) (outRows76 : List (BitVec 64)) (v77 : Int) : Option (((List (BitVec 64)) × Int) ⊕ (G.graph_Graph × Int)) :=
  if decide (v77 < (Sh.len r33.1.Rows)) then
    (Sh.idx a_0.Rows v77).bind fun x86 =>
    (Sh.idx b_1.Rows v77).bind fun x88 =>
    (G.bits_Join [x86, x88]).bind fun r90 =>
    (Sh.idx outRows76 v77).bind fun x91 =>
    Sh.next (Sh.set outRows76 v77 r90, w64 (v77 + 1))
  else
    Sh.exit (G.graph_Union_j1 r33 outRows76)

def graph_Union (a_0 : G.graph_Graph) (b_1 : G.graph_Graph) : Option (G.graph_Graph × Int) :=
  (G.graph_like a_0 b_1).bind fun r30 =>
  if !r30 then
    some ((G.graph_Graph.mk 0 []), 1)
  else
    (G.graph_New a_0.N).bind fun r33 =>
    Sh.loop (fun (p : (List (BitVec 64)) × Int) => G.graph_Union_b1 a_0 b_1 r33 p.1 p.2) (r33.1.Rows, 0)

def graph_Compose_j1 (r114 : G.graph_Graph × Int) (v221 : List (BitVec 64)) : Option (G.graph_Graph × Int) :=
  some ((G.graph_Graph.mk r114.1.N v221), r114.2)

def graph_Compose_j2 (v293 : Int) (v329 : List (BitVec 64)) : Option (((List (BitVec 64)) × Int) ⊕ (G.graph_Graph × Int)) :=
  Sh.next (v329, w64 (v293 + 1))

def graph_Compose_b2 (b_1 : G.graph_Graph) (v293 : Int) (r335 : (List Int)) (outRows356 : List (BitVec 64)) (v357 : Int) : Option (((List (BitVec 64)) × Int) ⊕ (((List (BitVec 64)) × Int) ⊕ (G.graph_Graph × Int))) :=
  if decide (v357 < (Sh.len r335)) then
    (Sh.idx r335 v357).bind fun x370 =>
    (Sh.idx outRows356 v293).bind fun x372 =>
    (Sh.idx b_1.Rows x370).bind fun x374 =>
    (G.bits_Join [x372, x374]).bind fun r376 =>
    (Sh.idx outRows356 v293).bind fun x377 =>
    Sh.next (Sh.set outRows356 v293 r376, w64 (v357 + 1))
  else
    Sh.exit (G.graph_Compose_j2 v293 outRows356)

def graph_Compose_b1 (a_0 : G.graph_Graph) (b_1 : G.graph_Graph) (r114 : G.graph_Graph × Int) (outRows292 : List (BitVec 64)) (v293 : Int) : Option (((List (BitVec 64)) × Int) ⊕ (G.graph_Graph × Int)) :=
  if decide (v293 < (Sh.len r114.1.Rows)) then
    (Sh.idx a_0.Rows v293).bind fun x333 =>
    (G.bits_List x333).bind fun r335 =>
    Sh.loop (fun (p : (List (BitVec 64)) × Int) => G.graph_Compose_b2 b_1 v293 r335 p.1 p.2) (outRows292, 0)
  else
    Sh.exit (G.graph_Compose_j1 r114 outRows292)

def graph_Compose (a_0 : G.graph_Graph) (b_1 : G.graph_Graph) : Option (G.graph_Graph × Int) :=
  (G.graph_like a_0 b_1).bind fun r111 =>
  if !r111 then
    some ((G.graph_Graph.mk 0 []), 1)
  else
    (G.graph_New a_0.N).bind fun r114 =>
    Sh.loop (fun (p : (List (BitVec 64)) × Int) => G.graph_Compose_b1 a_0 b_1 r114 p.1 p.2) (r114.1.Rows, 0)

end G
end

section
/- What the functions of a package compute, as plain functions. -/
open Go Go.Av
set_option linter.unusedVariables false
namespace G
def index_Keys_j1 (out35 : List Int) : Option ((List Int)) :=
  (Sh.sort out35).bind fun sort38 =>
  (Sh.compact sort38).bind fun compact41 =>
  some compact41

def index_Keys_b1 (h_0 : G.api_Hist) (out50 : List Int) (v51 : Int) : Option (((List Int) × Int) ⊕ ((List Int))) :=
  if decide (v51 < (Sh.len h_0.Txns)) then
    (Sh.idx h_0.Txns v51).bind fun x58 =>
    (Sh.app 8 out50 x58.Writes).bind fun out60 =>
    Sh.next (out60, w64 (v51 + 1))
  else
    Sh.exit (G.index_Keys_j1 out50)

def index_Keys (h_0 : G.api_Hist) : Option ((List Int)) :=
  (G.hist_Right h_0).bind fun r20 =>
  if !r20 then
    some []
  else
    Sh.loop (fun (p : (List Int) × Int) => G.index_Keys_b1 h_0 p.1 p.2) ([], 0)

def index_reads (h_0 : G.api_Hist) : Option (Unit) :=
  some ()

def index_Readers__r_j1 (l_2 : List Int) (y_3 : G.index_read) (v6 : Bool) : Option ((List Int)) :=
  if v6 then
    (Sh.app 8 l_2 [y_3.t]).bind fun l8 =>
    some l8
  else
    some l_2

def index_Readers__r (key_0 : Int) (from_1 : Int) (l_2 : List Int) (y_3 : G.index_read) : Option ((List Int)) :=
  if decide (y_3.Take.Key = key_0) then
    G.index_Readers__r_j1 l_2 y_3 (decide (y_3.Take.From = from_1))
  else
    G.index_Readers__r_j1 l_2 y_3 false

def index_reads_1__index_Readers__r_j1 (v89 : Int) (v106 : List Int) : Option (((List Int) × Int) ⊕ ((List Int))) :=
  Sh.next (v106, w64 (v89 + 1))

def index_reads_1__index_Readers__r_b2 (key_0 : Int) (from_1 : Int) (v89 : Int) (x109 : G.api_Txn) (c119 : List Int) (v120 : Int) : Option (((List Int) × Int) ⊕ (((List Int) × Int) ⊕ ((List Int)))) :=
  if decide (v120 < (Sh.len x109.Reads)) then
    (Sh.idx x109.Reads v120).bind fun x127 =>
    (G.index_Readers__r key_0 from_1 c119 (G.index_read.mk v89 (G.api_Take.mk x127.Key x127.From))).bind fun y130 =>
    Sh.next (y130, w64 (v120 + 1))
  else
    Sh.exit (G.index_reads_1__index_Readers__r_j1 v89 c119)

def index_reads_1__index_Readers__r_b1 (key_0 : Int) (from_1 : Int) (c_3 : G.api_Hist) (c88 : List Int) (v89 : Int) : Option (((List Int) × Int) ⊕ ((List Int))) :=
  if decide (v89 < (Sh.len c_3.Txns)) then
    (Sh.idx c_3.Txns v89).bind fun x109 =>
    Sh.loop (fun (p : (List Int) × Int) => G.index_reads_1__index_Readers__r_b2 key_0 from_1 v89 x109 p.1 p.2) (c88, 0)
  else
    Sh.exit (some c88)

def index_reads_1__index_Readers__r (key_0 : Int) (from_1 : Int) (l_2 : List Int) (c_3 : G.api_Hist) : Option ((List Int)) :=
  (G.hist_Right c_3).bind fun r54 =>
  if !r54 then
    some l_2
  else
    Sh.loop (fun (p : (List Int) × Int) => G.index_reads_1__index_Readers__r_b1 key_0 from_1 c_3 p.1 p.2) (l_2, 0)

def index_Readers (h_0 : G.api_Hist) (key_1 : Int) (from_2 : Int) : Option ((List Int)) :=
  (G.index_reads h_0).bind fun r8 =>
  (G.index_reads_1__index_Readers__r key_1 from_2 [] h_0).bind fun it9 =>
  some it9

def index_Writers_j1 (out44 : List Int) : Option ((List Int)) :=
  some out44

def index_Writers_j2 (v58 : Int) (out64 : List Int) : Option (((List Int) × Int) ⊕ ((List Int))) :=
  Sh.next (out64, w64 (v58 + 1))

def index_Writers_b1 (h_0 : G.api_Hist) (key_1 : Int) (out57 : List Int) (v58 : Int) : Option (((List Int) × Int) ⊕ ((List Int))) :=
  if decide (v58 < (Sh.len h_0.Txns)) then
    (Sh.idx h_0.Txns v58).bind fun x67 =>
    (G.slices_Contains_int_int x67.Writes key_1).bind fun r70 =>
    if r70 then
      (Sh.app 8 out57 [v58]).bind fun out72 =>
      G.index_Writers_j2 v58 out72
    else
      G.index_Writers_j2 v58 out57
  else
    Sh.exit (G.index_Writers_j1 out57)

def index_Writers (h_0 : G.api_Hist) (key_1 : Int) : Option ((List Int)) :=
  (G.hist_Right h_0).bind fun r23 =>
  if !r23 then
    some []
  else
    Sh.loop (fun (p : (List Int) × Int) => G.index_Writers_b1 h_0 key_1 p.1 p.2) ([], 0)

def index_Pairs_j1 (out341 : List G.api_Choice) : Option ((List G.api_Choice)) :=
  some out341

def index_Pairs_j2 (v457 : Int) (out514 : List G.api_Choice) : Option (((List G.api_Choice) × Int) ⊕ ((List G.api_Choice))) :=
  Sh.next (out514, w64 (v457 + 1))

def index_Pairs_j3 (v556 : Int) (out574 : List G.api_Choice) : Option (((List G.api_Choice) × Int) ⊕ (((List G.api_Choice) × Int) ⊕ ((List G.api_Choice)))) :=
  Sh.next (out574, w64 (v556 + 1))

def index_Pairs_b3 (x517 : Int) (v556 : Int) (x577 : Int) (part580 : List Int) (out589 : List G.api_Choice) (v590 : Int) : Option (((List G.api_Choice) × Int) ⊕ (((List G.api_Choice) × Int) ⊕ (((List G.api_Choice) × Int) ⊕ ((List G.api_Choice))))) :=
  if decide (v590 < (Sh.len part580)) then
    (Sh.idx part580 v590).bind fun x597 =>
    (Sh.app 24 out589 ([(G.api_Choice.mk x517 x577 x597)] : List G.api_Choice)).bind fun out599 =>
    Sh.next (out599, w64 (v590 + 1))
  else
    Sh.exit (G.index_Pairs_j3 v556 out589)

def index_Pairs_b2 (v457 : Int) (x517 : Int) (r520 : (List Int)) (out555 : List G.api_Choice) (v556 : Int) : Option (((List G.api_Choice) × Int) ⊕ (((List G.api_Choice) × Int) ⊕ ((List G.api_Choice)))) :=
  if decide (v556 < (Sh.len r520)) then
    (Sh.idx r520 v556).bind fun x577 =>
    (Sh.sub r520 (w64 (v556 + 1)) (Sh.len r520)).bind fun part580 =>
    Sh.loop (fun (p : (List G.api_Choice) × Int) => G.index_Pairs_b3 x517 v556 x577 part580 p.1 p.2) (out555, 0)
  else
    Sh.exit (G.index_Pairs_j2 v457 out555)

def index_Pairs_b1 (h_0 : G.api_Hist) (r343 : (List Int)) (out456 : List G.api_Choice) (v457 : Int) : Option (((List G.api_Choice) × Int) ⊕ ((List G.api_Choice))) :=
  if decide (v457 < (Sh.len r343)) then
    (Sh.idx r343 v457).bind fun x517 =>
    (G.index_Writers h_0 x517).bind fun r520 =>
    Sh.loop (fun (p : (List G.api_Choice) × Int) => G.index_Pairs_b2 v457 x517 r520 p.1 p.2) (out456, 0)
  else
    Sh.exit (G.index_Pairs_j1 out456)

def index_Pairs (h_0 : G.api_Hist) : Option ((List G.api_Choice)) :=
  (G.index_Keys h_0).bind fun r343 =>
  Sh.loop (fun (p : (List G.api_Choice) × Int) => G.index_Pairs_b1 h_0 r343 p.1 p.2) ([], 0)
end G
end

section
/- What the functions of a package compute, as plain functions. -/
open Go Go.Av
set_option linter.unusedVariables false
namespace G
def known_laid_1__2_j1 (a_0 : Int) (b_1 : Int) (c_2 : G.graph_Graph) (v6 : Bool) : Option (G.graph_Graph) :=
  if v6 then
    (G.graph_Add c_2 a_0 b_1).bind fun r8 =>
    some r8.1
  else
    some c_2

def known_laid_1__2 (a_0 : Int) (b_1 : Int) (c_2 : G.graph_Graph) : Option (G.graph_Graph) :=
  if decide ((0 : Int) ≤ a_0) then
    G.known_laid_1__2_j1 a_0 b_1 c_2 (decide (a_0 ≠ b_1))
  else
    G.known_laid_1__2_j1 a_0 b_1 c_2 false

def known_Init_1__known_laid_1_2_j1 (v287 : Int) (v344 : G.graph_Graph) : Option ((G.graph_Graph × Int) ⊕ (G.graph_Graph)) :=
  Sh.next (v344, w64 (v287 + 1))

def known_Init_1__known_laid_1_2_j2 (v386 : Int) (v404 : G.graph_Graph) : Option ((G.graph_Graph × Int) ⊕ ((G.graph_Graph × Int) ⊕ (G.graph_Graph))) :=
  Sh.next (v404, w64 (v386 + 1))

def known_Init_1__known_laid_1_2_b3 (v386 : Int) (x407 : Int) (r410 : (List Int)) (c419 : G.graph_Graph) (v420 : Int) : Option ((G.graph_Graph × Int) ⊕ ((G.graph_Graph × Int) ⊕ ((G.graph_Graph × Int) ⊕ (G.graph_Graph)))) :=
  if decide (v420 < (Sh.len r410)) then
    (Sh.idx r410 v420).bind fun x427 =>
    (G.known_laid_1__2 x407 x427 c419).bind fun r429 =>
    Sh.next (r429, w64 (v420 + 1))
  else
    Sh.exit (G.known_Init_1__known_laid_1_2_j2 v386 c419)

def known_Init_1__known_laid_1_2_b2 (a_0 : G.api_Hist) (v287 : Int) (x347 : Int) (r350 : (List Int)) (c385 : G.graph_Graph) (v386 : Int) : Option ((G.graph_Graph × Int) ⊕ ((G.graph_Graph × Int) ⊕ (G.graph_Graph))) :=
  if decide (v386 < (Sh.len r350)) then
    (Sh.idx r350 v386).bind fun x407 =>
    (G.index_Writers a_0 x347).bind fun r410 =>
    Sh.loop (fun (p : G.graph_Graph × Int) => G.known_Init_1__known_laid_1_2_b3 v386 x407 r410 p.1 p.2) (c385, 0)
  else
    Sh.exit (G.known_Init_1__known_laid_1_2_j1 v287 c385)

def known_Init_1__known_laid_1_2_b1 (a_0 : G.api_Hist) (r173 : (List Int)) (c286 : G.graph_Graph) (v287 : Int) : Option ((G.graph_Graph × Int) ⊕ (G.graph_Graph)) :=
  if decide (v287 < (Sh.len r173)) then
    (Sh.idx r173 v287).bind fun x347 =>
    (G.index_Readers a_0 x347 (-1)).bind fun r350 =>
    Sh.loop (fun (p : G.graph_Graph × Int) => G.known_Init_1__known_laid_1_2_b2 a_0 v287 x347 r350 p.1 p.2) (c286, 0)
  else
    Sh.exit (some c286)

def known_Init_1__known_laid_1_2 (a_0 : G.api_Hist) (c_1 : G.graph_Graph) : Option (G.graph_Graph) :=
  (G.index_Keys a_0).bind fun r173 =>
  Sh.loop (fun (p : G.graph_Graph × Int) => G.known_Init_1__known_laid_1_2_b1 a_0 r173 p.1 p.2) (c_1, 0)

def known_laid__known_Init_1 (h_0 : G.api_Hist) (lay_1 : G.api_Hist) : Option (G.graph_Graph) :=
  (G.hist_Right h_0).bind fun r6 =>
  if !r6 then
    some (G.graph_Graph.mk 0 [])
  else
    (G.graph_New (Sh.len h_0.Txns)).bind fun r9 =>
    (G.known_Init_1__known_laid_1_2 lay_1 r9.1).bind fun r11 =>
    some r11

def known_Init (h_0 : G.api_Hist) : Option (G.graph_Graph) :=
  (G.known_laid__known_Init_1 h_0 h_0).bind fun r3 =>
  some r3

def known_So_1__known_laid_1_2_j1 (v104 : Int) (v125 : G.graph_Graph) : Option ((G.graph_Graph × Int) ⊕ (G.graph_Graph)) :=
  Sh.next (v125, w64 (v104 + 1))

def known_So_1__known_laid_1_2_j2 (v143 : Int) (c148 : G.graph_Graph) : Option ((G.graph_Graph × Int) ⊕ ((G.graph_Graph × Int) ⊕ (G.graph_Graph))) :=
  Sh.next (c148, w64 (v143 + 1))

def known_So_1__known_laid_1_2_b2 (v104 : Int) (x128 : G.api_Txn) (part131 : List G.api_Txn) (c142 : G.graph_Graph) (v143 : Int) : Option ((G.graph_Graph × Int) ⊕ ((G.graph_Graph × Int) ⊕ (G.graph_Graph))) :=
  if decide (v143 < (Sh.len part131)) then
    (Sh.idx part131 v143).bind fun x151 =>
    if decide (x151.Session = x128.Session) then
      (G.known_laid_1__2 v143 v104 c142).bind fun r154 =>
      G.known_So_1__known_laid_1_2_j2 v143 r154
    else
      G.known_So_1__known_laid_1_2_j2 v143 c142
  else
    Sh.exit (G.known_So_1__known_laid_1_2_j1 v104 c142)

def known_So_1__known_laid_1_2_b1 (a_0 : G.api_Hist) (c103 : G.graph_Graph) (v104 : Int) : Option ((G.graph_Graph × Int) ⊕ (G.graph_Graph)) :=
  if decide (v104 < (Sh.len a_0.Txns)) then
    (Sh.idx a_0.Txns v104).bind fun x128 =>
    (Sh.sub a_0.Txns 0 v104).bind fun part131 =>
    Sh.loop (fun (p : G.graph_Graph × Int) => G.known_So_1__known_laid_1_2_b2 v104 x128 part131 p.1 p.2) (c103, 0)
  else
    Sh.exit (some c103)

def known_So_1__known_laid_1_2 (a_0 : G.api_Hist) (c_1 : G.graph_Graph) : Option (G.graph_Graph) :=
  Sh.loop (fun (p : G.graph_Graph × Int) => G.known_So_1__known_laid_1_2_b1 a_0 p.1 p.2) (c_1, 0)

def known_laid__known_So_1 (h_0 : G.api_Hist) (lay_1 : G.api_Hist) : Option (G.graph_Graph) :=
  (G.hist_Right h_0).bind fun r6 =>
  if !r6 then
    some (G.graph_Graph.mk 0 [])
  else
    (G.graph_New (Sh.len h_0.Txns)).bind fun r9 =>
    (G.known_So_1__known_laid_1_2 lay_1 r9.1).bind fun r11 =>
    some r11

def known_So (h_0 : G.api_Hist) : Option (G.graph_Graph) :=
  (G.known_laid__known_So_1 h_0 h_0).bind fun r3 =>
  some r3

def known_Wr_1__known_laid_1_2_j1 (v84 : Int) (v101 : G.graph_Graph) : Option ((G.graph_Graph × Int) ⊕ (G.graph_Graph)) :=
  Sh.next (v101, w64 (v84 + 1))

def known_Wr_1__known_laid_1_2_b2 (v84 : Int) (x104 : G.api_Txn) (c114 : G.graph_Graph) (v115 : Int) : Option ((G.graph_Graph × Int) ⊕ ((G.graph_Graph × Int) ⊕ (G.graph_Graph))) :=
  if decide (v115 < (Sh.len x104.Reads)) then
    (Sh.idx x104.Reads v115).bind fun x122 =>
    (G.known_laid_1__2 x122.From v84 c114).bind fun r124 =>
    Sh.next (r124, w64 (v115 + 1))
  else
    Sh.exit (G.known_Wr_1__known_laid_1_2_j1 v84 c114)

def known_Wr_1__known_laid_1_2_b1 (a_0 : G.api_Hist) (c83 : G.graph_Graph) (v84 : Int) : Option ((G.graph_Graph × Int) ⊕ (G.graph_Graph)) :=
  if decide (v84 < (Sh.len a_0.Txns)) then
    (Sh.idx a_0.Txns v84).bind fun x104 =>
    Sh.loop (fun (p : G.graph_Graph × Int) => G.known_Wr_1__known_laid_1_2_b2 v84 x104 p.1 p.2) (c83, 0)
  else
    Sh.exit (some c83)

def known_Wr_1__known_laid_1_2 (a_0 : G.api_Hist) (c_1 : G.graph_Graph) : Option (G.graph_Graph) :=
  Sh.loop (fun (p : G.graph_Graph × Int) => G.known_Wr_1__known_laid_1_2_b1 a_0 p.1 p.2) (c_1, 0)

def known_laid__known_Wr_1 (h_0 : G.api_Hist) (lay_1 : G.api_Hist) : Option (G.graph_Graph) :=
  (G.hist_Right h_0).bind fun r6 =>
  if !r6 then
    some (G.graph_Graph.mk 0 [])
  else
    (G.graph_New (Sh.len h_0.Txns)).bind fun r9 =>
    (G.known_Wr_1__known_laid_1_2 lay_1 r9.1).bind fun r11 =>
    some r11

def known_Wr (h_0 : G.api_Hist) : Option (G.graph_Graph) :=
  (G.known_laid__known_Wr_1 h_0 h_0).bind fun r3 =>
  some r3

def known_Past (h_0 : G.api_Hist) : Option (G.graph_Graph) :=
  (G.known_So h_0).bind fun r7 =>
  (G.known_Wr h_0).bind fun r8 =>
  (G.graph_Union r7 r8).bind fun r9 =>
  some r9.1
end G
end

section
/- What the functions of a package compute, as plain functions. -/
open Go Go.Av
set_option linter.unusedVariables false
namespace G
def choice_Right_1__1 (t_0 : Int) (key_1 : Int) (a_2 : G.api_Hist) : Option (Bool) :=
  if decide ((0 : Int) ≤ t_0) then
    if decide (t_0 < (Sh.len a_2.Txns)) then
      (Sh.idx a_2.Txns t_0).bind fun x14 =>
      (G.slices_Contains_int_int x14.Writes key_1).bind fun r16 =>
      some r16
    else
      some false
  else
    some false

def choice_Right_2__1 (c_0 : G.api_Choice) (a_1 : G.api_Hist) : Option (Bool) :=
  if decide (c_0.A = c_0.B) then
    some true
  else
    (G.choice_Right_1__1 c_0.A c_0.Key a_1).bind fun r11 =>
    if !r11 then
      some true
    else
      (G.choice_Right_1__1 c_0.B c_0.Key a_1).bind fun r13 =>
      some (!r13)

def slices_IndexFunc_api_Choice_api_Choice__choice_Right_2_j1 : Option (Int) :=
  some (-1)

def slices_IndexFunc_api_Choice_api_Choice__choice_Right_2_b1 (s_0 : List G.api_Choice) (f_1 : G.api_Hist) (v30 : Int) : Option ((Int) ⊕ (Int)) :=
  if decide (v30 < (Sh.len s_0)) then
    (Sh.idx s_0 v30).bind fun x38 =>
    (G.choice_Right_2__1 x38 f_1).bind fun r40 =>
    if r40 then
      Sh.exit (some v30)
    else
      Sh.next (w64 (v30 + 1))
  else
    Sh.exit (G.slices_IndexFunc_api_Choice_api_Choice__choice_Right_2_j1)

def slices_IndexFunc_api_Choice_api_Choice__choice_Right_2 (s_0 : List G.api_Choice) (f_1 : G.api_Hist) : Option (Int) :=
  Sh.loop (fun (p : Int) => G.slices_IndexFunc_api_Choice_api_Choice__choice_Right_2_b1 s_0 f_1 p) 0

def slices_ContainsFunc_api_Choice_api_Choice__choice_Right_2 (s_0 : List G.api_Choice) (f_1 : G.api_Hist) : Option (Bool) :=
  (G.slices_IndexFunc_api_Choice_api_Choice__choice_Right_2 s_0 f_1).bind fun r3 =>
  some (decide ((0 : Int) ≤ r3))

def choice_Right_j1 (h_0 : G.api_Hist) (l_1 : List G.api_Choice) (v10 : Bool) : Option (Bool) :=
  if v10 then
    some false
  else
    (G.slices_ContainsFunc_api_Choice_api_Choice__choice_Right_2 l_1 h_0).bind fun r13 =>
    some (!r13)

def choice_Right (h_0 : G.api_Hist) (l_1 : List G.api_Choice) : Option (Bool) :=
  (G.hist_Right h_0).bind fun r14 =>
  if !r14 then
    G.choice_Right_j1 h_0 l_1 true
  else
    G.choice_Right_j1 h_0 l_1 (decide ((20000 : Int) < (Sh.len l_1)))

def choice_Rw_j1 (v197 : G.graph_Graph) : Option (G.graph_Graph) :=
  some v197

def choice_Rw_j2 (v261 : Int) (v293 : G.graph_Graph) : Option ((G.graph_Graph × Int) ⊕ (G.graph_Graph)) :=
  Sh.next (v293, w64 (v261 + 1))

def choice_Rw_j3 (v317 : Int) (gN325 : Int) (gRows326 : List (BitVec 64)) : Option ((G.graph_Graph × Int) ⊕ ((G.graph_Graph × Int) ⊕ (G.graph_Graph))) :=
  Sh.next ((G.graph_Graph.mk gN325 gRows326), w64 (v317 + 1))

def choice_Rw_j4 (x296 : G.api_Choice) (g316 : G.graph_Graph) (v317 : Int) (v333 : Bool) : Option ((G.graph_Graph × Int) ⊕ ((G.graph_Graph × Int) ⊕ (G.graph_Graph))) :=
  if v333 then
    (G.graph_Add g316 v317 x296.B).bind fun r335 =>
    G.choice_Rw_j3 v317 r335.1.N r335.1.Rows
  else
    G.choice_Rw_j3 v317 g316.N g316.Rows

def choice_Rw_b2 (h_0 : G.api_Hist) (v261 : Int) (x296 : G.api_Choice) (g316 : G.graph_Graph) (v317 : Int) : Option ((G.graph_Graph × Int) ⊕ ((G.graph_Graph × Int) ⊕ (G.graph_Graph))) :=
  if decide (v317 < (Sh.len h_0.Txns)) then
    (Sh.idx h_0.Txns v317).bind fun x329 =>
    if decide (v317 ≠ x296.B) then
      (G.slices_Contains_api_Take_api_Take x329.Reads (G.api_Take.mk x296.Key x296.A)).bind fun r337 =>
      G.choice_Rw_j4 x296 g316 v317 r337
    else
      G.choice_Rw_j4 x296 g316 v317 false
  else
    Sh.exit (G.choice_Rw_j2 v261 g316)

def choice_Rw_b1 (h_0 : G.api_Hist) (l_1 : List G.api_Choice) (g260 : G.graph_Graph) (v261 : Int) : Option ((G.graph_Graph × Int) ⊕ (G.graph_Graph)) :=
  if decide (v261 < (Sh.len l_1)) then
    (Sh.idx l_1 v261).bind fun x296 =>
    Sh.loop (fun (p : G.graph_Graph × Int) => G.choice_Rw_b2 h_0 v261 x296 p.1 p.2) (g260, 0)
  else
    Sh.exit (G.choice_Rw_j1 g260)

def choice_Rw (h_0 : G.api_Hist) (l_1 : List G.api_Choice) : Option (G.graph_Graph) :=
  (G.choice_Right h_0 l_1).bind fun r99 =>
  if !r99 then
    some (G.graph_Graph.mk 0 [])
  else
    (G.known_Init h_0).bind fun r102 =>
    Sh.loop (fun (p : G.graph_Graph × Int) => G.choice_Rw_b1 h_0 l_1 p.1 p.2) (r102, 0)

def choice_all_j1 (v31 : G.graph_Graph) : Option (G.graph_Graph) :=
  some v31

def choice_all_b1 (more_1 : List G.graph_Graph) (gN41 : Int) (gRows42 : List (BitVec 64)) (v43 : Int) : Option ((Int × (List (BitVec 64)) × Int) ⊕ (G.graph_Graph)) :=
  if decide (v43 < (Sh.len more_1)) then
    (Sh.idx more_1 v43).bind fun x50 =>
    (G.graph_Union (G.graph_Graph.mk gN41 gRows42) x50).bind fun r52 =>
    Sh.next (r52.1.N, r52.1.Rows, w64 (v43 + 1))
  else
    Sh.exit (G.choice_all_j1 (G.graph_Graph.mk gN41 gRows42))

def choice_all (g_0 : G.graph_Graph) (more_1 : List G.graph_Graph) : Option (G.graph_Graph) :=
  Sh.loop (fun (p : Int × (List (BitVec 64)) × Int) => G.choice_all_b1 more_1 p.1 p.2.1 p.2.2) (g_0.N, g_0.Rows, 0)

def choice_Ww_j1 (v39 : Int) (v40 : List (BitVec 64)) : Option (G.graph_Graph) :=
  some (G.graph_Graph.mk v39 v40)

def choice_Ww_b1 (l_1 : List G.api_Choice) (gN50 : Int) (gRows51 : List (BitVec 64)) (v52 : Int) : Option ((Int × (List (BitVec 64)) × Int) ⊕ (G.graph_Graph)) :=
  if decide (v52 < (Sh.len l_1)) then
    (Sh.idx l_1 v52).bind fun x59 =>
    (G.graph_Add (G.graph_Graph.mk gN50 gRows51) x59.A x59.B).bind fun r61 =>
    Sh.next (r61.1.N, r61.1.Rows, w64 (v52 + 1))
  else
    Sh.exit (G.choice_Ww_j1 gN50 gRows51)

def choice_Ww (h_0 : G.api_Hist) (l_1 : List G.api_Choice) : Option (G.graph_Graph) :=
  (G.choice_Right h_0 l_1).bind fun r20 =>
  if !r20 then
    some (G.graph_Graph.mk 0 [])
  else
    (G.graph_New (Sh.len h_0.Txns)).bind fun r23 =>
    Sh.loop (fun (p : Int × (List (BitVec 64)) × Int) => G.choice_Ww_b1 l_1 p.1 p.2.1 p.2.2) (r23.1.N, r23.1.Rows, 0)

def choice_Full_j2 (r26 : G.graph_Graph) (over30 : G.graph_Graph) : Option (G.graph_Graph × Int) :=
  (G.choice_all r26 ([over30] : List G.graph_Graph)).bind fun r32 =>
  some (r32, 0)

def choice_Full_j1 (h_0 : G.api_Hist) (level_1 : Int) (l_2 : List G.api_Choice) (v19 : Bool) : Option (G.graph_Graph × Int) :=
  if v19 then
    some ((G.graph_Graph.mk 0 []), 1)
  else
    (G.known_Past h_0).bind fun r24 =>
    (G.choice_Ww h_0 l_2).bind fun r25 =>
    (G.choice_all r24 ([r25] : List G.graph_Graph)).bind fun r26 =>
    (G.choice_Rw h_0 l_2).bind fun r28 =>
    if decide (level_1 = 1) then
      (G.graph_Compose r26 r28).bind fun r34 =>
      G.choice_Full_j2 r26 r34.1
    else
      G.choice_Full_j2 r26 r28

def choice_Full (h_0 : G.api_Hist) (level_1 : Int) (l_2 : List G.api_Choice) : Option (G.graph_Graph × Int) :=
  (G.choice_Right h_0 l_2).bind fun r35 =>
  if !r35 then
    G.choice_Full_j1 h_0 level_1 l_2 true
  else
    if decide (level_1 ≠ 0) then
      G.choice_Full_j1 h_0 level_1 l_2 (decide (level_1 ≠ 1))
    else
      G.choice_Full_j1 h_0 level_1 l_2 false

def choice_Of_j3 (l130 : List G.api_Choice) : Option ((List G.api_Choice)) :=
  some l130

def choice_Of_j4 (v156 : Int) (l168 : List G.api_Choice) : Option (((List G.api_Choice) × Int) ⊕ ((List G.api_Choice))) :=
  Sh.next (l168, w64 (v156 + 1))

def choice_Of_b1 (place90 : List Int) (r92 : (List G.api_Choice)) (l155 : List G.api_Choice) (v156 : Int) : Option (((List G.api_Choice) × Int) ⊕ ((List G.api_Choice))) :=
  if decide (v156 < (Sh.len r92)) then
    (Sh.idx l155 v156).bind fun x171 =>
    (Sh.idx place90 x171.A).bind fun x177 =>
    (Sh.idx place90 x171.B).bind fun x179 =>
    if decide (x179 < x177) then
      (Sh.idx l155 v156).bind fun x182 =>
      (Sh.idx (Sh.set l155 v156 (G.api_Choice.mk x182.Key x171.B x182.B)) v156).bind fun x184 =>
      G.choice_Of_j4 v156 (Sh.set (Sh.set l155 v156 (G.api_Choice.mk x182.Key x171.B x182.B)) v156 (G.api_Choice.mk x184.Key x184.A x171.A))
    else
      G.choice_Of_j4 v156 l155
  else
    Sh.exit (G.choice_Of_j3 l155)

def choice_Of_j2 (h_0 : G.api_Hist) (place90 : List Int) : Option ((List G.api_Choice)) :=
  (G.index_Pairs h_0).bind fun r92 =>
  Sh.loop (fun (p : (List G.api_Choice) × Int) => G.choice_Of_b1 place90 r92 p.1 p.2) (r92, 0)

def choice_Of_b2 (h_0 : G.api_Hist) (order_1 : List Int) (made70 : List Int) (place198 : List Int) (v199 : Int) : Option (((List Int) × Int) ⊕ ((List G.api_Choice))) :=
  if decide (v199 < (Sh.len made70)) then
    (G.slices_Index_int_int order_1 v199).bind fun r209 =>
    (Sh.idx place198 v199).bind fun x210 =>
    (Sh.idx (Sh.set place198 v199 r209) v199).bind fun x214 =>
    if decide (x214 < 0) then
      Sh.exit (some [])
    else
      Sh.next (Sh.set place198 v199 r209, w64 (v199 + 1))
  else
    Sh.exit (G.choice_Of_j2 h_0 place198)

def choice_Of_j1 (h_0 : G.api_Hist) (order_1 : List Int) (v67 : Bool) : Option ((List G.api_Choice)) :=
  if v67 then
    some []
  else
    (Sh.mk 8 (Sh.len order_1) (Sh.len order_1) 0).bind fun made70 =>
    Sh.loop (fun (p : (List Int) × Int) => G.choice_Of_b2 h_0 order_1 made70 p.1 p.2) (made70, 0)

def choice_Of (h_0 : G.api_Hist) (order_1 : List Int) : Option ((List G.api_Choice)) :=
  (G.hist_Right h_0).bind fun r217 =>
  if !r217 then
    G.choice_Of_j1 h_0 order_1 true
  else
    G.choice_Of_j1 h_0 order_1 (decide ((Sh.len order_1) ≠ (Sh.len h_0.Txns)))
end G
end

section
/- What the functions of a package compute, as plain functions. -/
open Go Go.Av
set_option linter.unusedVariables false
namespace G
def inquestref18_place_j1 : Option (Int) :=
  some (-1)

def inquestref18_place_b1 (l_0 : List Int) (n_1 : Int) (i22 : Int) : Option ((Int) ⊕ (Int)) :=
  if decide (i22 < (Sh.len l_0)) then
    (Sh.idx l_0 i22).bind fun x28 =>
    if decide (x28 = n_1) then
      Sh.exit (some i22)
    else
      Sh.next (w64 (i22 + 1))
  else
    Sh.exit (G.inquestref18_place_j1)

def inquestref18_place (l_0 : List Int) (n_1 : Int) : Option (Int) :=
  Sh.loop (fun (p : Int) => G.inquestref18_place_b1 l_0 n_1 p) 0

def inquestref18_Perm_j1 : Option (Bool) :=
  some true

def inquestref18_Perm_b1 (l_0 : List Int) (n_1 : Int) (i15 : Int) : Option ((Int) ⊕ (Bool)) :=
  if decide (i15 < n_1) then
    (G.inquestref18_place l_0 i15).bind fun r19 =>
    if decide (r19 < 0) then
      Sh.exit (some false)
    else
      Sh.next (w64 (i15 + 1))
  else
    Sh.exit (G.inquestref18_Perm_j1)

def inquestref18_Perm (l_0 : List Int) (n_1 : Int) : Option (Bool) :=
  if decide ((Sh.len l_0) ≠ n_1) then
    some false
  else
    Sh.loop (fun (p : Int) => G.inquestref18_Perm_b1 l_0 n_1 p) 0
end G
end

section
/- What the functions of a package compute, as plain functions. -/
open Go Go.Av
set_option linter.unusedVariables false
namespace G
end G
end

section
/- What the functions of a package compute, as plain functions. -/
open Go Go.Av
set_option linter.unusedVariables false
namespace G
end G
end

section
/- What the functions of a package compute, as plain functions. -/
open Go Go.Av
set_option linter.unusedVariables false
namespace G
def topo_Is_j2 : Option (Bool) :=
  some true

def topo_Is_j3 (g_0 : G.graph_Graph) (seen93 : BitVec 64) (v94 : Int) (x107 : Int) (v116 : Bool) : Option (((BitVec 64) × Int) ⊕ (Bool)) :=
  if v116 then
    Sh.exit (some false)
  else
    (G.bits_With seen93 x107).bind fun r119 =>
    (Sh.idx g_0.Rows x107).bind fun x122 =>
    if decide ((x122 &&& r119) ≠ 0#64) then
      Sh.exit (some false)
    else
      Sh.next (r119, w64 (v94 + 1))

def topo_Is_b1 (g_0 : G.graph_Graph) (l_1 : List Int) (seen93 : BitVec 64) (v94 : Int) : Option (((BitVec 64) × Int) ⊕ (Bool)) :=
  if decide (v94 < (Sh.len l_1)) then
    (Sh.idx l_1 v94).bind fun x107 =>
    if decide (x107 < 0) then
      G.topo_Is_j3 g_0 seen93 v94 x107 true
    else
      if decide (g_0.N ≤ x107) then
        G.topo_Is_j3 g_0 seen93 v94 x107 true
      else
        (G.bits_Has seen93 x107).bind fun r127 =>
        G.topo_Is_j3 g_0 seen93 v94 x107 r127
  else
    Sh.exit (G.topo_Is_j2)

def topo_Is_j1 (g_0 : G.graph_Graph) (l_1 : List Int) (v40 : Bool) : Option (Bool) :=
  if v40 then
    some false
  else
    Sh.loop (fun (p : (BitVec 64) × Int) => G.topo_Is_b1 g_0 l_1 p.1 p.2) (0#64, 0)

def topo_Is (g_0 : G.graph_Graph) (l_1 : List Int) : Option (Bool) :=
  (G.graph_Right g_0).bind fun r128 =>
  if !r128 then
    G.topo_Is_j1 g_0 l_1 true
  else
    G.topo_Is_j1 g_0 l_1 (decide ((Sh.len l_1) ≠ g_0.N))
end G
end

section
/- What the functions of a package compute, as plain functions. -/
open Go Go.Av
set_option linter.unusedVariables false
namespace G
def ser_right_j2 : Option (Bool) :=
  some true

def ser_right_j3 (seen93 : List Bool) (v94 : Int) (x107 : Int) (v118 : Bool) : Option (((List Bool) × Int) ⊕ (Bool)) :=
  if v118 then
    Sh.exit (some false)
  else
    (Sh.aidx 32 seen93 x107).bind fun x120 =>
    Sh.next (Sh.set seen93 x107 true, w64 (v94 + 1))

def ser_right_b1 (order_1 : List Int) (seen93 : List Bool) (v94 : Int) : Option (((List Bool) × Int) ⊕ (Bool)) :=
  if decide (v94 < (Sh.len order_1)) then
    (Sh.idx order_1 v94).bind fun x107 =>
    if decide (x107 < 0) then
      G.ser_right_j3 seen93 v94 x107 true
    else
      if decide ((Sh.len order_1) ≤ x107) then
        G.ser_right_j3 seen93 v94 x107 true
      else
        (Sh.aidx 32 seen93 x107).bind fun x124 =>
        G.ser_right_j3 seen93 v94 x107 x124
  else
    Sh.exit (G.ser_right_j2)

def ser_right_j1 (order_1 : List Int) (v40 : Bool) : Option (Bool) :=
  if v40 then
    some false
  else
    Sh.loop (fun (p : (List Bool) × Int) => G.ser_right_b1 order_1 p.1 p.2) ((List.replicate 32 false), 0)

def ser_right (h_0 : G.api_Hist) (order_1 : List Int) : Option (Bool) :=
  (G.hist_Right h_0).bind fun r126 =>
  if !r126 then
    G.ser_right_j1 order_1 true
  else
    G.ser_right_j1 order_1 (decide ((Sh.len order_1) ≠ (Sh.len h_0.Txns)))

def ser_Play_j1 (out339 : List (List G.api_Take)) : Option ((List (List G.api_Take))) :=
  some out339

def ser_Play_j2 (v451 : Int) (out506 : List (List G.api_Take)) (v507 : List Int) : Option (((List Int) × (List (List G.api_Take)) × Int) ⊕ ((List (List G.api_Take)))) :=
  Sh.next (v507, out506, w64 (v451 + 1))

def ser_Play_b2 (v451 : Int) (x510 : Int) (out545 : List (List G.api_Take)) (x548 : G.api_Txn) (last560 : List Int) (v561 : Int) : Option (((List Int) × Int) ⊕ (((List Int) × (List (List G.api_Take)) × Int) ⊕ ((List (List G.api_Take))))) :=
  if decide (v561 < (Sh.len x548.Writes)) then
    (Sh.idx x548.Writes v561).bind fun x569 =>
    (Sh.aidx 16 last560 x569).bind fun x571 =>
    Sh.next (Sh.set last560 x569 (w64 (x510 + 1)), w64 (v561 + 1))
  else
    Sh.exit (G.ser_Play_j2 v451 out545 last560)

def ser_Play_j3 (h_0 : G.api_Hist) (last449 : List Int) (v451 : Int) (x510 : Int) (out545 : List (List G.api_Take)) : Option (((List Int) × (List (List G.api_Take)) × Int) ⊕ ((List (List G.api_Take)))) :=
  (Sh.idx h_0.Txns x510).bind fun x548 =>
  Sh.loop (fun (p : (List Int) × Int) => G.ser_Play_b2 v451 x510 out545 x548 p.1 p.2) (last449, 0)

def ser_Play_b3 (h_0 : G.api_Hist) (last449 : List Int) (v451 : Int) (x510 : Int) (x575 : G.api_Txn) (out597 : List (List G.api_Take)) (v598 : Int) : Option (((List (List G.api_Take)) × Int) ⊕ (((List Int) × (List (List G.api_Take)) × Int) ⊕ ((List (List G.api_Take))))) :=
  if decide (v598 < (Sh.len x575.Reads)) then
    (Sh.idx x575.Reads v598).bind fun x611 =>
    (Sh.idx out597 x510).bind fun x613 =>
    (Sh.aidx 16 last449 x611.Key).bind fun x615 =>
    (Sh.app 16 x613 ([(G.api_Take.mk x611.Key (w64 (x615 - 1)))] : List G.api_Take)).bind fun l617 =>
    (Sh.idx out597 x510).bind fun x618 =>
    Sh.next (Sh.set out597 x510 l617, w64 (v598 + 1))
  else
    Sh.exit (G.ser_Play_j3 h_0 last449 v451 x510 out597)

def ser_Play_b1 (h_0 : G.api_Hist) (order_1 : List Int) (last449 : List Int) (out450 : List (List G.api_Take)) (v451 : Int) : Option (((List Int) × (List (List G.api_Take)) × Int) ⊕ ((List (List G.api_Take)))) :=
  if decide (v451 < (Sh.len order_1)) then
    (Sh.idx order_1 v451).bind fun x510 =>
    (Sh.idx h_0.Txns x510).bind fun x575 =>
    Sh.loop (fun (p : (List (List G.api_Take)) × Int) => G.ser_Play_b3 h_0 last449 v451 x510 x575 p.1 p.2) (out450, 0)
  else
    Sh.exit (G.ser_Play_j1 out450)

def ser_Play (h_0 : G.api_Hist) (order_1 : List Int) : Option ((List (List G.api_Take))) :=
  (G.ser_right h_0 order_1).bind fun r170 =>
  if !r170 then
    some []
  else
    (Sh.mk 24 (Sh.len order_1) (Sh.len order_1) []).bind fun made173 =>
    Sh.loop (fun (p : (List Int) × (List (List G.api_Take)) × Int) => G.ser_Play_b1 h_0 order_1 p.1 p.2.1 p.2.2) ((List.replicate 16 0), made173, 0)

def ser_Check_j2 : Option (Bool) :=
  some true

def ser_Check_b1 (h_0 : G.api_Hist) (order_1 : List Int) (last116 : List Int) (v117 : Int) : Option (((List Int) × Int) ⊕ (Bool)) :=
  if decide (v117 < (Sh.len order_1)) then
    (Sh.idx order_1 v117).bind fun x129 =>
    (Sh.idx h_0.Txns x129).bind fun x133 =>
    (Sh.aidx 8 last116 x133.Session).bind fun x139 =>
    if decide (x129 < x139) then
      Sh.exit (some false)
    else
      (Sh.aidx 8 last116 x133.Session).bind fun x142 =>
      Sh.next (Sh.set last116 x133.Session (w64 (x129 + 1)), w64 (v117 + 1))
  else
    Sh.exit (G.ser_Check_j2)

def ser_Check_j1 (h_0 : G.api_Hist) (order_1 : List Int) : Option (Bool) :=
  Sh.loop (fun (p : (List Int) × Int) => G.ser_Check_b1 h_0 order_1 p.1 p.2) ((List.replicate 8 0), 0)

def ser_Check_b2 (h_0 : G.api_Hist) (order_1 : List Int) (r145 : (List (List G.api_Take))) (v157 : Int) : Option ((Int) ⊕ (Bool)) :=
  if decide (v157 < (Sh.len r145)) then
    (Sh.idx r145 v157).bind fun x166 =>
    (Sh.idx h_0.Txns v157).bind fun x171 =>
    (G.slices_Equal_api_Take_api_Take x166 x171.Reads).bind fun r173 =>
    if !r173 then
      Sh.exit (some false)
    else
      Sh.next (w64 (v157 + 1))
  else
    Sh.exit (G.ser_Check_j1 h_0 order_1)

def ser_Check (h_0 : G.api_Hist) (order_1 : List Int) : Option (Bool) :=
  (G.ser_right h_0 order_1).bind fun r50 =>
  if !r50 then
    some false
  else
    (G.ser_Play h_0 order_1).bind fun r145 =>
    Sh.loop (fun (p : Int) => G.ser_Check_b2 h_0 order_1 r145 p) 0
end G
end

section
/- What the functions of a package compute, as plain functions. -/
open Go Go.Av
set_option linter.unusedVariables false
namespace G
def inquestref20_Takes_j1 : Option (Bool) :=
  some true

def inquestref20_Takes_b1 (a_0 : List G.api_Take) (b_1 : List G.api_Take) (i39 : Int) : Option ((Int) ⊕ (Bool)) :=
  if decide (i39 < (Sh.len a_0)) then
    (Sh.idx a_0 i39).bind fun x49 =>
    (Sh.idx b_1 i39).bind fun x51 =>
    if !decide (x49 = x51) then
      Sh.exit (some false)
    else
      Sh.next (w64 (i39 + 1))
  else
    Sh.exit (G.inquestref20_Takes_j1)

def inquestref20_Takes (a_0 : List G.api_Take) (b_1 : List G.api_Take) : Option (Bool) :=
  if decide ((Sh.len a_0) ≠ (Sh.len b_1)) then
    some false
  else
    Sh.loop (fun (p : Int) => G.inquestref20_Takes_b1 a_0 b_1 p) 0
end G
end

section
/- What the functions of a package compute, as plain functions. -/
open Go Go.Av
set_option linter.unusedVariables false
namespace G
def inquestlaw20_awake : Option (Bool) :=
  (G.ser_Play (G.api_Hist.mk ([(G.api_Txn.mk 0 [1] []), (G.api_Txn.mk 1 [] ([(G.api_Take.mk 1 0)] : List G.api_Take))] : List G.api_Txn)) [1, 0]).bind fun r11 =>
  if decide ((Sh.len r11) ≠ 2) then
    some false
  else
    (G.ser_Check (G.api_Hist.mk ([(G.api_Txn.mk 0 [1] []), (G.api_Txn.mk 1 [] ([(G.api_Take.mk 1 0)] : List G.api_Take))] : List G.api_Txn)) [0, 1]).bind fun r20 =>
    if r20 then
      (G.ser_Check (G.api_Hist.mk ([(G.api_Txn.mk 0 [1] []), (G.api_Txn.mk 1 [] ([(G.api_Take.mk 1 0)] : List G.api_Take))] : List G.api_Txn)) [1, 0]).bind fun r22 =>
      if !r22 then
        (Sh.idx r11 1).bind fun x24 =>
        (G.inquestref20_Takes x24 ([(G.api_Take.mk 1 (-1))] : List G.api_Take)).bind fun r26 =>
        some r26
      else
        some false
    else
      some false

def inquestlaw20_SerGraph_j1 (h_0 : G.api_Hist) (order_1 : List Int) (v21 : Bool) : Option (Bool) :=
  if v21 then
    some true
  else
    (G.choice_Of h_0 order_1).bind fun r24 =>
    (G.choice_Full h_0 0 r24).bind fun r26 =>
    if decide (r26.2 ≠ 0) then
      (G.choice_Right h_0 r24).bind fun r30 =>
      some (!r30)
    else
      (G.ser_Check h_0 order_1).bind fun r33 =>
      (G.topo_Is r26.1 order_1).bind fun r34 =>
      some (r33 == r34)

def inquestlaw20_SerGraph (h_0 : G.api_Hist) (order_1 : List Int) : Option (Bool) :=
  (G.inquestlaw20_awake).bind fun r12 =>
  if !r12 then
    some false
  else
    (G.inquestref08_Few h_0 20).bind fun r15 =>
    (G.inquestref18_Perm order_1 (Sh.len h_0.Txns)).bind fun r17 =>
    if !r15 then
      G.inquestlaw20_SerGraph_j1 h_0 order_1 true
    else
      G.inquestlaw20_SerGraph_j1 h_0 order_1 (!r17)
end G
end
