/- What the functions compute, as plain functions. -/
import Derived.Test.YtcoegkcdabpijaaDoorBase1
set_option linter.unusedSimpArgs false
set_option linter.unusedVariables false
section
/- The plain types. -/
open Go Go.Av
namespace G
structure api_Choice where
  Key : Int
  A : Int
  B : Int
  deriving DecidableEq, Inhabited
def api_Choice.av (x : api_Choice) : AV := .agg [i64 x.Key, i64 x.A, i64 x.B]
@[simp] theorem api_Choice.noid (x : api_Choice) : NoId (api_Choice.av x) := by simp [api_Choice.av]
@[simp] theorem api_Choice.solid (x : api_Choice) : AV.solid (api_Choice.av x) = true := rfl
@[simp] theorem api_Choice.dry (x : api_Choice) : Dry (api_Choice.av x) := by simp [api_Choice.av]
@[simp] theorem api_Choice.flat (x : api_Choice) : (api_Choice.av x).flat.length = 3 := rfl
structure api_Take where
  Key : Int
  From : Int
  deriving DecidableEq, Inhabited
def api_Take.av (x : api_Take) : AV := .agg [i64 x.Key, i64 x.From]
@[simp] theorem api_Take.noid (x : api_Take) : NoId (api_Take.av x) := by simp [api_Take.av]
@[simp] theorem api_Take.solid (x : api_Take) : AV.solid (api_Take.av x) = true := rfl
@[simp] theorem api_Take.dry (x : api_Take) : Dry (api_Take.av x) := by simp [api_Take.av]
@[simp] theorem api_Take.flat (x : api_Take) : (api_Take.av x).flat.length = 2 := rfl
structure api_Txn where
  Session : Int
  Writes : List Int
  Reads : List G.api_Take
  deriving DecidableEq, Inhabited
def api_Txn.av (x : api_Txn) : AV := .agg [i64 x.Session, .sl (List.map i64 x.Writes), .sl (List.map G.api_Take.av x.Reads)]
@[simp] theorem api_Txn.noid (x : api_Txn) : NoId (api_Txn.av x) := by simp [api_Txn.av]
@[simp] theorem api_Txn.solid (x : api_Txn) : AV.solid (api_Txn.av x) = true := rfl
@[simp] theorem api_Txn.flat (x : api_Txn) : (api_Txn.av x).flat.length = 3 := rfl
structure api_Hist where
  Txns : List G.api_Txn
  deriving DecidableEq, Inhabited
def api_Hist.av (x : api_Hist) : AV := .agg [.sl (List.map G.api_Txn.av x.Txns)]
@[simp] theorem api_Hist.noid (x : api_Hist) : NoId (api_Hist.av x) := by simp [api_Hist.av]
@[simp] theorem api_Hist.solid (x : api_Hist) : AV.solid (api_Hist.av x) = true := rfl
@[simp] theorem api_Hist.flat (x : api_Hist) : (api_Hist.av x).flat.length = 1 := rfl
structure edge_read where
  deriving DecidableEq, Inhabited
def edge_read.av (x : edge_read) : AV := .agg []
@[simp] theorem edge_read.noid (x : edge_read) : NoId (edge_read.av x) := by simp [edge_read.av]
@[simp] theorem edge_read.solid (x : edge_read) : AV.solid (edge_read.av x) = true := rfl
@[simp] theorem edge_read.dry (x : edge_read) : Dry (edge_read.av x) := by simp [edge_read.av]
@[simp] theorem edge_read.flat (x : edge_read) : (edge_read.av x).flat.length = 0 := rfl
structure edge_session where
  deriving DecidableEq, Inhabited
def edge_session.av (x : edge_session) : AV := .agg []
@[simp] theorem edge_session.noid (x : edge_session) : NoId (edge_session.av x) := by simp [edge_session.av]
@[simp] theorem edge_session.solid (x : edge_session) : AV.solid (edge_session.av x) = true := rfl
@[simp] theorem edge_session.dry (x : edge_session) : Dry (edge_session.av x) := by simp [edge_session.av]
@[simp] theorem edge_session.flat (x : edge_session) : (edge_session.av x).flat.length = 0 := rfl
structure graph_Edge where
  A : Int
  B : Int
  deriving DecidableEq, Inhabited
def graph_Edge.av (x : graph_Edge) : AV := .agg [i64 x.A, i64 x.B]
@[simp] theorem graph_Edge.noid (x : graph_Edge) : NoId (graph_Edge.av x) := by simp [graph_Edge.av]
@[simp] theorem graph_Edge.solid (x : graph_Edge) : AV.solid (graph_Edge.av x) = true := rfl
@[simp] theorem graph_Edge.dry (x : graph_Edge) : Dry (graph_Edge.av x) := by simp [graph_Edge.av]
@[simp] theorem graph_Edge.flat (x : graph_Edge) : (graph_Edge.av x).flat.length = 2 := rfl
structure graph_Graph where
  N : Int
  Rows : List (BitVec 64)
  deriving DecidableEq, Inhabited
def graph_Graph.av (x : graph_Graph) : AV := .agg [i64 x.N, .sl (List.map u64 x.Rows)]
@[simp] theorem graph_Graph.noid (x : graph_Graph) : NoId (graph_Graph.av x) := by simp [graph_Graph.av]
@[simp] theorem graph_Graph.solid (x : graph_Graph) : AV.solid (graph_Graph.av x) = true := rfl
@[simp] theorem graph_Graph.flat (x : graph_Graph) : (graph_Graph.av x).flat.length = 2 := rfl
structure index_read where
  t : Int
  Take : G.api_Take
  deriving DecidableEq, Inhabited
def index_read.av (x : index_read) : AV := .agg [i64 x.t, i64 x.Take.Key, i64 x.Take.From]
@[simp] theorem index_read.noid (x : index_read) : NoId (index_read.av x) := by simp [index_read.av]
@[simp] theorem index_read.solid (x : index_read) : AV.solid (index_read.av x) = true := rfl
@[simp] theorem index_read.dry (x : index_read) : Dry (index_read.av x) := by simp [index_read.av]
@[simp] theorem index_read.flat (x : index_read) : (index_read.av x).flat.length = 3 := rfl
structure inquestlaw19_At where
  H : G.api_Hist
  Level : Int
  L : List G.api_Choice
  X : Int
  Y : Int
  Row : List Int
  deriving DecidableEq, Inhabited
def inquestlaw19_At.av (x : inquestlaw19_At) : AV := .agg [.sl (List.map G.api_Txn.av x.H.Txns), i64 x.Level, .sl (List.map G.api_Choice.av x.L), i64 x.X, i64 x.Y, .sl (List.map i64 x.Row)]
@[simp] theorem inquestlaw19_At.noid (x : inquestlaw19_At) : NoId (inquestlaw19_At.av x) := by simp [inquestlaw19_At.av]
@[simp] theorem inquestlaw19_At.solid (x : inquestlaw19_At) : AV.solid (inquestlaw19_At.av x) = true := rfl
@[simp] theorem inquestlaw19_At.flat (x : inquestlaw19_At) : (inquestlaw19_At.av x).flat.length = 6 := rfl
end G
end

section
/- What the functions of a package compute, as plain functions. -/
open Go Go.Av
set_option linter.unusedVariables false
namespace G
end G
end

section
/- What the functions of a package compute, as plain functions. -/
open Go Go.Av
set_option linter.unusedVariables false
namespace G
def slices_Index_int_int_j1 : Option (Int) :=
  some (-1)

def slices_Index_int_int_b1 (s_0 : List Int) (v_1 : Int) (v22 : Int) : Option ((Int) ⊕ (Int)) :=
  if decide (v22 < (Sh.len s_0)) then
    (Sh.idx s_0 v22).bind fun x28 =>
    if decide (v_1 = x28) then
      Sh.exit (some v22)
    else
      Sh.next (w64 (v22 + 1))
  else
    Sh.exit (G.slices_Index_int_int_j1)

def slices_Index_int_int (s_0 : List Int) (v_1 : Int) : Option (Int) :=
  Sh.loop (fun (p : Int) => G.slices_Index_int_int_b1 s_0 v_1 p) 0

def slices_Contains_int_int (s_0 : List Int) (v_1 : Int) : Option (Bool) :=
  (G.slices_Index_int_int s_0 v_1).bind fun r3 =>
  some (decide ((0 : Int) ≤ r3))

def slices_Index_edge_over_api_Choice_j1 : Option (Int) :=
  some (-1)

def slices_Index_edge_over_api_Choice_b1 (s_0 : List G.api_Choice) (v_1 : G.api_Choice) (v22 : Int) : Option ((Int) ⊕ (Int)) :=
  if decide (v22 < (Sh.len s_0)) then
    (Sh.idx s_0 v22).bind fun x28 =>
    if decide (v_1 = x28) then
      Sh.exit (some v22)
    else
      Sh.next (w64 (v22 + 1))
  else
    Sh.exit (G.slices_Index_edge_over_api_Choice_j1)

def slices_Index_edge_over_api_Choice (s_0 : List G.api_Choice) (v_1 : G.api_Choice) : Option (Int) :=
  Sh.loop (fun (p : Int) => G.slices_Index_edge_over_api_Choice_b1 s_0 v_1 p) 0

def slices_Contains_edge_over_api_Choice (s_0 : List G.api_Choice) (v_1 : G.api_Choice) : Option (Bool) :=
  (G.slices_Index_edge_over_api_Choice s_0 v_1).bind fun r3 =>
  some (decide ((0 : Int) ≤ r3))

def slices_Index_api_Take_api_Take_j1 : Option (Int) :=
  some (-1)

def slices_Index_api_Take_api_Take_b1 (s_0 : List G.api_Take) (v_1 : G.api_Take) (v22 : Int) : Option ((Int) ⊕ (Int)) :=
  if decide (v22 < (Sh.len s_0)) then
    (Sh.idx s_0 v22).bind fun x28 =>
    if decide (v_1 = x28) then
      Sh.exit (some v22)
    else
      Sh.next (w64 (v22 + 1))
  else
    Sh.exit (G.slices_Index_api_Take_api_Take_j1)

def slices_Index_api_Take_api_Take (s_0 : List G.api_Take) (v_1 : G.api_Take) : Option (Int) :=
  Sh.loop (fun (p : Int) => G.slices_Index_api_Take_api_Take_b1 s_0 v_1 p) 0

def slices_Contains_api_Take_api_Take (s_0 : List G.api_Take) (v_1 : G.api_Take) : Option (Bool) :=
  (G.slices_Index_api_Take_api_Take s_0 v_1).bind fun r3 =>
  some (decide ((0 : Int) ≤ r3))

end G
end

section
/- What the functions of a package compute, as plain functions. -/
open Go Go.Av
set_option linter.unusedVariables false
namespace G
def hist_faults (h_0 : G.api_Hist) : Option (Unit) :=
  some ()

def hist_Right__r (c_0 : Bool) (y_1 : Bool) : Option (Bool × Bool) :=
  if !y_1 then
    some (false, false)
  else
    some (c_0, true)

def hist_faults_1__hist_Right__r_j1 (v523 : Int) (c625 : Bool) : Option ((Bool × Int) ⊕ (Bool × Bool)) :=
  Sh.next (c625, w64 (v523 + 1))

def hist_faults_1__hist_Right__r_j3 (v523 : Int) (x628 : G.api_Txn) (v724 : Bool) : Option ((Bool × Int) ⊕ (Bool × Bool)) :=
  if decide ((0 : Int) ≤ x628.Session) then
    (G.hist_Right__r v724 (decide (x628.Session < 8))).bind fun y731 =>
    if y731.2 then
      G.hist_faults_1__hist_Right__r_j1 v523 y731.1
    else
      Sh.exit (some (y731.1, false))
  else
    (G.hist_Right__r v724 false).bind fun y733 =>
    if y733.2 then
      G.hist_faults_1__hist_Right__r_j1 v523 y733.1
    else
      Sh.exit (some (y733.1, false))

def hist_faults_1__hist_Right__r_j5 (v778 : Int) (x801 : G.api_Take) (c819 : Bool) : Option ((Bool × Int × Int) ⊕ ((Bool × Int) ⊕ (Bool × Bool))) :=
  Sh.next (c819, x801.Key, w64 (v778 + 1))

def hist_faults_1__hist_Right__r_j4 (c776 : Bool) (last777 : Int) (v778 : Int) (x801 : G.api_Take) (there810 : Bool) : Option ((Bool × Int × Int) ⊕ ((Bool × Int) ⊕ (Bool × Bool))) :=
  if decide (last777 < x801.Key) then
    if decide (x801.Key < 16) then
      (G.hist_Right__r c776 there810).bind fun y830 =>
      if y830.2 then
        G.hist_faults_1__hist_Right__r_j5 v778 x801 y830.1
      else
        Sh.exit (Sh.exit (some (y830.1, false)))
    else
      (G.hist_Right__r c776 false).bind fun y832 =>
      if y832.2 then
        G.hist_faults_1__hist_Right__r_j5 v778 x801 y832.1
      else
        Sh.exit (Sh.exit (some (y832.1, false)))
  else
    (G.hist_Right__r c776 false).bind fun y834 =>
    if y834.2 then
      G.hist_faults_1__hist_Right__r_j5 v778 x801 y834.1
    else
      Sh.exit (Sh.exit (some (y834.1, false)))

def hist_faults_1__hist_Right__r_b2 (c_1 : G.api_Hist) (v523 : Int) (x628 : G.api_Txn) (c776 : Bool) (last777 : Int) (v778 : Int) : Option ((Bool × Int × Int) ⊕ ((Bool × Int) ⊕ (Bool × Bool))) :=
  if decide (v778 < (Sh.len x628.Reads)) then
    (Sh.idx x628.Reads v778).bind fun x801 =>
    if decide (x801.From = (-1)) then
      G.hist_faults_1__hist_Right__r_j4 c776 last777 v778 x801 true
    else
      if decide ((0 : Int) ≤ x801.From) then
        if decide (x801.From < (Sh.len c_1.Txns)) then
          if decide (x801.From ≠ v523) then
            (Sh.idx c_1.Txns x801.From).bind fun x840 =>
            (G.slices_Contains_int_int x840.Writes x801.Key).bind fun r842 =>
            G.hist_faults_1__hist_Right__r_j4 c776 last777 v778 x801 r842
          else
            G.hist_faults_1__hist_Right__r_j4 c776 last777 v778 x801 false
        else
          G.hist_faults_1__hist_Right__r_j4 c776 last777 v778 x801 false
      else
        G.hist_faults_1__hist_Right__r_j4 c776 last777 v778 x801 false
  else
    Sh.exit (G.hist_faults_1__hist_Right__r_j3 v523 x628 c776)

def hist_faults_1__hist_Right__r_j2 (c_1 : G.api_Hist) (v523 : Int) (x628 : G.api_Txn) (v660 : Bool) : Option ((Bool × Int) ⊕ (Bool × Bool)) :=
  Sh.loop (fun (p : Bool × Int × Int) => G.hist_faults_1__hist_Right__r_b2 c_1 v523 x628 p.1 p.2.1 p.2.2) (v660, (-1), 0)

def hist_faults_1__hist_Right__r_j6 (v864 : Int) (x876 : Int) (c883 : Bool) : Option ((Bool × Int × Int) ⊕ ((Bool × Int) ⊕ (Bool × Bool))) :=
  Sh.next (c883, x876, w64 (v864 + 1))

def hist_faults_1__hist_Right__r_b3 (c_1 : G.api_Hist) (v523 : Int) (x628 : G.api_Txn) (c862 : Bool) (last863 : Int) (v864 : Int) : Option ((Bool × Int × Int) ⊕ ((Bool × Int) ⊕ (Bool × Bool))) :=
  if decide (v864 < (Sh.len x628.Writes)) then
    (Sh.idx x628.Writes v864).bind fun x876 =>
    if decide (last863 < x876) then
      (G.hist_Right__r c862 (decide (x876 < 16))).bind fun y890 =>
      if y890.2 then
        G.hist_faults_1__hist_Right__r_j6 v864 x876 y890.1
      else
        Sh.exit (Sh.exit (some (y890.1, false)))
    else
      (G.hist_Right__r c862 false).bind fun y892 =>
      if y892.2 then
        G.hist_faults_1__hist_Right__r_j6 v864 x876 y892.1
      else
        Sh.exit (Sh.exit (some (y892.1, false)))
  else
    Sh.exit (G.hist_faults_1__hist_Right__r_j2 c_1 v523 x628 c862)

def hist_faults_1__hist_Right__r_b1 (c_1 : G.api_Hist) (c522 : Bool) (v523 : Int) : Option ((Bool × Int) ⊕ (Bool × Bool)) :=
  if decide (v523 < (Sh.len c_1.Txns)) then
    (Sh.idx c_1.Txns v523).bind fun x628 =>
    Sh.loop (fun (p : Bool × Int × Int) => G.hist_faults_1__hist_Right__r_b3 c_1 v523 x628 p.1 p.2.1 p.2.2) (c522, (-1), 0)
  else
    Sh.exit (some (c522, true))

def hist_faults_1__hist_Right__r (c_0 : Bool) (c_1 : G.api_Hist) : Option (Bool × Bool) :=
  (G.hist_Right__r c_0 (decide ((Sh.len c_1.Txns) ≤ 32))).bind fun y316 =>
  if y316.2 then
    Sh.loop (fun (p : Bool × Int) => G.hist_faults_1__hist_Right__r_b1 c_1 p.1 p.2) (y316.1, 0)
  else
    some (y316.1, false)

def hist_Right (h_0 : G.api_Hist) : Option (Bool) :=
  (G.hist_faults h_0).bind fun r8 =>
  (G.hist_faults_1__hist_Right__r false h_0).bind fun it9 =>
  if it9.2 then
    some true
  else
    some it9.1
end G
end

section
/- What the functions of a package compute, as plain functions. -/
open Go Go.Av
set_option linter.unusedVariables false
namespace G
def inquestref08_Few_j1 : Option (Bool) :=
  some true

def inquestref08_Few_j2 (i55 : Int) (v68 : Bool) : Option ((Int) ⊕ (Bool)) :=
  if v68 then
    Sh.exit (some false)
  else
    Sh.next (w64 (i55 + 1))

def inquestref08_Few_b1 (h_0 : G.api_Hist) (i55 : Int) : Option ((Int) ⊕ (Bool)) :=
  if decide (i55 < (Sh.len h_0.Txns)) then
    (Sh.idx h_0.Txns i55).bind fun x70 =>
    if decide ((20 : Int) < (Sh.len x70.Writes)) then
      G.inquestref08_Few_j2 i55 true
    else
      (Sh.idx h_0.Txns i55).bind fun x73 =>
      G.inquestref08_Few_j2 i55 (decide ((20 : Int) < (Sh.len x73.Reads)))
  else
    Sh.exit (G.inquestref08_Few_j1)

def inquestref08_Few (h_0 : G.api_Hist) (many_1 : Int) : Option (Bool) :=
  if decide (many_1 < (Sh.len h_0.Txns)) then
    some false
  else
    Sh.loop (fun (p : Int) => G.inquestref08_Few_b1 h_0 p) 0
end G
end

section
/- What the functions of a package compute, as plain functions. -/
open Go Go.Av
set_option linter.unusedVariables false
namespace G
def edge_writes (h_0 : G.api_Hist) (t_1 : Int) (key_2 : Int) : Option (Bool) :=
  (Sh.idx h_0.Txns t_1).bind fun x7 =>
  (G.slices_Contains_int_int x7.Writes key_2).bind fun r9 =>
  some r9

def edge_over_is_1__1 (r_0 : G.api_Take) (a_1 : G.api_Hist) (a_2 : Int) (a_3 : List G.api_Choice) : Option (Bool) :=
  (G.edge_writes a_1 a_2 r_0.Key).bind fun r12 =>
  if r12 then
    if decide (r_0.From < 0) then
      some true
    else
      if decide (r_0.From ≠ a_2) then
        (G.slices_Contains_edge_over_api_Choice a_3 (G.api_Choice.mk r_0.Key r_0.From a_2)).bind fun r16 =>
        some r16
      else
        some false
  else
    some false

def slices_IndexFunc_api_Take_api_Take__edge_over_is_1_j1 : Option (Int) :=
  some (-1)

def slices_IndexFunc_api_Take_api_Take__edge_over_is_1_b1 (s_0 : List G.api_Take) (f_1 : G.api_Hist) (f_2 : Int) (f_3 : List G.api_Choice) (v30 : Int) : Option ((Int) ⊕ (Int)) :=
  if decide (v30 < (Sh.len s_0)) then
    (Sh.idx s_0 v30).bind fun x38 =>
    (G.edge_over_is_1__1 x38 f_1 f_2 f_3).bind fun r40 =>
    if r40 then
      Sh.exit (some v30)
    else
      Sh.next (w64 (v30 + 1))
  else
    Sh.exit (G.slices_IndexFunc_api_Take_api_Take__edge_over_is_1_j1)

def slices_IndexFunc_api_Take_api_Take__edge_over_is_1 (s_0 : List G.api_Take) (f_1 : G.api_Hist) (f_2 : Int) (f_3 : List G.api_Choice) : Option (Int) :=
  Sh.loop (fun (p : Int) => G.slices_IndexFunc_api_Take_api_Take__edge_over_is_1_b1 s_0 f_1 f_2 f_3 p) 0

def slices_ContainsFunc_api_Take_api_Take__edge_over_is_1 (s_0 : List G.api_Take) (f_1 : G.api_Hist) (f_2 : Int) (f_3 : List G.api_Choice) : Option (Bool) :=
  (G.slices_IndexFunc_api_Take_api_Take__edge_over_is_1 s_0 f_1 f_2 f_3).bind fun r3 =>
  some (decide ((0 : Int) ≤ r3))

def edge_over_is (l_0 : List G.api_Choice) (h_1 : G.api_Hist) (x_2 : Int) (y_3 : Int) : Option (Bool) :=
  if decide (x_2 ≠ y_3) then
    (Sh.idx h_1.Txns x_2).bind fun x11 =>
    (G.slices_ContainsFunc_api_Take_api_Take__edge_over_is_1 x11.Reads h_1 y_3 l_0).bind fun r13 =>
    some r13
  else
    some false

def edge_some_1__edge_over (k_0 : List G.api_Choice) (a_1 : G.api_Hist) (a_2 : Int) (a_3 : Int) : Option (Bool) :=
  (G.edge_over_is k_0 a_1 a_2 a_3).bind fun r3 =>
  some r3

def slices_IndexFunc_edge_kind_edge_kind__lit1_edge_some_1_j1 : Option (Int) :=
  some (-1)

def slices_IndexFunc_edge_kind_edge_kind__lit1_edge_some_1 (s_0 : List G.api_Choice) (f_1 : G.api_Hist) (f_2 : Int) (f_3 : Int) : Option (Int) :=
  (G.edge_some_1__edge_over s_0 f_1 f_2 f_3).bind fun r6 =>
  if r6 then
    some 0
  else
    G.slices_IndexFunc_edge_kind_edge_kind__lit1_edge_some_1_j1

def slices_ContainsFunc_edge_kind_edge_kind__lit1_edge_some_1 (s_0 : List G.api_Choice) (f_1 : G.api_Hist) (f_2 : Int) (f_3 : Int) : Option (Bool) :=
  (G.slices_IndexFunc_edge_kind_edge_kind__lit1_edge_some_1 s_0 f_1 f_2 f_3).bind fun r3 =>
  some (decide ((0 : Int) ≤ r3))

def edge_some__lit1_j1 (h_0 : G.api_Hist) (x_1 : Int) (y_2 : Int) (kinds_3 : List G.api_Choice) (v13 : Bool) : Option (Bool) :=
  if v13 then
    some false
  else
    (G.slices_ContainsFunc_edge_kind_edge_kind__lit1_edge_some_1 kinds_3 h_0 x_1 y_2).bind fun r16 =>
    some r16

def edge_some__lit1 (h_0 : G.api_Hist) (x_1 : Int) (y_2 : Int) (kinds_3 : List G.api_Choice) : Option (Bool) :=
  (G.hist_Right h_0).bind fun r17 =>
  if !r17 then
    G.edge_some__lit1_j1 h_0 x_1 y_2 kinds_3 true
  else
    if decide ((Sh.min x_1 y_2) < 0) then
      G.edge_some__lit1_j1 h_0 x_1 y_2 kinds_3 true
    else
      G.edge_some__lit1_j1 h_0 x_1 y_2 kinds_3 (decide ((Sh.len h_0.Txns) ≤ (Sh.max x_1 y_2)))

def edge_Anti (h_0 : G.api_Hist) (l_1 : List G.api_Choice) (x_2 : Int) (y_3 : Int) : Option (Bool) :=
  (G.edge_some__lit1 h_0 x_2 y_3 l_1).bind fun r3 =>
  some r3

def edge_session_is (a_0 : G.edge_session) (h_1 : G.api_Hist) (x_2 : Int) (y_3 : Int) : Option (Bool) :=
  if decide (x_2 < y_3) then
    (Sh.idx h_1.Txns x_2).bind fun x13 =>
    (Sh.idx h_1.Txns y_3).bind fun x15 =>
    some (decide (x13.Session = x15.Session))
  else
    some false

def edge_some_1__edge_session (k_0 : G.edge_session) (a_1 : G.api_Hist) (a_2 : Int) (a_3 : Int) : Option (Bool) :=
  (G.edge_session_is k_0 a_1 a_2 a_3).bind fun r3 =>
  some r3

def edge_read_is_1__1 (r_0 : G.api_Take) (a_1 : Int) : Option (Bool) :=
  some (decide (r_0.From = a_1))

def slices_IndexFunc_api_Take_api_Take__edge_read_is_1_j1 : Option (Int) :=
  some (-1)

def slices_IndexFunc_api_Take_api_Take__edge_read_is_1_b1 (s_0 : List G.api_Take) (f_1 : Int) (v30 : Int) : Option ((Int) ⊕ (Int)) :=
  if decide (v30 < (Sh.len s_0)) then
    (Sh.idx s_0 v30).bind fun x38 =>
    (G.edge_read_is_1__1 x38 f_1).bind fun r40 =>
    if r40 then
      Sh.exit (some v30)
    else
      Sh.next (w64 (v30 + 1))
  else
    Sh.exit (G.slices_IndexFunc_api_Take_api_Take__edge_read_is_1_j1)

def slices_IndexFunc_api_Take_api_Take__edge_read_is_1 (s_0 : List G.api_Take) (f_1 : Int) : Option (Int) :=
  Sh.loop (fun (p : Int) => G.slices_IndexFunc_api_Take_api_Take__edge_read_is_1_b1 s_0 f_1 p) 0

def slices_ContainsFunc_api_Take_api_Take__edge_read_is_1 (s_0 : List G.api_Take) (f_1 : Int) : Option (Bool) :=
  (G.slices_IndexFunc_api_Take_api_Take__edge_read_is_1 s_0 f_1).bind fun r3 =>
  some (decide ((0 : Int) ≤ r3))

def edge_read_is (a_0 : G.edge_read) (h_1 : G.api_Hist) (x_2 : Int) (y_3 : Int) : Option (Bool) :=
  (Sh.idx h_1.Txns y_3).bind fun x7 =>
  (G.slices_ContainsFunc_api_Take_api_Take__edge_read_is_1 x7.Reads x_2).bind fun r9 =>
  some r9

def edge_some_1__edge_read (k_0 : G.edge_read) (a_1 : G.api_Hist) (a_2 : Int) (a_3 : Int) : Option (Bool) :=
  (G.edge_read_is k_0 a_1 a_2 a_3).bind fun r3 =>
  some r3

def edge_written_is_1__1 (c_0 : G.api_Choice) (a_1 : Int) (a_2 : Int) (a_3 : G.api_Hist) : Option (Bool) :=
  if decide (c_0.A = a_1) then
    if decide (c_0.B = a_2) then
      if decide (a_1 ≠ a_2) then
        (G.edge_writes a_3 a_1 c_0.Key).bind fun r17 =>
        if r17 then
          (G.edge_writes a_3 a_2 c_0.Key).bind fun r19 =>
          some r19
        else
          some false
      else
        some false
    else
      some false
  else
    some false

def slices_IndexFunc_edge_written_api_Choice__edge_written_is_1_j1 : Option (Int) :=
  some (-1)

def slices_IndexFunc_edge_written_api_Choice__edge_written_is_1_b1 (s_0 : List G.api_Choice) (f_1 : Int) (f_2 : Int) (f_3 : G.api_Hist) (v30 : Int) : Option ((Int) ⊕ (Int)) :=
  if decide (v30 < (Sh.len s_0)) then
    (Sh.idx s_0 v30).bind fun x38 =>
    (G.edge_written_is_1__1 x38 f_1 f_2 f_3).bind fun r40 =>
    if r40 then
      Sh.exit (some v30)
    else
      Sh.next (w64 (v30 + 1))
  else
    Sh.exit (G.slices_IndexFunc_edge_written_api_Choice__edge_written_is_1_j1)

def slices_IndexFunc_edge_written_api_Choice__edge_written_is_1 (s_0 : List G.api_Choice) (f_1 : Int) (f_2 : Int) (f_3 : G.api_Hist) : Option (Int) :=
  Sh.loop (fun (p : Int) => G.slices_IndexFunc_edge_written_api_Choice__edge_written_is_1_b1 s_0 f_1 f_2 f_3 p) 0

def slices_ContainsFunc_edge_written_api_Choice__edge_written_is_1 (s_0 : List G.api_Choice) (f_1 : Int) (f_2 : Int) (f_3 : G.api_Hist) : Option (Bool) :=
  (G.slices_IndexFunc_edge_written_api_Choice__edge_written_is_1 s_0 f_1 f_2 f_3).bind fun r3 =>
  some (decide ((0 : Int) ≤ r3))

def edge_written_is (l_0 : List G.api_Choice) (h_1 : G.api_Hist) (x_2 : Int) (y_3 : Int) : Option (Bool) :=
  (G.slices_ContainsFunc_edge_written_api_Choice__edge_written_is_1 l_0 x_2 y_3 h_1).bind fun r3 =>
  some r3

def edge_some_1__edge_written (k_0 : List G.api_Choice) (a_1 : G.api_Hist) (a_2 : Int) (a_3 : Int) : Option (Bool) :=
  (G.edge_written_is k_0 a_1 a_2 a_3).bind fun r3 =>
  some r3

def slices_IndexFunc_edge_kind_edge_kind__lit3_edge_some_1_j1 : Option (Int) :=
  some (-1)

def slices_IndexFunc_edge_kind_edge_kind__lit3_edge_some_1 (s_0 : G.edge_session) (s_1 : G.edge_read) (s_2 : List G.api_Choice) (f_3 : G.api_Hist) (f_4 : Int) (f_5 : Int) : Option (Int) :=
  (G.edge_some_1__edge_session s_0 f_3 f_4 f_5).bind fun r12 =>
  if r12 then
    some 0
  else
    (G.edge_some_1__edge_read s_1 f_3 f_4 f_5).bind fun r16 =>
    if r16 then
      some 1
    else
      (G.edge_some_1__edge_written s_2 f_3 f_4 f_5).bind fun r20 =>
      if r20 then
        some 2
      else
        G.slices_IndexFunc_edge_kind_edge_kind__lit3_edge_some_1_j1

def slices_ContainsFunc_edge_kind_edge_kind__lit3_edge_some_1 (s_0 : G.edge_session) (s_1 : G.edge_read) (s_2 : List G.api_Choice) (f_3 : G.api_Hist) (f_4 : Int) (f_5 : Int) : Option (Bool) :=
  (G.slices_IndexFunc_edge_kind_edge_kind__lit3_edge_some_1 s_0 s_1 s_2 f_3 f_4 f_5).bind fun r3 =>
  some (decide ((0 : Int) ≤ r3))

def edge_some__lit3_j1 (h_0 : G.api_Hist) (x_1 : Int) (y_2 : Int) (kinds_3 : G.edge_session) (kinds_4 : G.edge_read) (kinds_5 : List G.api_Choice) (v13 : Bool) : Option (Bool) :=
  if v13 then
    some false
  else
    (G.slices_ContainsFunc_edge_kind_edge_kind__lit3_edge_some_1 kinds_3 kinds_4 kinds_5 h_0 x_1 y_2).bind fun r16 =>
    some r16

def edge_some__lit3 (h_0 : G.api_Hist) (x_1 : Int) (y_2 : Int) (kinds_3 : G.edge_session) (kinds_4 : G.edge_read) (kinds_5 : List G.api_Choice) : Option (Bool) :=
  (G.hist_Right h_0).bind fun r17 =>
  if !r17 then
    G.edge_some__lit3_j1 h_0 x_1 y_2 kinds_3 kinds_4 kinds_5 true
  else
    if decide ((Sh.min x_1 y_2) < 0) then
      G.edge_some__lit3_j1 h_0 x_1 y_2 kinds_3 kinds_4 kinds_5 true
    else
      G.edge_some__lit3_j1 h_0 x_1 y_2 kinds_3 kinds_4 kinds_5 (decide ((Sh.len h_0.Txns) ≤ (Sh.max x_1 y_2)))

def edge_Direct (h_0 : G.api_Hist) (l_1 : List G.api_Choice) (x_2 : Int) (y_3 : Int) : Option (Bool) :=
  (G.edge_some__lit3 h_0 x_2 y_3 G.edge_session.mk G.edge_read.mk l_1).bind fun r3 =>
  some r3

def edge_Is_j1 : Option (Bool) :=
  some false

def edge_Is_j2 (v62 : Int) (v73 : Bool) : Option ((Int) ⊕ (Bool)) :=
  if v73 then
    Sh.exit (some true)
  else
    Sh.next (w64 (v62 + 1))

def edge_Is_b1 (h_0 : G.api_Hist) (l_2 : List G.api_Choice) (x_3 : Int) (y_4 : Int) (v62 : Int) : Option ((Int) ⊕ (Bool)) :=
  if decide (v62 < (Sh.len h_0.Txns)) then
    (G.edge_Direct h_0 l_2 x_3 v62).bind fun r75 =>
    if r75 then
      if decide (v62 = y_4) then
        G.edge_Is_j2 v62 true
      else
        (G.edge_Anti h_0 l_2 v62 y_4).bind fun r78 =>
        G.edge_Is_j2 v62 r78
    else
      G.edge_Is_j2 v62 false
  else
    Sh.exit (G.edge_Is_j1)

def edge_Is (h_0 : G.api_Hist) (level_1 : Int) (l_2 : List G.api_Choice) (x_3 : Int) (y_4 : Int) : Option (Bool) :=
  if decide (level_1 = 0) then
    (G.edge_Direct h_0 l_2 x_3 y_4).bind fun r47 =>
    if r47 then
      some true
    else
      (G.edge_Anti h_0 l_2 x_3 y_4).bind fun r49 =>
      some r49
  else
    if decide (level_1 = 1) then
      Sh.loop (fun (p : Int) => G.edge_Is_b1 h_0 l_2 x_3 y_4 p) 0
    else
      G.edge_Is_j1

def edge_Cycle_j1 (row_3 : List Int) : Option (Bool) :=
  some (decide ((0 : Int) < (Sh.len row_3)))

def edge_Cycle_j2 (v86 : Int) (v109 : Bool) : Option ((Int) ⊕ (Bool)) :=
  if v109 then
    Sh.exit (some false)
  else
    Sh.next (w64 (v86 + 1))

def edge_Cycle_b1 (h_0 : G.api_Hist) (level_1 : Int) (l_2 : List G.api_Choice) (row_3 : List Int) (v86 : Int) : Option ((Int) ⊕ (Bool)) :=
  if decide (v86 < (Sh.len row_3)) then
    (Sh.idx row_3 v86).bind fun x100 =>
    (Sh.sub row_3 0 v86).bind fun part111 =>
    (G.slices_Contains_int_int part111 x100).bind fun r112 =>
    if r112 then
      G.edge_Cycle_j2 v86 true
    else
      (Sh.rem (w64 (v86 + 1)) (Sh.len row_3)).bind fun q114 =>
      (Sh.idx row_3 q114).bind fun x115 =>
      (G.edge_Is h_0 level_1 l_2 x100 x115).bind fun r117 =>
      G.edge_Cycle_j2 v86 (!r117)
  else
    Sh.exit (G.edge_Cycle_j1 row_3)

def edge_Cycle (h_0 : G.api_Hist) (level_1 : Int) (l_2 : List G.api_Choice) (row_3 : List Int) : Option (Bool) :=
  Sh.loop (fun (p : Int) => G.edge_Cycle_b1 h_0 level_1 l_2 row_3 p) 0
end G
end

section
/- What the functions of a package compute, as plain functions. -/
open Go Go.Av
set_option linter.unusedVariables false
namespace G
def bits_TrailingZeros64 (x_0 : BitVec 64) : Option (Int) :=
  if decide (x_0 = 0#64) then
    some 64
  else
    (Sh.shr ((x_0 &&& (-x_0)) * 285870213051353865#64) ((58#64).toNat : Int)).bind fun s8 =>
    (Sh.idx Sh.tab8 ((s8).toNat : Int)).bind fun x9 =>
    some (w64 x9)
end G
end

section
/- What the functions of a package compute, as plain functions. -/
open Go Go.Av
set_option linter.unusedVariables false
namespace G
def bits_Join_j1 (out21 : BitVec 64) : Option ((BitVec 64)) :=
  some out21

def bits_Join_b1 (l_0 : List (BitVec 64)) (out28 : BitVec 64) (v29 : Int) : Option (((BitVec 64) × Int) ⊕ ((BitVec 64))) :=
  if decide (v29 < (Sh.len l_0)) then
    (Sh.idx l_0 v29).bind fun x35 =>
    Sh.next (out28 ||| x35, w64 (v29 + 1))
  else
    Sh.exit (G.bits_Join_j1 out28)

def bits_Join (l_0 : List (BitVec 64)) : Option ((BitVec 64)) :=
  Sh.loop (fun (p : (BitVec 64) × Int) => G.bits_Join_b1 l_0 p.1 p.2) (0#64, 0)

def bits_Sub (a_0 : BitVec 64) (b_1 : BitVec 64) : Option (Bool) :=
  some (decide ((a_0 &&& ~~~b_1) = 0#64))

def bits_bit_j1 (i_0 : Int) (v7 : Bool) : Option ((BitVec 64)) :=
  if v7 then
    some 0#64
  else
    (Sh.shl 1#64 i_0).bind fun s10 =>
    some s10

def bits_bit (i_0 : Int) : Option ((BitVec 64)) :=
  if decide (i_0 < 0) then
    G.bits_bit_j1 i_0 true
  else
    G.bits_bit_j1 i_0 (decide ((64 : Int) ≤ i_0))

def bits_With (s_0 : BitVec 64) (i_1 : Int) : Option ((BitVec 64)) :=
  (G.bits_bit i_1).bind fun r3 =>
  some (s_0 ||| r3)

def bits_List_j1 (out21 : List Int) : Option ((List Int)) :=
  some out21

def bits_List_b1 (s28 : BitVec 64) (out29 : List Int) : Option (((BitVec 64) × (List Int)) ⊕ ((List Int))) :=
  if decide (s28 ≠ 0#64) then
    (G.bits_TrailingZeros64 s28).bind fun r33 =>
    (Sh.app 8 out29 [r33]).bind fun out34 =>
    Sh.next (s28 &&& (s28 - 1#64), out34)
  else
    Sh.exit (G.bits_List_j1 out29)

def bits_List (s_0 : BitVec 64) : Option ((List Int)) :=
  Sh.loop (fun (p : (BitVec 64) × (List Int)) => G.bits_List_b1 p.1 p.2) (s_0, [])

def bits_Has (s_0 : BitVec 64) (i_1 : Int) : Option (Bool) :=
  (G.bits_bit i_1).bind fun r3 =>
  some (decide ((s_0 &&& r3) ≠ 0#64))
end G
end

section
/- What the functions of a package compute, as plain functions. -/
open Go Go.Av
set_option linter.unusedVariables false
namespace G
def graph_New_j1 (n_0 : Int) (v7 : Bool) : Option (G.graph_Graph × Int) :=
  if v7 then
    some ((G.graph_Graph.mk 0 []), 1)
  else
    (Sh.mk 8 n_0 n_0 0#64).bind fun made10 =>
    some ((G.graph_Graph.mk n_0 made10), 0)

def graph_New (n_0 : Int) : Option (G.graph_Graph × Int) :=
  if decide (n_0 < 0) then
    G.graph_New_j1 n_0 true
  else
    G.graph_New_j1 n_0 (decide ((64 : Int) < n_0))

def graph_nodes (n_0 : Int) : Option ((BitVec 64)) :=
  (Sh.shl 1#64 n_0).bind fun s3 =>
  some (s3 - 1#64)

def graph_Right (g_0 : G.graph_Graph) : Option (Bool) :=
  if decide ((0 : Int) ≤ g_0.N) then
    if decide (g_0.N ≤ 64) then
      if decide ((Sh.len g_0.Rows) = g_0.N) then
        (G.bits_Join g_0.Rows).bind fun r17 =>
        (G.graph_nodes g_0.N).bind fun r18 =>
        (G.bits_Sub r17 r18).bind fun r19 =>
        some r19
      else
        some false
    else
      some false
  else
    some false

def graph_Add_j1 (g_0 : G.graph_Graph) (a_1 : Int) (b_2 : Int) (v26 : Bool) : Option (G.graph_Graph × Int) :=
  if v26 then
    some ((G.graph_Graph.mk 0 []), 1)
  else
    (G.graph_New g_0.N).bind fun r29 =>
    (Sh.cpy r29.1.Rows g_0.Rows).bind fun copied32 =>
    (Sh.idx copied32 a_1).bind fun x39 =>
    (G.bits_With x39 b_2).bind fun r41 =>
    (Sh.idx copied32 a_1).bind fun x42 =>
    some ((G.graph_Graph.mk r29.1.N (Sh.set copied32 a_1 r41)), r29.2)

def graph_Add (g_0 : G.graph_Graph) (a_1 : Int) (b_2 : Int) : Option (G.graph_Graph × Int) :=
  (G.graph_Right g_0).bind fun r44 =>
  if !r44 then
    G.graph_Add_j1 g_0 a_1 b_2 true
  else
    if decide (a_1 < 0) then
      G.graph_Add_j1 g_0 a_1 b_2 true
    else
      if decide (g_0.N ≤ a_1) then
        G.graph_Add_j1 g_0 a_1 b_2 true
      else
        if decide (b_2 < 0) then
          G.graph_Add_j1 g_0 a_1 b_2 true
        else
          G.graph_Add_j1 g_0 a_1 b_2 (decide (g_0.N ≤ b_2))

def graph_like (a_0 : G.graph_Graph) (b_1 : G.graph_Graph) : Option (Bool) :=
  (G.graph_Right a_0).bind fun r10 =>
  if r10 then
    (G.graph_Right b_1).bind fun r12 =>
    if r12 then
      some (decide (a_0.N = b_1.N))
    else
      some false
  else
    some false

def graph_Union_j1 (r33 : G.graph_Graph × Int) (v59 : List (BitVec 64)) : Option (G.graph_Graph × Int) :=
  some ((G.graph_Graph.mk r33.1.N v59), r33.2)

def graph_Union_b1 (a_0 : G.graph_Graph) (b_1 : G.graph_Graph) (r33 : G.graph_Graph × Int) (outRows76 : List (BitVec 64)) (v77 : Int) : Option (((List (BitVec 64)) × Int) ⊕ (G.graph_Graph × Int)) :=
  if decide (v77 < (Sh.len r33.1.Rows)) then
    (Sh.idx a_0.Rows v77).bind fun x86 =>
    (Sh.idx b_1.Rows v77).bind fun x88 =>
    (G.bits_Join [x86, x88]).bind fun r90 =>
    (Sh.idx outRows76 v77).bind fun x91 =>
    Sh.next (Sh.set outRows76 v77 r90, w64 (v77 + 1))
  else
    Sh.exit (G.graph_Union_j1 r33 outRows76)

def graph_Union (a_0 : G.graph_Graph) (b_1 : G.graph_Graph) : Option (G.graph_Graph × Int) :=
  (G.graph_like a_0 b_1).bind fun r30 =>
  if !r30 then
    some ((G.graph_Graph.mk 0 []), 1)
  else
    (G.graph_New a_0.N).bind fun r33 =>
    Sh.loop (fun (p : (List (BitVec 64)) × Int) => G.graph_Union_b1 a_0 b_1 r33 p.1 p.2) (r33.1.Rows, 0)

def graph_Compose_j1 (r114 : G.graph_Graph × Int) (v221 : List (BitVec 64)) : Option (G.graph_Graph × Int) :=
  some ((G.graph_Graph.mk r114.1.N v221), r114.2)

def graph_Compose_j2 (v293 : Int) (v329 : List (BitVec 64)) : Option (((List (BitVec 64)) × Int) ⊕ (G.graph_Graph × Int)) :=
  Sh.next (v329, w64 (v293 + 1))

def graph_Compose_b2 (b_1 : G.graph_Graph) (v293 : Int) (r335 : (List Int)) (outRows356 : List (BitVec 64)) (v357 : Int) : Option (((List (BitVec 64)) × Int) ⊕ (((List (BitVec 64)) × Int) ⊕ (G.graph_Graph × Int))) :=
  if decide (v357 < (Sh.len r335)) then
    (Sh.idx r335 v357).bind fun x370 =>
    (Sh.idx outRows356 v293).bind fun x372 =>
    (Sh.idx b_1.Rows x370).bind fun x374 =>
    (G.bits_Join [x372, x374]).bind fun r376 =>
    (Sh.idx outRows356 v293).bind fun x377 =>
    Sh.next (Sh.set outRows356 v293 r376, w64 (v357 + 1))
  else
    Sh.exit (G.graph_Compose_j2 v293 outRows356)

def graph_Compose_b1 (a_0 : G.graph_Graph) (b_1 : G.graph_Graph) (r114 : G.graph_Graph × Int) (outRows292 : List (BitVec 64)) (v293 : Int) : Option (((List (BitVec 64)) × Int) ⊕ (G.graph_Graph × Int)) :=
  if decide (v293 < (Sh.len r114.1.Rows)) then
    (Sh.idx a_0.Rows v293).bind fun x333 =>
    (G.bits_List x333).bind fun r335 =>
    Sh.loop (fun (p : (List (BitVec 64)) × Int) => G.graph_Compose_b2 b_1 v293 r335 p.1 p.2) (outRows292, 0)
  else
    Sh.exit (G.graph_Compose_j1 r114 outRows292)

def graph_Compose (a_0 : G.graph_Graph) (b_1 : G.graph_Graph) : Option (G.graph_Graph × Int) :=
  (G.graph_like a_0 b_1).bind fun r111 =>
  if !r111 then
    some ((G.graph_Graph.mk 0 []), 1)
  else
    (G.graph_New a_0.N).bind fun r114 =>
    Sh.loop (fun (p : (List (BitVec 64)) × Int) => G.graph_Compose_b1 a_0 b_1 r114 p.1 p.2) (r114.1.Rows, 0)

def graph_Has (g_0 : G.graph_Graph) (a_1 : Int) (b_2 : Int) : Option (Bool) :=
  (G.graph_Right g_0).bind fun r16 =>
  if r16 then
    if decide ((0 : Int) ≤ a_1) then
      if decide (a_1 < g_0.N) then
        (Sh.idx g_0.Rows a_1).bind fun x20 =>
        (G.bits_Has x20 b_2).bind fun r22 =>
        some r22
      else
        some false
    else
      some false
  else
    some false

def graph_Edges_j1 (out110 : List G.graph_Edge) : Option ((List G.graph_Edge)) :=
  some out110

def graph_Edges_j2 (v146 : Int) (out164 : List G.graph_Edge) : Option (((List G.graph_Edge) × Int) ⊕ ((List G.graph_Edge))) :=
  Sh.next (out164, w64 (v146 + 1))

def graph_Edges_b2 (v146 : Int) (r170 : (List Int)) (out179 : List G.graph_Edge) (v180 : Int) : Option (((List G.graph_Edge) × Int) ⊕ (((List G.graph_Edge) × Int) ⊕ ((List G.graph_Edge)))) :=
  if decide (v180 < (Sh.len r170)) then
    (Sh.idx r170 v180).bind fun x187 =>
    (Sh.app 16 out179 ([(G.graph_Edge.mk v146 x187)] : List G.graph_Edge)).bind fun out189 =>
    Sh.next (out189, w64 (v180 + 1))
  else
    Sh.exit (G.graph_Edges_j2 v146 out179)

def graph_Edges_b1 (g_0 : G.graph_Graph) (out145 : List G.graph_Edge) (v146 : Int) : Option (((List G.graph_Edge) × Int) ⊕ ((List G.graph_Edge))) :=
  if decide (v146 < (Sh.len g_0.Rows)) then
    (Sh.idx g_0.Rows v146).bind fun x167 =>
    (G.bits_List x167).bind fun r170 =>
    Sh.loop (fun (p : (List G.graph_Edge) × Int) => G.graph_Edges_b2 v146 r170 p.1 p.2) (out145, 0)
  else
    Sh.exit (G.graph_Edges_j1 out145)

def graph_Edges (g_0 : G.graph_Graph) : Option ((List G.graph_Edge)) :=
  (G.graph_Right g_0).bind fun r56 =>
  if !r56 then
    some []
  else
    Sh.loop (fun (p : (List G.graph_Edge) × Int) => G.graph_Edges_b1 g_0 p.1 p.2) ([], 0)

def graph_Turn_j1 (r34 : G.graph_Graph × Int) (v61 : List (BitVec 64)) : Option (G.graph_Graph × Int) :=
  some ((G.graph_Graph.mk r34.1.N v61), r34.2)

def graph_Turn_b1 (r34 : G.graph_Graph × Int) (r63 : (List G.graph_Edge)) (outRows80 : List (BitVec 64)) (v81 : Int) : Option (((List (BitVec 64)) × Int) ⊕ (G.graph_Graph × Int)) :=
  if decide (v81 < (Sh.len r63)) then
    (Sh.idx r63 v81).bind fun x92 =>
    (Sh.idx outRows80 x92.B).bind fun x94 =>
    (G.bits_With x94 x92.A).bind fun r96 =>
    (Sh.idx outRows80 x92.B).bind fun x97 =>
    Sh.next (Sh.set outRows80 x92.B r96, w64 (v81 + 1))
  else
    Sh.exit (G.graph_Turn_j1 r34 outRows80)

def graph_Turn (g_0 : G.graph_Graph) : Option (G.graph_Graph × Int) :=
  (G.graph_Right g_0).bind fun r31 =>
  if !r31 then
    some ((G.graph_Graph.mk 0 []), 1)
  else
    (G.graph_New g_0.N).bind fun r34 =>
    (G.graph_Edges g_0).bind fun r63 =>
    Sh.loop (fun (p : (List (BitVec 64)) × Int) => G.graph_Turn_b1 r34 r63 p.1 p.2) (r34.1.Rows, 0)
end G
end

section
/- What the functions of a package compute, as plain functions. -/
open Go Go.Av
set_option linter.unusedVariables false
namespace G
def index_Keys_j1 (out35 : List Int) : Option ((List Int)) :=
  (Sh.sort out35).bind fun sort38 =>
  (Sh.compact sort38).bind fun compact41 =>
  some compact41

def index_Keys_b1 (h_0 : G.api_Hist) (out50 : List Int) (v51 : Int) : Option (((List Int) × Int) ⊕ ((List Int))) :=
  if decide (v51 < (Sh.len h_0.Txns)) then
    (Sh.idx h_0.Txns v51).bind fun x58 =>
    (Sh.app 8 out50 x58.Writes).bind fun out60 =>
    Sh.next (out60, w64 (v51 + 1))
  else
    Sh.exit (G.index_Keys_j1 out50)

def index_Keys (h_0 : G.api_Hist) : Option ((List Int)) :=
  (G.hist_Right h_0).bind fun r20 =>
  if !r20 then
    some []
  else
    Sh.loop (fun (p : (List Int) × Int) => G.index_Keys_b1 h_0 p.1 p.2) ([], 0)

def index_reads (h_0 : G.api_Hist) : Option (Unit) :=
  some ()

def index_Readers__r_j1 (l_2 : List Int) (y_3 : G.index_read) (v6 : Bool) : Option ((List Int)) :=
  if v6 then
    (Sh.app 8 l_2 [y_3.t]).bind fun l8 =>
    some l8
  else
    some l_2

def index_Readers__r (key_0 : Int) (from_1 : Int) (l_2 : List Int) (y_3 : G.index_read) : Option ((List Int)) :=
  if decide (y_3.Take.Key = key_0) then
    G.index_Readers__r_j1 l_2 y_3 (decide (y_3.Take.From = from_1))
  else
    G.index_Readers__r_j1 l_2 y_3 false

def index_reads_1__index_Readers__r_j1 (v89 : Int) (v106 : List Int) : Option (((List Int) × Int) ⊕ ((List Int))) :=
  Sh.next (v106, w64 (v89 + 1))

def index_reads_1__index_Readers__r_b2 (key_0 : Int) (from_1 : Int) (v89 : Int) (x109 : G.api_Txn) (c119 : List Int) (v120 : Int) : Option (((List Int) × Int) ⊕ (((List Int) × Int) ⊕ ((List Int)))) :=
  if decide (v120 < (Sh.len x109.Reads)) then
    (Sh.idx x109.Reads v120).bind fun x127 =>
    (G.index_Readers__r key_0 from_1 c119 (G.index_read.mk v89 (G.api_Take.mk x127.Key x127.From))).bind fun y130 =>
    Sh.next (y130, w64 (v120 + 1))
  else
    Sh.exit (G.index_reads_1__index_Readers__r_j1 v89 c119)

def index_reads_1__index_Readers__r_b1 (key_0 : Int) (from_1 : Int) (c_3 : G.api_Hist) (c88 : List Int) (v89 : Int) : Option (((List Int) × Int) ⊕ ((List Int))) :=
  if decide (v89 < (Sh.len c_3.Txns)) then
    (Sh.idx c_3.Txns v89).bind fun x109 =>
    Sh.loop (fun (p : (List Int) × Int) => G.index_reads_1__index_Readers__r_b2 key_0 from_1 v89 x109 p.1 p.2) (c88, 0)
  else
    Sh.exit (some c88)

def index_reads_1__index_Readers__r (key_0 : Int) (from_1 : Int) (l_2 : List Int) (c_3 : G.api_Hist) : Option ((List Int)) :=
  (G.hist_Right c_3).bind fun r54 =>
  if !r54 then
    some l_2
  else
    Sh.loop (fun (p : (List Int) × Int) => G.index_reads_1__index_Readers__r_b1 key_0 from_1 c_3 p.1 p.2) (l_2, 0)

def index_Readers (h_0 : G.api_Hist) (key_1 : Int) (from_2 : Int) : Option ((List Int)) :=
  (G.index_reads h_0).bind fun r8 =>
  (G.index_reads_1__index_Readers__r key_1 from_2 [] h_0).bind fun it9 =>
  some it9

def index_Writers_j1 (out44 : List Int) : Option ((List Int)) :=
  some out44

def index_Writers_j2 (v58 : Int) (out64 : List Int) : Option (((List Int) × Int) ⊕ ((List Int))) :=
  Sh.next (out64, w64 (v58 + 1))

def index_Writers_b1 (h_0 : G.api_Hist) (key_1 : Int) (out57 : List Int) (v58 : Int) : Option (((List Int) × Int) ⊕ ((List Int))) :=
  if decide (v58 < (Sh.len h_0.Txns)) then
    (Sh.idx h_0.Txns v58).bind fun x67 =>
    (G.slices_Contains_int_int x67.Writes key_1).bind fun r70 =>
    if r70 then
      (Sh.app 8 out57 [v58]).bind fun out72 =>
      G.index_Writers_j2 v58 out72
    else
      G.index_Writers_j2 v58 out57
  else
    Sh.exit (G.index_Writers_j1 out57)

def index_Writers (h_0 : G.api_Hist) (key_1 : Int) : Option ((List Int)) :=
  (G.hist_Right h_0).bind fun r23 =>
  if !r23 then
    some []
  else
    Sh.loop (fun (p : (List Int) × Int) => G.index_Writers_b1 h_0 key_1 p.1 p.2) ([], 0)

end G
end

section
/- What the functions of a package compute, as plain functions. -/
open Go Go.Av
set_option linter.unusedVariables false
namespace G
def known_laid_1__2_j1 (a_0 : Int) (b_1 : Int) (c_2 : G.graph_Graph) (v6 : Bool) : Option (G.graph_Graph) :=
  if v6 then
    (G.graph_Add c_2 a_0 b_1).bind fun r8 =>
    some r8.1
  else
    some c_2

def known_laid_1__2 (a_0 : Int) (b_1 : Int) (c_2 : G.graph_Graph) : Option (G.graph_Graph) :=
  if decide ((0 : Int) ≤ a_0) then
    G.known_laid_1__2_j1 a_0 b_1 c_2 (decide (a_0 ≠ b_1))
  else
    G.known_laid_1__2_j1 a_0 b_1 c_2 false

def known_Init_1__known_laid_1_2_j1 (v287 : Int) (v344 : G.graph_Graph) : Option ((G.graph_Graph × Int) ⊕ (G.graph_Graph)) :=
  Sh.next (v344, w64 (v287 + 1))

def known_Init_1__known_laid_1_2_j2 (v386 : Int) (v404 : G.graph_Graph) : Option ((G.graph_Graph × Int) ⊕ ((G.graph_Graph × Int) ⊕ (G.graph_Graph))) :=
  Sh.next (v404, w64 (v386 + 1))

def known_Init_1__known_laid_1_2_b3 (v386 : Int) (x407 : Int) (r410 : (List Int)) (c419 : G.graph_Graph) (v420 : Int) : Option ((G.graph_Graph × Int) ⊕ ((G.graph_Graph × Int) ⊕ ((G.graph_Graph × Int) ⊕ (G.graph_Graph)))) :=
  if decide (v420 < (Sh.len r410)) then
    (Sh.idx r410 v420).bind fun x427 =>
    (G.known_laid_1__2 x407 x427 c419).bind fun r429 =>
    Sh.next (r429, w64 (v420 + 1))
  else
    Sh.exit (G.known_Init_1__known_laid_1_2_j2 v386 c419)

def known_Init_1__known_laid_1_2_b2 (a_0 : G.api_Hist) (v287 : Int) (x347 : Int) (r350 : (List Int)) (c385 : G.graph_Graph) (v386 : Int) : Option ((G.graph_Graph × Int) ⊕ ((G.graph_Graph × Int) ⊕ (G.graph_Graph))) :=
  if decide (v386 < (Sh.len r350)) then
    (Sh.idx r350 v386).bind fun x407 =>
    (G.index_Writers a_0 x347).bind fun r410 =>
    Sh.loop (fun (p : G.graph_Graph × Int) => G.known_Init_1__known_laid_1_2_b3 v386 x407 r410 p.1 p.2) (c385, 0)
  else
    Sh.exit (G.known_Init_1__known_laid_1_2_j1 v287 c385)

def known_Init_1__known_laid_1_2_b1 (a_0 : G.api_Hist) (r173 : (List Int)) (c286 : G.graph_Graph) (v287 : Int) : Option ((G.graph_Graph × Int) ⊕ (G.graph_Graph)) :=
  if decide (v287 < (Sh.len r173)) then
    (Sh.idx r173 v287).bind fun x347 =>
    (G.index_Readers a_0 x347 (-1)).bind fun r350 =>
    Sh.loop (fun (p : G.graph_Graph × Int) => G.known_Init_1__known_laid_1_2_b2 a_0 v287 x347 r350 p.1 p.2) (c286, 0)
  else
    Sh.exit (some c286)

def known_Init_1__known_laid_1_2 (a_0 : G.api_Hist) (c_1 : G.graph_Graph) : Option (G.graph_Graph) :=
  (G.index_Keys a_0).bind fun r173 =>
  Sh.loop (fun (p : G.graph_Graph × Int) => G.known_Init_1__known_laid_1_2_b1 a_0 r173 p.1 p.2) (c_1, 0)

def known_laid__known_Init_1 (h_0 : G.api_Hist) (lay_1 : G.api_Hist) : Option (G.graph_Graph) :=
  (G.hist_Right h_0).bind fun r6 =>
  if !r6 then
    some (G.graph_Graph.mk 0 [])
  else
    (G.graph_New (Sh.len h_0.Txns)).bind fun r9 =>
    (G.known_Init_1__known_laid_1_2 lay_1 r9.1).bind fun r11 =>
    some r11

def known_Init (h_0 : G.api_Hist) : Option (G.graph_Graph) :=
  (G.known_laid__known_Init_1 h_0 h_0).bind fun r3 =>
  some r3

def known_So_1__known_laid_1_2_j1 (v104 : Int) (v125 : G.graph_Graph) : Option ((G.graph_Graph × Int) ⊕ (G.graph_Graph)) :=
  Sh.next (v125, w64 (v104 + 1))

def known_So_1__known_laid_1_2_j2 (v143 : Int) (c148 : G.graph_Graph) : Option ((G.graph_Graph × Int) ⊕ ((G.graph_Graph × Int) ⊕ (G.graph_Graph))) :=
  Sh.next (c148, w64 (v143 + 1))

def known_So_1__known_laid_1_2_b2 (v104 : Int) (x128 : G.api_Txn) (part131 : List G.api_Txn) (c142 : G.graph_Graph) (v143 : Int) : Option ((G.graph_Graph × Int) ⊕ ((G.graph_Graph × Int) ⊕ (G.graph_Graph))) :=
  if decide (v143 < (Sh.len part131)) then
    (Sh.idx part131 v143).bind fun x151 =>
    if decide (x151.Session = x128.Session) then
      (G.known_laid_1__2 v143 v104 c142).bind fun r154 =>
      G.known_So_1__known_laid_1_2_j2 v143 r154
    else
      G.known_So_1__known_laid_1_2_j2 v143 c142
  else
    Sh.exit (G.known_So_1__known_laid_1_2_j1 v104 c142)

def known_So_1__known_laid_1_2_b1 (a_0 : G.api_Hist) (c103 : G.graph_Graph) (v104 : Int) : Option ((G.graph_Graph × Int) ⊕ (G.graph_Graph)) :=
  if decide (v104 < (Sh.len a_0.Txns)) then
    (Sh.idx a_0.Txns v104).bind fun x128 =>
    (Sh.sub a_0.Txns 0 v104).bind fun part131 =>
    Sh.loop (fun (p : G.graph_Graph × Int) => G.known_So_1__known_laid_1_2_b2 v104 x128 part131 p.1 p.2) (c103, 0)
  else
    Sh.exit (some c103)

def known_So_1__known_laid_1_2 (a_0 : G.api_Hist) (c_1 : G.graph_Graph) : Option (G.graph_Graph) :=
  Sh.loop (fun (p : G.graph_Graph × Int) => G.known_So_1__known_laid_1_2_b1 a_0 p.1 p.2) (c_1, 0)

def known_laid__known_So_1 (h_0 : G.api_Hist) (lay_1 : G.api_Hist) : Option (G.graph_Graph) :=
  (G.hist_Right h_0).bind fun r6 =>
  if !r6 then
    some (G.graph_Graph.mk 0 [])
  else
    (G.graph_New (Sh.len h_0.Txns)).bind fun r9 =>
    (G.known_So_1__known_laid_1_2 lay_1 r9.1).bind fun r11 =>
    some r11

def known_So (h_0 : G.api_Hist) : Option (G.graph_Graph) :=
  (G.known_laid__known_So_1 h_0 h_0).bind fun r3 =>
  some r3

def known_Wr_1__known_laid_1_2_j1 (v84 : Int) (v101 : G.graph_Graph) : Option ((G.graph_Graph × Int) ⊕ (G.graph_Graph)) :=
  Sh.next (v101, w64 (v84 + 1))

def known_Wr_1__known_laid_1_2_b2 (v84 : Int) (x104 : G.api_Txn) (c114 : G.graph_Graph) (v115 : Int) : Option ((G.graph_Graph × Int) ⊕ ((G.graph_Graph × Int) ⊕ (G.graph_Graph))) :=
  if decide (v115 < (Sh.len x104.Reads)) then
    (Sh.idx x104.Reads v115).bind fun x122 =>
    (G.known_laid_1__2 x122.From v84 c114).bind fun r124 =>
    Sh.next (r124, w64 (v115 + 1))
  else
    Sh.exit (G.known_Wr_1__known_laid_1_2_j1 v84 c114)

def known_Wr_1__known_laid_1_2_b1 (a_0 : G.api_Hist) (c83 : G.graph_Graph) (v84 : Int) : Option ((G.graph_Graph × Int) ⊕ (G.graph_Graph)) :=
  if decide (v84 < (Sh.len a_0.Txns)) then
    (Sh.idx a_0.Txns v84).bind fun x104 =>
    Sh.loop (fun (p : G.graph_Graph × Int) => G.known_Wr_1__known_laid_1_2_b2 v84 x104 p.1 p.2) (c83, 0)
  else
    Sh.exit (some c83)

def known_Wr_1__known_laid_1_2 (a_0 : G.api_Hist) (c_1 : G.graph_Graph) : Option (G.graph_Graph) :=
  Sh.loop (fun (p : G.graph_Graph × Int) => G.known_Wr_1__known_laid_1_2_b1 a_0 p.1 p.2) (c_1, 0)

def known_laid__known_Wr_1 (h_0 : G.api_Hist) (lay_1 : G.api_Hist) : Option (G.graph_Graph) :=
  (G.hist_Right h_0).bind fun r6 =>
  if !r6 then
    some (G.graph_Graph.mk 0 [])
  else
    (G.graph_New (Sh.len h_0.Txns)).bind fun r9 =>
    (G.known_Wr_1__known_laid_1_2 lay_1 r9.1).bind fun r11 =>
    some r11

def known_Wr (h_0 : G.api_Hist) : Option (G.graph_Graph) :=
  (G.known_laid__known_Wr_1 h_0 h_0).bind fun r3 =>
  some r3

def known_Past (h_0 : G.api_Hist) : Option (G.graph_Graph) :=
  (G.known_So h_0).bind fun r7 =>
  (G.known_Wr h_0).bind fun r8 =>
  (G.graph_Union r7 r8).bind fun r9 =>
  some r9.1
end G
end

section
/- What the functions of a package compute, as plain functions. -/
open Go Go.Av
set_option linter.unusedVariables false
namespace G
def choice_Right_1__1 (t_0 : Int) (key_1 : Int) (a_2 : G.api_Hist) : Option (Bool) :=
  if decide ((0 : Int) ≤ t_0) then
    if decide (t_0 < (Sh.len a_2.Txns)) then
      (Sh.idx a_2.Txns t_0).bind fun x14 =>
      (G.slices_Contains_int_int x14.Writes key_1).bind fun r16 =>
      some r16
    else
      some false
  else
    some false

def choice_Right_2__1 (c_0 : G.api_Choice) (a_1 : G.api_Hist) : Option (Bool) :=
  if decide (c_0.A = c_0.B) then
    some true
  else
    (G.choice_Right_1__1 c_0.A c_0.Key a_1).bind fun r11 =>
    if !r11 then
      some true
    else
      (G.choice_Right_1__1 c_0.B c_0.Key a_1).bind fun r13 =>
      some (!r13)

def slices_IndexFunc_api_Choice_api_Choice__choice_Right_2_j1 : Option (Int) :=
  some (-1)

def slices_IndexFunc_api_Choice_api_Choice__choice_Right_2_b1 (s_0 : List G.api_Choice) (f_1 : G.api_Hist) (v30 : Int) : Option ((Int) ⊕ (Int)) :=
  if decide (v30 < (Sh.len s_0)) then
    (Sh.idx s_0 v30).bind fun x38 =>
    (G.choice_Right_2__1 x38 f_1).bind fun r40 =>
    if r40 then
      Sh.exit (some v30)
    else
      Sh.next (w64 (v30 + 1))
  else
    Sh.exit (G.slices_IndexFunc_api_Choice_api_Choice__choice_Right_2_j1)

def slices_IndexFunc_api_Choice_api_Choice__choice_Right_2 (s_0 : List G.api_Choice) (f_1 : G.api_Hist) : Option (Int) :=
  Sh.loop (fun (p : Int) => G.slices_IndexFunc_api_Choice_api_Choice__choice_Right_2_b1 s_0 f_1 p) 0

def slices_ContainsFunc_api_Choice_api_Choice__choice_Right_2 (s_0 : List G.api_Choice) (f_1 : G.api_Hist) : Option (Bool) :=
  (G.slices_IndexFunc_api_Choice_api_Choice__choice_Right_2 s_0 f_1).bind fun r3 =>
  some (decide ((0 : Int) ≤ r3))

def choice_Right_j1 (h_0 : G.api_Hist) (l_1 : List G.api_Choice) (v10 : Bool) : Option (Bool) :=
  if v10 then
    some false
  else
    (G.slices_ContainsFunc_api_Choice_api_Choice__choice_Right_2 l_1 h_0).bind fun r13 =>
    some (!r13)

def choice_Right (h_0 : G.api_Hist) (l_1 : List G.api_Choice) : Option (Bool) :=
  (G.hist_Right h_0).bind fun r14 =>
  if !r14 then
    G.choice_Right_j1 h_0 l_1 true
  else
    G.choice_Right_j1 h_0 l_1 (decide ((20000 : Int) < (Sh.len l_1)))

def choice_Rw_j1 (v197 : G.graph_Graph) : Option (G.graph_Graph) :=
  some v197

def choice_Rw_j2 (v261 : Int) (v293 : G.graph_Graph) : Option ((G.graph_Graph × Int) ⊕ (G.graph_Graph)) :=
  Sh.next (v293, w64 (v261 + 1))

def choice_Rw_j3 (v317 : Int) (gN325 : Int) (gRows326 : List (BitVec 64)) : Option ((G.graph_Graph × Int) ⊕ ((G.graph_Graph × Int) ⊕ (G.graph_Graph))) :=
  Sh.next ((G.graph_Graph.mk gN325 gRows326), w64 (v317 + 1))

def choice_Rw_j4 (x296 : G.api_Choice) (g316 : G.graph_Graph) (v317 : Int) (v333 : Bool) : Option ((G.graph_Graph × Int) ⊕ ((G.graph_Graph × Int) ⊕ (G.graph_Graph))) :=
  if v333 then
    (G.graph_Add g316 v317 x296.B).bind fun r335 =>
    G.choice_Rw_j3 v317 r335.1.N r335.1.Rows
  else
    G.choice_Rw_j3 v317 g316.N g316.Rows

def choice_Rw_b2 (h_0 : G.api_Hist) (v261 : Int) (x296 : G.api_Choice) (g316 : G.graph_Graph) (v317 : Int) : Option ((G.graph_Graph × Int) ⊕ ((G.graph_Graph × Int) ⊕ (G.graph_Graph))) :=
  if decide (v317 < (Sh.len h_0.Txns)) then
    (Sh.idx h_0.Txns v317).bind fun x329 =>
    if decide (v317 ≠ x296.B) then
      (G.slices_Contains_api_Take_api_Take x329.Reads (G.api_Take.mk x296.Key x296.A)).bind fun r337 =>
      G.choice_Rw_j4 x296 g316 v317 r337
    else
      G.choice_Rw_j4 x296 g316 v317 false
  else
    Sh.exit (G.choice_Rw_j2 v261 g316)

def choice_Rw_b1 (h_0 : G.api_Hist) (l_1 : List G.api_Choice) (g260 : G.graph_Graph) (v261 : Int) : Option ((G.graph_Graph × Int) ⊕ (G.graph_Graph)) :=
  if decide (v261 < (Sh.len l_1)) then
    (Sh.idx l_1 v261).bind fun x296 =>
    Sh.loop (fun (p : G.graph_Graph × Int) => G.choice_Rw_b2 h_0 v261 x296 p.1 p.2) (g260, 0)
  else
    Sh.exit (G.choice_Rw_j1 g260)

def choice_Rw (h_0 : G.api_Hist) (l_1 : List G.api_Choice) : Option (G.graph_Graph) :=
  (G.choice_Right h_0 l_1).bind fun r99 =>
  if !r99 then
    some (G.graph_Graph.mk 0 [])
  else
    (G.known_Init h_0).bind fun r102 =>
    Sh.loop (fun (p : G.graph_Graph × Int) => G.choice_Rw_b1 h_0 l_1 p.1 p.2) (r102, 0)

def choice_all_j1 (v31 : G.graph_Graph) : Option (G.graph_Graph) :=
  some v31

def choice_all_b1 (more_1 : List G.graph_Graph) (gN41 : Int) (gRows42 : List (BitVec 64)) (v43 : Int) : Option ((Int × (List (BitVec 64)) × Int) ⊕ (G.graph_Graph)) :=
  if decide (v43 < (Sh.len more_1)) then
    (Sh.idx more_1 v43).bind fun x50 =>
    (G.graph_Union (G.graph_Graph.mk gN41 gRows42) x50).bind fun r52 =>
    Sh.next (r52.1.N, r52.1.Rows, w64 (v43 + 1))
  else
    Sh.exit (G.choice_all_j1 (G.graph_Graph.mk gN41 gRows42))

def choice_all (g_0 : G.graph_Graph) (more_1 : List G.graph_Graph) : Option (G.graph_Graph) :=
  Sh.loop (fun (p : Int × (List (BitVec 64)) × Int) => G.choice_all_b1 more_1 p.1 p.2.1 p.2.2) (g_0.N, g_0.Rows, 0)

def choice_Ww_j1 (v39 : Int) (v40 : List (BitVec 64)) : Option (G.graph_Graph) :=
  some (G.graph_Graph.mk v39 v40)

def choice_Ww_b1 (l_1 : List G.api_Choice) (gN50 : Int) (gRows51 : List (BitVec 64)) (v52 : Int) : Option ((Int × (List (BitVec 64)) × Int) ⊕ (G.graph_Graph)) :=
  if decide (v52 < (Sh.len l_1)) then
    (Sh.idx l_1 v52).bind fun x59 =>
    (G.graph_Add (G.graph_Graph.mk gN50 gRows51) x59.A x59.B).bind fun r61 =>
    Sh.next (r61.1.N, r61.1.Rows, w64 (v52 + 1))
  else
    Sh.exit (G.choice_Ww_j1 gN50 gRows51)

def choice_Ww (h_0 : G.api_Hist) (l_1 : List G.api_Choice) : Option (G.graph_Graph) :=
  (G.choice_Right h_0 l_1).bind fun r20 =>
  if !r20 then
    some (G.graph_Graph.mk 0 [])
  else
    (G.graph_New (Sh.len h_0.Txns)).bind fun r23 =>
    Sh.loop (fun (p : Int × (List (BitVec 64)) × Int) => G.choice_Ww_b1 l_1 p.1 p.2.1 p.2.2) (r23.1.N, r23.1.Rows, 0)

def choice_Full_j2 (r26 : G.graph_Graph) (over30 : G.graph_Graph) : Option (G.graph_Graph × Int) :=
  (G.choice_all r26 ([over30] : List G.graph_Graph)).bind fun r32 =>
  some (r32, 0)

def choice_Full_j1 (h_0 : G.api_Hist) (level_1 : Int) (l_2 : List G.api_Choice) (v19 : Bool) : Option (G.graph_Graph × Int) :=
  if v19 then
    some ((G.graph_Graph.mk 0 []), 1)
  else
    (G.known_Past h_0).bind fun r24 =>
    (G.choice_Ww h_0 l_2).bind fun r25 =>
    (G.choice_all r24 ([r25] : List G.graph_Graph)).bind fun r26 =>
    (G.choice_Rw h_0 l_2).bind fun r28 =>
    if decide (level_1 = 1) then
      (G.graph_Compose r26 r28).bind fun r34 =>
      G.choice_Full_j2 r26 r34.1
    else
      G.choice_Full_j2 r26 r28

def choice_Full (h_0 : G.api_Hist) (level_1 : Int) (l_2 : List G.api_Choice) : Option (G.graph_Graph × Int) :=
  (G.choice_Right h_0 l_2).bind fun r35 =>
  if !r35 then
    G.choice_Full_j1 h_0 level_1 l_2 true
  else
    if decide (level_1 ≠ 0) then
      G.choice_Full_j1 h_0 level_1 l_2 (decide (level_1 ≠ 1))
    else
      G.choice_Full_j1 h_0 level_1 l_2 false

end G
end

section
/- What the functions of a package compute, as plain functions. -/
open Go Go.Av
set_option linter.unusedVariables false
namespace G
def cycle_far_j1 (v263 : List Int) : Option ((List Int)) :=
  (Sh.whole 64 v263).bind fun w268 =>
  (Sh.whole 64 v263).bind fun w270 =>
  (Sh.whole 64 v263).bind fun w272 =>
  some v263

def cycle_far_j2 (n359 : Int) (front401 : BitVec 64) (v402 : List Int) : Option (((List Int) × (BitVec 64) × Int) ⊕ ((List Int))) :=
  Sh.next (v402, front401, w64 (n359 + 1))

def cycle_far_j3 (n359 : Int) (next443 : BitVec 64) (v444 : List Int) : Option (((List Int) × (BitVec 64) × Int) ⊕ ((List Int))) :=
  G.cycle_far_j2 n359 next443 v444

def cycle_far_j4 (v474 : Int) (d485 : List Int) (next486 : BitVec 64) : Option (((List Int) × (BitVec 64) × Int) ⊕ (((List Int) × (BitVec 64) × Int) ⊕ ((List Int)))) :=
  Sh.next (d485, next486, w64 (v474 + 1))

def cycle_far_b2 (back_0 : G.graph_Graph) (n359 : Int) (r446 : (List Int)) (d472 : List Int) (next473 : BitVec 64) (v474 : Int) : Option (((List Int) × (BitVec 64) × Int) ⊕ (((List Int) × (BitVec 64) × Int) ⊕ ((List Int)))) :=
  if decide (v474 < (Sh.len r446)) then
    (Sh.idx r446 v474).bind fun x489 =>
    (Sh.aidx 64 d472 x489).bind fun x493 =>
    if decide (x493 = 0) then
      (Sh.aidx 64 d472 x489).bind fun x498 =>
      (Sh.idx back_0.Rows x489).bind fun x500 =>
      (G.bits_Join [next473, x500]).bind fun r502 =>
      G.cycle_far_j4 v474 (Sh.set d472 x489 n359) r502
    else
      G.cycle_far_j4 v474 d472 next473
  else
    Sh.exit (G.cycle_far_j3 n359 next473 d472)

def cycle_far_b1 (back_0 : G.graph_Graph) (d357 : List Int) (front358 : BitVec 64) (n359 : Int) : Option (((List Int) × (BitVec 64) × Int) ⊕ ((List Int))) :=
  if decide (front358 ≠ 0#64) then
    (G.bits_List front358).bind fun r446 =>
    Sh.loop (fun (p : (List Int) × (BitVec 64) × Int) => G.cycle_far_b2 back_0 n359 r446 p.1 p.2.1 p.2.2) (d357, 0#64, 0)
  else
    Sh.exit (G.cycle_far_j1 d357)

def cycle_far (back_0 : G.graph_Graph) (v_1 : Int) : Option ((List Int)) :=
  (Sh.idx back_0.Rows v_1).bind fun x135 =>
  Sh.loop (fun (p : (List Int) × (BitVec 64) × Int) => G.cycle_far_b1 back_0 p.1 p.2.1 p.2.2) ((List.replicate 64 0), x135, 1)

def cycle_Find_j1 : Option ((List Int)) :=
  some []

def cycle_Find_j2 (v666 : Int) : Option ((Int) ⊕ ((List Int))) :=
  Sh.next (w64 (v666 + 1))

def cycle_Find_j3 (out842 : List Int) : Option ((Int) ⊕ ((List Int))) :=
  Sh.exit (some out842)

def cycle_Find_j4 (left896 : Int) (out920 : List Int) : Option (((List Int) × Int) ⊕ ((Int) ⊕ ((List Int)))) :=
  Sh.next (out920, w64 (left896 - 1))

def cycle_Find_b3 (r755 : (List Int)) (out895 : List Int) (left896 : Int) (r930 : (List Int)) (v942 : Int) : Option ((Int) ⊕ (((List Int) × Int) ⊕ ((Int) ⊕ ((List Int))))) :=
  if decide (v942 < (Sh.len r930)) then
    (Sh.idx r930 v942).bind fun x951 =>
    (Sh.aidx 64 r755 x951).bind fun x955 =>
    if decide (x955 = left896) then
      (Sh.app 8 out895 [x951]).bind fun out959 =>
      Sh.exit (G.cycle_Find_j4 left896 out959)
    else
      Sh.next (w64 (v942 + 1))
  else
    Sh.exit (G.cycle_Find_j4 left896 out895)

def cycle_Find_b2 (g_0 : G.graph_Graph) (r755 : (List Int)) (out895 : List Int) (left896 : Int) : Option (((List Int) × Int) ⊕ ((Int) ⊕ ((List Int)))) :=
  if decide ((0 : Int) < left896) then
    (Sh.idx out895 (w64 ((Sh.len out895) - 1))).bind fun x926 =>
    (Sh.idx g_0.Rows x926).bind fun x928 =>
    (G.bits_List x928).bind fun r930 =>
    Sh.loop (fun (p : Int) => G.cycle_Find_b3 r755 out895 left896 r930 p) 0
  else
    Sh.exit (G.cycle_Find_j3 out895)

def cycle_Find_b1 (g_0 : G.graph_Graph) (r251 : G.graph_Graph × Int) (v666 : Int) : Option ((Int) ⊕ ((List Int))) :=
  if decide (v666 < g_0.N) then
    (G.cycle_far r251.1 v666).bind fun r755 =>
    (Sh.whole 64 (List.replicate 64 0)).bind fun w756 =>
    (Sh.whole 64 r755).bind fun w758 =>
    (Sh.aidx 64 r755 v666).bind fun x764 =>
    if decide (x764 = 0) then
      G.cycle_Find_j2 v666
    else
      (Sh.aidx 64 r755 v666).bind fun x845 =>
      Sh.loop (fun (p : (List Int) × Int) => G.cycle_Find_b2 g_0 r755 p.1 p.2) ([v666], w64 (x845 - 1))
  else
    Sh.exit (G.cycle_Find_j1)

def cycle_Find (g_0 : G.graph_Graph) : Option ((List Int)) :=
  (G.graph_Turn g_0).bind fun r251 =>
  if decide (r251.2 ≠ 0) then
    some []
  else
    Sh.loop (fun (p : Int) => G.cycle_Find_b1 g_0 r251 p) 0

def cycle_Is_j2 : Option (Bool) :=
  some true

def cycle_Is_j3 (seen85 : BitVec 64) (v87 : Int) (x98 : Int) (v107 : Bool) : Option (((BitVec 64) × Int × Int) ⊕ (Bool)) :=
  if v107 then
    Sh.exit (some false)
  else
    (G.bits_With seen85 x98).bind fun r110 =>
    Sh.next (r110, x98, w64 (v87 + 1))

def cycle_Is_b1 (g_0 : G.graph_Graph) (l_1 : List Int) (seen85 : BitVec 64) (last86 : Int) (v87 : Int) : Option (((BitVec 64) × Int × Int) ⊕ (Bool)) :=
  if decide (v87 < (Sh.len l_1)) then
    (Sh.idx l_1 v87).bind fun x98 =>
    (G.graph_Has g_0 last86 x98).bind fun r111 =>
    if !r111 then
      G.cycle_Is_j3 seen85 v87 x98 true
    else
      (G.bits_Has seen85 x98).bind fun r113 =>
      G.cycle_Is_j3 seen85 v87 x98 r113
  else
    Sh.exit (G.cycle_Is_j2)

def cycle_Is_j1 (g_0 : G.graph_Graph) (l_1 : List Int) (v35 : Bool) : Option (Bool) :=
  if v35 then
    some false
  else
    (Sh.idx l_1 (w64 ((Sh.len l_1) - 1))).bind fun x39 =>
    Sh.loop (fun (p : (BitVec 64) × Int × Int) => G.cycle_Is_b1 g_0 l_1 p.1 p.2.1 p.2.2) (0#64, x39, 0)

def cycle_Is (g_0 : G.graph_Graph) (l_1 : List Int) : Option (Bool) :=
  if decide ((Sh.len l_1) = 0) then
    G.cycle_Is_j1 g_0 l_1 true
  else
    G.cycle_Is_j1 g_0 l_1 (decide (g_0.N < (Sh.len l_1)))
end G
end

section
/- What the functions of a package compute, as plain functions. -/
open Go Go.Av
set_option linter.unusedVariables false
namespace G
def inquestlaw19_awake : Option (Bool) :=
  (G.edge_Anti (G.api_Hist.mk ([(G.api_Txn.mk 1 [] ([(G.api_Take.mk 4 1)] : List G.api_Take)), (G.api_Txn.mk 2 [4] []), (G.api_Txn.mk 3 [4] [])] : List G.api_Txn)) ([(G.api_Choice.mk 4 1 2)] : List G.api_Choice) 0 2).bind fun r28 =>
  if r28 then
    (G.edge_Direct (G.api_Hist.mk ([(G.api_Txn.mk 1 [] ([(G.api_Take.mk 4 1)] : List G.api_Take)), (G.api_Txn.mk 2 [4] []), (G.api_Txn.mk 3 [4] [])] : List G.api_Txn)) ([(G.api_Choice.mk 4 1 2)] : List G.api_Choice) 1 0).bind fun r30 =>
    if r30 then
      (G.edge_Is (G.api_Hist.mk ([(G.api_Txn.mk 1 [] ([(G.api_Take.mk 4 1)] : List G.api_Take)), (G.api_Txn.mk 2 [4] []), (G.api_Txn.mk 3 [4] [])] : List G.api_Txn)) 1 ([(G.api_Choice.mk 4 1 2)] : List G.api_Choice) 1 2).bind fun r32 =>
      if r32 then
        (G.edge_Is (G.api_Hist.mk ([(G.api_Txn.mk 1 [] ([(G.api_Take.mk 4 1)] : List G.api_Take)), (G.api_Txn.mk 2 [4] []), (G.api_Txn.mk 3 [4] [])] : List G.api_Txn)) 1 ([(G.api_Choice.mk 4 1 2)] : List G.api_Choice) 0 2).bind fun r34 =>
        if !r34 then
          (G.edge_Is (G.api_Hist.mk ([(G.api_Txn.mk 1 [] ([(G.api_Take.mk 4 1)] : List G.api_Take)), (G.api_Txn.mk 2 [4] []), (G.api_Txn.mk 3 [4] [])] : List G.api_Txn)) 0 ([(G.api_Choice.mk 4 1 2)] : List G.api_Choice) 0 2).bind fun r36 =>
          if r36 then
            (G.edge_Cycle (G.api_Hist.mk ([(G.api_Txn.mk 1 [] ([(G.api_Take.mk 4 1)] : List G.api_Take)), (G.api_Txn.mk 2 [4] []), (G.api_Txn.mk 3 [4] [])] : List G.api_Txn)) 0 ([(G.api_Choice.mk 4 1 2)] : List G.api_Choice) [0, 1]).bind fun r38 =>
            if !r38 then
              (G.edge_Cycle (G.api_Hist.mk ([(G.api_Txn.mk 1 [] ([(G.api_Take.mk 4 1)] : List G.api_Take)), (G.api_Txn.mk 2 [4] []), (G.api_Txn.mk 3 [4] [])] : List G.api_Txn)) 0 ([(G.api_Choice.mk 4 1 2), (G.api_Choice.mk 4 2 1)] : List G.api_Choice) [2, 1]).bind fun r40 =>
              some r40
            else
              some false
          else
            some false
        else
          some false
      else
        some false
    else
      some false
  else
    some false

def inquestlaw19_EdgeCycle_j1 (a_0 : G.inquestlaw19_At) (v30 : Bool) : Option (Bool) :=
  if v30 then
    some true
  else
    (G.choice_Full a_0.H a_0.Level a_0.L).bind fun r33 =>
    if decide (r33.2 ≠ 0) then
      (G.edge_Cycle a_0.H a_0.Level a_0.L a_0.Row).bind fun r37 =>
      some (!r37)
    else
      (G.cycle_Find r33.1).bind fun r39 =>
      (G.edge_Cycle a_0.H a_0.Level a_0.L a_0.Row).bind fun r44 =>
      (G.cycle_Is r33.1 a_0.Row).bind fun r45 =>
      if r44 == r45 then
        (G.edge_Cycle a_0.H a_0.Level a_0.L r39).bind fun r47 =>
        some (r47 == (decide ((0 : Int) < (Sh.len r39))))
      else
        some false

def inquestlaw19_EdgeCycle (a_0 : G.inquestlaw19_At) : Option (Bool) :=
  (G.inquestlaw19_awake).bind fun r17 =>
  if !r17 then
    some false
  else
    (G.inquestref08_Few a_0.H 40).bind fun r20 =>
    if !r20 then
      G.inquestlaw19_EdgeCycle_j1 a_0 true
    else
      if decide ((60 : Int) < (Sh.len a_0.L)) then
        G.inquestlaw19_EdgeCycle_j1 a_0 true
      else
        if decide ((50 : Int) < (Sh.len a_0.Row)) then
          G.inquestlaw19_EdgeCycle_j1 a_0 true
        else
          (G.choice_Right a_0.H a_0.L).bind fun r51 =>
          G.inquestlaw19_EdgeCycle_j1 a_0 (!r51)
end G
end

section
/- What the functions of a package compute, as plain functions. -/
open Go Go.Av
set_option linter.unusedVariables false
namespace G
end G
end
