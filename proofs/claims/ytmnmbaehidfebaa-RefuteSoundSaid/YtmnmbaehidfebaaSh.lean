/- What the functions compute, as plain functions. -/
import Derived.Test.YtmnmbaehidfebaaBase1
set_option linter.unusedSimpArgs false
set_option linter.unusedVariables false
section
/- The plain types. -/
open Go Go.Av
namespace G
structure api_Choice where
  Key : Int
  A : Int
  B : Int
  deriving DecidableEq, Inhabited
def api_Choice.av (x : api_Choice) : AV := .agg [i64 x.Key, i64 x.A, i64 x.B]
@[simp] theorem api_Choice.noid (x : api_Choice) : NoId (api_Choice.av x) := by simp [api_Choice.av]
@[simp] theorem api_Choice.solid (x : api_Choice) : AV.solid (api_Choice.av x) = true := rfl
@[simp] theorem api_Choice.dry (x : api_Choice) : Dry (api_Choice.av x) := by simp [api_Choice.av]
@[simp] theorem api_Choice.flat (x : api_Choice) : (api_Choice.av x).flat.length = 3 := rfl
structure api_Take where
  Key : Int
  From : Int
  deriving DecidableEq, Inhabited
def api_Take.av (x : api_Take) : AV := .agg [i64 x.Key, i64 x.From]
@[simp] theorem api_Take.noid (x : api_Take) : NoId (api_Take.av x) := by simp [api_Take.av]
@[simp] theorem api_Take.solid (x : api_Take) : AV.solid (api_Take.av x) = true := rfl
@[simp] theorem api_Take.dry (x : api_Take) : Dry (api_Take.av x) := by simp [api_Take.av]
@[simp] theorem api_Take.flat (x : api_Take) : (api_Take.av x).flat.length = 2 := rfl
structure api_Txn where
  Session : Int
  Writes : List Int
  Reads : List G.api_Take
  deriving DecidableEq, Inhabited
def api_Txn.av (x : api_Txn) : AV := .agg [i64 x.Session, .sl (List.map i64 x.Writes), .sl (List.map G.api_Take.av x.Reads)]
@[simp] theorem api_Txn.noid (x : api_Txn) : NoId (api_Txn.av x) := by simp [api_Txn.av]
@[simp] theorem api_Txn.solid (x : api_Txn) : AV.solid (api_Txn.av x) = true := rfl
@[simp] theorem api_Txn.flat (x : api_Txn) : (api_Txn.av x).flat.length = 3 := rfl
structure api_Hist where
  Txns : List G.api_Txn
  deriving DecidableEq, Inhabited
def api_Hist.av (x : api_Hist) : AV := .agg [.sl (List.map G.api_Txn.av x.Txns)]
@[simp] theorem api_Hist.noid (x : api_Hist) : NoId (api_Hist.av x) := by simp [api_Hist.av]
@[simp] theorem api_Hist.solid (x : api_Hist) : AV.solid (api_Hist.av x) = true := rfl
@[simp] theorem api_Hist.flat (x : api_Hist) : (api_Hist.av x).flat.length = 1 := rfl
structure edge_read where
  deriving DecidableEq, Inhabited
def edge_read.av (x : edge_read) : AV := .agg []
@[simp] theorem edge_read.noid (x : edge_read) : NoId (edge_read.av x) := by simp [edge_read.av]
@[simp] theorem edge_read.solid (x : edge_read) : AV.solid (edge_read.av x) = true := rfl
@[simp] theorem edge_read.dry (x : edge_read) : Dry (edge_read.av x) := by simp [edge_read.av]
@[simp] theorem edge_read.flat (x : edge_read) : (edge_read.av x).flat.length = 0 := rfl
structure edge_session where
  deriving DecidableEq, Inhabited
def edge_session.av (x : edge_session) : AV := .agg []
@[simp] theorem edge_session.noid (x : edge_session) : NoId (edge_session.av x) := by simp [edge_session.av]
@[simp] theorem edge_session.solid (x : edge_session) : AV.solid (edge_session.av x) = true := rfl
@[simp] theorem edge_session.dry (x : edge_session) : Dry (edge_session.av x) := by simp [edge_session.av]
@[simp] theorem edge_session.flat (x : edge_session) : (edge_session.av x).flat.length = 0 := rfl
structure fact_Fact where
  C : G.api_Choice
  Kind : Int
  I : Int
  J : Int
  Cycle : List Int
  deriving DecidableEq, Inhabited
def fact_Fact.av (x : fact_Fact) : AV := .agg [i64 x.C.Key, i64 x.C.A, i64 x.C.B, i64 x.Kind, i64 x.I, i64 x.J, .sl (List.map i64 x.Cycle)]
@[simp] theorem fact_Fact.noid (x : fact_Fact) : NoId (fact_Fact.av x) := by simp [fact_Fact.av]
@[simp] theorem fact_Fact.solid (x : fact_Fact) : AV.solid (fact_Fact.av x) = true := rfl
@[simp] theorem fact_Fact.flat (x : fact_Fact) : (fact_Fact.av x).flat.length = 7 := rfl
structure fact_asked where
  h : G.api_Hist
  level : Int
  l : List G.fact_Fact
  f : G.fact_Fact
  deriving DecidableEq, Inhabited
def fact_asked.av (x : fact_asked) : AV := .agg [.sl (List.map G.api_Txn.av x.h.Txns), i64 x.level, .sl (List.map G.fact_Fact.av x.l), i64 x.f.C.Key, i64 x.f.C.A, i64 x.f.C.B, i64 x.f.Kind, i64 x.f.I, i64 x.f.J, .sl (List.map i64 x.f.Cycle)]
@[simp] theorem fact_asked.noid (x : fact_asked) : NoId (fact_asked.av x) := by simp [fact_asked.av]
@[simp] theorem fact_asked.solid (x : fact_asked) : AV.solid (fact_asked.av x) = true := rfl
@[simp] theorem fact_asked.flat (x : fact_asked) : (fact_asked.av x).flat.length = 10 := rfl
structure inquestlaw22_Case where
  H : G.api_Hist
  Level : Int
  L : List G.fact_Fact
  F : G.fact_Fact
  deriving DecidableEq, Inhabited
def inquestlaw22_Case.av (x : inquestlaw22_Case) : AV := .agg [.sl (List.map G.api_Txn.av x.H.Txns), i64 x.Level, .sl (List.map G.fact_Fact.av x.L), i64 x.F.C.Key, i64 x.F.C.A, i64 x.F.C.B, i64 x.F.Kind, i64 x.F.I, i64 x.F.J, .sl (List.map i64 x.F.Cycle)]
@[simp] theorem inquestlaw22_Case.noid (x : inquestlaw22_Case) : NoId (inquestlaw22_Case.av x) := by simp [inquestlaw22_Case.av]
@[simp] theorem inquestlaw22_Case.solid (x : inquestlaw22_Case) : AV.solid (inquestlaw22_Case.av x) = true := rfl
@[simp] theorem inquestlaw22_Case.flat (x : inquestlaw22_Case) : (inquestlaw22_Case.av x).flat.length = 10 := rfl
structure refute_Node where
  C : G.api_Choice
  Cycle : List Int
  deriving DecidableEq, Inhabited
def refute_Node.av (x : refute_Node) : AV := .agg [i64 x.C.Key, i64 x.C.A, i64 x.C.B, .sl (List.map i64 x.Cycle)]
@[simp] theorem refute_Node.noid (x : refute_Node) : NoId (refute_Node.av x) := by simp [refute_Node.av]
@[simp] theorem refute_Node.solid (x : refute_Node) : AV.solid (refute_Node.av x) = true := rfl
@[simp] theorem refute_Node.flat (x : refute_Node) : (refute_Node.av x).flat.length = 4 := rfl
structure inquestlaw24_Case where
  H : G.api_Hist
  Level : Int
  L : List G.api_Choice
  Tree : List G.refute_Node
  deriving DecidableEq, Inhabited
def inquestlaw24_Case.av (x : inquestlaw24_Case) : AV := .agg [.sl (List.map G.api_Txn.av x.H.Txns), i64 x.Level, .sl (List.map G.api_Choice.av x.L), .sl (List.map G.refute_Node.av x.Tree)]
@[simp] theorem inquestlaw24_Case.noid (x : inquestlaw24_Case) : NoId (inquestlaw24_Case.av x) := by simp [inquestlaw24_Case.av]
@[simp] theorem inquestlaw24_Case.solid (x : inquestlaw24_Case) : AV.solid (inquestlaw24_Case.av x) = true := rfl
@[simp] theorem inquestlaw24_Case.flat (x : inquestlaw24_Case) : (inquestlaw24_Case.av x).flat.length = 4 := rfl
structure inquestref12_G where
  N : Int
  Rows : List (BitVec 64)
  deriving DecidableEq, Inhabited
def inquestref12_G.av (x : inquestref12_G) : AV := .agg [i64 x.N, .sl (List.map u64 x.Rows)]
@[simp] theorem inquestref12_G.noid (x : inquestref12_G) : NoId (inquestref12_G.av x) := by simp [inquestref12_G.av]
@[simp] theorem inquestref12_G.solid (x : inquestref12_G) : AV.solid (inquestref12_G.av x) = true := rfl
@[simp] theorem inquestref12_G.flat (x : inquestref12_G) : (inquestref12_G.av x).flat.length = 2 := rfl
structure inquestref22_F where
  C : G.api_Choice
  Kind : Int
  I : Int
  J : Int
  Cycle : List Int
  deriving DecidableEq, Inhabited
def inquestref22_F.av (x : inquestref22_F) : AV := .agg [i64 x.C.Key, i64 x.C.A, i64 x.C.B, i64 x.Kind, i64 x.I, i64 x.J, .sl (List.map i64 x.Cycle)]
@[simp] theorem inquestref22_F.noid (x : inquestref22_F) : NoId (inquestref22_F.av x) := by simp [inquestref22_F.av]
@[simp] theorem inquestref22_F.solid (x : inquestref22_F) : AV.solid (inquestref22_F.av x) = true := rfl
@[simp] theorem inquestref22_F.flat (x : inquestref22_F) : (inquestref22_F.av x).flat.length = 7 := rfl
structure inquestref24_N where
  C : G.api_Choice
  Cycle : List Int
  deriving DecidableEq, Inhabited
def inquestref24_N.av (x : inquestref24_N) : AV := .agg [i64 x.C.Key, i64 x.C.A, i64 x.C.B, .sl (List.map i64 x.Cycle)]
@[simp] theorem inquestref24_N.noid (x : inquestref24_N) : NoId (inquestref24_N.av x) := by simp [inquestref24_N.av]
@[simp] theorem inquestref24_N.solid (x : inquestref24_N) : AV.solid (inquestref24_N.av x) = true := rfl
@[simp] theorem inquestref24_N.flat (x : inquestref24_N) : (inquestref24_N.av x).flat.length = 4 := rfl
structure refute_reader where
  left : List G.refute_Node
  deriving DecidableEq, Inhabited
def refute_reader.av (x : refute_reader) : AV := .agg [.sl (List.map G.refute_Node.av x.left)]
@[simp] theorem refute_reader.noid (x : refute_reader) : NoId (refute_reader.av x) := by simp [refute_reader.av]
@[simp] theorem refute_reader.solid (x : refute_reader) : AV.solid (refute_reader.av x) = true := rfl
@[simp] theorem refute_reader.flat (x : refute_reader) : (refute_reader.av x).flat.length = 1 := rfl
end G
end

section
/- What the functions of a package compute, as plain functions. -/
open Go Go.Av
set_option linter.unusedVariables false
namespace G
def slices_Index_int_int_j1 : Option (Int) :=
  some (-1)

def slices_Index_int_int_b1 (s_0 : List Int) (v_1 : Int) (v22 : Int) : Option ((Int) ⊕ (Int)) :=
  if decide (v22 < (Sh.len s_0)) then
    (Sh.idx s_0 v22).bind fun x28 =>
    if decide (v_1 = x28) then
      Sh.exit (some v22)
    else
      Sh.next (w64 (v22 + 1))
  else
    Sh.exit (G.slices_Index_int_int_j1)

def slices_Index_int_int (s_0 : List Int) (v_1 : Int) : Option (Int) :=
  Sh.loop (fun (p : Int) => G.slices_Index_int_int_b1 s_0 v_1 p) 0

def slices_Contains_int_int (s_0 : List Int) (v_1 : Int) : Option (Bool) :=
  (G.slices_Index_int_int s_0 v_1).bind fun r3 =>
  some (decide ((0 : Int) ≤ r3))

def slices_Index_edge_over_api_Choice_j1 : Option (Int) :=
  some (-1)

def slices_Index_edge_over_api_Choice_b1 (s_0 : List G.api_Choice) (v_1 : G.api_Choice) (v22 : Int) : Option ((Int) ⊕ (Int)) :=
  if decide (v22 < (Sh.len s_0)) then
    (Sh.idx s_0 v22).bind fun x28 =>
    if decide (v_1 = x28) then
      Sh.exit (some v22)
    else
      Sh.next (w64 (v22 + 1))
  else
    Sh.exit (G.slices_Index_edge_over_api_Choice_j1)

def slices_Index_edge_over_api_Choice (s_0 : List G.api_Choice) (v_1 : G.api_Choice) : Option (Int) :=
  Sh.loop (fun (p : Int) => G.slices_Index_edge_over_api_Choice_b1 s_0 v_1 p) 0

def slices_Contains_edge_over_api_Choice (s_0 : List G.api_Choice) (v_1 : G.api_Choice) : Option (Bool) :=
  (G.slices_Index_edge_over_api_Choice s_0 v_1).bind fun r3 =>
  some (decide ((0 : Int) ≤ r3))

def slices_Clip_api_Choice_api_Choice (s_0 : List G.api_Choice) : Option ((List G.api_Choice)) :=
  (Sh.sub s_0 0 (Sh.len s_0)).bind fun part3 =>
  some part3

end G
end

section
/- What the functions of a package compute, as plain functions. -/
open Go Go.Av
set_option linter.unusedVariables false
namespace G
def hist_faults (h_0 : G.api_Hist) : Option (Unit) :=
  some ()

def hist_Right__r (c_0 : Bool) (y_1 : Bool) : Option (Bool × Bool) :=
  if !y_1 then
    some (false, false)
  else
    some (c_0, true)

def hist_faults_1__hist_Right__r_j1 (v523 : Int) (c625 : Bool) : Option ((Bool × Int) ⊕ (Bool × Bool)) :=
  Sh.next (c625, w64 (v523 + 1))

def hist_faults_1__hist_Right__r_j3 (v523 : Int) (x628 : G.api_Txn) (v724 : Bool) : Option ((Bool × Int) ⊕ (Bool × Bool)) :=
  if decide ((0 : Int) ≤ x628.Session) then
    (G.hist_Right__r v724 (decide (x628.Session < 8))).bind fun y731 =>
    if y731.2 then
      G.hist_faults_1__hist_Right__r_j1 v523 y731.1
    else
      Sh.exit (some (y731.1, false))
  else
    (G.hist_Right__r v724 false).bind fun y733 =>
    if y733.2 then
      G.hist_faults_1__hist_Right__r_j1 v523 y733.1
    else
      Sh.exit (some (y733.1, false))

def hist_faults_1__hist_Right__r_j5 (v778 : Int) (x801 : G.api_Take) (c819 : Bool) : Option ((Bool × Int × Int) ⊕ ((Bool × Int) ⊕ (Bool × Bool))) :=
  Sh.next (c819, x801.Key, w64 (v778 + 1))

def hist_faults_1__hist_Right__r_j4 (c776 : Bool) (last777 : Int) (v778 : Int) (x801 : G.api_Take) (there810 : Bool) : Option ((Bool × Int × Int) ⊕ ((Bool × Int) ⊕ (Bool × Bool))) :=
  if decide (last777 < x801.Key) then
    if decide (x801.Key < 16) then
      (G.hist_Right__r c776 there810).bind fun y830 =>
      if y830.2 then
        G.hist_faults_1__hist_Right__r_j5 v778 x801 y830.1
      else
        Sh.exit (Sh.exit (some (y830.1, false)))
    else
      (G.hist_Right__r c776 false).bind fun y832 =>
      if y832.2 then
        G.hist_faults_1__hist_Right__r_j5 v778 x801 y832.1
      else
        Sh.exit (Sh.exit (some (y832.1, false)))
  else
    (G.hist_Right__r c776 false).bind fun y834 =>
    if y834.2 then
      G.hist_faults_1__hist_Right__r_j5 v778 x801 y834.1
    else
      Sh.exit (Sh.exit (some (y834.1, false)))

def hist_faults_1__hist_Right__r_b2 (c_1 : G.api_Hist) (v523 : Int) (x628 : G.api_Txn) (c776 : Bool) (last777 : Int) (v778 : Int) : Option ((Bool × Int × Int) ⊕ ((Bool × Int) ⊕ (Bool × Bool))) :=
  if decide (v778 < (Sh.len x628.Reads)) then
    (Sh.idx x628.Reads v778).bind fun x801 =>
    if decide (x801.From = (-1)) then
      G.hist_faults_1__hist_Right__r_j4 c776 last777 v778 x801 true
    else
      if decide ((0 : Int) ≤ x801.From) then
        if decide (x801.From < (Sh.len c_1.Txns)) then
          if decide (x801.From ≠ v523) then
            (Sh.idx c_1.Txns x801.From).bind fun x840 =>
            (G.slices_Contains_int_int x840.Writes x801.Key).bind fun r842 =>
            G.hist_faults_1__hist_Right__r_j4 c776 last777 v778 x801 r842
          else
            G.hist_faults_1__hist_Right__r_j4 c776 last777 v778 x801 false
        else
          G.hist_faults_1__hist_Right__r_j4 c776 last777 v778 x801 false
      else
        G.hist_faults_1__hist_Right__r_j4 c776 last777 v778 x801 false
  else
    Sh.exit (G.hist_faults_1__hist_Right__r_j3 v523 x628 c776)

def hist_faults_1__hist_Right__r_j2 (c_1 : G.api_Hist) (v523 : Int) (x628 : G.api_Txn) (v660 : Bool) : Option ((Bool × Int) ⊕ (Bool × Bool)) :=
  Sh.loop (fun (p : Bool × Int × Int) => G.hist_faults_1__hist_Right__r_b2 c_1 v523 x628 p.1 p.2.1 p.2.2) (v660, (-1), 0)

def hist_faults_1__hist_Right__r_j6 (v864 : Int) (x876 : Int) (c883 : Bool) : Option ((Bool × Int × Int) ⊕ ((Bool × Int) ⊕ (Bool × Bool))) :=
  Sh.next (c883, x876, w64 (v864 + 1))

def hist_faults_1__hist_Right__r_b3 (c_1 : G.api_Hist) (v523 : Int) (x628 : G.api_Txn) (c862 : Bool) (last863 : Int) (v864 : Int) : Option ((Bool × Int × Int) ⊕ ((Bool × Int) ⊕ (Bool × Bool))) :=
  if decide (v864 < (Sh.len x628.Writes)) then
    (Sh.idx x628.Writes v864).bind fun x876 =>
    if decide (last863 < x876) then
      (G.hist_Right__r c862 (decide (x876 < 16))).bind fun y890 =>
      if y890.2 then
        G.hist_faults_1__hist_Right__r_j6 v864 x876 y890.1
      else
        Sh.exit (Sh.exit (some (y890.1, false)))
    else
      (G.hist_Right__r c862 false).bind fun y892 =>
      if y892.2 then
        G.hist_faults_1__hist_Right__r_j6 v864 x876 y892.1
      else
        Sh.exit (Sh.exit (some (y892.1, false)))
  else
    Sh.exit (G.hist_faults_1__hist_Right__r_j2 c_1 v523 x628 c862)

def hist_faults_1__hist_Right__r_b1 (c_1 : G.api_Hist) (c522 : Bool) (v523 : Int) : Option ((Bool × Int) ⊕ (Bool × Bool)) :=
  if decide (v523 < (Sh.len c_1.Txns)) then
    (Sh.idx c_1.Txns v523).bind fun x628 =>
    Sh.loop (fun (p : Bool × Int × Int) => G.hist_faults_1__hist_Right__r_b3 c_1 v523 x628 p.1 p.2.1 p.2.2) (c522, (-1), 0)
  else
    Sh.exit (some (c522, true))

def hist_faults_1__hist_Right__r (c_0 : Bool) (c_1 : G.api_Hist) : Option (Bool × Bool) :=
  (G.hist_Right__r c_0 (decide ((Sh.len c_1.Txns) ≤ 32))).bind fun y316 =>
  if y316.2 then
    Sh.loop (fun (p : Bool × Int) => G.hist_faults_1__hist_Right__r_b1 c_1 p.1 p.2) (y316.1, 0)
  else
    some (y316.1, false)

def hist_Right (h_0 : G.api_Hist) : Option (Bool) :=
  (G.hist_faults h_0).bind fun r8 =>
  (G.hist_faults_1__hist_Right__r false h_0).bind fun it9 =>
  if it9.2 then
    some true
  else
    some it9.1
end G
end

section
/- What the functions of a package compute, as plain functions. -/
open Go Go.Av
set_option linter.unusedVariables false
namespace G
def inquestref08_Few_j1 : Option (Bool) :=
  some true

def inquestref08_Few_j2 (i55 : Int) (v68 : Bool) : Option ((Int) ⊕ (Bool)) :=
  if v68 then
    Sh.exit (some false)
  else
    Sh.next (w64 (i55 + 1))

def inquestref08_Few_b1 (h_0 : G.api_Hist) (i55 : Int) : Option ((Int) ⊕ (Bool)) :=
  if decide (i55 < (Sh.len h_0.Txns)) then
    (Sh.idx h_0.Txns i55).bind fun x70 =>
    if decide ((20 : Int) < (Sh.len x70.Writes)) then
      G.inquestref08_Few_j2 i55 true
    else
      (Sh.idx h_0.Txns i55).bind fun x73 =>
      G.inquestref08_Few_j2 i55 (decide ((20 : Int) < (Sh.len x73.Reads)))
  else
    Sh.exit (G.inquestref08_Few_j1)

def inquestref08_Few (h_0 : G.api_Hist) (many_1 : Int) : Option (Bool) :=
  if decide (many_1 < (Sh.len h_0.Txns)) then
    some false
  else
    Sh.loop (fun (p : Int) => G.inquestref08_Few_b1 h_0 p) 0

def inquestref08_Writes_j1 : Option (Bool) :=
  some false

def inquestref08_Writes_b1 (t_0 : G.api_Txn) (key_1 : Int) (i22 : Int) : Option ((Int) ⊕ (Bool)) :=
  if decide (i22 < (Sh.len t_0.Writes)) then
    (Sh.idx t_0.Writes i22).bind fun x28 =>
    if decide (x28 = key_1) then
      Sh.exit (some true)
    else
      Sh.next (w64 (i22 + 1))
  else
    Sh.exit (G.inquestref08_Writes_j1)

def inquestref08_Writes (t_0 : G.api_Txn) (key_1 : Int) : Option (Bool) :=
  Sh.loop (fun (p : Int) => G.inquestref08_Writes_b1 t_0 key_1 p) 0

def inquestref08_one_j3 : Option (Bool) :=
  some true

def inquestref08_one_j4 (i195 : Int) : Option ((Int) ⊕ (Bool)) :=
  Sh.next (w64 (i195 + 1))

def inquestref08_one_j5 (h_0 : G.api_Hist) (i195 : Int) (x215 : G.api_Take) (v238 : Bool) : Option ((Int) ⊕ (Bool)) :=
  if v238 then
    Sh.exit (some false)
  else
    if decide (x215.From < 0) then
      G.inquestref08_one_j4 i195
    else
      (Sh.idx h_0.Txns x215.From).bind fun x244 =>
      (G.inquestref08_Writes x244 x215.Key).bind fun r246 =>
      if !r246 then
        Sh.exit (some false)
      else
        G.inquestref08_one_j4 i195

def inquestref08_one_b1 (h_0 : G.api_Hist) (n_1 : Int) (x84 : G.api_Txn) (i195 : Int) : Option ((Int) ⊕ (Bool)) :=
  if decide (i195 < (Sh.len x84.Reads)) then
    (Sh.idx x84.Reads i195).bind fun x215 =>
    if decide (x215.Key < 0) then
      G.inquestref08_one_j5 h_0 i195 x215 true
    else
      if decide ((15 : Int) < x215.Key) then
        G.inquestref08_one_j5 h_0 i195 x215 true
      else
        if decide ((0 : Int) < i195) then
          (Sh.idx x84.Reads (w64 (i195 - 1))).bind fun x251 =>
          if decide (x215.Key ≤ x251.Key) then
            G.inquestref08_one_j5 h_0 i195 x215 true
          else
            if decide (x215.From < (-1)) then
              G.inquestref08_one_j5 h_0 i195 x215 true
            else
              if decide ((Sh.len h_0.Txns) ≤ x215.From) then
                G.inquestref08_one_j5 h_0 i195 x215 true
              else
                G.inquestref08_one_j5 h_0 i195 x215 (decide (x215.From = n_1))
        else
          if decide (x215.From < (-1)) then
            G.inquestref08_one_j5 h_0 i195 x215 true
          else
            if decide ((Sh.len h_0.Txns) ≤ x215.From) then
              G.inquestref08_one_j5 h_0 i195 x215 true
            else
              G.inquestref08_one_j5 h_0 i195 x215 (decide (x215.From = n_1))
  else
    Sh.exit (G.inquestref08_one_j3)

def inquestref08_one_j2 (h_0 : G.api_Hist) (n_1 : Int) (x84 : G.api_Txn) : Option (Bool) :=
  Sh.loop (fun (p : Int) => G.inquestref08_one_b1 h_0 n_1 x84 p) 0

def inquestref08_one_j6 (i278 : Int) (v303 : Bool) : Option ((Int) ⊕ (Bool)) :=
  if v303 then
    Sh.exit (some false)
  else
    Sh.next (w64 (i278 + 1))

def inquestref08_one_b2 (h_0 : G.api_Hist) (n_1 : Int) (x84 : G.api_Txn) (i278 : Int) : Option ((Int) ⊕ (Bool)) :=
  if decide (i278 < (Sh.len x84.Writes)) then
    (Sh.idx x84.Writes i278).bind fun x305 =>
    if decide (x305 < 0) then
      G.inquestref08_one_j6 i278 true
    else
      (Sh.idx x84.Writes i278).bind fun x308 =>
      if decide ((15 : Int) < x308) then
        G.inquestref08_one_j6 i278 true
      else
        if decide ((0 : Int) < i278) then
          (Sh.idx x84.Writes (w64 (i278 - 1))).bind fun x312 =>
          (Sh.idx x84.Writes i278).bind fun x314 =>
          G.inquestref08_one_j6 i278 (decide (x314 ≤ x312))
        else
          G.inquestref08_one_j6 i278 false
  else
    Sh.exit (G.inquestref08_one_j2 h_0 n_1 x84)

def inquestref08_one_j1 (h_0 : G.api_Hist) (n_1 : Int) (x84 : G.api_Txn) (v89 : Bool) : Option (Bool) :=
  if v89 then
    some false
  else
    Sh.loop (fun (p : Int) => G.inquestref08_one_b2 h_0 n_1 x84 p) 0

def inquestref08_one (h_0 : G.api_Hist) (n_1 : Int) : Option (Bool) :=
  (Sh.idx h_0.Txns n_1).bind fun x84 =>
  if decide (x84.Session < 0) then
    G.inquestref08_one_j1 h_0 n_1 x84 true
  else
    G.inquestref08_one_j1 h_0 n_1 x84 (decide ((7 : Int) < x84.Session))

def inquestref08_Right_j1 : Option (Bool) :=
  some true

def inquestref08_Right_b1 (h_0 : G.api_Hist) (n15 : Int) : Option ((Int) ⊕ (Bool)) :=
  if decide (n15 < (Sh.len h_0.Txns)) then
    (G.inquestref08_one h_0 n15).bind fun r19 =>
    if !r19 then
      Sh.exit (some false)
    else
      Sh.next (w64 (n15 + 1))
  else
    Sh.exit (G.inquestref08_Right_j1)

def inquestref08_Right (h_0 : G.api_Hist) : Option (Bool) :=
  if decide ((32 : Int) < (Sh.len h_0.Txns)) then
    some false
  else
    Sh.loop (fun (p : Int) => G.inquestref08_Right_b1 h_0 p) 0
end G
end

section
/- What the functions of a package compute, as plain functions. -/
open Go Go.Av
set_option linter.unusedVariables false
namespace G
def edge_session_is (a_0 : G.edge_session) (h_1 : G.api_Hist) (x_2 : Int) (y_3 : Int) : Option (Bool) :=
  if decide (x_2 < y_3) then
    (Sh.idx h_1.Txns x_2).bind fun x13 =>
    (Sh.idx h_1.Txns y_3).bind fun x15 =>
    some (decide (x13.Session = x15.Session))
  else
    some false

def edge_some_1__edge_session (k_0 : G.edge_session) (a_1 : G.api_Hist) (a_2 : Int) (a_3 : Int) : Option (Bool) :=
  (G.edge_session_is k_0 a_1 a_2 a_3).bind fun r3 =>
  some r3

def edge_read_is_1__1 (r_0 : G.api_Take) (a_1 : Int) : Option (Bool) :=
  some (decide (r_0.From = a_1))

def slices_IndexFunc_api_Take_api_Take__edge_read_is_1_j1 : Option (Int) :=
  some (-1)

def slices_IndexFunc_api_Take_api_Take__edge_read_is_1_b1 (s_0 : List G.api_Take) (f_1 : Int) (v30 : Int) : Option ((Int) ⊕ (Int)) :=
  if decide (v30 < (Sh.len s_0)) then
    (Sh.idx s_0 v30).bind fun x38 =>
    (G.edge_read_is_1__1 x38 f_1).bind fun r40 =>
    if r40 then
      Sh.exit (some v30)
    else
      Sh.next (w64 (v30 + 1))
  else
    Sh.exit (G.slices_IndexFunc_api_Take_api_Take__edge_read_is_1_j1)

def slices_IndexFunc_api_Take_api_Take__edge_read_is_1 (s_0 : List G.api_Take) (f_1 : Int) : Option (Int) :=
  Sh.loop (fun (p : Int) => G.slices_IndexFunc_api_Take_api_Take__edge_read_is_1_b1 s_0 f_1 p) 0

def slices_ContainsFunc_api_Take_api_Take__edge_read_is_1 (s_0 : List G.api_Take) (f_1 : Int) : Option (Bool) :=
  (G.slices_IndexFunc_api_Take_api_Take__edge_read_is_1 s_0 f_1).bind fun r3 =>
  some (decide ((0 : Int) ≤ r3))

def edge_read_is (a_0 : G.edge_read) (h_1 : G.api_Hist) (x_2 : Int) (y_3 : Int) : Option (Bool) :=
  (Sh.idx h_1.Txns y_3).bind fun x7 =>
  (G.slices_ContainsFunc_api_Take_api_Take__edge_read_is_1 x7.Reads x_2).bind fun r9 =>
  some r9

def edge_some_1__edge_read (k_0 : G.edge_read) (a_1 : G.api_Hist) (a_2 : Int) (a_3 : Int) : Option (Bool) :=
  (G.edge_read_is k_0 a_1 a_2 a_3).bind fun r3 =>
  some r3

def edge_writes (h_0 : G.api_Hist) (t_1 : Int) (key_2 : Int) : Option (Bool) :=
  (Sh.idx h_0.Txns t_1).bind fun x7 =>
  (G.slices_Contains_int_int x7.Writes key_2).bind fun r9 =>
  some r9

def edge_written_is_1__1 (c_0 : G.api_Choice) (a_1 : Int) (a_2 : Int) (a_3 : G.api_Hist) : Option (Bool) :=
  if decide (c_0.A = a_1) then
    if decide (c_0.B = a_2) then
      if decide (a_1 ≠ a_2) then
        (G.edge_writes a_3 a_1 c_0.Key).bind fun r17 =>
        if r17 then
          (G.edge_writes a_3 a_2 c_0.Key).bind fun r19 =>
          some r19
        else
          some false
      else
        some false
    else
      some false
  else
    some false

def slices_IndexFunc_edge_written_api_Choice__edge_written_is_1_j1 : Option (Int) :=
  some (-1)

def slices_IndexFunc_edge_written_api_Choice__edge_written_is_1_b1 (s_0 : List G.api_Choice) (f_1 : Int) (f_2 : Int) (f_3 : G.api_Hist) (v30 : Int) : Option ((Int) ⊕ (Int)) :=
  if decide (v30 < (Sh.len s_0)) then
    (Sh.idx s_0 v30).bind fun x38 =>
    (G.edge_written_is_1__1 x38 f_1 f_2 f_3).bind fun r40 =>
    if r40 then
      Sh.exit (some v30)
    else
      Sh.next (w64 (v30 + 1))
  else
    Sh.exit (G.slices_IndexFunc_edge_written_api_Choice__edge_written_is_1_j1)

def slices_IndexFunc_edge_written_api_Choice__edge_written_is_1 (s_0 : List G.api_Choice) (f_1 : Int) (f_2 : Int) (f_3 : G.api_Hist) : Option (Int) :=
  Sh.loop (fun (p : Int) => G.slices_IndexFunc_edge_written_api_Choice__edge_written_is_1_b1 s_0 f_1 f_2 f_3 p) 0

def slices_ContainsFunc_edge_written_api_Choice__edge_written_is_1 (s_0 : List G.api_Choice) (f_1 : Int) (f_2 : Int) (f_3 : G.api_Hist) : Option (Bool) :=
  (G.slices_IndexFunc_edge_written_api_Choice__edge_written_is_1 s_0 f_1 f_2 f_3).bind fun r3 =>
  some (decide ((0 : Int) ≤ r3))

def edge_written_is (l_0 : List G.api_Choice) (h_1 : G.api_Hist) (x_2 : Int) (y_3 : Int) : Option (Bool) :=
  (G.slices_ContainsFunc_edge_written_api_Choice__edge_written_is_1 l_0 x_2 y_3 h_1).bind fun r3 =>
  some r3

def edge_some_1__edge_written (k_0 : List G.api_Choice) (a_1 : G.api_Hist) (a_2 : Int) (a_3 : Int) : Option (Bool) :=
  (G.edge_written_is k_0 a_1 a_2 a_3).bind fun r3 =>
  some r3

def slices_IndexFunc_edge_kind_edge_kind__lit3_edge_some_1_j1 : Option (Int) :=
  some (-1)

def slices_IndexFunc_edge_kind_edge_kind__lit3_edge_some_1 (s_0 : G.edge_session) (s_1 : G.edge_read) (s_2 : List G.api_Choice) (f_3 : G.api_Hist) (f_4 : Int) (f_5 : Int) : Option (Int) :=
  (G.edge_some_1__edge_session s_0 f_3 f_4 f_5).bind fun r12 =>
  if r12 then
    some 0
  else
    (G.edge_some_1__edge_read s_1 f_3 f_4 f_5).bind fun r16 =>
    if r16 then
      some 1
    else
      (G.edge_some_1__edge_written s_2 f_3 f_4 f_5).bind fun r20 =>
      if r20 then
        some 2
      else
        G.slices_IndexFunc_edge_kind_edge_kind__lit3_edge_some_1_j1

def slices_ContainsFunc_edge_kind_edge_kind__lit3_edge_some_1 (s_0 : G.edge_session) (s_1 : G.edge_read) (s_2 : List G.api_Choice) (f_3 : G.api_Hist) (f_4 : Int) (f_5 : Int) : Option (Bool) :=
  (G.slices_IndexFunc_edge_kind_edge_kind__lit3_edge_some_1 s_0 s_1 s_2 f_3 f_4 f_5).bind fun r3 =>
  some (decide ((0 : Int) ≤ r3))

def edge_some__lit3_j1 (h_0 : G.api_Hist) (x_1 : Int) (y_2 : Int) (kinds_3 : G.edge_session) (kinds_4 : G.edge_read) (kinds_5 : List G.api_Choice) (v13 : Bool) : Option (Bool) :=
  if v13 then
    some false
  else
    (G.slices_ContainsFunc_edge_kind_edge_kind__lit3_edge_some_1 kinds_3 kinds_4 kinds_5 h_0 x_1 y_2).bind fun r16 =>
    some r16

def edge_some__lit3 (h_0 : G.api_Hist) (x_1 : Int) (y_2 : Int) (kinds_3 : G.edge_session) (kinds_4 : G.edge_read) (kinds_5 : List G.api_Choice) : Option (Bool) :=
  (G.hist_Right h_0).bind fun r17 =>
  if !r17 then
    G.edge_some__lit3_j1 h_0 x_1 y_2 kinds_3 kinds_4 kinds_5 true
  else
    if decide ((Sh.min x_1 y_2) < 0) then
      G.edge_some__lit3_j1 h_0 x_1 y_2 kinds_3 kinds_4 kinds_5 true
    else
      G.edge_some__lit3_j1 h_0 x_1 y_2 kinds_3 kinds_4 kinds_5 (decide ((Sh.len h_0.Txns) ≤ (Sh.max x_1 y_2)))

def edge_Direct (h_0 : G.api_Hist) (l_1 : List G.api_Choice) (x_2 : Int) (y_3 : Int) : Option (Bool) :=
  (G.edge_some__lit3 h_0 x_2 y_3 G.edge_session.mk G.edge_read.mk l_1).bind fun r3 =>
  some r3

def edge_over_is_1__1 (r_0 : G.api_Take) (a_1 : G.api_Hist) (a_2 : Int) (a_3 : List G.api_Choice) : Option (Bool) :=
  (G.edge_writes a_1 a_2 r_0.Key).bind fun r12 =>
  if r12 then
    if decide (r_0.From < 0) then
      some true
    else
      if decide (r_0.From ≠ a_2) then
        (G.slices_Contains_edge_over_api_Choice a_3 (G.api_Choice.mk r_0.Key r_0.From a_2)).bind fun r16 =>
        some r16
      else
        some false
  else
    some false

def slices_IndexFunc_api_Take_api_Take__edge_over_is_1_j1 : Option (Int) :=
  some (-1)

def slices_IndexFunc_api_Take_api_Take__edge_over_is_1_b1 (s_0 : List G.api_Take) (f_1 : G.api_Hist) (f_2 : Int) (f_3 : List G.api_Choice) (v30 : Int) : Option ((Int) ⊕ (Int)) :=
  if decide (v30 < (Sh.len s_0)) then
    (Sh.idx s_0 v30).bind fun x38 =>
    (G.edge_over_is_1__1 x38 f_1 f_2 f_3).bind fun r40 =>
    if r40 then
      Sh.exit (some v30)
    else
      Sh.next (w64 (v30 + 1))
  else
    Sh.exit (G.slices_IndexFunc_api_Take_api_Take__edge_over_is_1_j1)

def slices_IndexFunc_api_Take_api_Take__edge_over_is_1 (s_0 : List G.api_Take) (f_1 : G.api_Hist) (f_2 : Int) (f_3 : List G.api_Choice) : Option (Int) :=
  Sh.loop (fun (p : Int) => G.slices_IndexFunc_api_Take_api_Take__edge_over_is_1_b1 s_0 f_1 f_2 f_3 p) 0

def slices_ContainsFunc_api_Take_api_Take__edge_over_is_1 (s_0 : List G.api_Take) (f_1 : G.api_Hist) (f_2 : Int) (f_3 : List G.api_Choice) : Option (Bool) :=
  (G.slices_IndexFunc_api_Take_api_Take__edge_over_is_1 s_0 f_1 f_2 f_3).bind fun r3 =>
  some (decide ((0 : Int) ≤ r3))

def edge_over_is (l_0 : List G.api_Choice) (h_1 : G.api_Hist) (x_2 : Int) (y_3 : Int) : Option (Bool) :=
  if decide (x_2 ≠ y_3) then
    (Sh.idx h_1.Txns x_2).bind fun x11 =>
    (G.slices_ContainsFunc_api_Take_api_Take__edge_over_is_1 x11.Reads h_1 y_3 l_0).bind fun r13 =>
    some r13
  else
    some false

def edge_some_1__edge_over (k_0 : List G.api_Choice) (a_1 : G.api_Hist) (a_2 : Int) (a_3 : Int) : Option (Bool) :=
  (G.edge_over_is k_0 a_1 a_2 a_3).bind fun r3 =>
  some r3

def slices_IndexFunc_edge_kind_edge_kind__lit1_edge_some_1_j1 : Option (Int) :=
  some (-1)

def slices_IndexFunc_edge_kind_edge_kind__lit1_edge_some_1 (s_0 : List G.api_Choice) (f_1 : G.api_Hist) (f_2 : Int) (f_3 : Int) : Option (Int) :=
  (G.edge_some_1__edge_over s_0 f_1 f_2 f_3).bind fun r6 =>
  if r6 then
    some 0
  else
    G.slices_IndexFunc_edge_kind_edge_kind__lit1_edge_some_1_j1

def slices_ContainsFunc_edge_kind_edge_kind__lit1_edge_some_1 (s_0 : List G.api_Choice) (f_1 : G.api_Hist) (f_2 : Int) (f_3 : Int) : Option (Bool) :=
  (G.slices_IndexFunc_edge_kind_edge_kind__lit1_edge_some_1 s_0 f_1 f_2 f_3).bind fun r3 =>
  some (decide ((0 : Int) ≤ r3))

def edge_some__lit1_j1 (h_0 : G.api_Hist) (x_1 : Int) (y_2 : Int) (kinds_3 : List G.api_Choice) (v13 : Bool) : Option (Bool) :=
  if v13 then
    some false
  else
    (G.slices_ContainsFunc_edge_kind_edge_kind__lit1_edge_some_1 kinds_3 h_0 x_1 y_2).bind fun r16 =>
    some r16

def edge_some__lit1 (h_0 : G.api_Hist) (x_1 : Int) (y_2 : Int) (kinds_3 : List G.api_Choice) : Option (Bool) :=
  (G.hist_Right h_0).bind fun r17 =>
  if !r17 then
    G.edge_some__lit1_j1 h_0 x_1 y_2 kinds_3 true
  else
    if decide ((Sh.min x_1 y_2) < 0) then
      G.edge_some__lit1_j1 h_0 x_1 y_2 kinds_3 true
    else
      G.edge_some__lit1_j1 h_0 x_1 y_2 kinds_3 (decide ((Sh.len h_0.Txns) ≤ (Sh.max x_1 y_2)))

def edge_Anti (h_0 : G.api_Hist) (l_1 : List G.api_Choice) (x_2 : Int) (y_3 : Int) : Option (Bool) :=
  (G.edge_some__lit1 h_0 x_2 y_3 l_1).bind fun r3 =>
  some r3

def edge_Is_j1 : Option (Bool) :=
  some false

def edge_Is_j2 (v62 : Int) (v73 : Bool) : Option ((Int) ⊕ (Bool)) :=
  if v73 then
    Sh.exit (some true)
  else
    Sh.next (w64 (v62 + 1))

def edge_Is_b1 (h_0 : G.api_Hist) (l_2 : List G.api_Choice) (x_3 : Int) (y_4 : Int) (v62 : Int) : Option ((Int) ⊕ (Bool)) :=
  if decide (v62 < (Sh.len h_0.Txns)) then
    (G.edge_Direct h_0 l_2 x_3 v62).bind fun r75 =>
    if r75 then
      if decide (v62 = y_4) then
        G.edge_Is_j2 v62 true
      else
        (G.edge_Anti h_0 l_2 v62 y_4).bind fun r78 =>
        G.edge_Is_j2 v62 r78
    else
      G.edge_Is_j2 v62 false
  else
    Sh.exit (G.edge_Is_j1)

def edge_Is (h_0 : G.api_Hist) (level_1 : Int) (l_2 : List G.api_Choice) (x_3 : Int) (y_4 : Int) : Option (Bool) :=
  if decide (level_1 = 0) then
    (G.edge_Direct h_0 l_2 x_3 y_4).bind fun r47 =>
    if r47 then
      some true
    else
      (G.edge_Anti h_0 l_2 x_3 y_4).bind fun r49 =>
      some r49
  else
    if decide (level_1 = 1) then
      Sh.loop (fun (p : Int) => G.edge_Is_b1 h_0 l_2 x_3 y_4 p) 0
    else
      G.edge_Is_j1

def edge_Cycle_j1 (row_3 : List Int) : Option (Bool) :=
  some (decide ((0 : Int) < (Sh.len row_3)))

def edge_Cycle_j2 (v86 : Int) (v109 : Bool) : Option ((Int) ⊕ (Bool)) :=
  if v109 then
    Sh.exit (some false)
  else
    Sh.next (w64 (v86 + 1))

def edge_Cycle_b1 (h_0 : G.api_Hist) (level_1 : Int) (l_2 : List G.api_Choice) (row_3 : List Int) (v86 : Int) : Option ((Int) ⊕ (Bool)) :=
  if decide (v86 < (Sh.len row_3)) then
    (Sh.idx row_3 v86).bind fun x100 =>
    (Sh.sub row_3 0 v86).bind fun part111 =>
    (G.slices_Contains_int_int part111 x100).bind fun r112 =>
    if r112 then
      G.edge_Cycle_j2 v86 true
    else
      (Sh.rem (w64 (v86 + 1)) (Sh.len row_3)).bind fun q114 =>
      (Sh.idx row_3 q114).bind fun x115 =>
      (G.edge_Is h_0 level_1 l_2 x100 x115).bind fun r117 =>
      G.edge_Cycle_j2 v86 (!r117)
  else
    Sh.exit (G.edge_Cycle_j1 row_3)

def edge_Cycle (h_0 : G.api_Hist) (level_1 : Int) (l_2 : List G.api_Choice) (row_3 : List Int) : Option (Bool) :=
  Sh.loop (fun (p : Int) => G.edge_Cycle_b1 h_0 level_1 l_2 row_3 p) 0
end G
end

section
/- What the functions of a package compute, as plain functions. -/
open Go Go.Av
set_option linter.unusedVariables false
namespace G
def inquestref09_Writers_j1 (out64 : List Int) : Option ((List Int)) :=
  some out64

def inquestref09_Writers_j3 (t86 : Int) (may91 : Bool) (out98 : List Int) : Option (((List Int) × Bool × Int) ⊕ ((List Int))) :=
  Sh.next (out98, may91, w64 (t86 + 1))

def inquestref09_Writers_j2 (h_0 : G.api_Hist) (key_1 : Int) (out84 : List Int) (t86 : Int) (may91 : Bool) (v92 : Bool) : Option (((List Int) × Bool × Int) ⊕ ((List Int))) :=
  if v92 then
    (Sh.idx h_0.Txns t86).bind fun x102 =>
    (G.inquestref08_Writes x102 key_1).bind fun r104 =>
    if r104 then
      (Sh.app 8 out84 [t86]).bind fun out106 =>
      G.inquestref09_Writers_j3 t86 may91 out106
    else
      G.inquestref09_Writers_j3 t86 may91 out84
  else
    Sh.exit (G.inquestref09_Writers_j1 out84)

def inquestref09_Writers_b1 (h_0 : G.api_Hist) (key_1 : Int) (out84 : List Int) (may85 : Bool) (t86 : Int) : Option (((List Int) × Bool × Int) ⊕ ((List Int))) :=
  if may85 then
    G.inquestref09_Writers_j2 h_0 key_1 out84 t86 true (decide (t86 < (Sh.len h_0.Txns)))
  else
    G.inquestref09_Writers_j2 h_0 key_1 out84 t86 false false

def inquestref09_Writers (h_0 : G.api_Hist) (key_1 : Int) : Option ((List Int)) :=
  (G.inquestref08_Right h_0).bind fun r33 =>
  Sh.loop (fun (p : (List Int) × Bool × Int) => G.inquestref09_Writers_b1 h_0 key_1 p.1 p.2.1 p.2.2) ([], r33, 0)

def inquestref09_Pairs_j1 (out381 : List G.api_Choice) : Option ((List G.api_Choice)) :=
  some out381

def inquestref09_Pairs_j2 (key509 : Int) (out573 : List G.api_Choice) : Option (((List G.api_Choice) × Int) ⊕ ((List G.api_Choice))) :=
  Sh.next (out573, w64 (key509 + 1))

def inquestref09_Pairs_j3 (i617 : Int) (out638 : List G.api_Choice) : Option (((List G.api_Choice) × Int) ⊕ (((List G.api_Choice) × Int) ⊕ ((List G.api_Choice)))) :=
  Sh.next (out638, w64 (i617 + 1))

def inquestref09_Pairs_b3 (key509 : Int) (r575 : (List Int)) (i617 : Int) (out651 : List G.api_Choice) (k652 : Int) : Option (((List G.api_Choice) × Int) ⊕ (((List G.api_Choice) × Int) ⊕ (((List G.api_Choice) × Int) ⊕ ((List G.api_Choice))))) :=
  if decide (k652 < (Sh.len r575)) then
    (Sh.idx r575 i617).bind fun x659 =>
    (Sh.idx r575 k652).bind fun x661 =>
    (Sh.app 24 out651 ([(G.api_Choice.mk key509 x659 x661)] : List G.api_Choice)).bind fun out663 =>
    Sh.next (out663, w64 (k652 + 1))
  else
    Sh.exit (G.inquestref09_Pairs_j3 i617 out651)

def inquestref09_Pairs_b2 (key509 : Int) (r575 : (List Int)) (out616 : List G.api_Choice) (i617 : Int) : Option (((List G.api_Choice) × Int) ⊕ (((List G.api_Choice) × Int) ⊕ ((List G.api_Choice)))) :=
  if decide (i617 < (Sh.len r575)) then
    Sh.loop (fun (p : (List G.api_Choice) × Int) => G.inquestref09_Pairs_b3 key509 r575 i617 p.1 p.2) (out616, w64 (i617 + 1))
  else
    Sh.exit (G.inquestref09_Pairs_j2 key509 out616)

def inquestref09_Pairs_b1 (h_0 : G.api_Hist) (out508 : List G.api_Choice) (key509 : Int) : Option (((List G.api_Choice) × Int) ⊕ ((List G.api_Choice))) :=
  if decide (key509 < 16) then
    (G.inquestref09_Writers h_0 key509).bind fun r575 =>
    Sh.loop (fun (p : (List G.api_Choice) × Int) => G.inquestref09_Pairs_b2 key509 r575 p.1 p.2) (out508, 0)
  else
    Sh.exit (G.inquestref09_Pairs_j1 out508)

def inquestref09_Pairs (h_0 : G.api_Hist) : Option ((List G.api_Choice)) :=
  Sh.loop (fun (p : (List G.api_Choice) × Int) => G.inquestref09_Pairs_b1 h_0 p.1 p.2) ([], 0)

def inquestref09_From_j2 : Option (Int × Bool) :=
  some (0, false)

def inquestref09_From_b1 (key_2 : Int) (x32 : G.api_Txn) (i57 : Int) : Option ((Int) ⊕ (Int × Bool)) :=
  if decide (i57 < (Sh.len x32.Reads)) then
    (Sh.idx x32.Reads i57).bind fun x65 =>
    if decide (x65.Key = key_2) then
      (Sh.idx x32.Reads i57).bind fun x70 =>
      Sh.exit (some (x70.From, true))
    else
      Sh.next (w64 (i57 + 1))
  else
    Sh.exit (G.inquestref09_From_j2)

def inquestref09_From_j1 (h_0 : G.api_Hist) (t_1 : Int) (key_2 : Int) (v28 : Bool) : Option (Int × Bool) :=
  if v28 then
    some (0, false)
  else
    (Sh.idx h_0.Txns t_1).bind fun x32 =>
    Sh.loop (fun (p : Int) => G.inquestref09_From_b1 key_2 x32 p) 0

def inquestref09_From (h_0 : G.api_Hist) (t_1 : Int) (key_2 : Int) : Option (Int × Bool) :=
  (G.inquestref08_Right h_0).bind fun r22 =>
  if !r22 then
    G.inquestref09_From_j1 h_0 t_1 key_2 true
  else
    if decide (t_1 < 0) then
      G.inquestref09_From_j1 h_0 t_1 key_2 true
    else
      G.inquestref09_From_j1 h_0 t_1 key_2 (decide ((Sh.len h_0.Txns) ≤ t_1))

def inquestref09_Readers_j1 (out39 : List Int) : Option ((List Int)) :=
  some out39

def inquestref09_Readers_j2 (t53 : Int) (out59 : List Int) : Option (((List Int) × Int) ⊕ ((List Int))) :=
  Sh.next (out59, w64 (t53 + 1))

def inquestref09_Readers_j3 (out52 : List Int) (t53 : Int) (v63 : Bool) : Option (((List Int) × Int) ⊕ ((List Int))) :=
  if v63 then
    (Sh.app 8 out52 [t53]).bind fun out65 =>
    G.inquestref09_Readers_j2 t53 out65
  else
    G.inquestref09_Readers_j2 t53 out52

def inquestref09_Readers_b1 (h_0 : G.api_Hist) (key_1 : Int) (from_2 : Int) (out52 : List Int) (t53 : Int) : Option (((List Int) × Int) ⊕ ((List Int))) :=
  if decide (t53 < (Sh.len h_0.Txns)) then
    (G.inquestref09_From h_0 t53 key_1).bind fun r61 =>
    if r61.2 then
      G.inquestref09_Readers_j3 out52 t53 (decide (r61.1 = from_2))
    else
      G.inquestref09_Readers_j3 out52 t53 false
  else
    Sh.exit (G.inquestref09_Readers_j1 out52)

def inquestref09_Readers (h_0 : G.api_Hist) (key_1 : Int) (from_2 : Int) : Option ((List Int)) :=
  Sh.loop (fun (p : (List Int) × Int) => G.inquestref09_Readers_b1 h_0 key_1 from_2 p.1 p.2) ([], 0)

end G
end

section
/- What the functions of a package compute, as plain functions. -/
open Go Go.Av
set_option linter.unusedVariables false
namespace G
def inquestref10_In (i_0 : Int) : Option (Bool) :=
  if decide ((0 : Int) ≤ i_0) then
    some (decide (i_0 ≤ 63))
  else
    some false

def inquestref10_Power_j1 (n9 : BitVec 64) : Option ((BitVec 64)) :=
  some n9

def inquestref10_Power_b1 (i_0 : Int) (n12 : BitVec 64) (k13 : Int) : Option (((BitVec 64) × Int) ⊕ ((BitVec 64))) :=
  if decide (k13 < i_0) then
    Sh.next (n12 + n12, w64 (k13 + 1))
  else
    Sh.exit (G.inquestref10_Power_j1 n12)

def inquestref10_Power (i_0 : Int) : Option ((BitVec 64)) :=
  Sh.loop (fun (p : (BitVec 64) × Int) => G.inquestref10_Power_b1 i_0 p.1 p.2) (1#64, 0)

def inquestref10_Has (s_0 : BitVec 64) (i_1 : Int) : Option (Bool) :=
  (G.inquestref10_In i_1).bind fun r7 =>
  if !r7 then
    some false
  else
    (G.inquestref10_Power i_1).bind fun r12 =>
    (Sh.udiv s_0 r12).bind fun q13 =>
    (Sh.umod q13 2#64).bind fun q14 =>
    some (decide (q14 = 1#64))

def inquestref10_With_j1 (s_0 : BitVec 64) (i_1 : Int) (v13 : Bool) : Option ((BitVec 64)) :=
  if v13 then
    some s_0
  else
    (G.inquestref10_Power i_1).bind fun r16 =>
    some (s_0 + r16)

def inquestref10_With (s_0 : BitVec 64) (i_1 : Int) : Option ((BitVec 64)) :=
  (G.inquestref10_Has s_0 i_1).bind fun r7 =>
  if r7 then
    G.inquestref10_With_j1 s_0 i_1 true
  else
    (G.inquestref10_In i_1).bind fun r18 =>
    G.inquestref10_With_j1 s_0 i_1 (!r18)
end G
end

section
/- What the functions of a package compute, as plain functions. -/
open Go Go.Av
set_option linter.unusedVariables false
namespace G
def inquestref12_Right_j2 : Option (Bool) :=
  some true

def inquestref12_Right_j3 (i104 : Int) : Option ((Int) ⊕ (Bool)) :=
  Sh.next (w64 (i104 + 1))

def inquestref12_Right_b2 (g_0 : G.inquestref12_G) (i104 : Int) (k124 : Int) : Option ((Int) ⊕ ((Int) ⊕ (Bool))) :=
  if decide (k124 < 64) then
    (Sh.idx g_0.Rows i104).bind fun x132 =>
    (G.inquestref10_Has x132 k124).bind fun r134 =>
    if r134 then
      Sh.exit (Sh.exit (some false))
    else
      Sh.next (w64 (k124 + 1))
  else
    Sh.exit (G.inquestref12_Right_j3 i104)

def inquestref12_Right_b1 (g_0 : G.inquestref12_G) (i104 : Int) : Option ((Int) ⊕ (Bool)) :=
  if decide (i104 < g_0.N) then
    Sh.loop (fun (p : Int) => G.inquestref12_Right_b2 g_0 i104 p) g_0.N
  else
    Sh.exit (G.inquestref12_Right_j2)

def inquestref12_Right_j1 (g_0 : G.inquestref12_G) (v44 : Bool) : Option (Bool) :=
  if v44 then
    some false
  else
    Sh.loop (fun (p : Int) => G.inquestref12_Right_b1 g_0 p) 0

def inquestref12_Right (g_0 : G.inquestref12_G) : Option (Bool) :=
  if decide (g_0.N < 0) then
    G.inquestref12_Right_j1 g_0 true
  else
    if decide ((64 : Int) < g_0.N) then
      G.inquestref12_Right_j1 g_0 true
    else
      G.inquestref12_Right_j1 g_0 (decide ((Sh.len g_0.Rows) ≠ g_0.N))

def inquestref12_Has (g_0 : G.inquestref12_G) (a_1 : Int) (b_2 : Int) : Option (Bool) :=
  (Sh.idx g_0.Rows a_1).bind fun x7 =>
  (G.inquestref10_Has x7 b_2).bind fun r9 =>
  some r9

def inquestref12_New_j1 (n_0 : Int) (v15 : List (BitVec 64)) : Option (G.inquestref12_G) :=
  some (G.inquestref12_G.mk n_0 v15)

def inquestref12_New_b1 (n_0 : Int) (gRows20 : List (BitVec 64)) (i21 : Int) : Option (((List (BitVec 64)) × Int) ⊕ (G.inquestref12_G)) :=
  if decide (i21 < n_0) then
    (Sh.app 8 gRows20 [0#64]).bind fun l24 =>
    Sh.next (l24, w64 (i21 + 1))
  else
    Sh.exit (G.inquestref12_New_j1 n_0 gRows20)

def inquestref12_New (n_0 : Int) : Option (G.inquestref12_G) :=
  Sh.loop (fun (p : (List (BitVec 64)) × Int) => G.inquestref12_New_b1 n_0 p.1 p.2) ([], 0)

def inquestref12_Union_j1 (r109 : G.inquestref12_G) (v216 : List (BitVec 64)) : Option (G.inquestref12_G) :=
  some (G.inquestref12_G.mk r109.N v216)

def inquestref12_Union_j2 (x288 : Int) (v324 : List (BitVec 64)) : Option (((List (BitVec 64)) × Int) ⊕ (G.inquestref12_G)) :=
  Sh.next (v324, w64 (x288 + 1))

def inquestref12_Union_j3 (y348 : Int) (outRows359 : List (BitVec 64)) : Option (((List (BitVec 64)) × Int) ⊕ (((List (BitVec 64)) × Int) ⊕ (G.inquestref12_G))) :=
  Sh.next (outRows359, w64 (y348 + 1))

def inquestref12_Union_j4 (x288 : Int) (outRows347 : List (BitVec 64)) (y348 : Int) (v365 : Bool) : Option (((List (BitVec 64)) × Int) ⊕ (((List (BitVec 64)) × Int) ⊕ (G.inquestref12_G))) :=
  if v365 then
    (Sh.idx outRows347 x288).bind fun x367 =>
    (G.inquestref10_With x367 y348).bind fun r369 =>
    (Sh.idx outRows347 x288).bind fun x370 =>
    G.inquestref12_Union_j3 y348 (Sh.set outRows347 x288 r369)
  else
    G.inquestref12_Union_j3 y348 outRows347

def inquestref12_Union_b2 (a_0 : G.inquestref12_G) (b_1 : G.inquestref12_G) (x288 : Int) (outRows347 : List (BitVec 64)) (y348 : Int) : Option (((List (BitVec 64)) × Int) ⊕ (((List (BitVec 64)) × Int) ⊕ (G.inquestref12_G))) :=
  if decide (y348 < a_0.N) then
    (G.inquestref12_Has a_0 x288 y348).bind fun r361 =>
    (G.inquestref12_Has b_1 x288 y348).bind fun r363 =>
    if r361 then
      G.inquestref12_Union_j4 x288 outRows347 y348 true
    else
      G.inquestref12_Union_j4 x288 outRows347 y348 r363
  else
    Sh.exit (G.inquestref12_Union_j2 x288 outRows347)

def inquestref12_Union_b1 (a_0 : G.inquestref12_G) (b_1 : G.inquestref12_G) (r109 : G.inquestref12_G) (outRows287 : List (BitVec 64)) (x288 : Int) : Option (((List (BitVec 64)) × Int) ⊕ (G.inquestref12_G)) :=
  if decide (x288 < a_0.N) then
    Sh.loop (fun (p : (List (BitVec 64)) × Int) => G.inquestref12_Union_b2 a_0 b_1 x288 p.1 p.2) (outRows287, 0)
  else
    Sh.exit (G.inquestref12_Union_j1 r109 outRows287)

def inquestref12_Union (a_0 : G.inquestref12_G) (b_1 : G.inquestref12_G) : Option (G.inquestref12_G) :=
  (G.inquestref12_New a_0.N).bind fun r109 =>
  Sh.loop (fun (p : (List (BitVec 64)) × Int) => G.inquestref12_Union_b1 a_0 b_1 r109 p.1 p.2) (r109.Rows, 0)

def inquestref12_Compose_j1 (r262 : G.inquestref12_G) (v522 : List (BitVec 64)) : Option (G.inquestref12_G) :=
  some (G.inquestref12_G.mk r262.N v522)

def inquestref12_Compose_j2 (x696 : Int) (v783 : List (BitVec 64)) : Option (((List (BitVec 64)) × Int) ⊕ (G.inquestref12_G)) :=
  Sh.next (v783, w64 (x696 + 1))

def inquestref12_Compose_j3 (y841 : Int) (outRows869 : List (BitVec 64)) : Option (((List (BitVec 64)) × Int) ⊕ (((List (BitVec 64)) × Int) ⊕ (G.inquestref12_G))) :=
  Sh.next (outRows869, w64 (y841 + 1))

def inquestref12_Compose_j4 (z890 : Int) (outRows898 : List (BitVec 64)) : Option (((List (BitVec 64)) × Int) ⊕ (((List (BitVec 64)) × Int) ⊕ (((List (BitVec 64)) × Int) ⊕ (G.inquestref12_G)))) :=
  Sh.next (outRows898, w64 (z890 + 1))

def inquestref12_Compose_b3 (a_0 : G.inquestref12_G) (b_1 : G.inquestref12_G) (x696 : Int) (y841 : Int) (outRows889 : List (BitVec 64)) (z890 : Int) : Option (((List (BitVec 64)) × Int) ⊕ (((List (BitVec 64)) × Int) ⊕ (((List (BitVec 64)) × Int) ⊕ (G.inquestref12_G)))) :=
  if decide (z890 < a_0.N) then
    (G.inquestref12_Has b_1 y841 z890).bind fun r900 =>
    if r900 then
      (Sh.idx outRows889 x696).bind fun x902 =>
      (G.inquestref10_With x902 z890).bind fun r904 =>
      (Sh.idx outRows889 x696).bind fun x905 =>
      G.inquestref12_Compose_j4 z890 (Sh.set outRows889 x696 r904)
    else
      G.inquestref12_Compose_j4 z890 outRows889
  else
    Sh.exit (G.inquestref12_Compose_j3 y841 outRows889)

def inquestref12_Compose_b2 (a_0 : G.inquestref12_G) (b_1 : G.inquestref12_G) (x696 : Int) (outRows840 : List (BitVec 64)) (y841 : Int) : Option (((List (BitVec 64)) × Int) ⊕ (((List (BitVec 64)) × Int) ⊕ (G.inquestref12_G))) :=
  if decide (y841 < a_0.N) then
    (G.inquestref12_Has a_0 x696 y841).bind fun r871 =>
    if !r871 then
      G.inquestref12_Compose_j3 y841 outRows840
    else
      Sh.loop (fun (p : (List (BitVec 64)) × Int) => G.inquestref12_Compose_b3 a_0 b_1 x696 y841 p.1 p.2) (outRows840, 0)
  else
    Sh.exit (G.inquestref12_Compose_j2 x696 outRows840)

def inquestref12_Compose_b1 (a_0 : G.inquestref12_G) (b_1 : G.inquestref12_G) (r262 : G.inquestref12_G) (outRows695 : List (BitVec 64)) (x696 : Int) : Option (((List (BitVec 64)) × Int) ⊕ (G.inquestref12_G)) :=
  if decide (x696 < a_0.N) then
    Sh.loop (fun (p : (List (BitVec 64)) × Int) => G.inquestref12_Compose_b2 a_0 b_1 x696 p.1 p.2) (outRows695, 0)
  else
    Sh.exit (G.inquestref12_Compose_j1 r262 outRows695)

def inquestref12_Compose (a_0 : G.inquestref12_G) (b_1 : G.inquestref12_G) : Option (G.inquestref12_G) :=
  (G.inquestref12_New a_0.N).bind fun r262 =>
  Sh.loop (fun (p : (List (BitVec 64)) × Int) => G.inquestref12_Compose_b1 a_0 b_1 r262 p.1 p.2) (r262.Rows, 0)
end G
end

section
/- What the functions of a package compute, as plain functions. -/
open Go Go.Av
set_option linter.unusedVariables false
namespace G
def inquestref13_Close_j1 (v763 : G.inquestref12_G) : Option (G.inquestref12_G) :=
  some v763

def inquestref13_Close_j2 (k1019 : Int) (v1146 : Int) (v1147 : List (BitVec 64)) : Option ((Int × (List (BitVec 64)) × Int) ⊕ (G.inquestref12_G)) :=
  Sh.next (v1146, v1147, w64 (k1019 + 1))

def inquestref13_Close_j3 (k1019 : Int) (r1149 : G.inquestref12_G) (v1274 : List (BitVec 64)) : Option ((Int × (List (BitVec 64)) × Int) ⊕ (G.inquestref12_G)) :=
  G.inquestref13_Close_j2 k1019 r1149.N v1274

def inquestref13_Close_j4 (x1358 : Int) (v1400 : List (BitVec 64)) : Option (((List (BitVec 64)) × Int) ⊕ ((Int × (List (BitVec 64)) × Int) ⊕ (G.inquestref12_G))) :=
  Sh.next (v1400, w64 (x1358 + 1))

def inquestref13_Close_j5 (y1428 : Int) (dRows1441 : List (BitVec 64)) : Option (((List (BitVec 64)) × Int) ⊕ (((List (BitVec 64)) × Int) ⊕ ((Int × (List (BitVec 64)) × Int) ⊕ (G.inquestref12_G)))) :=
  Sh.next (dRows1441, w64 (y1428 + 1))

def inquestref13_Close_j6 (x1358 : Int) (dRows1427 : List (BitVec 64)) (y1428 : Int) (v1450 : Bool) : Option (((List (BitVec 64)) × Int) ⊕ (((List (BitVec 64)) × Int) ⊕ ((Int × (List (BitVec 64)) × Int) ⊕ (G.inquestref12_G)))) :=
  if v1450 then
    (Sh.idx dRows1427 x1358).bind fun x1452 =>
    (G.inquestref10_With x1452 y1428).bind fun r1454 =>
    (Sh.idx dRows1427 x1358).bind fun x1455 =>
    G.inquestref13_Close_j5 y1428 (Sh.set dRows1427 x1358 r1454)
  else
    G.inquestref13_Close_j5 y1428 dRows1427

def inquestref13_Close_b3 (g_0 : G.inquestref12_G) (cN1017 : Int) (cRows1018 : List (BitVec 64)) (k1019 : Int) (x1358 : Int) (dRows1427 : List (BitVec 64)) (y1428 : Int) : Option (((List (BitVec 64)) × Int) ⊕ (((List (BitVec 64)) × Int) ⊕ ((Int × (List (BitVec 64)) × Int) ⊕ (G.inquestref12_G)))) :=
  if decide (y1428 < g_0.N) then
    (G.inquestref12_Has (G.inquestref12_G.mk cN1017 cRows1018) x1358 y1428).bind fun r1443 =>
    (G.inquestref12_Has (G.inquestref12_G.mk cN1017 cRows1018) x1358 k1019).bind fun r1445 =>
    (G.inquestref12_Has (G.inquestref12_G.mk cN1017 cRows1018) k1019 y1428).bind fun r1447 =>
    if r1443 then
      G.inquestref13_Close_j6 x1358 dRows1427 y1428 true
    else
      if r1445 then
        G.inquestref13_Close_j6 x1358 dRows1427 y1428 r1447
      else
        G.inquestref13_Close_j6 x1358 dRows1427 y1428 false
  else
    Sh.exit (G.inquestref13_Close_j4 x1358 dRows1427)

def inquestref13_Close_b2 (g_0 : G.inquestref12_G) (cN1017 : Int) (cRows1018 : List (BitVec 64)) (k1019 : Int) (r1149 : G.inquestref12_G) (dRows1357 : List (BitVec 64)) (x1358 : Int) : Option (((List (BitVec 64)) × Int) ⊕ ((Int × (List (BitVec 64)) × Int) ⊕ (G.inquestref12_G))) :=
  if decide (x1358 < g_0.N) then
    Sh.loop (fun (p : (List (BitVec 64)) × Int) => G.inquestref13_Close_b3 g_0 cN1017 cRows1018 k1019 x1358 p.1 p.2) (dRows1357, 0)
  else
    Sh.exit (G.inquestref13_Close_j3 k1019 r1149 dRows1357)

def inquestref13_Close_b1 (g_0 : G.inquestref12_G) (cN1017 : Int) (cRows1018 : List (BitVec 64)) (k1019 : Int) : Option ((Int × (List (BitVec 64)) × Int) ⊕ (G.inquestref12_G)) :=
  if decide (k1019 < g_0.N) then
    (G.inquestref12_New g_0.N).bind fun r1149 =>
    Sh.loop (fun (p : (List (BitVec 64)) × Int) => G.inquestref13_Close_b2 g_0 cN1017 cRows1018 k1019 r1149 p.1 p.2) (r1149.Rows, 0)
  else
    Sh.exit (G.inquestref13_Close_j1 (G.inquestref12_G.mk cN1017 cRows1018))

def inquestref13_Close (g_0 : G.inquestref12_G) : Option (G.inquestref12_G) :=
  Sh.loop (fun (p : Int × (List (BitVec 64)) × Int) => G.inquestref13_Close_b1 g_0 p.1 p.2.1 p.2.2) (g_0.N, g_0.Rows, 0)

def inquestref13_Cyclic_j1 : Option (Bool) :=
  some false

def inquestref13_Cyclic_b1 (g_0 : G.inquestref12_G) (r12 : G.inquestref12_G) (x21 : Int) : Option ((Int) ⊕ (Bool)) :=
  if decide (x21 < g_0.N) then
    (G.inquestref12_Has r12 x21 x21).bind fun r25 =>
    if r25 then
      Sh.exit (some true)
    else
      Sh.next (w64 (x21 + 1))
  else
    Sh.exit (G.inquestref13_Cyclic_j1)

def inquestref13_Cyclic (g_0 : G.inquestref12_G) : Option (Bool) :=
  (G.inquestref12_Right g_0).bind fun r9 =>
  if !r9 then
    some false
  else
    (G.inquestref13_Close g_0).bind fun r12 =>
    Sh.loop (fun (p : Int) => G.inquestref13_Cyclic_b1 g_0 r12 p) 0
end G
end

section
/- What the functions of a package compute, as plain functions. -/
open Go Go.Av
set_option linter.unusedVariables false
namespace G
def inquestref17_So_j1 (r109 : G.inquestref12_G) (v216 : List (BitVec 64)) : Option (G.inquestref12_G) :=
  some (G.inquestref12_G.mk r109.N v216)

def inquestref17_So_j2 (a288 : Int) (v324 : List (BitVec 64)) : Option (((List (BitVec 64)) × Int) ⊕ (G.inquestref12_G)) :=
  Sh.next (v324, w64 (a288 + 1))

def inquestref17_So_j3 (b348 : Int) (gRows359 : List (BitVec 64)) : Option (((List (BitVec 64)) × Int) ⊕ (((List (BitVec 64)) × Int) ⊕ (G.inquestref12_G))) :=
  Sh.next (gRows359, w64 (b348 + 1))

def inquestref17_So_b2 (h_0 : G.api_Hist) (r109 : G.inquestref12_G) (a288 : Int) (gRows347 : List (BitVec 64)) (b348 : Int) : Option (((List (BitVec 64)) × Int) ⊕ (((List (BitVec 64)) × Int) ⊕ (G.inquestref12_G))) :=
  if decide (b348 < r109.N) then
    (Sh.idx h_0.Txns a288).bind fun x364 =>
    (Sh.idx h_0.Txns b348).bind fun x366 =>
    if decide (x364.Session = x366.Session) then
      (Sh.idx gRows347 a288).bind fun x369 =>
      (G.inquestref10_With x369 b348).bind fun r371 =>
      (Sh.idx gRows347 a288).bind fun x372 =>
      G.inquestref17_So_j3 b348 (Sh.set gRows347 a288 r371)
    else
      G.inquestref17_So_j3 b348 gRows347
  else
    Sh.exit (G.inquestref17_So_j2 a288 gRows347)

def inquestref17_So_b1 (h_0 : G.api_Hist) (r109 : G.inquestref12_G) (gRows287 : List (BitVec 64)) (a288 : Int) : Option (((List (BitVec 64)) × Int) ⊕ (G.inquestref12_G)) :=
  if decide (a288 < r109.N) then
    Sh.loop (fun (p : (List (BitVec 64)) × Int) => G.inquestref17_So_b2 h_0 r109 a288 p.1 p.2) (gRows287, w64 (a288 + 1))
  else
    Sh.exit (G.inquestref17_So_j1 r109 gRows287)

def inquestref17_So (h_0 : G.api_Hist) : Option (G.inquestref12_G) :=
  (G.inquestref12_New (Sh.len h_0.Txns)).bind fun r109 =>
  Sh.loop (fun (p : (List (BitVec 64)) × Int) => G.inquestref17_So_b1 h_0 r109 p.1 p.2) (r109.Rows, 0)

def inquestref17_Wr_j1 (r133 : G.inquestref12_G) (v264 : List (BitVec 64)) : Option (G.inquestref12_G) :=
  some (G.inquestref12_G.mk r133.N v264)

def inquestref17_Wr_j2 (t352 : Int) (v396 : List (BitVec 64)) : Option (((List (BitVec 64)) × Int) ⊕ (G.inquestref12_G)) :=
  Sh.next (v396, w64 (t352 + 1))

def inquestref17_Wr_j3 (i428 : Int) (gRows441 : List (BitVec 64)) : Option (((List (BitVec 64)) × Int) ⊕ (((List (BitVec 64)) × Int) ⊕ (G.inquestref12_G))) :=
  Sh.next (gRows441, w64 (i428 + 1))

def inquestref17_Wr_b2 (t352 : Int) (x399 : G.api_Txn) (gRows427 : List (BitVec 64)) (i428 : Int) : Option (((List (BitVec 64)) × Int) ⊕ (((List (BitVec 64)) × Int) ⊕ (G.inquestref12_G))) :=
  if decide (i428 < (Sh.len x399.Reads)) then
    (Sh.idx x399.Reads i428).bind fun x444 =>
    if decide ((0 : Int) ≤ x444.From) then
      (Sh.idx x399.Reads i428).bind fun x447 =>
      (Sh.idx x399.Reads i428).bind fun x449 =>
      (Sh.idx gRows427 x449.From).bind fun x451 =>
      (G.inquestref10_With x451 t352).bind fun r453 =>
      (Sh.idx gRows427 x447.From).bind fun x454 =>
      G.inquestref17_Wr_j3 i428 (Sh.set gRows427 x447.From r453)
    else
      G.inquestref17_Wr_j3 i428 gRows427
  else
    Sh.exit (G.inquestref17_Wr_j2 t352 gRows427)

def inquestref17_Wr_b1 (h_0 : G.api_Hist) (r133 : G.inquestref12_G) (gRows351 : List (BitVec 64)) (t352 : Int) : Option (((List (BitVec 64)) × Int) ⊕ (G.inquestref12_G)) :=
  if decide (t352 < r133.N) then
    (Sh.idx h_0.Txns t352).bind fun x399 =>
    Sh.loop (fun (p : (List (BitVec 64)) × Int) => G.inquestref17_Wr_b2 t352 x399 p.1 p.2) (gRows351, 0)
  else
    Sh.exit (G.inquestref17_Wr_j1 r133 gRows351)

def inquestref17_Wr (h_0 : G.api_Hist) : Option (G.inquestref12_G) :=
  (G.inquestref12_New (Sh.len h_0.Txns)).bind fun r133 =>
  Sh.loop (fun (p : (List (BitVec 64)) × Int) => G.inquestref17_Wr_b1 h_0 r133 p.1 p.2) (r133.Rows, 0)

def inquestref17_Past (h_0 : G.api_Hist) : Option (G.inquestref12_G) :=
  (G.inquestref17_So h_0).bind fun r7 =>
  (G.inquestref17_Wr h_0).bind fun r8 =>
  (G.inquestref12_Union r7 r8).bind fun r9 =>
  some r9

def inquestref17_Init_j1 (r523 : G.inquestref12_G) (v1044 : List (BitVec 64)) : Option (G.inquestref12_G) :=
  some (G.inquestref12_G.mk r523.N v1044)

def inquestref17_Init_j2 (t1402 : Int) (v1566 : List (BitVec 64)) : Option (((List (BitVec 64)) × Int) ⊕ (G.inquestref12_G)) :=
  Sh.next (v1566, w64 (t1402 + 1))

def inquestref17_Init_j3 (i1678 : Int) (v1732 : List (BitVec 64)) : Option (((List (BitVec 64)) × Int) ⊕ (((List (BitVec 64)) × Int) ⊕ (G.inquestref12_G))) :=
  Sh.next (v1732, w64 (i1678 + 1))

def inquestref17_Init_j4 (w1768 : Int) (gRows1785 : List (BitVec 64)) : Option (((List (BitVec 64)) × Int) ⊕ (((List (BitVec 64)) × Int) ⊕ (((List (BitVec 64)) × Int) ⊕ (G.inquestref12_G)))) :=
  Sh.next (gRows1785, w64 (w1768 + 1))

def inquestref17_Init_j5 (t1402 : Int) (gRows1767 : List (BitVec 64)) (w1768 : Int) (v1800 : Bool) : Option (((List (BitVec 64)) × Int) ⊕ (((List (BitVec 64)) × Int) ⊕ (((List (BitVec 64)) × Int) ⊕ (G.inquestref12_G)))) :=
  if v1800 then
    (Sh.idx gRows1767 t1402).bind fun x1802 =>
    (G.inquestref10_With x1802 w1768).bind fun r1804 =>
    (Sh.idx gRows1767 t1402).bind fun x1805 =>
    G.inquestref17_Init_j4 w1768 (Sh.set gRows1767 t1402 r1804)
  else
    G.inquestref17_Init_j4 w1768 gRows1767

def inquestref17_Init_b3 (h_0 : G.api_Hist) (r523 : G.inquestref12_G) (t1402 : Int) (x1569 : G.api_Txn) (i1678 : Int) (gRows1767 : List (BitVec 64)) (w1768 : Int) : Option (((List (BitVec 64)) × Int) ⊕ (((List (BitVec 64)) × Int) ⊕ (((List (BitVec 64)) × Int) ⊕ (G.inquestref12_G)))) :=
  if decide (w1768 < r523.N) then
    (Sh.idx h_0.Txns w1768).bind fun x1791 =>
    (Sh.idx x1569.Reads i1678).bind fun x1793 =>
    (G.inquestref08_Writes x1791 x1793.Key).bind fun r1795 =>
    if r1795 then
      (Sh.idx x1569.Reads i1678).bind fun x1808 =>
      if decide (x1808.From = (-1)) then
        G.inquestref17_Init_j5 t1402 gRows1767 w1768 (decide (w1768 ≠ t1402))
      else
        G.inquestref17_Init_j5 t1402 gRows1767 w1768 false
    else
      G.inquestref17_Init_j5 t1402 gRows1767 w1768 false
  else
    Sh.exit (G.inquestref17_Init_j3 i1678 gRows1767)

def inquestref17_Init_b2 (h_0 : G.api_Hist) (r523 : G.inquestref12_G) (t1402 : Int) (x1569 : G.api_Txn) (gRows1677 : List (BitVec 64)) (i1678 : Int) : Option (((List (BitVec 64)) × Int) ⊕ (((List (BitVec 64)) × Int) ⊕ (G.inquestref12_G))) :=
  if decide (i1678 < (Sh.len x1569.Reads)) then
    Sh.loop (fun (p : (List (BitVec 64)) × Int) => G.inquestref17_Init_b3 h_0 r523 t1402 x1569 i1678 p.1 p.2) (gRows1677, 0)
  else
    Sh.exit (G.inquestref17_Init_j2 t1402 gRows1677)

def inquestref17_Init_b1 (h_0 : G.api_Hist) (r523 : G.inquestref12_G) (gRows1401 : List (BitVec 64)) (t1402 : Int) : Option (((List (BitVec 64)) × Int) ⊕ (G.inquestref12_G)) :=
  if decide (t1402 < r523.N) then
    (Sh.idx h_0.Txns t1402).bind fun x1569 =>
    Sh.loop (fun (p : (List (BitVec 64)) × Int) => G.inquestref17_Init_b2 h_0 r523 t1402 x1569 p.1 p.2) (gRows1401, 0)
  else
    Sh.exit (G.inquestref17_Init_j1 r523 gRows1401)

def inquestref17_Init (h_0 : G.api_Hist) : Option (G.inquestref12_G) :=
  (G.inquestref12_New (Sh.len h_0.Txns)).bind fun r523 =>
  Sh.loop (fun (p : (List (BitVec 64)) × Int) => G.inquestref17_Init_b1 h_0 r523 p.1 p.2) (r523.Rows, 0)
end G
end

section
/- What the functions of a package compute, as plain functions. -/
open Go Go.Av
set_option linter.unusedVariables false
namespace G
def inquestref18_Back (c_0 : G.api_Choice) : Option (G.api_Choice) :=
  some (G.api_Choice.mk c_0.Key c_0.B c_0.A)

def inquestref18_In_j1 : Option (Bool) :=
  some false

def inquestref18_In_b1 (l_0 : List G.api_Choice) (c_1 : G.api_Choice) (i22 : Int) : Option ((Int) ⊕ (Bool)) :=
  if decide (i22 < (Sh.len l_0)) then
    (Sh.idx l_0 i22).bind fun x28 =>
    if decide (x28 = c_1) then
      Sh.exit (some true)
    else
      Sh.next (w64 (i22 + 1))
  else
    Sh.exit (G.inquestref18_In_j1)

def inquestref18_In (l_0 : List G.api_Choice) (c_1 : G.api_Choice) : Option (Bool) :=
  Sh.loop (fun (p : Int) => G.inquestref18_In_b1 l_0 c_1 p) 0

def inquestref18_Ww_j1 (r40 : G.inquestref12_G) (v78 : List (BitVec 64)) : Option (G.inquestref12_G) :=
  some (G.inquestref12_G.mk r40.N v78)

def inquestref18_Ww_b1 (l_1 : List G.api_Choice) (r40 : G.inquestref12_G) (gRows103 : List (BitVec 64)) (i104 : Int) : Option (((List (BitVec 64)) × Int) ⊕ (G.inquestref12_G)) :=
  if decide (i104 < (Sh.len l_1)) then
    (Sh.idx l_1 i104).bind fun x117 =>
    (Sh.idx l_1 i104).bind fun x119 =>
    (Sh.idx gRows103 x119.A).bind fun x121 =>
    (Sh.idx l_1 i104).bind fun x123 =>
    (G.inquestref10_With x121 x123.B).bind fun r125 =>
    (Sh.idx gRows103 x117.A).bind fun x126 =>
    Sh.next (Sh.set gRows103 x117.A r125, w64 (i104 + 1))
  else
    Sh.exit (G.inquestref18_Ww_j1 r40 gRows103)

def inquestref18_Ww (h_0 : G.api_Hist) (l_1 : List G.api_Choice) : Option (G.inquestref12_G) :=
  (G.inquestref12_New (Sh.len h_0.Txns)).bind fun r40 =>
  Sh.loop (fun (p : (List (BitVec 64)) × Int) => G.inquestref18_Ww_b1 l_1 r40 p.1 p.2) (r40.Rows, 0)

def inquestref18_Rw_j1 (r178 : G.inquestref12_G) (v354 : List (BitVec 64)) : Option (G.inquestref12_G) :=
  some (G.inquestref12_G.mk r178.N v354)

def inquestref18_Rw_j2 (i472 : Int) (v531 : List (BitVec 64)) : Option (((List (BitVec 64)) × Int) ⊕ (G.inquestref12_G)) :=
  Sh.next (v531, w64 (i472 + 1))

def inquestref18_Rw_j3 (k577 : Int) (gRows594 : List (BitVec 64)) : Option (((List (BitVec 64)) × Int) ⊕ (((List (BitVec 64)) × Int) ⊕ (G.inquestref12_G))) :=
  Sh.next (gRows594, w64 (k577 + 1))

def inquestref18_Rw_b2 (l_1 : List G.api_Choice) (i472 : Int) (r541 : (List Int)) (gRows576 : List (BitVec 64)) (k577 : Int) : Option (((List (BitVec 64)) × Int) ⊕ (((List (BitVec 64)) × Int) ⊕ (G.inquestref12_G))) :=
  if decide (k577 < (Sh.len r541)) then
    (Sh.idx r541 k577).bind fun x599 =>
    (Sh.idx l_1 i472).bind fun x601 =>
    if decide (x599 ≠ x601.B) then
      (Sh.idx r541 k577).bind fun x604 =>
      (Sh.idx r541 k577).bind fun x606 =>
      (Sh.idx gRows576 x606).bind fun x608 =>
      (Sh.idx l_1 i472).bind fun x610 =>
      (G.inquestref10_With x608 x610.B).bind fun r612 =>
      (Sh.idx gRows576 x604).bind fun x613 =>
      G.inquestref18_Rw_j3 k577 (Sh.set gRows576 x604 r612)
    else
      G.inquestref18_Rw_j3 k577 gRows576
  else
    Sh.exit (G.inquestref18_Rw_j2 i472 gRows576)

def inquestref18_Rw_b1 (h_0 : G.api_Hist) (l_1 : List G.api_Choice) (r178 : G.inquestref12_G) (gRows471 : List (BitVec 64)) (i472 : Int) : Option (((List (BitVec 64)) × Int) ⊕ (G.inquestref12_G)) :=
  if decide (i472 < (Sh.len l_1)) then
    (Sh.idx l_1 i472).bind fun x537 =>
    (Sh.idx l_1 i472).bind fun x539 =>
    (G.inquestref09_Readers h_0 x537.Key x539.A).bind fun r541 =>
    Sh.loop (fun (p : (List (BitVec 64)) × Int) => G.inquestref18_Rw_b2 l_1 i472 r541 p.1 p.2) (gRows471, 0)
  else
    Sh.exit (G.inquestref18_Rw_j1 r178 gRows471)

def inquestref18_Rw (h_0 : G.api_Hist) (l_1 : List G.api_Choice) : Option (G.inquestref12_G) :=
  (G.inquestref17_Init h_0).bind fun r178 =>
  Sh.loop (fun (p : (List (BitVec 64)) × Int) => G.inquestref18_Rw_b1 h_0 l_1 r178 p.1 p.2) (r178.Rows, 0)

def inquestref18_Full_j1 (r13 : G.inquestref12_G) (r17 : G.inquestref12_G) : Option (G.inquestref12_G) :=
  (G.inquestref12_Union r13 r17).bind fun r19 =>
  some (G.inquestref12_G.mk r19.N r19.Rows)

def inquestref18_Full (h_0 : G.api_Hist) (level_1 : Int) (l_2 : List G.api_Choice) : Option (G.inquestref12_G) :=
  (G.inquestref17_Past h_0).bind fun r11 =>
  (G.inquestref18_Ww h_0 l_2).bind fun r12 =>
  (G.inquestref12_Union r11 r12).bind fun r13 =>
  (G.inquestref18_Rw h_0 l_2).bind fun r15 =>
  if decide (level_1 = 1) then
    (G.inquestref12_Compose r13 r15).bind fun r21 =>
    G.inquestref18_Full_j1 r13 r21
  else
    G.inquestref18_Full_j1 r13 r15

def inquestref18_Good (h_0 : G.api_Hist) (level_1 : Int) (l_2 : List G.api_Choice) : Option (Bool) :=
  (G.inquestref18_Full h_0 level_1 l_2).bind fun r5 =>
  (G.inquestref13_Cyclic r5).bind fun r6 =>
  some (!r6)

end G
end

section
/- What the functions of a package compute, as plain functions. -/
open Go Go.Av
set_option linter.unusedVariables false
namespace G
end G
end

section
/- What the functions of a package compute, as plain functions. -/
open Go Go.Av
set_option linter.unusedVariables false
namespace G
end G
end

section
/- What the functions of a package compute, as plain functions. -/
open Go Go.Av
set_option linter.unusedVariables false
namespace G
def inquestref22_Small (h_0 : G.api_Hist) (txns_1 : Int) (pairs_2 : Int) : Option (Bool) :=
  (G.inquestref08_Few h_0 txns_1).bind fun r8 =>
  (G.inquestref08_Right h_0).bind fun r10 =>
  (G.inquestref09_Pairs h_0).bind fun r12 =>
  if r8 then
    if r10 then
      some (decide ((Sh.len r12) ≤ pairs_2))
    else
      some false
  else
    some false

def inquestref22_all_step (self : G.api_Hist → Int → (List G.api_Choice) → (List G.api_Choice) → G.api_Choice → Option (Bool)) (h_0 : G.api_Hist) (level_1 : Int) (p_2 : List G.api_Choice) (l_3 : List G.api_Choice) (c_4 : G.api_Choice) : Option (Bool) :=
  if decide ((Sh.len l_3) = (Sh.len p_2)) then
    (G.inquestref18_Good h_0 level_1 l_3).bind fun r22 =>
    (G.inquestref18_In l_3 c_4).bind fun r24 =>
    if !r22 then
      some true
    else
      some r24
  else
    (Sh.app 24 [] l_3).bind fun one28 =>
    (Sh.idx p_2 (Sh.len l_3)).bind fun x32 =>
    (Sh.app 24 one28 ([x32] : List G.api_Choice)).bind fun one34 =>
    (self h_0 level_1 p_2 one34 c_4).bind fun r36 =>
    if !r36 then
      some false
    else
      (Sh.idx p_2 (Sh.len l_3)).bind fun x43 =>
      (G.inquestref18_Back x43).bind fun r45 =>
      (Sh.idx one34 (Sh.len l_3)).bind fun x46 =>
      (self h_0 level_1 p_2 (Sh.set one34 (Sh.len l_3) r45) c_4).bind fun r49 =>
      some r49

def inquestref22_all_n : Nat → G.api_Hist → Int → (List G.api_Choice) → (List G.api_Choice) → G.api_Choice → Option (Bool)
  | 0 => fun _ _ _ _ _ => none
  | n + 1 => G.inquestref22_all_step (inquestref22_all_n n)

def inquestref22_all (h_0 : G.api_Hist) (level_1 : Int) (p_2 : List G.api_Choice) (l_3 : List G.api_Choice) (c_4 : G.api_Choice) : Option (Bool) := G.inquestref22_all_n Sh.FUEL h_0 level_1 p_2 l_3 c_4

def inquestref22_Must (h_0 : G.api_Hist) (level_1 : Int) (c_2 : G.api_Choice) : Option (Bool) :=
  (G.inquestref09_Pairs h_0).bind fun r5 =>
  (G.inquestref22_all h_0 level_1 r5 [] c_2).bind fun r6 =>
  some r6
end G
end

section
/- What the functions of a package compute, as plain functions. -/
open Go Go.Av
set_option linter.unusedVariables false
namespace G
end G
end

section
/- What the functions of a package compute, as plain functions. -/
open Go Go.Av
set_option linter.unusedVariables false
namespace G
def inquestref21_some_step (self : G.api_Hist → Int → (List G.api_Choice) → (List G.api_Choice) → Option (Bool)) (h_0 : G.api_Hist) (level_1 : Int) (p_2 : List G.api_Choice) (l_3 : List G.api_Choice) : Option (Bool) :=
  if decide ((Sh.len l_3) = (Sh.len p_2)) then
    (G.inquestref18_Good h_0 level_1 l_3).bind fun r14 =>
    some r14
  else
    (Sh.idx p_2 (Sh.len l_3)).bind fun x17 =>
    (Sh.app 24 [] l_3).bind fun one20 =>
    (Sh.app 24 one20 ([x17] : List G.api_Choice)).bind fun one22 =>
    (self h_0 level_1 p_2 one22).bind fun r24 =>
    if r24 then
      some true
    else
      (G.inquestref18_Back x17).bind fun r29 =>
      (Sh.idx one22 (Sh.len l_3)).bind fun x30 =>
      (self h_0 level_1 p_2 (Sh.set one22 (Sh.len l_3) r29)).bind fun r33 =>
      some r33

def inquestref21_some_n : Nat → G.api_Hist → Int → (List G.api_Choice) → (List G.api_Choice) → Option (Bool)
  | 0 => fun _ _ _ _ => none
  | n + 1 => G.inquestref21_some_step (inquestref21_some_n n)

def inquestref21_some (h_0 : G.api_Hist) (level_1 : Int) (p_2 : List G.api_Choice) (l_3 : List G.api_Choice) : Option (Bool) := G.inquestref21_some_n Sh.FUEL h_0 level_1 p_2 l_3

def inquestref21_Has (h_0 : G.api_Hist) (level_1 : Int) : Option (Bool) :=
  (G.inquestref09_Pairs h_0).bind fun r5 =>
  (G.inquestref21_some h_0 level_1 r5 []).bind fun r6 =>
  some r6
end G
end

section
/- What the functions of a package compute, as plain functions. -/
open Go Go.Av
set_option linter.unusedVariables false
namespace G
end G
end

section
/- What the functions of a package compute, as plain functions. -/
open Go Go.Av
set_option linter.unusedVariables false
namespace G
def refute_reader_next__1 (c_0 : G.refute_reader) : Option (G.refute_Node × G.refute_reader) :=
  if decide ((Sh.len c_0.left) = 0) then
    none
  else
    (Sh.idx c_0.left 0).bind fun x9 =>
    (Sh.sub c_0.left 1 (Sh.len c_0.left)).bind fun part12 =>
    some (x9, (G.refute_reader.mk part12))

def refute_reader_shape__1_step (self : G.refute_reader → Option (G.refute_reader × Int × Int)) (c_0 : G.refute_reader) : Option (G.refute_reader × Int × Int) :=
  (G.refute_reader_next__1 c_0).bind fun r17 =>
  if decide ((0 : Int) < (Sh.len r17.1.Cycle)) then
    some (r17.2, 1, 0)
  else
    (self r17.2).bind fun r20 =>
    (self r20.1).bind fun r22 =>
    some (r22.1, w64 (r20.2.1 + r22.2.1), w64 (1 + (Sh.max r20.2.2 r22.2.2)))

def refute_reader_shape__1_n : Nat → G.refute_reader → Option (G.refute_reader × Int × Int)
  | 0 => fun _ => none
  | n + 1 => G.refute_reader_shape__1_step (refute_reader_shape__1_n n)

def refute_reader_end__1 (c_0 : G.refute_reader) : Option (Unit) :=
  if decide ((0 : Int) < (Sh.len c_0.left)) then
    none
  else
    some ()

def refute_Shape (tree_0 : List G.refute_Node) : Option (Int × Int × Bool) :=
  some (match G.refute_reader_shape__1_n (tree_0.length + 1) (G.refute_reader.mk tree_0) with
    | some r => if decide ((0 : Int) < Sh.len r.1.left) then (0, 0, false) else (r.2.1, r.2.2, true)
    | none => (0, 0, false))

def refute_back (c_0 : G.api_Choice) : Option (G.api_Choice) :=
  some (G.api_Choice.mk c_0.Key c_0.B c_0.A)

def refute_choice_1__1 (t_0 : Int) (a_1 : G.api_Hist) (a_2 : G.api_Choice) : Option (Bool) :=
  if decide ((0 : Int) ≤ t_0) then
    if decide (t_0 < (Sh.len a_1.Txns)) then
      (Sh.idx a_1.Txns t_0).bind fun x14 =>
      (G.slices_Contains_int_int x14.Writes a_2.Key).bind fun r16 =>
      some r16
    else
      some false
  else
    some false

def refute_choice (h_0 : G.api_Hist) (c_1 : G.api_Choice) : Option (Bool) :=
  if decide (c_1.A ≠ c_1.B) then
    (G.refute_choice_1__1 c_1.A h_0 c_1).bind fun r11 =>
    if r11 then
      (G.refute_choice_1__1 c_1.B h_0 c_1).bind fun r13 =>
      some r13
    else
      some false
  else
    some false

def refute_reader_held__1_step (self : G.api_Hist → Int → (List G.api_Choice) → G.refute_reader → Option (G.refute_reader × Bool)) (h_0 : G.api_Hist) (level_1 : Int) (l_2 : List G.api_Choice) (c_3 : G.refute_reader) : Option (G.refute_reader × Bool) :=
  (G.refute_reader_next__1 c_3).bind fun r42 =>
  if decide ((0 : Int) < (Sh.len r42.1.Cycle)) then
    if decide (r42.1.C = (G.api_Choice.mk 0 0 0)) then
      (G.edge_Cycle h_0 level_1 l_2 r42.1.Cycle).bind fun r50 =>
      some (r42.2, r50)
    else
      some (r42.2, false)
  else
    (G.slices_Clip_api_Choice_api_Choice l_2).bind fun r52 =>
    (Sh.app 24 r52 ([r42.1.C] : List G.api_Choice)).bind fun l55 =>
    (self h_0 level_1 l55 r42.2).bind fun r56 =>
    (G.refute_back r42.1.C).bind fun r60 =>
    (Sh.app 24 r52 ([r60] : List G.api_Choice)).bind fun l61 =>
    (self h_0 level_1 l61 r56.1).bind fun r62 =>
    if r56.2 then
      if r62.2 then
        (G.refute_choice h_0 r42.1.C).bind fun r68 =>
        some (r62.1, r68)
      else
        some (r62.1, false)
    else
      some (r62.1, false)

def refute_reader_held__1_n : Nat → G.api_Hist → Int → (List G.api_Choice) → G.refute_reader → Option (G.refute_reader × Bool)
  | 0 => fun _ _ _ _ => none
  | n + 1 => G.refute_reader_held__1_step (refute_reader_held__1_n n)

def refute_reader_held__1 (h_0 : G.api_Hist) (level_1 : Int) (l_2 : List G.api_Choice) (c_3 : G.refute_reader) : Option (G.refute_reader × Bool) := G.refute_reader_held__1_n Sh.FUEL h_0 level_1 l_2 c_3

def refute_Check_j1 (h_0 : G.api_Hist) (level_1 : Int) (l_2 : List G.api_Choice) (tree_3 : List G.refute_Node) (v20 : Bool) : Option (Bool) :=
  if v20 then
    some false
  else
    (G.refute_reader_held__1 h_0 level_1 l_2 (G.refute_reader.mk tree_3)).bind fun r23 =>
    some r23.2

def refute_Check (h_0 : G.api_Hist) (level_1 : Int) (l_2 : List G.api_Choice) (tree_3 : List G.refute_Node) : Option (Bool) :=
  (G.refute_Shape tree_3).bind fun r15 =>
  if !r15.2.2 then
    G.refute_Check_j1 h_0 level_1 l_2 tree_3 true
  else
    (G.hist_Right h_0).bind fun r25 =>
    if !r25 then
      G.refute_Check_j1 h_0 level_1 l_2 tree_3 true
    else
      if decide (level_1 ≠ 0) then
        G.refute_Check_j1 h_0 level_1 l_2 tree_3 (decide (level_1 ≠ 1))
      else
        G.refute_Check_j1 h_0 level_1 l_2 tree_3 false
end G
end

section
/- What the functions of a package compute, as plain functions. -/
open Go Go.Av
set_option linter.unusedVariables false
namespace G
def inquestlaw24_awake : Option (Bool) :=
  (G.refute_Shape ([(G.refute_Node.mk (G.api_Choice.mk 0 0 1) []), (G.refute_Node.mk (G.api_Choice.mk 0 0 0) [0, 1]), (G.refute_Node.mk (G.api_Choice.mk 0 0 0) [0, 1])] : List G.refute_Node)).bind fun r15 =>
  (Sh.sub ([(G.refute_Node.mk (G.api_Choice.mk 0 0 1) []), (G.refute_Node.mk (G.api_Choice.mk 0 0 0) [0, 1]), (G.refute_Node.mk (G.api_Choice.mk 0 0 0) [0, 1])] : List G.refute_Node) 0 2).bind fun part18 =>
  (G.refute_Shape part18).bind fun r19 =>
  if decide (r15.1 = 2) then
    if decide (r15.2.1 = 1) then
      if r15.2.2 then
        if !r19.2.2 then
          (G.refute_Check (G.api_Hist.mk ([(G.api_Txn.mk 0 [0] ([(G.api_Take.mk 0 (-1))] : List G.api_Take)), (G.api_Txn.mk 1 [0] ([(G.api_Take.mk 0 (-1))] : List G.api_Take))] : List G.api_Txn)) 0 [] ([(G.refute_Node.mk (G.api_Choice.mk 0 0 1) []), (G.refute_Node.mk (G.api_Choice.mk 0 0 0) [0, 1]), (G.refute_Node.mk (G.api_Choice.mk 0 0 0) [0, 1])] : List G.refute_Node)).bind fun r33 =>
          if r33 then
            (G.refute_Check (G.api_Hist.mk ([(G.api_Txn.mk 0 [0] ([(G.api_Take.mk 0 (-1))] : List G.api_Take)), (G.api_Txn.mk 1 [0] ([(G.api_Take.mk 0 (-1))] : List G.api_Take))] : List G.api_Txn)) 0 [] ([(G.refute_Node.mk (G.api_Choice.mk 0 0 0) [0])] : List G.refute_Node)).bind fun r35 =>
            if !r35 then
              (G.refute_Check (G.api_Hist.mk ([(G.api_Txn.mk 0 [0] ([(G.api_Take.mk 0 (-1))] : List G.api_Take)), (G.api_Txn.mk 1 [0] ([(G.api_Take.mk 0 (-1))] : List G.api_Take))] : List G.api_Txn)) 2 [] ([(G.refute_Node.mk (G.api_Choice.mk 0 0 1) []), (G.refute_Node.mk (G.api_Choice.mk 0 0 0) [0, 1]), (G.refute_Node.mk (G.api_Choice.mk 0 0 0) [0, 1])] : List G.refute_Node)).bind fun r37 =>
              some (!r37)
            else
              some false
          else
            some false
        else
          some false
      else
        some false
    else
      some false
  else
    some false

def inquestlaw24_few_j2 : Option (Bool) :=
  some true

def inquestlaw24_few_b1 (x_0 : G.inquestlaw24_Case) (i35 : Int) : Option ((Int) ⊕ (Bool)) :=
  if decide (i35 < (Sh.len x_0.Tree)) then
    (Sh.idx x_0.Tree i35).bind fun x41 =>
    if decide ((40 : Int) < (Sh.len x41.Cycle)) then
      Sh.exit (some false)
    else
      Sh.next (w64 (i35 + 1))
  else
    Sh.exit (G.inquestlaw24_few_j2)

def inquestlaw24_few_j1 (x_0 : G.inquestlaw24_Case) (v20 : Bool) : Option (Bool) :=
  if v20 then
    some false
  else
    Sh.loop (fun (p : Int) => G.inquestlaw24_few_b1 x_0 p) 0

def inquestlaw24_few (x_0 : G.inquestlaw24_Case) (txns_1 : Int) (nodes_2 : Int) : Option (Bool) :=
  (G.inquestref08_Few x_0.H txns_1).bind fun r14 =>
  if !r14 then
    G.inquestlaw24_few_j1 x_0 true
  else
    if decide ((40 : Int) < (Sh.len x_0.L)) then
      G.inquestlaw24_few_j1 x_0 true
    else
      G.inquestlaw24_few_j1 x_0 (decide (nodes_2 < (Sh.len x_0.Tree)))

def inquestlaw24_RefuteSound_j1 (x_0 : G.inquestlaw24_Case) (v30 : Bool) : Option (Bool) :=
  if v30 then
    some true
  else
    (G.inquestref21_Has x_0.H x_0.Level).bind fun r33 =>
    some (!r33)

def inquestlaw24_RefuteSound (x_0 : G.inquestlaw24_Case) : Option (Bool) :=
  (G.inquestlaw24_awake).bind fun r12 =>
  if !r12 then
    some false
  else
    (G.inquestlaw24_few x_0 5 200).bind fun r15 =>
    if !r15 then
      some true
    else
      (G.inquestref22_Small x_0.H 5 6).bind fun r18 =>
      if !r18 then
        G.inquestlaw24_RefuteSound_j1 x_0 true
      else
        if decide (x_0.Level ≠ 0) then
          if decide (x_0.Level ≠ 1) then
            G.inquestlaw24_RefuteSound_j1 x_0 true
          else
            (G.refute_Check x_0.H x_0.Level [] x_0.Tree).bind fun r37 =>
            G.inquestlaw24_RefuteSound_j1 x_0 (!r37)
        else
          (G.refute_Check x_0.H x_0.Level [] x_0.Tree).bind fun r38 =>
          G.inquestlaw24_RefuteSound_j1 x_0 (!r38)

end G
end
