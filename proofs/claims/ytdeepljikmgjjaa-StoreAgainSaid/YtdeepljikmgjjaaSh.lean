/- What the functions compute, as plain functions. -/
import Derived.Test.YtdeepljikmgjjaaBase1
set_option linter.unusedSimpArgs false
set_option linter.unusedVariables false
section
/- The plain types. -/
open Go Go.Av
namespace G
structure api_Choice where
  Key : Int
  A : Int
  B : Int
  deriving DecidableEq, Inhabited
def api_Choice.av (x : api_Choice) : AV := .agg [i64 x.Key, i64 x.A, i64 x.B]
@[simp] theorem api_Choice.noid (x : api_Choice) : NoId (api_Choice.av x) := by simp [api_Choice.av]
@[simp] theorem api_Choice.solid (x : api_Choice) : AV.solid (api_Choice.av x) = true := rfl
@[simp] theorem api_Choice.dry (x : api_Choice) : Dry (api_Choice.av x) := by simp [api_Choice.av]
@[simp] theorem api_Choice.flat (x : api_Choice) : (api_Choice.av x).flat.length = 3 := rfl
def api_Choice.ky (x : api_Choice) : List Int := [x.Key, x.A, x.B]
theorem api_Choice.ky_inj (a b : api_Choice) (h : api_Choice.ky a = api_Choice.ky b) : a = b := by cases a; cases b; simpa [api_Choice.ky] using h
theorem api_Choice.ky_len (a : api_Choice) : (api_Choice.ky a).length = 3 := rfl
structure api_Take where
  Key : Int
  From : Int
  deriving DecidableEq, Inhabited
def api_Take.av (x : api_Take) : AV := .agg [i64 x.Key, i64 x.From]
@[simp] theorem api_Take.noid (x : api_Take) : NoId (api_Take.av x) := by simp [api_Take.av]
@[simp] theorem api_Take.solid (x : api_Take) : AV.solid (api_Take.av x) = true := rfl
@[simp] theorem api_Take.dry (x : api_Take) : Dry (api_Take.av x) := by simp [api_Take.av]
@[simp] theorem api_Take.flat (x : api_Take) : (api_Take.av x).flat.length = 2 := rfl
structure api_Txn where
  Session : Int
  Writes : List Int
  Reads : List G.api_Take
  deriving DecidableEq, Inhabited
def api_Txn.av (x : api_Txn) : AV := .agg [i64 x.Session, .sl (List.map i64 x.Writes), .sl (List.map G.api_Take.av x.Reads)]
@[simp] theorem api_Txn.noid (x : api_Txn) : NoId (api_Txn.av x) := by simp [api_Txn.av]
@[simp] theorem api_Txn.solid (x : api_Txn) : AV.solid (api_Txn.av x) = true := rfl
@[simp] theorem api_Txn.flat (x : api_Txn) : (api_Txn.av x).flat.length = 3 := rfl
structure api_Hist where
  Txns : List G.api_Txn
  deriving DecidableEq, Inhabited
def api_Hist.av (x : api_Hist) : AV := .agg [.sl (List.map G.api_Txn.av x.Txns)]
@[simp] theorem api_Hist.noid (x : api_Hist) : NoId (api_Hist.av x) := by simp [api_Hist.av]
@[simp] theorem api_Hist.solid (x : api_Hist) : AV.solid (api_Hist.av x) = true := rfl
@[simp] theorem api_Hist.flat (x : api_Hist) : (api_Hist.av x).flat.length = 1 := rfl
structure edge_read where
  deriving DecidableEq, Inhabited
def edge_read.av (x : edge_read) : AV := .agg []
@[simp] theorem edge_read.noid (x : edge_read) : NoId (edge_read.av x) := by simp [edge_read.av]
@[simp] theorem edge_read.solid (x : edge_read) : AV.solid (edge_read.av x) = true := rfl
@[simp] theorem edge_read.dry (x : edge_read) : Dry (edge_read.av x) := by simp [edge_read.av]
@[simp] theorem edge_read.flat (x : edge_read) : (edge_read.av x).flat.length = 0 := rfl
structure edge_session where
  deriving DecidableEq, Inhabited
def edge_session.av (x : edge_session) : AV := .agg []
@[simp] theorem edge_session.noid (x : edge_session) : NoId (edge_session.av x) := by simp [edge_session.av]
@[simp] theorem edge_session.solid (x : edge_session) : AV.solid (edge_session.av x) = true := rfl
@[simp] theorem edge_session.dry (x : edge_session) : Dry (edge_session.av x) := by simp [edge_session.av]
@[simp] theorem edge_session.flat (x : edge_session) : (edge_session.av x).flat.length = 0 := rfl
structure fact_Fact where
  C : G.api_Choice
  Kind : Int
  I : Int
  J : Int
  Cycle : List Int
  deriving DecidableEq, Inhabited
def fact_Fact.av (x : fact_Fact) : AV := .agg [i64 x.C.Key, i64 x.C.A, i64 x.C.B, i64 x.Kind, i64 x.I, i64 x.J, .sl (List.map i64 x.Cycle)]
@[simp] theorem fact_Fact.noid (x : fact_Fact) : NoId (fact_Fact.av x) := by simp [fact_Fact.av]
@[simp] theorem fact_Fact.solid (x : fact_Fact) : AV.solid (fact_Fact.av x) = true := rfl
@[simp] theorem fact_Fact.flat (x : fact_Fact) : (fact_Fact.av x).flat.length = 7 := rfl
structure fact_asked where
  h : G.api_Hist
  level : Int
  l : List G.fact_Fact
  f : G.fact_Fact
  deriving DecidableEq, Inhabited
def fact_asked.av (x : fact_asked) : AV := .agg [.sl (List.map G.api_Txn.av x.h.Txns), i64 x.level, .sl (List.map G.fact_Fact.av x.l), i64 x.f.C.Key, i64 x.f.C.A, i64 x.f.C.B, i64 x.f.Kind, i64 x.f.I, i64 x.f.J, .sl (List.map i64 x.f.Cycle)]
@[simp] theorem fact_asked.noid (x : fact_asked) : NoId (fact_asked.av x) := by simp [fact_asked.av]
@[simp] theorem fact_asked.solid (x : fact_asked) : AV.solid (fact_asked.av x) = true := rfl
@[simp] theorem fact_asked.flat (x : fact_asked) : (fact_asked.av x).flat.length = 10 := rfl
structure inquestref22_F where
  C : G.api_Choice
  Kind : Int
  I : Int
  J : Int
  Cycle : List Int
  deriving DecidableEq, Inhabited
def inquestref22_F.av (x : inquestref22_F) : AV := .agg [i64 x.C.Key, i64 x.C.A, i64 x.C.B, i64 x.Kind, i64 x.I, i64 x.J, .sl (List.map i64 x.Cycle)]
@[simp] theorem inquestref22_F.noid (x : inquestref22_F) : NoId (inquestref22_F.av x) := by simp [inquestref22_F.av]
@[simp] theorem inquestref22_F.solid (x : inquestref22_F) : AV.solid (inquestref22_F.av x) = true := rfl
@[simp] theorem inquestref22_F.flat (x : inquestref22_F) : (inquestref22_F.av x).flat.length = 7 := rfl
end G
end

section
/- What the functions of a package compute, as plain functions. -/
open Go Go.Av
set_option linter.unusedVariables false
namespace G
def slices_Index_int_int_j1 : Option (Int) :=
  some (-1)

def slices_Index_int_int_b1 (s_0 : List Int) (v_1 : Int) (v22 : Int) : Option ((Int) ⊕ (Int)) :=
  if decide (v22 < (Sh.len s_0)) then
    (Sh.idx s_0 v22).bind fun x28 =>
    if decide (v_1 = x28) then
      Sh.exit (some v22)
    else
      Sh.next (w64 (v22 + 1))
  else
    Sh.exit (G.slices_Index_int_int_j1)

def slices_Index_int_int (s_0 : List Int) (v_1 : Int) : Option (Int) :=
  Sh.loop (fun (p : Int) => G.slices_Index_int_int_b1 s_0 v_1 p) 0

def slices_Contains_int_int (s_0 : List Int) (v_1 : Int) : Option (Bool) :=
  (G.slices_Index_int_int s_0 v_1).bind fun r3 =>
  some (decide ((0 : Int) ≤ r3))

def slices_Clone_int_int (s_0 : List Int) : Option (List Int) := Sh.app 8 [] s_0

def slices_Clone_api_Take_api_Take (s_0 : List G.api_Take) : Option (List G.api_Take) := Sh.app 16 [] s_0

def slices_Index_api_Take_api_Take_j1 : Option (Int) :=
  some (-1)

def slices_Index_api_Take_api_Take_b1 (s_0 : List G.api_Take) (v_1 : G.api_Take) (v22 : Int) : Option ((Int) ⊕ (Int)) :=
  if decide (v22 < (Sh.len s_0)) then
    (Sh.idx s_0 v22).bind fun x28 =>
    if decide (v_1 = x28) then
      Sh.exit (some v22)
    else
      Sh.next (w64 (v22 + 1))
  else
    Sh.exit (G.slices_Index_api_Take_api_Take_j1)

def slices_Index_api_Take_api_Take (s_0 : List G.api_Take) (v_1 : G.api_Take) : Option (Int) :=
  Sh.loop (fun (p : Int) => G.slices_Index_api_Take_api_Take_b1 s_0 v_1 p) 0

def slices_Contains_api_Take_api_Take (s_0 : List G.api_Take) (v_1 : G.api_Take) : Option (Bool) :=
  (G.slices_Index_api_Take_api_Take s_0 v_1).bind fun r3 =>
  some (decide ((0 : Int) ≤ r3))

def slices_Index_edge_over_api_Choice_j1 : Option (Int) :=
  some (-1)

def slices_Index_edge_over_api_Choice_b1 (s_0 : List G.api_Choice) (v_1 : G.api_Choice) (v22 : Int) : Option ((Int) ⊕ (Int)) :=
  if decide (v22 < (Sh.len s_0)) then
    (Sh.idx s_0 v22).bind fun x28 =>
    if decide (v_1 = x28) then
      Sh.exit (some v22)
    else
      Sh.next (w64 (v22 + 1))
  else
    Sh.exit (G.slices_Index_edge_over_api_Choice_j1)

def slices_Index_edge_over_api_Choice (s_0 : List G.api_Choice) (v_1 : G.api_Choice) : Option (Int) :=
  Sh.loop (fun (p : Int) => G.slices_Index_edge_over_api_Choice_b1 s_0 v_1 p) 0

def slices_Contains_edge_over_api_Choice (s_0 : List G.api_Choice) (v_1 : G.api_Choice) : Option (Bool) :=
  (G.slices_Index_edge_over_api_Choice s_0 v_1).bind fun r3 =>
  some (decide ((0 : Int) ≤ r3))

def slices_Clone_fact_Fact_fact_Fact (s_0 : List G.fact_Fact) : Option (List G.fact_Fact) := Sh.app 72 [] s_0
end G
end

section
/- What the functions of a package compute, as plain functions. -/
open Go Go.Av
set_option linter.unusedVariables false
namespace G
def hist_faults (h_0 : G.api_Hist) : Option (Unit) :=
  some ()

def hist_Right__r (c_0 : Bool) (y_1 : Bool) : Option (Bool × Bool) :=
  if !y_1 then
    some (false, false)
  else
    some (c_0, true)

def hist_faults_1__hist_Right__r_j1 (v523 : Int) (c625 : Bool) : Option ((Bool × Int) ⊕ (Bool × Bool)) :=
  Sh.next (c625, w64 (v523 + 1))

def hist_faults_1__hist_Right__r_j3 (v523 : Int) (x628 : G.api_Txn) (v724 : Bool) : Option ((Bool × Int) ⊕ (Bool × Bool)) :=
  if decide ((0 : Int) ≤ x628.Session) then
    (G.hist_Right__r v724 (decide (x628.Session < 8))).bind fun y731 =>
    if y731.2 then
      G.hist_faults_1__hist_Right__r_j1 v523 y731.1
    else
      Sh.exit (some (y731.1, false))
  else
    (G.hist_Right__r v724 false).bind fun y733 =>
    if y733.2 then
      G.hist_faults_1__hist_Right__r_j1 v523 y733.1
    else
      Sh.exit (some (y733.1, false))

def hist_faults_1__hist_Right__r_j5 (v778 : Int) (x801 : G.api_Take) (c819 : Bool) : Option ((Bool × Int × Int) ⊕ ((Bool × Int) ⊕ (Bool × Bool))) :=
  Sh.next (c819, x801.Key, w64 (v778 + 1))

def hist_faults_1__hist_Right__r_j4 (c776 : Bool) (last777 : Int) (v778 : Int) (x801 : G.api_Take) (there810 : Bool) : Option ((Bool × Int × Int) ⊕ ((Bool × Int) ⊕ (Bool × Bool))) :=
  if decide (last777 < x801.Key) then
    if decide (x801.Key < 16) then
      (G.hist_Right__r c776 there810).bind fun y830 =>
      if y830.2 then
        G.hist_faults_1__hist_Right__r_j5 v778 x801 y830.1
      else
        Sh.exit (Sh.exit (some (y830.1, false)))
    else
      (G.hist_Right__r c776 false).bind fun y832 =>
      if y832.2 then
        G.hist_faults_1__hist_Right__r_j5 v778 x801 y832.1
      else
        Sh.exit (Sh.exit (some (y832.1, false)))
  else
    (G.hist_Right__r c776 false).bind fun y834 =>
    if y834.2 then
      G.hist_faults_1__hist_Right__r_j5 v778 x801 y834.1
    else
      Sh.exit (Sh.exit (some (y834.1, false)))

def hist_faults_1__hist_Right__r_b2 (c_1 : G.api_Hist) (v523 : Int) (x628 : G.api_Txn) (c776 : Bool) (last777 : Int) (v778 : Int) : Option ((Bool × Int × Int) ⊕ ((Bool × Int) ⊕ (Bool × Bool))) :=
  if decide (v778 < (Sh.len x628.Reads)) then
    (Sh.idx x628.Reads v778).bind fun x801 =>
    if decide (x801.From = (-1)) then
      G.hist_faults_1__hist_Right__r_j4 c776 last777 v778 x801 true
    else
      if decide ((0 : Int) ≤ x801.From) then
        if decide (x801.From < (Sh.len c_1.Txns)) then
          if decide (x801.From ≠ v523) then
            (Sh.idx c_1.Txns x801.From).bind fun x840 =>
            (G.slices_Contains_int_int x840.Writes x801.Key).bind fun r842 =>
            G.hist_faults_1__hist_Right__r_j4 c776 last777 v778 x801 r842
          else
            G.hist_faults_1__hist_Right__r_j4 c776 last777 v778 x801 false
        else
          G.hist_faults_1__hist_Right__r_j4 c776 last777 v778 x801 false
      else
        G.hist_faults_1__hist_Right__r_j4 c776 last777 v778 x801 false
  else
    Sh.exit (G.hist_faults_1__hist_Right__r_j3 v523 x628 c776)

def hist_faults_1__hist_Right__r_j2 (c_1 : G.api_Hist) (v523 : Int) (x628 : G.api_Txn) (v660 : Bool) : Option ((Bool × Int) ⊕ (Bool × Bool)) :=
  Sh.loop (fun (p : Bool × Int × Int) => G.hist_faults_1__hist_Right__r_b2 c_1 v523 x628 p.1 p.2.1 p.2.2) (v660, (-1), 0)

def hist_faults_1__hist_Right__r_j6 (v864 : Int) (x876 : Int) (c883 : Bool) : Option ((Bool × Int × Int) ⊕ ((Bool × Int) ⊕ (Bool × Bool))) :=
  Sh.next (c883, x876, w64 (v864 + 1))

def hist_faults_1__hist_Right__r_b3 (c_1 : G.api_Hist) (v523 : Int) (x628 : G.api_Txn) (c862 : Bool) (last863 : Int) (v864 : Int) : Option ((Bool × Int × Int) ⊕ ((Bool × Int) ⊕ (Bool × Bool))) :=
  if decide (v864 < (Sh.len x628.Writes)) then
    (Sh.idx x628.Writes v864).bind fun x876 =>
    if decide (last863 < x876) then
      (G.hist_Right__r c862 (decide (x876 < 16))).bind fun y890 =>
      if y890.2 then
        G.hist_faults_1__hist_Right__r_j6 v864 x876 y890.1
      else
        Sh.exit (Sh.exit (some (y890.1, false)))
    else
      (G.hist_Right__r c862 false).bind fun y892 =>
      if y892.2 then
        G.hist_faults_1__hist_Right__r_j6 v864 x876 y892.1
      else
        Sh.exit (Sh.exit (some (y892.1, false)))
  else
    Sh.exit (G.hist_faults_1__hist_Right__r_j2 c_1 v523 x628 c862)

def hist_faults_1__hist_Right__r_b1 (c_1 : G.api_Hist) (c522 : Bool) (v523 : Int) : Option ((Bool × Int) ⊕ (Bool × Bool)) :=
  if decide (v523 < (Sh.len c_1.Txns)) then
    (Sh.idx c_1.Txns v523).bind fun x628 =>
    Sh.loop (fun (p : Bool × Int × Int) => G.hist_faults_1__hist_Right__r_b3 c_1 v523 x628 p.1 p.2.1 p.2.2) (c522, (-1), 0)
  else
    Sh.exit (some (c522, true))

def hist_faults_1__hist_Right__r (c_0 : Bool) (c_1 : G.api_Hist) : Option (Bool × Bool) :=
  (G.hist_Right__r c_0 (decide ((Sh.len c_1.Txns) ≤ 32))).bind fun y316 =>
  if y316.2 then
    Sh.loop (fun (p : Bool × Int) => G.hist_faults_1__hist_Right__r_b1 c_1 p.1 p.2) (y316.1, 0)
  else
    some (y316.1, false)

def hist_Right (h_0 : G.api_Hist) : Option (Bool) :=
  (G.hist_faults h_0).bind fun r8 =>
  (G.hist_faults_1__hist_Right__r false h_0).bind fun it9 =>
  if it9.2 then
    some true
  else
    some it9.1
end G
end

section
/- What the functions of a package compute, as plain functions. -/
open Go Go.Av
set_option linter.unusedVariables false
namespace G
def inquestref08_Few_j1 : Option (Bool) :=
  some true

def inquestref08_Few_j2 (i55 : Int) (v68 : Bool) : Option ((Int) ⊕ (Bool)) :=
  if v68 then
    Sh.exit (some false)
  else
    Sh.next (w64 (i55 + 1))

def inquestref08_Few_b1 (h_0 : G.api_Hist) (i55 : Int) : Option ((Int) ⊕ (Bool)) :=
  if decide (i55 < (Sh.len h_0.Txns)) then
    (Sh.idx h_0.Txns i55).bind fun x70 =>
    if decide ((20 : Int) < (Sh.len x70.Writes)) then
      G.inquestref08_Few_j2 i55 true
    else
      (Sh.idx h_0.Txns i55).bind fun x73 =>
      G.inquestref08_Few_j2 i55 (decide ((20 : Int) < (Sh.len x73.Reads)))
  else
    Sh.exit (G.inquestref08_Few_j1)

def inquestref08_Few (h_0 : G.api_Hist) (many_1 : Int) : Option (Bool) :=
  if decide (many_1 < (Sh.len h_0.Txns)) then
    some false
  else
    Sh.loop (fun (p : Int) => G.inquestref08_Few_b1 h_0 p) 0
end G
end

section
/- What the functions of a package compute, as plain functions. -/
open Go Go.Av
set_option linter.unusedVariables false
namespace G
def edge_session_is (a_0 : G.edge_session) (h_1 : G.api_Hist) (x_2 : Int) (y_3 : Int) : Option (Bool) :=
  if decide (x_2 < y_3) then
    (Sh.idx h_1.Txns x_2).bind fun x13 =>
    (Sh.idx h_1.Txns y_3).bind fun x15 =>
    some (decide (x13.Session = x15.Session))
  else
    some false

def edge_some_1__edge_session (k_0 : G.edge_session) (a_1 : G.api_Hist) (a_2 : Int) (a_3 : Int) : Option (Bool) :=
  (G.edge_session_is k_0 a_1 a_2 a_3).bind fun r3 =>
  some r3

def edge_read_is_1__1 (r_0 : G.api_Take) (a_1 : Int) : Option (Bool) :=
  some (decide (r_0.From = a_1))

def slices_IndexFunc_api_Take_api_Take__edge_read_is_1_j1 : Option (Int) :=
  some (-1)

def slices_IndexFunc_api_Take_api_Take__edge_read_is_1_b1 (s_0 : List G.api_Take) (f_1 : Int) (v30 : Int) : Option ((Int) ⊕ (Int)) :=
  if decide (v30 < (Sh.len s_0)) then
    (Sh.idx s_0 v30).bind fun x38 =>
    (G.edge_read_is_1__1 x38 f_1).bind fun r40 =>
    if r40 then
      Sh.exit (some v30)
    else
      Sh.next (w64 (v30 + 1))
  else
    Sh.exit (G.slices_IndexFunc_api_Take_api_Take__edge_read_is_1_j1)

def slices_IndexFunc_api_Take_api_Take__edge_read_is_1 (s_0 : List G.api_Take) (f_1 : Int) : Option (Int) :=
  Sh.loop (fun (p : Int) => G.slices_IndexFunc_api_Take_api_Take__edge_read_is_1_b1 s_0 f_1 p) 0

def slices_ContainsFunc_api_Take_api_Take__edge_read_is_1 (s_0 : List G.api_Take) (f_1 : Int) : Option (Bool) :=
  (G.slices_IndexFunc_api_Take_api_Take__edge_read_is_1 s_0 f_1).bind fun r3 =>
  some (decide ((0 : Int) ≤ r3))

def edge_read_is (a_0 : G.edge_read) (h_1 : G.api_Hist) (x_2 : Int) (y_3 : Int) : Option (Bool) :=
  (Sh.idx h_1.Txns y_3).bind fun x7 =>
  (G.slices_ContainsFunc_api_Take_api_Take__edge_read_is_1 x7.Reads x_2).bind fun r9 =>
  some r9

def edge_some_1__edge_read (k_0 : G.edge_read) (a_1 : G.api_Hist) (a_2 : Int) (a_3 : Int) : Option (Bool) :=
  (G.edge_read_is k_0 a_1 a_2 a_3).bind fun r3 =>
  some r3

def edge_writes (h_0 : G.api_Hist) (t_1 : Int) (key_2 : Int) : Option (Bool) :=
  (Sh.idx h_0.Txns t_1).bind fun x7 =>
  (G.slices_Contains_int_int x7.Writes key_2).bind fun r9 =>
  some r9

def edge_written_is_1__1 (c_0 : G.api_Choice) (a_1 : Int) (a_2 : Int) (a_3 : G.api_Hist) : Option (Bool) :=
  if decide (c_0.A = a_1) then
    if decide (c_0.B = a_2) then
      if decide (a_1 ≠ a_2) then
        (G.edge_writes a_3 a_1 c_0.Key).bind fun r17 =>
        if r17 then
          (G.edge_writes a_3 a_2 c_0.Key).bind fun r19 =>
          some r19
        else
          some false
      else
        some false
    else
      some false
  else
    some false

def slices_IndexFunc_edge_written_api_Choice__edge_written_is_1_j1 : Option (Int) :=
  some (-1)

def slices_IndexFunc_edge_written_api_Choice__edge_written_is_1_b1 (s_0 : List G.api_Choice) (f_1 : Int) (f_2 : Int) (f_3 : G.api_Hist) (v30 : Int) : Option ((Int) ⊕ (Int)) :=
  if decide (v30 < (Sh.len s_0)) then
    (Sh.idx s_0 v30).bind fun x38 =>
    (G.edge_written_is_1__1 x38 f_1 f_2 f_3).bind fun r40 =>
    if r40 then
      Sh.exit (some v30)
    else
      Sh.next (w64 (v30 + 1))
  else
    Sh.exit (G.slices_IndexFunc_edge_written_api_Choice__edge_written_is_1_j1)

def slices_IndexFunc_edge_written_api_Choice__edge_written_is_1 (s_0 : List G.api_Choice) (f_1 : Int) (f_2 : Int) (f_3 : G.api_Hist) : Option (Int) :=
  Sh.loop (fun (p : Int) => G.slices_IndexFunc_edge_written_api_Choice__edge_written_is_1_b1 s_0 f_1 f_2 f_3 p) 0

def slices_ContainsFunc_edge_written_api_Choice__edge_written_is_1 (s_0 : List G.api_Choice) (f_1 : Int) (f_2 : Int) (f_3 : G.api_Hist) : Option (Bool) :=
  (G.slices_IndexFunc_edge_written_api_Choice__edge_written_is_1 s_0 f_1 f_2 f_3).bind fun r3 =>
  some (decide ((0 : Int) ≤ r3))

def edge_written_is (l_0 : List G.api_Choice) (h_1 : G.api_Hist) (x_2 : Int) (y_3 : Int) : Option (Bool) :=
  (G.slices_ContainsFunc_edge_written_api_Choice__edge_written_is_1 l_0 x_2 y_3 h_1).bind fun r3 =>
  some r3

def edge_some_1__edge_written (k_0 : List G.api_Choice) (a_1 : G.api_Hist) (a_2 : Int) (a_3 : Int) : Option (Bool) :=
  (G.edge_written_is k_0 a_1 a_2 a_3).bind fun r3 =>
  some r3

def slices_IndexFunc_edge_kind_edge_kind__lit3_edge_some_1_j1 : Option (Int) :=
  some (-1)

def slices_IndexFunc_edge_kind_edge_kind__lit3_edge_some_1 (s_0 : G.edge_session) (s_1 : G.edge_read) (s_2 : List G.api_Choice) (f_3 : G.api_Hist) (f_4 : Int) (f_5 : Int) : Option (Int) :=
  (G.edge_some_1__edge_session s_0 f_3 f_4 f_5).bind fun r12 =>
  if r12 then
    some 0
  else
    (G.edge_some_1__edge_read s_1 f_3 f_4 f_5).bind fun r16 =>
    if r16 then
      some 1
    else
      (G.edge_some_1__edge_written s_2 f_3 f_4 f_5).bind fun r20 =>
      if r20 then
        some 2
      else
        G.slices_IndexFunc_edge_kind_edge_kind__lit3_edge_some_1_j1

def slices_ContainsFunc_edge_kind_edge_kind__lit3_edge_some_1 (s_0 : G.edge_session) (s_1 : G.edge_read) (s_2 : List G.api_Choice) (f_3 : G.api_Hist) (f_4 : Int) (f_5 : Int) : Option (Bool) :=
  (G.slices_IndexFunc_edge_kind_edge_kind__lit3_edge_some_1 s_0 s_1 s_2 f_3 f_4 f_5).bind fun r3 =>
  some (decide ((0 : Int) ≤ r3))

def edge_some__lit3_j1 (h_0 : G.api_Hist) (x_1 : Int) (y_2 : Int) (kinds_3 : G.edge_session) (kinds_4 : G.edge_read) (kinds_5 : List G.api_Choice) (v13 : Bool) : Option (Bool) :=
  if v13 then
    some false
  else
    (G.slices_ContainsFunc_edge_kind_edge_kind__lit3_edge_some_1 kinds_3 kinds_4 kinds_5 h_0 x_1 y_2).bind fun r16 =>
    some r16

def edge_some__lit3 (h_0 : G.api_Hist) (x_1 : Int) (y_2 : Int) (kinds_3 : G.edge_session) (kinds_4 : G.edge_read) (kinds_5 : List G.api_Choice) : Option (Bool) :=
  (G.hist_Right h_0).bind fun r17 =>
  if !r17 then
    G.edge_some__lit3_j1 h_0 x_1 y_2 kinds_3 kinds_4 kinds_5 true
  else
    if decide ((Sh.min x_1 y_2) < 0) then
      G.edge_some__lit3_j1 h_0 x_1 y_2 kinds_3 kinds_4 kinds_5 true
    else
      G.edge_some__lit3_j1 h_0 x_1 y_2 kinds_3 kinds_4 kinds_5 (decide ((Sh.len h_0.Txns) ≤ (Sh.max x_1 y_2)))

def edge_Direct (h_0 : G.api_Hist) (l_1 : List G.api_Choice) (x_2 : Int) (y_3 : Int) : Option (Bool) :=
  (G.edge_some__lit3 h_0 x_2 y_3 G.edge_session.mk G.edge_read.mk l_1).bind fun r3 =>
  some r3

def edge_over_is_1__1 (r_0 : G.api_Take) (a_1 : G.api_Hist) (a_2 : Int) (a_3 : List G.api_Choice) : Option (Bool) :=
  (G.edge_writes a_1 a_2 r_0.Key).bind fun r12 =>
  if r12 then
    if decide (r_0.From < 0) then
      some true
    else
      if decide (r_0.From ≠ a_2) then
        (G.slices_Contains_edge_over_api_Choice a_3 (G.api_Choice.mk r_0.Key r_0.From a_2)).bind fun r16 =>
        some r16
      else
        some false
  else
    some false

def slices_IndexFunc_api_Take_api_Take__edge_over_is_1_j1 : Option (Int) :=
  some (-1)

def slices_IndexFunc_api_Take_api_Take__edge_over_is_1_b1 (s_0 : List G.api_Take) (f_1 : G.api_Hist) (f_2 : Int) (f_3 : List G.api_Choice) (v30 : Int) : Option ((Int) ⊕ (Int)) :=
  if decide (v30 < (Sh.len s_0)) then
    (Sh.idx s_0 v30).bind fun x38 =>
    (G.edge_over_is_1__1 x38 f_1 f_2 f_3).bind fun r40 =>
    if r40 then
      Sh.exit (some v30)
    else
      Sh.next (w64 (v30 + 1))
  else
    Sh.exit (G.slices_IndexFunc_api_Take_api_Take__edge_over_is_1_j1)

def slices_IndexFunc_api_Take_api_Take__edge_over_is_1 (s_0 : List G.api_Take) (f_1 : G.api_Hist) (f_2 : Int) (f_3 : List G.api_Choice) : Option (Int) :=
  Sh.loop (fun (p : Int) => G.slices_IndexFunc_api_Take_api_Take__edge_over_is_1_b1 s_0 f_1 f_2 f_3 p) 0

def slices_ContainsFunc_api_Take_api_Take__edge_over_is_1 (s_0 : List G.api_Take) (f_1 : G.api_Hist) (f_2 : Int) (f_3 : List G.api_Choice) : Option (Bool) :=
  (G.slices_IndexFunc_api_Take_api_Take__edge_over_is_1 s_0 f_1 f_2 f_3).bind fun r3 =>
  some (decide ((0 : Int) ≤ r3))

def edge_over_is (l_0 : List G.api_Choice) (h_1 : G.api_Hist) (x_2 : Int) (y_3 : Int) : Option (Bool) :=
  if decide (x_2 ≠ y_3) then
    (Sh.idx h_1.Txns x_2).bind fun x11 =>
    (G.slices_ContainsFunc_api_Take_api_Take__edge_over_is_1 x11.Reads h_1 y_3 l_0).bind fun r13 =>
    some r13
  else
    some false

def edge_some_1__edge_over (k_0 : List G.api_Choice) (a_1 : G.api_Hist) (a_2 : Int) (a_3 : Int) : Option (Bool) :=
  (G.edge_over_is k_0 a_1 a_2 a_3).bind fun r3 =>
  some r3

def slices_IndexFunc_edge_kind_edge_kind__lit1_edge_some_1_j1 : Option (Int) :=
  some (-1)

def slices_IndexFunc_edge_kind_edge_kind__lit1_edge_some_1 (s_0 : List G.api_Choice) (f_1 : G.api_Hist) (f_2 : Int) (f_3 : Int) : Option (Int) :=
  (G.edge_some_1__edge_over s_0 f_1 f_2 f_3).bind fun r6 =>
  if r6 then
    some 0
  else
    G.slices_IndexFunc_edge_kind_edge_kind__lit1_edge_some_1_j1

def slices_ContainsFunc_edge_kind_edge_kind__lit1_edge_some_1 (s_0 : List G.api_Choice) (f_1 : G.api_Hist) (f_2 : Int) (f_3 : Int) : Option (Bool) :=
  (G.slices_IndexFunc_edge_kind_edge_kind__lit1_edge_some_1 s_0 f_1 f_2 f_3).bind fun r3 =>
  some (decide ((0 : Int) ≤ r3))

def edge_some__lit1_j1 (h_0 : G.api_Hist) (x_1 : Int) (y_2 : Int) (kinds_3 : List G.api_Choice) (v13 : Bool) : Option (Bool) :=
  if v13 then
    some false
  else
    (G.slices_ContainsFunc_edge_kind_edge_kind__lit1_edge_some_1 kinds_3 h_0 x_1 y_2).bind fun r16 =>
    some r16

def edge_some__lit1 (h_0 : G.api_Hist) (x_1 : Int) (y_2 : Int) (kinds_3 : List G.api_Choice) : Option (Bool) :=
  (G.hist_Right h_0).bind fun r17 =>
  if !r17 then
    G.edge_some__lit1_j1 h_0 x_1 y_2 kinds_3 true
  else
    if decide ((Sh.min x_1 y_2) < 0) then
      G.edge_some__lit1_j1 h_0 x_1 y_2 kinds_3 true
    else
      G.edge_some__lit1_j1 h_0 x_1 y_2 kinds_3 (decide ((Sh.len h_0.Txns) ≤ (Sh.max x_1 y_2)))

def edge_Anti (h_0 : G.api_Hist) (l_1 : List G.api_Choice) (x_2 : Int) (y_3 : Int) : Option (Bool) :=
  (G.edge_some__lit1 h_0 x_2 y_3 l_1).bind fun r3 =>
  some r3

def edge_Is_j1 : Option (Bool) :=
  some false

def edge_Is_j2 (v62 : Int) (v73 : Bool) : Option ((Int) ⊕ (Bool)) :=
  if v73 then
    Sh.exit (some true)
  else
    Sh.next (w64 (v62 + 1))

def edge_Is_b1 (h_0 : G.api_Hist) (l_2 : List G.api_Choice) (x_3 : Int) (y_4 : Int) (v62 : Int) : Option ((Int) ⊕ (Bool)) :=
  if decide (v62 < (Sh.len h_0.Txns)) then
    (G.edge_Direct h_0 l_2 x_3 v62).bind fun r75 =>
    if r75 then
      if decide (v62 = y_4) then
        G.edge_Is_j2 v62 true
      else
        (G.edge_Anti h_0 l_2 v62 y_4).bind fun r78 =>
        G.edge_Is_j2 v62 r78
    else
      G.edge_Is_j2 v62 false
  else
    Sh.exit (G.edge_Is_j1)

def edge_Is (h_0 : G.api_Hist) (level_1 : Int) (l_2 : List G.api_Choice) (x_3 : Int) (y_4 : Int) : Option (Bool) :=
  if decide (level_1 = 0) then
    (G.edge_Direct h_0 l_2 x_3 y_4).bind fun r47 =>
    if r47 then
      some true
    else
      (G.edge_Anti h_0 l_2 x_3 y_4).bind fun r49 =>
      some r49
  else
    if decide (level_1 = 1) then
      Sh.loop (fun (p : Int) => G.edge_Is_b1 h_0 l_2 x_3 y_4 p) 0
    else
      G.edge_Is_j1

def edge_Cycle_j1 (row_3 : List Int) : Option (Bool) :=
  some (decide ((0 : Int) < (Sh.len row_3)))

def edge_Cycle_j2 (v86 : Int) (v109 : Bool) : Option ((Int) ⊕ (Bool)) :=
  if v109 then
    Sh.exit (some false)
  else
    Sh.next (w64 (v86 + 1))

def edge_Cycle_b1 (h_0 : G.api_Hist) (level_1 : Int) (l_2 : List G.api_Choice) (row_3 : List Int) (v86 : Int) : Option ((Int) ⊕ (Bool)) :=
  if decide (v86 < (Sh.len row_3)) then
    (Sh.idx row_3 v86).bind fun x100 =>
    (Sh.sub row_3 0 v86).bind fun part111 =>
    (G.slices_Contains_int_int part111 x100).bind fun r112 =>
    if r112 then
      G.edge_Cycle_j2 v86 true
    else
      (Sh.rem (w64 (v86 + 1)) (Sh.len row_3)).bind fun q114 =>
      (Sh.idx row_3 q114).bind fun x115 =>
      (G.edge_Is h_0 level_1 l_2 x100 x115).bind fun r117 =>
      G.edge_Cycle_j2 v86 (!r117)
  else
    Sh.exit (G.edge_Cycle_j1 row_3)

def edge_Cycle (h_0 : G.api_Hist) (level_1 : Int) (l_2 : List G.api_Choice) (row_3 : List Int) : Option (Bool) :=
  Sh.loop (fun (p : Int) => G.edge_Cycle_b1 h_0 level_1 l_2 row_3 p) 0
end G
end

section
/- What the functions of a package compute, as plain functions. -/
open Go Go.Av
set_option linter.unusedVariables false
namespace G
def fact_may (h_0 : G.api_Hist) (level_1 : Int) : Option (Bool) :=
  (G.hist_Right h_0).bind fun r8 =>
  if r8 then
    if decide (level_1 = 0) then
      some true
    else
      some (decide (level_1 = 1))
  else
    some false

def fact_choice_1__1 (t_0 : Int) (a_1 : G.api_Hist) (a_2 : G.api_Choice) : Option (Bool) :=
  if decide ((0 : Int) ≤ t_0) then
    if decide (t_0 < (Sh.len a_1.Txns)) then
      (Sh.idx a_1.Txns t_0).bind fun x14 =>
      (G.slices_Contains_int_int x14.Writes a_2.Key).bind fun r16 =>
      some r16
    else
      some false
  else
    some false

def fact_choice (h_0 : G.api_Hist) (c_1 : G.api_Choice) : Option (Bool) :=
  if decide (c_1.A ≠ c_1.B) then
    (G.fact_choice_1__1 c_1.A h_0 c_1).bind fun r11 =>
    if r11 then
      (G.fact_choice_1__1 c_1.B h_0 c_1).bind fun r13 =>
      some r13
    else
      some false
  else
    some false

def fact_asked_axiom (a_0 : G.fact_asked) : Option (Bool) :=
  if decide (a_0.f.I = 0) then
    if decide (a_0.f.J = 0) then
      (G.edge_Direct a_0.h [] a_0.f.C.A a_0.f.C.B).bind fun r10 =>
      some r10
    else
      some false
  else
    some false

def fact_asked_joined_j1 (a_0 : G.fact_asked) (v13 : Bool) : Option (Bool) :=
  if v13 then
    some false
  else
    (Sh.idx a_0.l a_0.f.I).bind fun x19 =>
    (Sh.idx a_0.l a_0.f.J).bind fun x21 =>
    if decide (x19.C.B = x21.C.A) then
      if decide (x19.C.Key = x21.C.Key) then
        Sh.lett (decide (a_0.f.C = (G.api_Choice.mk x19.C.Key x19.C.A x21.C.B))) fun x29 =>
        some x29
      else
        some false
    else
      some false

def fact_asked_joined (a_0 : G.fact_asked) : Option (Bool) :=
  if decide ((Sh.min a_0.f.I a_0.f.J) < 0) then
    G.fact_asked_joined_j1 a_0 true
  else
    G.fact_asked_joined_j1 a_0 (decide ((Sh.len a_0.l) ≤ (Sh.max a_0.f.I a_0.f.J)))

def fact_asked_seen_j1 (a_0 : G.fact_asked) (v18 : Bool) : Option (Bool) :=
  if v18 then
    some false
  else
    (Sh.idx a_0.h.Txns a_0.f.I).bind fun x23 =>
    (G.slices_Contains_api_Take_api_Take x23.Reads (G.api_Take.mk a_0.f.C.Key a_0.f.C.B)).bind fun r25 =>
    if r25 then
      (G.edge_Direct a_0.h [] a_0.f.C.A a_0.f.I).bind fun r29 =>
      some r29
    else
      some false

def fact_asked_seen (a_0 : G.fact_asked) : Option (Bool) :=
  if decide (a_0.f.J ≠ 0) then
    G.fact_asked_seen_j1 a_0 true
  else
    if decide (a_0.f.I = a_0.f.C.A) then
      G.fact_asked_seen_j1 a_0 true
    else
      if decide (a_0.f.I < 0) then
        G.fact_asked_seen_j1 a_0 true
      else
        G.fact_asked_seen_j1 a_0 (decide ((Sh.len a_0.h.Txns) ≤ a_0.f.I))

def fact_Choices_j1 (out27 : List G.api_Choice) : Option ((List G.api_Choice)) :=
  some out27

def fact_Choices_b1 (l_0 : List G.fact_Fact) (out36 : List G.api_Choice) (v37 : Int) : Option (((List G.api_Choice) × Int) ⊕ ((List G.api_Choice))) :=
  if decide (v37 < (Sh.len l_0)) then
    (Sh.idx l_0 v37).bind fun x44 =>
    (Sh.app 24 out36 ([x44.C] : List G.api_Choice)).bind fun out46 =>
    Sh.next (out46, w64 (v37 + 1))
  else
    Sh.exit (G.fact_Choices_j1 out36)

def fact_Choices (l_0 : List G.fact_Fact) : Option ((List G.api_Choice)) :=
  Sh.loop (fun (p : (List G.api_Choice) × Int) => G.fact_Choices_b1 l_0 p.1 p.2) ([], 0)

def fact_asked_forced (a_0 : G.fact_asked) : Option (Bool) :=
  (G.fact_Choices a_0.l).bind fun r9 =>
  (Sh.app 24 r9 ([(G.api_Choice.mk a_0.f.C.Key a_0.f.C.B a_0.f.C.A)] : List G.api_Choice)).bind fun l10 =>
  if decide (a_0.f.I = 0) then
    if decide (a_0.f.J = 0) then
      (G.edge_Cycle a_0.h a_0.level l10 a_0.f.Cycle).bind fun r16 =>
      some r16
    else
      some false
  else
    some false

def fact_reasons : Option (Unit) :=
  some ()

def fact_Holds_j2 : Option (Bool) :=
  some false

def fact_Holds_j1 (h_0 : G.api_Hist) (level_1 : Int) (l_2 : List G.fact_Fact) (f_3 : G.fact_Fact) (v23 : Bool) : Option (Bool) :=
  if v23 then
    some false
  else
    (G.fact_reasons).bind fun r31 =>
    if decide ((1 : Int) = f_3.Kind) then
      (G.fact_asked_axiom (G.fact_asked.mk (G.api_Hist.mk h_0.Txns) level_1 l_2 (G.fact_Fact.mk (G.api_Choice.mk f_3.C.Key f_3.C.A f_3.C.B) f_3.Kind f_3.I f_3.J f_3.Cycle))).bind fun r39 =>
      some r39
    else
      if decide ((2 : Int) = f_3.Kind) then
        (G.fact_asked_joined (G.fact_asked.mk (G.api_Hist.mk h_0.Txns) level_1 l_2 (G.fact_Fact.mk (G.api_Choice.mk f_3.C.Key f_3.C.A f_3.C.B) f_3.Kind f_3.I f_3.J f_3.Cycle))).bind fun r43 =>
        some r43
      else
        if decide ((3 : Int) = f_3.Kind) then
          (G.fact_asked_seen (G.fact_asked.mk (G.api_Hist.mk h_0.Txns) level_1 l_2 (G.fact_Fact.mk (G.api_Choice.mk f_3.C.Key f_3.C.A f_3.C.B) f_3.Kind f_3.I f_3.J f_3.Cycle))).bind fun r47 =>
          some r47
        else
          if decide ((4 : Int) = f_3.Kind) then
            (G.fact_asked_forced (G.fact_asked.mk (G.api_Hist.mk h_0.Txns) level_1 l_2 (G.fact_Fact.mk (G.api_Choice.mk f_3.C.Key f_3.C.A f_3.C.B) f_3.Kind f_3.I f_3.J f_3.Cycle))).bind fun r51 =>
            some r51
          else
            G.fact_Holds_j2

def fact_Holds (h_0 : G.api_Hist) (level_1 : Int) (l_2 : List G.fact_Fact) (f_3 : G.fact_Fact) : Option (Bool) :=
  (G.fact_may h_0 level_1).bind fun r52 =>
  if !r52 then
    G.fact_Holds_j1 h_0 level_1 l_2 f_3 true
  else
    (G.fact_choice h_0 f_3.C).bind fun r54 =>
    if !r54 then
      G.fact_Holds_j1 h_0 level_1 l_2 f_3 true
    else
      if decide (f_3.Kind ≠ 4) then
        G.fact_Holds_j1 h_0 level_1 l_2 f_3 (decide ((0 : Int) < (Sh.len f_3.Cycle)))
      else
        G.fact_Holds_j1 h_0 level_1 l_2 f_3 false
end G
end

section
/- What the functions of a package compute, as plain functions. -/
open Go Go.Av
set_option linter.unusedVariables false
namespace G
def inquestref23_Same_j1 : Option (Bool) :=
  some true

def inquestref23_Same_j2 (i191 : Int) : Option ((Int) ⊕ (Bool)) :=
  Sh.next (w64 (i191 + 1))

def inquestref23_Same_b2 (i191 : Int) (x218 : G.inquestref22_F) (x222 : G.inquestref22_F) (k244 : Int) : Option ((Int) ⊕ ((Int) ⊕ (Bool))) :=
  if decide (k244 < (Sh.len x218.Cycle)) then
    (Sh.idx x218.Cycle k244).bind fun x254 =>
    (Sh.idx x222.Cycle k244).bind fun x256 =>
    if decide (x254 ≠ x256) then
      Sh.exit (Sh.exit (some false))
    else
      Sh.next (w64 (k244 + 1))
  else
    Sh.exit (G.inquestref23_Same_j2 i191)

def inquestref23_Same_j3 (i191 : Int) (x218 : G.inquestref22_F) (x222 : G.inquestref22_F) (v233 : Bool) : Option ((Int) ⊕ (Bool)) :=
  if v233 then
    Sh.exit (some false)
  else
    Sh.loop (fun (p : Int) => G.inquestref23_Same_b2 i191 x218 x222 p) 0

def inquestref23_Same_b1 (a_0 : List G.inquestref22_F) (b_1 : List G.inquestref22_F) (i191 : Int) : Option ((Int) ⊕ (Bool)) :=
  if decide (i191 < (Sh.len a_0)) then
    (Sh.idx a_0 i191).bind fun x218 =>
    (Sh.idx b_1 i191).bind fun x222 =>
    if !decide (x218.C = x222.C) then
      G.inquestref23_Same_j3 i191 x218 x222 true
    else
      if decide (x218.Kind ≠ x222.Kind) then
        G.inquestref23_Same_j3 i191 x218 x222 true
      else
        if decide (x218.I ≠ x222.I) then
          G.inquestref23_Same_j3 i191 x218 x222 true
        else
          if decide (x218.J ≠ x222.J) then
            G.inquestref23_Same_j3 i191 x218 x222 true
          else
            G.inquestref23_Same_j3 i191 x218 x222 (decide ((Sh.len x218.Cycle) ≠ (Sh.len x222.Cycle)))
  else
    Sh.exit (G.inquestref23_Same_j1)

def inquestref23_Same (a_0 : List G.inquestref22_F) (b_1 : List G.inquestref22_F) : Option (Bool) :=
  if decide ((Sh.len a_0) ≠ (Sh.len b_1)) then
    some false
  else
    Sh.loop (fun (p : Int) => G.inquestref23_Same_b1 a_0 b_1 p) 0
end G
end

section
/- What the functions of a package compute, as plain functions. -/
open Go Go.Av
set_option linter.unusedVariables false
namespace G
def store_copied_j1 (v39 : List G.api_Txn) : Option (G.api_Hist) :=
  some (G.api_Hist.mk v39)

def store_copied_b1 (h_0 : G.api_Hist) (outTxns52 : List G.api_Txn) (v53 : Int) : Option (((List G.api_Txn) × Int) ⊕ (G.api_Hist)) :=
  if decide (v53 < (Sh.len h_0.Txns)) then
    (Sh.idx h_0.Txns v53).bind fun x62 =>
    (G.slices_Clone_int_int x62.Writes).bind fun r64 =>
    (G.slices_Clone_api_Take_api_Take x62.Reads).bind fun r65 =>
    (Sh.app 56 outTxns52 ([(G.api_Txn.mk x62.Session r64 r65)] : List G.api_Txn)).bind fun l66 =>
    Sh.next (l66, w64 (v53 + 1))
  else
    Sh.exit (G.store_copied_j1 outTxns52)

def store_copied (h_0 : G.api_Hist) : Option (G.api_Hist) :=
  Sh.loop (fun (p : (List G.api_Txn) × Int) => G.store_copied_b1 h_0 p.1 p.2) ([], 0)

def store_New_j1 (h_0 : G.api_Hist) (v14 : Bool) : Option ((Unit) ⊕ ((List G.api_Txn))) :=
  if v14 then
    some (Sum.inl ())
  else
    (G.store_copied h_0).bind fun r17 =>
    some (Sum.inr r17.Txns)

def store_New (h_0 : G.api_Hist) (level_1 : Int) : Option ((Unit) ⊕ ((List G.api_Txn))) :=
  (G.hist_Right h_0).bind fun r18 =>
  if !r18 then
    G.store_New_j1 h_0 true
  else
    if decide (level_1 ≠ 0) then
      G.store_New_j1 h_0 (decide (level_1 ≠ 1))
    else
      G.store_New_j1 h_0 false
end G
end

section
/- What the functions of a package compute, as plain functions. -/
open Go Go.Av
set_option linter.unusedVariables false
namespace G
def store_facts_put__1 (x_0 : G.fact_Fact) (chTxns_1 : List G.api_Txn) (clevel_2 : Int) (l_3 : List G.fact_Fact) (l_4 : List (G.api_Choice × Bool)) : Option ((List G.fact_Fact)) :=
  (G.slices_Clone_int_int x_0.Cycle).bind fun r5 =>
  (Sh.app 72 l_3 ([(G.fact_Fact.mk (G.api_Choice.mk x_0.C.Key x_0.C.A x_0.C.B) x_0.Kind x_0.I x_0.J r5)] : List G.fact_Fact)).bind fun l7 =>
  some l7

def store_Store_Learn__1 (f_0 : G.fact_Fact) (chTxns_1 : List G.api_Txn) (clevel_2 : Int) (l_3 : List G.fact_Fact) (l_4 : List (G.api_Choice × Bool)) : Option ((List G.fact_Fact) × (List (G.api_Choice × Bool)) × Int) :=
  (G.fact_Holds (G.api_Hist.mk chTxns_1) clevel_2 l_3 f_0).bind fun r8 =>
  if !r8 then
    some (l_3, l_4, 17)
  else
    if Sh.mget f_0.C l_4 then
      some (l_3, l_4, 8)
    else
      (G.store_facts_put__1 f_0 chTxns_1 clevel_2 l_3 l_4).bind fun r12 =>
      some (r12, Sh.mput (G.api_Choice.mk f_0.C.Key f_0.C.A f_0.C.B) true l_4, 0)

def store_facts_Len__1 (chTxns_0 : List G.api_Txn) (clevel_1 : Int) (l_2 : List G.fact_Fact) (l_3 : List (G.api_Choice × Bool)) : Option (Unit) :=
  some ()

def store_Store_Len__1 (chTxns_0 : List G.api_Txn) (clevel_1 : Int) (l_2 : List G.fact_Fact) (l_3 : List (G.api_Choice × Bool)) : Option (Unit) :=
  (G.store_facts_Len__1 chTxns_0 clevel_1 l_2 l_3).bind fun r3 =>
  some ()

def store_Store_Decides__1 (c_0 : G.api_Choice) (chTxns_1 : List G.api_Txn) (clevel_2 : Int) (l_3 : List G.fact_Fact) (l_4 : List (G.api_Choice × Bool)) : Option (Int) :=
  if Sh.mget c_0 l_4 then
    some 1
  else
    if Sh.mget (G.api_Choice.mk c_0.Key c_0.B c_0.A) l_4 then
      some (-1)
    else
      some 0

def inquestlaw23_awake : Option (Bool) :=
  (G.store_New (G.api_Hist.mk ([(G.api_Txn.mk 0 [2] []), (G.api_Txn.mk 0 [2] [])] : List G.api_Txn)) 0).bind fun r22 =>
  Sh.either r22 (fun r22 =>
    (G.store_New (G.api_Hist.mk ([(G.api_Txn.mk 0 [2] []), (G.api_Txn.mk 0 [2] [])] : List G.api_Txn)) 2).bind fun r24 =>
    Sh.either r24 (fun r24 =>
      some false
    ) (fun r24 =>
      some false
    )
  ) (fun r22 =>
    (G.store_New (G.api_Hist.mk ([(G.api_Txn.mk 0 [2] []), (G.api_Txn.mk 0 [2] [])] : List G.api_Txn)) 2).bind fun r26 =>
    Sh.either r26 (fun r26 =>
      (G.store_Store_Learn__1 (G.fact_Fact.mk (G.api_Choice.mk 2 0 1) 1 0 0 []) r22 0 [] []).bind fun r28 =>
      (G.store_Store_Learn__1 (G.fact_Fact.mk (G.api_Choice.mk 2 0 1) 1 0 0 []) r22 0 r28.1 r28.2.1).bind fun r30 =>
      (G.store_Store_Learn__1 (G.fact_Fact.mk (G.api_Choice.mk 2 1 0) 1 0 0 []) r22 0 r30.1 r30.2.1).bind fun r32 =>
      if decide (r28.2.2 = 0) then
        if decide (r30.2.2 = 8) then
          if decide (r32.2.2 = 17) then
            (G.store_Store_Len__1 r22 0 r32.1 r32.2.1).bind fun r46 =>
            if decide ((Sh.len r32.1) = 1) then
              (G.store_Store_Decides__1 (G.api_Choice.mk 2 0 1) r22 0 r32.1 r32.2.1).bind fun r48 =>
              if decide (r48 = 1) then
                (G.store_Store_Decides__1 (G.api_Choice.mk 2 1 0) r22 0 r32.1 r32.2.1).bind fun r50 =>
                if decide (r50 = (-1)) then
                  (G.store_Store_Decides__1 (G.api_Choice.mk 3 1 0) r22 0 r32.1 r32.2.1).bind fun r52 =>
                  some (decide (r52 = 0))
                else
                  some false
              else
                some false
            else
              some false
          else
            some false
        else
          some false
      else
        some false
    ) (fun r26 =>
      (G.store_Store_Learn__1 (G.fact_Fact.mk (G.api_Choice.mk 2 0 1) 1 0 0 []) r22 0 [] []).bind fun r54 =>
      (G.store_Store_Learn__1 (G.fact_Fact.mk (G.api_Choice.mk 2 0 1) 1 0 0 []) r22 0 r54.1 r54.2.1).bind fun r56 =>
      (G.store_Store_Learn__1 (G.fact_Fact.mk (G.api_Choice.mk 2 1 0) 1 0 0 []) r22 0 r56.1 r56.2.1).bind fun r58 =>
      some false
    )
  )

def inquestlaw23_few_j1 : Option (Bool) :=
  some true

def inquestlaw23_few_b1 (l_0 : List G.fact_Fact) (i23 : Int) : Option ((Int) ⊕ (Bool)) :=
  if decide (i23 < (Sh.len l_0)) then
    (Sh.idx l_0 i23).bind fun x29 =>
    if decide ((40 : Int) < (Sh.len x29.Cycle)) then
      Sh.exit (some false)
    else
      Sh.next (w64 (i23 + 1))
  else
    Sh.exit (G.inquestlaw23_few_j1)

def inquestlaw23_few (l_0 : List G.fact_Fact) : Option (Bool) :=
  if decide ((24 : Int) < (Sh.len l_0)) then
    some false
  else
    Sh.loop (fun (p : Int) => G.inquestlaw23_few_b1 l_0 p) 0

def inquestlaw23_one (f_0 : G.fact_Fact) : Option (G.inquestref22_F) :=
  some (G.inquestref22_F.mk (G.api_Choice.mk f_0.C.Key f_0.C.A f_0.C.B) f_0.Kind f_0.I f_0.J f_0.Cycle)

def inquestlaw23_Plain_j1 (out33 : List G.inquestref22_F) : Option ((List G.inquestref22_F)) :=
  some out33

def inquestlaw23_Plain_b1 (l_0 : List G.fact_Fact) (out44 : List G.inquestref22_F) (i45 : Int) : Option (((List G.inquestref22_F) × Int) ⊕ ((List G.inquestref22_F))) :=
  if decide (i45 < (Sh.len l_0)) then
    (Sh.idx l_0 i45).bind fun x51 =>
    (G.inquestlaw23_one x51).bind fun r53 =>
    (Sh.app 72 out44 ([r53] : List G.inquestref22_F)).bind fun out54 =>
    Sh.next (out54, w64 (i45 + 1))
  else
    Sh.exit (G.inquestlaw23_Plain_j1 out44)

def inquestlaw23_Plain (l_0 : List G.fact_Fact) : Option ((List G.inquestref22_F)) :=
  Sh.loop (fun (p : (List G.inquestref22_F) × Int) => G.inquestlaw23_Plain_b1 l_0 p.1 p.2) ([], 0)

def store_Store_Facts__1_j1 (out43 : List G.fact_Fact) : Option ((List G.fact_Fact)) :=
  some out43

def store_Store_Facts__1_b1 (r23 : List G.fact_Fact) (out56 : List G.fact_Fact) (v57 : Int) : Option (((List G.fact_Fact) × Int) ⊕ ((List G.fact_Fact))) :=
  if decide (v57 < (Sh.len r23)) then
    (Sh.idx out56 v57).bind fun x64 =>
    (G.slices_Clone_int_int x64.Cycle).bind fun r66 =>
    (Sh.idx out56 v57).bind fun x67 =>
    Sh.next (Sh.set out56 v57 (G.fact_Fact.mk (G.api_Choice.mk x67.C.Key x67.C.A x67.C.B) x67.Kind x67.I x67.J r66), w64 (v57 + 1))
  else
    Sh.exit (G.store_Store_Facts__1_j1 out56)

def store_Store_Facts__1 (chTxns_0 : List G.api_Txn) (clevel_1 : Int) (l_2 : List G.fact_Fact) (l_3 : List (G.api_Choice × Bool)) : Option ((List G.fact_Fact)) :=
  (G.slices_Clone_fact_Fact_fact_Fact l_2).bind fun r23 =>
  Sh.loop (fun (p : (List G.fact_Fact) × Int) => G.store_Store_Facts__1_b1 r23 p.1 p.2) (r23, 0)

def store_facts_put__2 (xCKey_0 : Int) (xCA_1 : Int) (xCB_2 : Int) (xKind_3 : Int) (xI_4 : Int) (xJ_5 : Int) (chTxns_6 : List G.api_Txn) (clevel_7 : Int) (l_8 : List Int) (l_9 : List G.fact_Fact) (l_10 : List (G.api_Choice × Bool)) : Option ((List G.fact_Fact)) :=
  (G.slices_Clone_int_int l_8).bind fun r5 =>
  (Sh.app 72 l_9 ([(G.fact_Fact.mk (G.api_Choice.mk xCKey_0 xCA_1 xCB_2) xKind_3 xI_4 xJ_5 r5)] : List G.fact_Fact)).bind fun l7 =>
  some l7

def store_Store_Learn__2 (fCKey_0 : Int) (fCA_1 : Int) (fCB_2 : Int) (fKind_3 : Int) (fI_4 : Int) (fJ_5 : Int) (chTxns_6 : List G.api_Txn) (clevel_7 : Int) (l_8 : List Int) (l_9 : List G.fact_Fact) (l_10 : List (G.api_Choice × Bool)) : Option ((List G.fact_Fact) × (List (G.api_Choice × Bool)) × Int) :=
  (G.fact_Holds (G.api_Hist.mk chTxns_6) clevel_7 l_9 (G.fact_Fact.mk (G.api_Choice.mk fCKey_0 fCA_1 fCB_2) fKind_3 fI_4 fJ_5 l_8)).bind fun r8 =>
  if !r8 then
    some (l_9, l_10, 17)
  else
    if Sh.mget (G.api_Choice.mk fCKey_0 fCA_1 fCB_2) l_10 then
      some (l_9, l_10, 8)
    else
      (G.store_facts_put__2 fCKey_0 fCA_1 fCB_2 fKind_3 fI_4 fJ_5 chTxns_6 clevel_7 l_8 l_9 l_10).bind fun r12 =>
      some (r12, Sh.mput (G.api_Choice.mk fCKey_0 fCA_1 fCB_2) true l_10, 0)

def inquestlaw23_StoreAgain_j4 (level_1 : Int) (r160 : (List G.api_Txn)) (r164 : (List G.api_Txn)) (v180 : List G.fact_Fact) (v181 : List (G.api_Choice × Bool)) (r187 : (List G.inquestref22_F)) (v230 : List G.fact_Fact) (v231 : List (G.api_Choice × Bool)) : Option (Bool) :=
  (G.store_Store_Facts__1 r164 level_1 v230 v231).bind fun r309 =>
  (G.inquestlaw23_Plain r309).bind fun r310 =>
  (G.inquestref23_Same r310 r187).bind fun r311 =>
  if r311 then
    (G.store_Store_Facts__1 r160 level_1 v180 v181).bind fun r313 =>
    (G.inquestlaw23_Plain r313).bind fun r314 =>
    (G.inquestref23_Same r314 r187).bind fun r315 =>
    some r315
  else
    some false

def inquestlaw23_StoreAgain_j5 (i363 : Int) (m387 : List G.fact_Fact) : Option (((List G.fact_Fact) × Int) ⊕ (Bool)) :=
  Sh.next (m387, w64 (i363 + 1))

def inquestlaw23_StoreAgain_j6 (m362 : List G.fact_Fact) (i363 : Int) : Option (((List G.fact_Fact) × Int) ⊕ (Bool)) :=
  (Sh.idx m362 i363).bind fun x408 =>
  G.inquestlaw23_StoreAgain_j5 i363 (Sh.set m362 i363 (G.fact_Fact.mk (G.api_Choice.mk 0 0 0) x408.Kind x408.I x408.J x408.Cycle))

def inquestlaw23_StoreAgain_b2 (m362 : List G.fact_Fact) (i363 : Int) (k423 : Int) : Option ((Int) ⊕ (((List G.fact_Fact) × Int) ⊕ (Bool))) :=
  (Sh.idx m362 i363).bind fun x428 =>
  if decide (k423 < (Sh.len x428.Cycle)) then
    (Sh.idx m362 i363).bind fun x435 =>
    (Sh.idx x435.Cycle k423).bind fun x437 =>
    Sh.next (w64 (k423 + 1))
  else
    Sh.exit (G.inquestlaw23_StoreAgain_j6 m362 i363)

def inquestlaw23_StoreAgain_b1 (level_1 : Int) (r160 : (List G.api_Txn)) (r164 : (List G.api_Txn)) (v180 : List G.fact_Fact) (v181 : List (G.api_Choice × Bool)) (r187 : (List G.inquestref22_F)) (v230 : List G.fact_Fact) (v231 : List (G.api_Choice × Bool)) (m362 : List G.fact_Fact) (i363 : Int) : Option (((List G.fact_Fact) × Int) ⊕ (Bool)) :=
  if decide (i363 < (Sh.len m362)) then
    Sh.loop (fun (p : Int) => G.inquestlaw23_StoreAgain_b2 m362 i363 p) 0
  else
    Sh.exit (G.inquestlaw23_StoreAgain_j4 level_1 r160 r164 v180 v181 r187 v230 v231)

def inquestlaw23_StoreAgain_j3 (level_1 : Int) (r160 : (List G.api_Txn)) (r164 : (List G.api_Txn)) (v180 : List G.fact_Fact) (v181 : List (G.api_Choice × Bool)) (r183 : (List G.fact_Fact)) (r187 : (List G.inquestref22_F)) (v230 : List G.fact_Fact) (v231 : List (G.api_Choice × Bool)) : Option (Bool) :=
  Sh.loop (fun (p : (List G.fact_Fact) × Int) => G.inquestlaw23_StoreAgain_b1 level_1 r160 r164 v180 v181 r187 v230 v231 p.1 p.2) (r183, 0)

def inquestlaw23_StoreAgain_j7 (i468 : Int) (r487 : (List G.fact_Fact) × (List (G.api_Choice × Bool)) × Int) (v496 : Bool) : Option (((List G.fact_Fact) × (List (G.api_Choice × Bool)) × Int) ⊕ (Bool)) :=
  if v496 then
    Sh.exit (some false)
  else
    Sh.next (r487.1, r487.2.1, w64 (i468 + 1))

def inquestlaw23_StoreAgain_b3 (level_1 : Int) (r160 : (List G.api_Txn)) (r164 : (List G.api_Txn)) (v180 : List G.fact_Fact) (v181 : List (G.api_Choice × Bool)) (r183 : (List G.fact_Fact)) (r187 : (List G.inquestref22_F)) (tfactsall466 : List G.fact_Fact) (tfactsset467 : List (G.api_Choice × Bool)) (i468 : Int) : Option (((List G.fact_Fact) × (List (G.api_Choice × Bool)) × Int) ⊕ (Bool)) :=
  if decide (i468 < (Sh.len r183)) then
    (Sh.idx r183 i468).bind fun x485 =>
    (G.store_Store_Learn__2 x485.C.Key x485.C.A x485.C.B x485.Kind x485.I x485.J r164 level_1 x485.Cycle tfactsall466 tfactsset467).bind fun r487 =>
    if decide (r487.2.2 ≠ 0) then
      G.inquestlaw23_StoreAgain_j7 i468 r487 true
    else
      (Sh.idx r183 i468).bind fun x499 =>
      (G.store_Store_Decides__1 x499.C r160 level_1 v180 v181).bind fun r501 =>
      if decide (r501 ≠ 1) then
        G.inquestlaw23_StoreAgain_j7 i468 r487 true
      else
        (Sh.idx r183 i468).bind fun x503 =>
        (G.store_Store_Decides__1 x503.C r164 level_1 r487.1 r487.2.1).bind fun r505 =>
        G.inquestlaw23_StoreAgain_j7 i468 r487 (decide (r505 ≠ 1))
  else
    Sh.exit (G.inquestlaw23_StoreAgain_j3 level_1 r160 r164 v180 v181 r183 r187 tfactsall466 tfactsset467)

def inquestlaw23_StoreAgain_j2 (level_1 : Int) (r160 : (List G.api_Txn)) (r164 : (List G.api_Txn)) (v180 : List G.fact_Fact) (v181 : List (G.api_Choice × Bool)) : Option (Bool) :=
  (G.store_Store_Facts__1 r160 level_1 v180 v181).bind fun r183 =>
  (G.store_Store_Facts__1 r160 level_1 v180 v181).bind fun r186 =>
  (G.inquestlaw23_Plain r186).bind fun r187 =>
  Sh.loop (fun (p : (List G.fact_Fact) × (List (G.api_Choice × Bool)) × Int) => G.inquestlaw23_StoreAgain_b3 level_1 r160 r164 v180 v181 r183 r187 p.1 p.2.1 p.2.2) ([], [], 0)

def inquestlaw23_StoreAgain_b4 (level_1 : Int) (l_2 : List G.fact_Fact) (r160 : (List G.api_Txn)) (r164 : (List G.api_Txn)) (sfactsall515 : List G.fact_Fact) (sfactsset516 : List (G.api_Choice × Bool)) (i517 : Int) : Option (((List G.fact_Fact) × (List (G.api_Choice × Bool)) × Int) ⊕ (Bool)) :=
  if decide (i517 < (Sh.len l_2)) then
    (Sh.idx l_2 i517).bind fun x522 =>
    (G.store_Store_Learn__1 x522 r160 level_1 sfactsall515 sfactsset516).bind fun r524 =>
    Sh.next (r524.1, r524.2.1, w64 (i517 + 1))
  else
    Sh.exit (G.inquestlaw23_StoreAgain_j2 level_1 r160 r164 sfactsall515 sfactsset516)

def inquestlaw23_StoreAgain_j1 (h_0 : G.api_Hist) (level_1 : Int) (l_2 : List G.fact_Fact) (v157 : Bool) : Option (Bool) :=
  if v157 then
    some true
  else
    (G.store_New h_0 level_1).bind fun r160 =>
    Sh.either r160 (fun r160 =>
      (G.store_New h_0 level_1).bind fun r162 =>
      Sh.either r162 (fun r162 =>
        some true
      ) (fun r162 =>
        some false
      )
    ) (fun r160 =>
      (G.store_New h_0 level_1).bind fun r164 =>
      Sh.either r164 (fun r164 =>
        some false
      ) (fun r164 =>
        Sh.loop (fun (p : (List G.fact_Fact) × (List (G.api_Choice × Bool)) × Int) => G.inquestlaw23_StoreAgain_b4 level_1 l_2 r160 r164 p.1 p.2.1 p.2.2) ([], [], 0)
      )
    )

def inquestlaw23_StoreAgain (h_0 : G.api_Hist) (level_1 : Int) (l_2 : List G.fact_Fact) : Option (Bool) :=
  (G.inquestlaw23_awake).bind fun r148 =>
  if !r148 then
    some false
  else
    (G.inquestref08_Few h_0 12).bind fun r151 =>
    (G.inquestlaw23_few l_2).bind fun r153 =>
    if !r151 then
      G.inquestlaw23_StoreAgain_j1 h_0 level_1 l_2 true
    else
      G.inquestlaw23_StoreAgain_j1 h_0 level_1 l_2 (!r153)
end G
end
