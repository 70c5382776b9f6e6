/- What the functions compute, as plain functions. -/
import Derived.Test.YtcnkohookgfpoaaBase2
section
/- The plain types. -/
open Go Go.Av
namespace G
structure api_Choice where
  Key : Int
  A : Int
  B : Int
  deriving DecidableEq, Inhabited
def api_Choice.av (x : api_Choice) : AV := .agg [i64 x.Key, i64 x.A, i64 x.B]
@[simp] theorem api_Choice.noid (x : api_Choice) : NoId (api_Choice.av x) := by simp [api_Choice.av]
@[simp] theorem api_Choice.solid (x : api_Choice) : AV.solid (api_Choice.av x) = true := rfl
@[simp] theorem api_Choice.dry (x : api_Choice) : Dry (api_Choice.av x) := by simp [api_Choice.av]
@[simp] theorem api_Choice.flat (x : api_Choice) : (api_Choice.av x).flat.length = 3 := rfl
structure api_Take where
  Key : Int
  From : Int
  deriving DecidableEq, Inhabited
def api_Take.av (x : api_Take) : AV := .agg [i64 x.Key, i64 x.From]
@[simp] theorem api_Take.noid (x : api_Take) : NoId (api_Take.av x) := by simp [api_Take.av]
@[simp] theorem api_Take.solid (x : api_Take) : AV.solid (api_Take.av x) = true := rfl
@[simp] theorem api_Take.dry (x : api_Take) : Dry (api_Take.av x) := by simp [api_Take.av]
@[simp] theorem api_Take.flat (x : api_Take) : (api_Take.av x).flat.length = 2 := rfl
structure api_Txn where
  Session : Int
  Writes : List Int
  Reads : List G.api_Take
  deriving DecidableEq, Inhabited
def api_Txn.av (x : api_Txn) : AV := .agg [i64 x.Session, .sl (List.map i64 x.Writes), .sl (List.map G.api_Take.av x.Reads)]
@[simp] theorem api_Txn.noid (x : api_Txn) : NoId (api_Txn.av x) := by simp [api_Txn.av]
@[simp] theorem api_Txn.solid (x : api_Txn) : AV.solid (api_Txn.av x) = true := rfl
@[simp] theorem api_Txn.flat (x : api_Txn) : (api_Txn.av x).flat.length = 3 := rfl
structure api_Hist where
  Txns : List G.api_Txn
  deriving DecidableEq, Inhabited
def api_Hist.av (x : api_Hist) : AV := .agg [.sl (List.map G.api_Txn.av x.Txns)]
@[simp] theorem api_Hist.noid (x : api_Hist) : NoId (api_Hist.av x) := by simp [api_Hist.av]
@[simp] theorem api_Hist.solid (x : api_Hist) : AV.solid (api_Hist.av x) = true := rfl
@[simp] theorem api_Hist.flat (x : api_Hist) : (api_Hist.av x).flat.length = 1 := rfl
structure edge_read where
  deriving DecidableEq, Inhabited
def edge_read.av (x : edge_read) : AV := .agg []
@[simp] theorem edge_read.noid (x : edge_read) : NoId (edge_read.av x) := by simp [edge_read.av]
@[simp] theorem edge_read.solid (x : edge_read) : AV.solid (edge_read.av x) = true := rfl
@[simp] theorem edge_read.dry (x : edge_read) : Dry (edge_read.av x) := by simp [edge_read.av]
@[simp] theorem edge_read.flat (x : edge_read) : (edge_read.av x).flat.length = 0 := rfl
structure edge_session where
  deriving DecidableEq, Inhabited
def edge_session.av (x : edge_session) : AV := .agg []
@[simp] theorem edge_session.noid (x : edge_session) : NoId (edge_session.av x) := by simp [edge_session.av]
@[simp] theorem edge_session.solid (x : edge_session) : AV.solid (edge_session.av x) = true := rfl
@[simp] theorem edge_session.dry (x : edge_session) : Dry (edge_session.av x) := by simp [edge_session.av]
@[simp] theorem edge_session.flat (x : edge_session) : (edge_session.av x).flat.length = 0 := rfl
structure inquestlaw19_At where
  H : G.api_Hist
  Level : Int
  L : List G.api_Choice
  X : Int
  Y : Int
  Row : List Int
  deriving DecidableEq, Inhabited
def inquestlaw19_At.av (x : inquestlaw19_At) : AV := .agg [.sl (List.map G.api_Txn.av x.H.Txns), i64 x.Level, .sl (List.map G.api_Choice.av x.L), i64 x.X, i64 x.Y, .sl (List.map i64 x.Row)]
@[simp] theorem inquestlaw19_At.noid (x : inquestlaw19_At) : NoId (inquestlaw19_At.av x) := by simp [inquestlaw19_At.av]
@[simp] theorem inquestlaw19_At.solid (x : inquestlaw19_At) : AV.solid (inquestlaw19_At.av x) = true := rfl
@[simp] theorem inquestlaw19_At.flat (x : inquestlaw19_At) : (inquestlaw19_At.av x).flat.length = 6 := rfl
end G
end

section
/- What the functions of a package compute, as plain functions. -/
open Go Go.Av
set_option linter.unusedVariables false
namespace G
def slices_Index_int_int_j1 : Option (Int) :=
  some (-1)

def slices_Index_int_int_b1 (s_0 : List Int) (v_1 : Int) (v22 : Int) : Option ((Int) ⊕ (Int)) :=
  if decide (v22 < (Sh.len s_0)) then
    (Sh.idx s_0 v22).bind fun x28 =>
    if decide (v_1 = x28) then
      Sh.exit (some v22)
    else
      Sh.next (w64 (v22 + 1))
  else
    Sh.exit (G.slices_Index_int_int_j1)

def slices_Index_int_int (s_0 : List Int) (v_1 : Int) : Option (Int) :=
  Sh.loop (fun (p : Int) => G.slices_Index_int_int_b1 s_0 v_1 p) 0

def slices_Contains_int_int (s_0 : List Int) (v_1 : Int) : Option (Bool) :=
  (G.slices_Index_int_int s_0 v_1).bind fun r3 =>
  some (decide ((0 : Int) ≤ r3))

def slices_Index_edge_over_api_Choice_j1 : Option (Int) :=
  some (-1)

def slices_Index_edge_over_api_Choice_b1 (s_0 : List G.api_Choice) (v_1 : G.api_Choice) (v22 : Int) : Option ((Int) ⊕ (Int)) :=
  if decide (v22 < (Sh.len s_0)) then
    (Sh.idx s_0 v22).bind fun x28 =>
    if decide (v_1 = x28) then
      Sh.exit (some v22)
    else
      Sh.next (w64 (v22 + 1))
  else
    Sh.exit (G.slices_Index_edge_over_api_Choice_j1)

def slices_Index_edge_over_api_Choice (s_0 : List G.api_Choice) (v_1 : G.api_Choice) : Option (Int) :=
  Sh.loop (fun (p : Int) => G.slices_Index_edge_over_api_Choice_b1 s_0 v_1 p) 0

def slices_Contains_edge_over_api_Choice (s_0 : List G.api_Choice) (v_1 : G.api_Choice) : Option (Bool) :=
  (G.slices_Index_edge_over_api_Choice s_0 v_1).bind fun r3 =>
  some (decide ((0 : Int) ≤ r3))

def slices_Equal_api_Take_api_Take_j1 : Option (Bool) :=
  some true

def slices_Equal_api_Take_api_Take_b1 (s1_0 : List G.api_Take) (s2_1 : List G.api_Take) (v39 : Int) : Option ((Int) ⊕ (Bool)) :=
  if decide (v39 < (Sh.len s1_0)) then
    (Sh.idx s1_0 v39).bind fun x49 =>
    (Sh.idx s2_1 v39).bind fun x51 =>
    if !decide (x49 = x51) then
      Sh.exit (some false)
    else
      Sh.next (w64 (v39 + 1))
  else
    Sh.exit (G.slices_Equal_api_Take_api_Take_j1)

def slices_Equal_api_Take_api_Take (s1_0 : List G.api_Take) (s2_1 : List G.api_Take) : Option (Bool) :=
  if decide ((Sh.len s1_0) ≠ (Sh.len s2_1)) then
    some false
  else
    Sh.loop (fun (p : Int) => G.slices_Equal_api_Take_api_Take_b1 s1_0 s2_1 p) 0
end G
end

section
/- What the functions of a package compute, as plain functions. -/
open Go Go.Av
set_option linter.unusedVariables false
namespace G
def hist_faults (h_0 : G.api_Hist) : Option (Unit) :=
  some ()

def hist_Right_r__1 (c_0 : Bool) (y_1 : Bool) : Option (Bool × Bool) :=
  if !y_1 then
    some (false, false)
  else
    some (c_0, true)

def hist_faults_1__1_j1 (v523 : Int) (c625 : Bool) : Option ((Bool × Int) ⊕ (Bool × Bool)) :=
  Sh.next (c625, w64 (v523 + 1))

def hist_faults_1__1_j3 (v523 : Int) (x628 : G.api_Txn) (v724 : Bool) : Option ((Bool × Int) ⊕ (Bool × Bool)) :=
  if decide ((0 : Int) ≤ x628.Session) then
    (G.hist_Right_r__1 v724 (decide (x628.Session < 8))).bind fun y731 =>
    if y731.2 then
      G.hist_faults_1__1_j1 v523 y731.1
    else
      Sh.exit (some (y731.1, false))
  else
    (G.hist_Right_r__1 v724 false).bind fun y733 =>
    if y733.2 then
      G.hist_faults_1__1_j1 v523 y733.1
    else
      Sh.exit (some (y733.1, false))

def hist_faults_1__1_j5 (v778 : Int) (x801 : G.api_Take) (c819 : Bool) : Option ((Bool × Int × Int) ⊕ ((Bool × Int) ⊕ (Bool × Bool))) :=
  Sh.next (c819, x801.Key, w64 (v778 + 1))

def hist_faults_1__1_j4 (c776 : Bool) (last777 : Int) (v778 : Int) (x801 : G.api_Take) (there810 : Bool) : Option ((Bool × Int × Int) ⊕ ((Bool × Int) ⊕ (Bool × Bool))) :=
  if decide (last777 < x801.Key) then
    if decide (x801.Key < 16) then
      (G.hist_Right_r__1 c776 there810).bind fun y830 =>
      if y830.2 then
        G.hist_faults_1__1_j5 v778 x801 y830.1
      else
        Sh.exit (Sh.exit (some (y830.1, false)))
    else
      (G.hist_Right_r__1 c776 false).bind fun y832 =>
      if y832.2 then
        G.hist_faults_1__1_j5 v778 x801 y832.1
      else
        Sh.exit (Sh.exit (some (y832.1, false)))
  else
    (G.hist_Right_r__1 c776 false).bind fun y834 =>
    if y834.2 then
      G.hist_faults_1__1_j5 v778 x801 y834.1
    else
      Sh.exit (Sh.exit (some (y834.1, false)))

def hist_faults_1__1_b2 (c_1 : G.api_Hist) (v523 : Int) (x628 : G.api_Txn) (c776 : Bool) (last777 : Int) (v778 : Int) : Option ((Bool × Int × Int) ⊕ ((Bool × Int) ⊕ (Bool × Bool))) :=
  if decide (v778 < (Sh.len x628.Reads)) then
    (Sh.idx x628.Reads v778).bind fun x801 =>
    if decide (x801.From = (-1)) then
      G.hist_faults_1__1_j4 c776 last777 v778 x801 true
    else
      if decide ((0 : Int) ≤ x801.From) then
        if decide (x801.From < (Sh.len c_1.Txns)) then
          if decide (x801.From ≠ v523) then
            (Sh.idx c_1.Txns x801.From).bind fun x840 =>
            (G.slices_Contains_int_int x840.Writes x801.Key).bind fun r842 =>
            G.hist_faults_1__1_j4 c776 last777 v778 x801 r842
          else
            G.hist_faults_1__1_j4 c776 last777 v778 x801 false
        else
          G.hist_faults_1__1_j4 c776 last777 v778 x801 false
      else
        G.hist_faults_1__1_j4 c776 last777 v778 x801 false
  else
    Sh.exit (G.hist_faults_1__1_j3 v523 x628 c776)

def hist_faults_1__1_j2 (c_1 : G.api_Hist) (v523 : Int) (x628 : G.api_Txn) (v660 : Bool) : Option ((Bool × Int) ⊕ (Bool × Bool)) :=
  Sh.loop (fun (p : Bool × Int × Int) => G.hist_faults_1__1_b2 c_1 v523 x628 p.1 p.2.1 p.2.2) (v660, (-1), 0)

def hist_faults_1__1_j6 (v864 : Int) (x876 : Int) (c883 : Bool) : Option ((Bool × Int × Int) ⊕ ((Bool × Int) ⊕ (Bool × Bool))) :=
  Sh.next (c883, x876, w64 (v864 + 1))

def hist_faults_1__1_b3 (c_1 : G.api_Hist) (v523 : Int) (x628 : G.api_Txn) (c862 : Bool) (last863 : Int) (v864 : Int) : Option ((Bool × Int × Int) ⊕ ((Bool × Int) ⊕ (Bool × Bool))) :=
  if decide (v864 < (Sh.len x628.Writes)) then
    (Sh.idx x628.Writes v864).bind fun x876 =>
    if decide (last863 < x876) then
      (G.hist_Right_r__1 c862 (decide (x876 < 16))).bind fun y890 =>
      if y890.2 then
        G.hist_faults_1__1_j6 v864 x876 y890.1
      else
        Sh.exit (Sh.exit (some (y890.1, false)))
    else
      (G.hist_Right_r__1 c862 false).bind fun y892 =>
      if y892.2 then
        G.hist_faults_1__1_j6 v864 x876 y892.1
      else
        Sh.exit (Sh.exit (some (y892.1, false)))
  else
    Sh.exit (G.hist_faults_1__1_j2 c_1 v523 x628 c862)

def hist_faults_1__1_b1 (c_1 : G.api_Hist) (c522 : Bool) (v523 : Int) : Option ((Bool × Int) ⊕ (Bool × Bool)) :=
  if decide (v523 < (Sh.len c_1.Txns)) then
    (Sh.idx c_1.Txns v523).bind fun x628 =>
    Sh.loop (fun (p : Bool × Int × Int) => G.hist_faults_1__1_b3 c_1 v523 x628 p.1 p.2.1 p.2.2) (c522, (-1), 0)
  else
    Sh.exit (some (c522, true))

def hist_faults_1__1 (c_0 : Bool) (c_1 : G.api_Hist) : Option (Bool × Bool) :=
  (G.hist_Right_r__1 c_0 (decide ((Sh.len c_1.Txns) ≤ 32))).bind fun y316 =>
  if y316.2 then
    Sh.loop (fun (p : Bool × Int) => G.hist_faults_1__1_b1 c_1 p.1 p.2) (y316.1, 0)
  else
    some (y316.1, false)

def hist_Right (h_0 : G.api_Hist) : Option (Bool) :=
  (G.hist_faults h_0).bind fun r8 =>
  (G.hist_faults_1__1 false h_0).bind fun it9 =>
  if it9.2 then
    some true
  else
    some it9.1
end G
end

section
/- What the functions of a package compute, as plain functions. -/
open Go Go.Av
set_option linter.unusedVariables false
namespace G
def inquestref08_Few_j1 : Option (Bool) :=
  some true

def inquestref08_Few_j2 (i55 : Int) (v68 : Bool) : Option ((Int) ⊕ (Bool)) :=
  if v68 then
    Sh.exit (some false)
  else
    Sh.next (w64 (i55 + 1))

def inquestref08_Few_b1 (h_0 : G.api_Hist) (i55 : Int) : Option ((Int) ⊕ (Bool)) :=
  if decide (i55 < (Sh.len h_0.Txns)) then
    (Sh.idx h_0.Txns i55).bind fun x70 =>
    if decide ((20 : Int) < (Sh.len x70.Writes)) then
      G.inquestref08_Few_j2 i55 true
    else
      (Sh.idx h_0.Txns i55).bind fun x73 =>
      G.inquestref08_Few_j2 i55 (decide ((20 : Int) < (Sh.len x73.Reads)))
  else
    Sh.exit (G.inquestref08_Few_j1)

def inquestref08_Few (h_0 : G.api_Hist) (many_1 : Int) : Option (Bool) :=
  if decide (many_1 < (Sh.len h_0.Txns)) then
    some false
  else
    Sh.loop (fun (p : Int) => G.inquestref08_Few_b1 h_0 p) 0

def inquestref08_Writes_j1 : Option (Bool) :=
  some false

def inquestref08_Writes_b1 (t_0 : G.api_Txn) (key_1 : Int) (i22 : Int) : Option ((Int) ⊕ (Bool)) :=
  if decide (i22 < (Sh.len t_0.Writes)) then
    (Sh.idx t_0.Writes i22).bind fun x28 =>
    if decide (x28 = key_1) then
      Sh.exit (some true)
    else
      Sh.next (w64 (i22 + 1))
  else
    Sh.exit (G.inquestref08_Writes_j1)

def inquestref08_Writes (t_0 : G.api_Txn) (key_1 : Int) : Option (Bool) :=
  Sh.loop (fun (p : Int) => G.inquestref08_Writes_b1 t_0 key_1 p) 0

def inquestref08_one_j3 : Option (Bool) :=
  some true

def inquestref08_one_j4 (i195 : Int) : Option ((Int) ⊕ (Bool)) :=
  Sh.next (w64 (i195 + 1))

def inquestref08_one_j5 (h_0 : G.api_Hist) (i195 : Int) (x215 : G.api_Take) (v238 : Bool) : Option ((Int) ⊕ (Bool)) :=
  if v238 then
    Sh.exit (some false)
  else
    if decide (x215.From < 0) then
      G.inquestref08_one_j4 i195
    else
      (Sh.idx h_0.Txns x215.From).bind fun x244 =>
      (G.inquestref08_Writes x244 x215.Key).bind fun r246 =>
      if !r246 then
        Sh.exit (some false)
      else
        G.inquestref08_one_j4 i195

def inquestref08_one_b1 (h_0 : G.api_Hist) (n_1 : Int) (x84 : G.api_Txn) (i195 : Int) : Option ((Int) ⊕ (Bool)) :=
  if decide (i195 < (Sh.len x84.Reads)) then
    (Sh.idx x84.Reads i195).bind fun x215 =>
    if decide (x215.Key < 0) then
      G.inquestref08_one_j5 h_0 i195 x215 true
    else
      if decide ((15 : Int) < x215.Key) then
        G.inquestref08_one_j5 h_0 i195 x215 true
      else
        if decide ((0 : Int) < i195) then
          (Sh.idx x84.Reads (w64 (i195 - 1))).bind fun x251 =>
          if decide (x215.Key ≤ x251.Key) then
            G.inquestref08_one_j5 h_0 i195 x215 true
          else
            if decide (x215.From < (-1)) then
              G.inquestref08_one_j5 h_0 i195 x215 true
            else
              if decide ((Sh.len h_0.Txns) ≤ x215.From) then
                G.inquestref08_one_j5 h_0 i195 x215 true
              else
                G.inquestref08_one_j5 h_0 i195 x215 (decide (x215.From = n_1))
        else
          if decide (x215.From < (-1)) then
            G.inquestref08_one_j5 h_0 i195 x215 true
          else
            if decide ((Sh.len h_0.Txns) ≤ x215.From) then
              G.inquestref08_one_j5 h_0 i195 x215 true
            else
              G.inquestref08_one_j5 h_0 i195 x215 (decide (x215.From = n_1))
  else
    Sh.exit (G.inquestref08_one_j3)

def inquestref08_one_j2 (h_0 : G.api_Hist) (n_1 : Int) (x84 : G.api_Txn) : Option (Bool) :=
  Sh.loop (fun (p : Int) => G.inquestref08_one_b1 h_0 n_1 x84 p) 0

def inquestref08_one_j6 (i278 : Int) (v303 : Bool) : Option ((Int) ⊕ (Bool)) :=
  if v303 then
    Sh.exit (some false)
  else
    Sh.next (w64 (i278 + 1))

def inquestref08_one_b2 (h_0 : G.api_Hist) (n_1 : Int) (x84 : G.api_Txn) (i278 : Int) : Option ((Int) ⊕ (Bool)) :=
  if decide (i278 < (Sh.len x84.Writes)) then
    (Sh.idx x84.Writes i278).bind fun x305 =>
    if decide (x305 < 0) then
      G.inquestref08_one_j6 i278 true
    else
      (Sh.idx x84.Writes i278).bind fun x308 =>
      if decide ((15 : Int) < x308) then
        G.inquestref08_one_j6 i278 true
      else
        if decide ((0 : Int) < i278) then
          (Sh.idx x84.Writes (w64 (i278 - 1))).bind fun x312 =>
          (Sh.idx x84.Writes i278).bind fun x314 =>
          G.inquestref08_one_j6 i278 (decide (x314 ≤ x312))
        else
          G.inquestref08_one_j6 i278 false
  else
    Sh.exit (G.inquestref08_one_j2 h_0 n_1 x84)

def inquestref08_one_j1 (h_0 : G.api_Hist) (n_1 : Int) (x84 : G.api_Txn) (v89 : Bool) : Option (Bool) :=
  if v89 then
    some false
  else
    Sh.loop (fun (p : Int) => G.inquestref08_one_b2 h_0 n_1 x84 p) 0

def inquestref08_one (h_0 : G.api_Hist) (n_1 : Int) : Option (Bool) :=
  (Sh.idx h_0.Txns n_1).bind fun x84 =>
  if decide (x84.Session < 0) then
    G.inquestref08_one_j1 h_0 n_1 x84 true
  else
    G.inquestref08_one_j1 h_0 n_1 x84 (decide ((7 : Int) < x84.Session))

def inquestref08_Right_j1 : Option (Bool) :=
  some true

def inquestref08_Right_b1 (h_0 : G.api_Hist) (n15 : Int) : Option ((Int) ⊕ (Bool)) :=
  if decide (n15 < (Sh.len h_0.Txns)) then
    (G.inquestref08_one h_0 n15).bind fun r19 =>
    if !r19 then
      Sh.exit (some false)
    else
      Sh.next (w64 (n15 + 1))
  else
    Sh.exit (G.inquestref08_Right_j1)

def inquestref08_Right (h_0 : G.api_Hist) : Option (Bool) :=
  if decide ((32 : Int) < (Sh.len h_0.Txns)) then
    some false
  else
    Sh.loop (fun (p : Int) => G.inquestref08_Right_b1 h_0 p) 0
end G
end

section
/- What the functions of a package compute, as plain functions. -/
open Go Go.Av
set_option linter.unusedVariables false
namespace G
def edge_session_is (a_0 : G.edge_session) (h_1 : G.api_Hist) (x_2 : Int) (y_3 : Int) : Option (Bool) :=
  if decide (x_2 < y_3) then
    (Sh.idx h_1.Txns x_2).bind fun x13 =>
    (Sh.idx h_1.Txns y_3).bind fun x15 =>
    some (decide (x13.Session = x15.Session))
  else
    some false

def edge_some_1__1 (k_0 : G.edge_session) (a_1 : G.api_Hist) (a_2 : Int) (a_3 : Int) : Option (Bool) :=
  (G.edge_session_is k_0 a_1 a_2 a_3).bind fun r3 =>
  some r3

def edge_read_is_1__1 (r_0 : G.api_Take) (a_1 : Int) : Option (Bool) :=
  some (decide (r_0.From = a_1))

def slices_IndexFunc_api_Take_api_Take__1_j1 : Option (Int) :=
  some (-1)

def slices_IndexFunc_api_Take_api_Take__1_b1 (s_0 : List G.api_Take) (f_1 : Int) (v30 : Int) : Option ((Int) ⊕ (Int)) :=
  if decide (v30 < (Sh.len s_0)) then
    (Sh.idx s_0 v30).bind fun x38 =>
    (G.edge_read_is_1__1 x38 f_1).bind fun r40 =>
    if r40 then
      Sh.exit (some v30)
    else
      Sh.next (w64 (v30 + 1))
  else
    Sh.exit (G.slices_IndexFunc_api_Take_api_Take__1_j1)

def slices_IndexFunc_api_Take_api_Take__1 (s_0 : List G.api_Take) (f_1 : Int) : Option (Int) :=
  Sh.loop (fun (p : Int) => G.slices_IndexFunc_api_Take_api_Take__1_b1 s_0 f_1 p) 0

def slices_ContainsFunc_api_Take_api_Take__1 (s_0 : List G.api_Take) (f_1 : Int) : Option (Bool) :=
  (G.slices_IndexFunc_api_Take_api_Take__1 s_0 f_1).bind fun r3 =>
  some (decide ((0 : Int) ≤ r3))

def edge_read_is (a_0 : G.edge_read) (h_1 : G.api_Hist) (x_2 : Int) (y_3 : Int) : Option (Bool) :=
  (Sh.idx h_1.Txns y_3).bind fun x7 =>
  (G.slices_ContainsFunc_api_Take_api_Take__1 x7.Reads x_2).bind fun r9 =>
  some r9

def edge_some_1__2 (k_0 : G.edge_read) (a_1 : G.api_Hist) (a_2 : Int) (a_3 : Int) : Option (Bool) :=
  (G.edge_read_is k_0 a_1 a_2 a_3).bind fun r3 =>
  some r3

def edge_writes (h_0 : G.api_Hist) (t_1 : Int) (key_2 : Int) : Option (Bool) :=
  (Sh.idx h_0.Txns t_1).bind fun x7 =>
  (G.slices_Contains_int_int x7.Writes key_2).bind fun r9 =>
  some r9

def edge_written_is_1__1 (c_0 : G.api_Choice) (a_1 : Int) (a_2 : Int) (a_3 : G.api_Hist) : Option (Bool) :=
  if decide (c_0.A = a_1) then
    if decide (c_0.B = a_2) then
      if decide (a_1 ≠ a_2) then
        (G.edge_writes a_3 a_1 c_0.Key).bind fun r17 =>
        if r17 then
          (G.edge_writes a_3 a_2 c_0.Key).bind fun r19 =>
          some r19
        else
          some false
      else
        some false
    else
      some false
  else
    some false

def slices_IndexFunc_edge_written_api_Choice__1_j1 : Option (Int) :=
  some (-1)

def slices_IndexFunc_edge_written_api_Choice__1_b1 (s_0 : List G.api_Choice) (f_1 : Int) (f_2 : Int) (f_3 : G.api_Hist) (v30 : Int) : Option ((Int) ⊕ (Int)) :=
  if decide (v30 < (Sh.len s_0)) then
    (Sh.idx s_0 v30).bind fun x38 =>
    (G.edge_written_is_1__1 x38 f_1 f_2 f_3).bind fun r40 =>
    if r40 then
      Sh.exit (some v30)
    else
      Sh.next (w64 (v30 + 1))
  else
    Sh.exit (G.slices_IndexFunc_edge_written_api_Choice__1_j1)

def slices_IndexFunc_edge_written_api_Choice__1 (s_0 : List G.api_Choice) (f_1 : Int) (f_2 : Int) (f_3 : G.api_Hist) : Option (Int) :=
  Sh.loop (fun (p : Int) => G.slices_IndexFunc_edge_written_api_Choice__1_b1 s_0 f_1 f_2 f_3 p) 0

def slices_ContainsFunc_edge_written_api_Choice__1 (s_0 : List G.api_Choice) (f_1 : Int) (f_2 : Int) (f_3 : G.api_Hist) : Option (Bool) :=
  (G.slices_IndexFunc_edge_written_api_Choice__1 s_0 f_1 f_2 f_3).bind fun r3 =>
  some (decide ((0 : Int) ≤ r3))

def edge_written_is (l_0 : List G.api_Choice) (h_1 : G.api_Hist) (x_2 : Int) (y_3 : Int) : Option (Bool) :=
  (G.slices_ContainsFunc_edge_written_api_Choice__1 l_0 x_2 y_3 h_1).bind fun r3 =>
  some r3

def edge_some_1__3 (k_0 : List G.api_Choice) (a_1 : G.api_Hist) (a_2 : Int) (a_3 : Int) : Option (Bool) :=
  (G.edge_written_is k_0 a_1 a_2 a_3).bind fun r3 =>
  some r3

def slices_IndexFunc_edge_kind_edge_kind__1_j1 : Option (Int) :=
  some (-1)

def slices_IndexFunc_edge_kind_edge_kind__1 (s_0 : G.edge_session) (s_1 : G.edge_read) (s_2 : List G.api_Choice) (f_3 : G.api_Hist) (f_4 : Int) (f_5 : Int) : Option (Int) :=
  (G.edge_some_1__1 s_0 f_3 f_4 f_5).bind fun r12 =>
  if r12 then
    some 0
  else
    (G.edge_some_1__2 s_1 f_3 f_4 f_5).bind fun r16 =>
    if r16 then
      some 1
    else
      (G.edge_some_1__3 s_2 f_3 f_4 f_5).bind fun r20 =>
      if r20 then
        some 2
      else
        G.slices_IndexFunc_edge_kind_edge_kind__1_j1

def slices_ContainsFunc_edge_kind_edge_kind__1 (s_0 : G.edge_session) (s_1 : G.edge_read) (s_2 : List G.api_Choice) (f_3 : G.api_Hist) (f_4 : Int) (f_5 : Int) : Option (Bool) :=
  (G.slices_IndexFunc_edge_kind_edge_kind__1 s_0 s_1 s_2 f_3 f_4 f_5).bind fun r3 =>
  some (decide ((0 : Int) ≤ r3))

def edge_some__1_j1 (h_0 : G.api_Hist) (x_1 : Int) (y_2 : Int) (kinds_3 : G.edge_session) (kinds_4 : G.edge_read) (kinds_5 : List G.api_Choice) (v13 : Bool) : Option (Bool) :=
  if v13 then
    some false
  else
    (G.slices_ContainsFunc_edge_kind_edge_kind__1 kinds_3 kinds_4 kinds_5 h_0 x_1 y_2).bind fun r16 =>
    some r16

def edge_some__1 (h_0 : G.api_Hist) (x_1 : Int) (y_2 : Int) (kinds_3 : G.edge_session) (kinds_4 : G.edge_read) (kinds_5 : List G.api_Choice) : Option (Bool) :=
  (G.hist_Right h_0).bind fun r17 =>
  if !r17 then
    G.edge_some__1_j1 h_0 x_1 y_2 kinds_3 kinds_4 kinds_5 true
  else
    if decide ((Sh.min x_1 y_2) < 0) then
      G.edge_some__1_j1 h_0 x_1 y_2 kinds_3 kinds_4 kinds_5 true
    else
      G.edge_some__1_j1 h_0 x_1 y_2 kinds_3 kinds_4 kinds_5 (decide ((Sh.len h_0.Txns) ≤ (Sh.max x_1 y_2)))

def edge_Direct (h_0 : G.api_Hist) (l_1 : List G.api_Choice) (x_2 : Int) (y_3 : Int) : Option (Bool) :=
  (G.edge_some__1 h_0 x_2 y_3 G.edge_session.mk G.edge_read.mk l_1).bind fun r3 =>
  some r3

def edge_over_is_1__1 (r_0 : G.api_Take) (a_1 : G.api_Hist) (a_2 : Int) (a_3 : List G.api_Choice) : Option (Bool) :=
  (G.edge_writes a_1 a_2 r_0.Key).bind fun r12 =>
  if r12 then
    if decide (r_0.From < 0) then
      some true
    else
      if decide (r_0.From ≠ a_2) then
        (G.slices_Contains_edge_over_api_Choice a_3 (G.api_Choice.mk r_0.Key r_0.From a_2)).bind fun r16 =>
        some r16
      else
        some false
  else
    some false

def slices_IndexFunc_api_Take_api_Take__2_j1 : Option (Int) :=
  some (-1)

def slices_IndexFunc_api_Take_api_Take__2_b1 (s_0 : List G.api_Take) (f_1 : G.api_Hist) (f_2 : Int) (f_3 : List G.api_Choice) (v30 : Int) : Option ((Int) ⊕ (Int)) :=
  if decide (v30 < (Sh.len s_0)) then
    (Sh.idx s_0 v30).bind fun x38 =>
    (G.edge_over_is_1__1 x38 f_1 f_2 f_3).bind fun r40 =>
    if r40 then
      Sh.exit (some v30)
    else
      Sh.next (w64 (v30 + 1))
  else
    Sh.exit (G.slices_IndexFunc_api_Take_api_Take__2_j1)

def slices_IndexFunc_api_Take_api_Take__2 (s_0 : List G.api_Take) (f_1 : G.api_Hist) (f_2 : Int) (f_3 : List G.api_Choice) : Option (Int) :=
  Sh.loop (fun (p : Int) => G.slices_IndexFunc_api_Take_api_Take__2_b1 s_0 f_1 f_2 f_3 p) 0

def slices_ContainsFunc_api_Take_api_Take__2 (s_0 : List G.api_Take) (f_1 : G.api_Hist) (f_2 : Int) (f_3 : List G.api_Choice) : Option (Bool) :=
  (G.slices_IndexFunc_api_Take_api_Take__2 s_0 f_1 f_2 f_3).bind fun r3 =>
  some (decide ((0 : Int) ≤ r3))

def edge_over_is (l_0 : List G.api_Choice) (h_1 : G.api_Hist) (x_2 : Int) (y_3 : Int) : Option (Bool) :=
  if decide (x_2 ≠ y_3) then
    (Sh.idx h_1.Txns x_2).bind fun x11 =>
    (G.slices_ContainsFunc_api_Take_api_Take__2 x11.Reads h_1 y_3 l_0).bind fun r13 =>
    some r13
  else
    some false

def edge_some_1__4 (k_0 : List G.api_Choice) (a_1 : G.api_Hist) (a_2 : Int) (a_3 : Int) : Option (Bool) :=
  (G.edge_over_is k_0 a_1 a_2 a_3).bind fun r3 =>
  some r3

def slices_IndexFunc_edge_kind_edge_kind__2_j1 : Option (Int) :=
  some (-1)

def slices_IndexFunc_edge_kind_edge_kind__2 (s_0 : List G.api_Choice) (f_1 : G.api_Hist) (f_2 : Int) (f_3 : Int) : Option (Int) :=
  (G.edge_some_1__4 s_0 f_1 f_2 f_3).bind fun r6 =>
  if r6 then
    some 0
  else
    G.slices_IndexFunc_edge_kind_edge_kind__2_j1

def slices_ContainsFunc_edge_kind_edge_kind__2 (s_0 : List G.api_Choice) (f_1 : G.api_Hist) (f_2 : Int) (f_3 : Int) : Option (Bool) :=
  (G.slices_IndexFunc_edge_kind_edge_kind__2 s_0 f_1 f_2 f_3).bind fun r3 =>
  some (decide ((0 : Int) ≤ r3))

def edge_some__2_j1 (h_0 : G.api_Hist) (x_1 : Int) (y_2 : Int) (kinds_3 : List G.api_Choice) (v13 : Bool) : Option (Bool) :=
  if v13 then
    some false
  else
    (G.slices_ContainsFunc_edge_kind_edge_kind__2 kinds_3 h_0 x_1 y_2).bind fun r16 =>
    some r16

def edge_some__2 (h_0 : G.api_Hist) (x_1 : Int) (y_2 : Int) (kinds_3 : List G.api_Choice) : Option (Bool) :=
  (G.hist_Right h_0).bind fun r17 =>
  if !r17 then
    G.edge_some__2_j1 h_0 x_1 y_2 kinds_3 true
  else
    if decide ((Sh.min x_1 y_2) < 0) then
      G.edge_some__2_j1 h_0 x_1 y_2 kinds_3 true
    else
      G.edge_some__2_j1 h_0 x_1 y_2 kinds_3 (decide ((Sh.len h_0.Txns) ≤ (Sh.max x_1 y_2)))

def edge_Anti (h_0 : G.api_Hist) (l_1 : List G.api_Choice) (x_2 : Int) (y_3 : Int) : Option (Bool) :=
  (G.edge_some__2 h_0 x_2 y_3 l_1).bind fun r3 =>
  some r3

def edge_Is_j1 : Option (Bool) :=
  some false

def edge_Is_j2 (v62 : Int) (v73 : Bool) : Option ((Int) ⊕ (Bool)) :=
  if v73 then
    Sh.exit (some true)
  else
    Sh.next (w64 (v62 + 1))

def edge_Is_b1 (h_0 : G.api_Hist) (l_2 : List G.api_Choice) (x_3 : Int) (y_4 : Int) (v62 : Int) : Option ((Int) ⊕ (Bool)) :=
  if decide (v62 < (Sh.len h_0.Txns)) then
    (G.edge_Direct h_0 l_2 x_3 v62).bind fun r75 =>
    if r75 then
      if decide (v62 = y_4) then
        G.edge_Is_j2 v62 true
      else
        (G.edge_Anti h_0 l_2 v62 y_4).bind fun r78 =>
        G.edge_Is_j2 v62 r78
    else
      G.edge_Is_j2 v62 false
  else
    Sh.exit (G.edge_Is_j1)

def edge_Is (h_0 : G.api_Hist) (level_1 : Int) (l_2 : List G.api_Choice) (x_3 : Int) (y_4 : Int) : Option (Bool) :=
  if decide (level_1 = 0) then
    (G.edge_Direct h_0 l_2 x_3 y_4).bind fun r47 =>
    if r47 then
      some true
    else
      (G.edge_Anti h_0 l_2 x_3 y_4).bind fun r49 =>
      some r49
  else
    if decide (level_1 = 1) then
      Sh.loop (fun (p : Int) => G.edge_Is_b1 h_0 l_2 x_3 y_4 p) 0
    else
      G.edge_Is_j1

def edge_Cycle_j1 (row_3 : List Int) : Option (Bool) :=
  some (decide ((0 : Int) < (Sh.len row_3)))

def edge_Cycle_j2 (v86 : Int) (v109 : Bool) : Option ((Int) ⊕ (Bool)) :=
  if v109 then
    Sh.exit (some false)
  else
    Sh.next (w64 (v86 + 1))

def edge_Cycle_b1 (h_0 : G.api_Hist) (level_1 : Int) (l_2 : List G.api_Choice) (row_3 : List Int) (v86 : Int) : Option ((Int) ⊕ (Bool)) :=
  if decide (v86 < (Sh.len row_3)) then
    (Sh.idx row_3 v86).bind fun x100 =>
    (Sh.sub row_3 0 v86).bind fun part111 =>
    (G.slices_Contains_int_int part111 x100).bind fun r112 =>
    if r112 then
      G.edge_Cycle_j2 v86 true
    else
      (Sh.rem (w64 (v86 + 1)) (Sh.len row_3)).bind fun q114 =>
      (Sh.idx row_3 q114).bind fun x115 =>
      (G.edge_Is h_0 level_1 l_2 x100 x115).bind fun r117 =>
      G.edge_Cycle_j2 v86 (!r117)
  else
    Sh.exit (G.edge_Cycle_j1 row_3)

def edge_Cycle (h_0 : G.api_Hist) (level_1 : Int) (l_2 : List G.api_Choice) (row_3 : List Int) : Option (Bool) :=
  Sh.loop (fun (p : Int) => G.edge_Cycle_b1 h_0 level_1 l_2 row_3 p) 0
end G
end

section
/- What the functions of a package compute, as plain functions. -/
open Go Go.Av
set_option linter.unusedVariables false
namespace G
def choice_Right_1__1 (t_0 : Int) (key_1 : Int) (a_2 : G.api_Hist) : Option (Bool) :=
  if decide ((0 : Int) ≤ t_0) then
    if decide (t_0 < (Sh.len a_2.Txns)) then
      (Sh.idx a_2.Txns t_0).bind fun x14 =>
      (G.slices_Contains_int_int x14.Writes key_1).bind fun r16 =>
      some r16
    else
      some false
  else
    some false

def choice_Right_2__1 (c_0 : G.api_Choice) (a_1 : G.api_Hist) : Option (Bool) :=
  if decide (c_0.A = c_0.B) then
    some true
  else
    (G.choice_Right_1__1 c_0.A c_0.Key a_1).bind fun r11 =>
    if !r11 then
      some true
    else
      (G.choice_Right_1__1 c_0.B c_0.Key a_1).bind fun r13 =>
      some (!r13)

def slices_IndexFunc_api_Choice_api_Choice__1_j1 : Option (Int) :=
  some (-1)

def slices_IndexFunc_api_Choice_api_Choice__1_b1 (s_0 : List G.api_Choice) (f_1 : G.api_Hist) (v30 : Int) : Option ((Int) ⊕ (Int)) :=
  if decide (v30 < (Sh.len s_0)) then
    (Sh.idx s_0 v30).bind fun x38 =>
    (G.choice_Right_2__1 x38 f_1).bind fun r40 =>
    if r40 then
      Sh.exit (some v30)
    else
      Sh.next (w64 (v30 + 1))
  else
    Sh.exit (G.slices_IndexFunc_api_Choice_api_Choice__1_j1)

def slices_IndexFunc_api_Choice_api_Choice__1 (s_0 : List G.api_Choice) (f_1 : G.api_Hist) : Option (Int) :=
  Sh.loop (fun (p : Int) => G.slices_IndexFunc_api_Choice_api_Choice__1_b1 s_0 f_1 p) 0

def slices_ContainsFunc_api_Choice_api_Choice__1 (s_0 : List G.api_Choice) (f_1 : G.api_Hist) : Option (Bool) :=
  (G.slices_IndexFunc_api_Choice_api_Choice__1 s_0 f_1).bind fun r3 =>
  some (decide ((0 : Int) ≤ r3))

def choice_Right_j1 (h_0 : G.api_Hist) (l_1 : List G.api_Choice) (v10 : Bool) : Option (Bool) :=
  if v10 then
    some false
  else
    (G.slices_ContainsFunc_api_Choice_api_Choice__1 l_1 h_0).bind fun r13 =>
    some (!r13)

def choice_Right (h_0 : G.api_Hist) (l_1 : List G.api_Choice) : Option (Bool) :=
  (G.hist_Right h_0).bind fun r14 =>
  if !r14 then
    G.choice_Right_j1 h_0 l_1 true
  else
    G.choice_Right_j1 h_0 l_1 (decide ((20000 : Int) < (Sh.len l_1)))
end G
end

section
/- What the functions of a package compute, as plain functions. -/
open Go Go.Av
set_option linter.unusedVariables false
namespace G
def inquestref18_One_j1 (h_0 : G.api_Hist) (c_1 : G.api_Choice) (v23 : Bool) : Option (Bool) :=
  if v23 then
    some false
  else
    (Sh.idx h_0.Txns c_1.A).bind fun x28 =>
    (G.inquestref08_Writes x28 c_1.Key).bind fun r30 =>
    (Sh.idx h_0.Txns c_1.B).bind fun x34 =>
    (G.inquestref08_Writes x34 c_1.Key).bind fun r36 =>
    if r30 then
      some r36
    else
      some false

def inquestref18_One (h_0 : G.api_Hist) (c_1 : G.api_Choice) : Option (Bool) :=
  if decide (c_1.A = c_1.B) then
    G.inquestref18_One_j1 h_0 c_1 true
  else
    if decide (c_1.A < 0) then
      G.inquestref18_One_j1 h_0 c_1 true
    else
      if decide ((Sh.len h_0.Txns) ≤ c_1.A) then
        G.inquestref18_One_j1 h_0 c_1 true
      else
        if decide (c_1.B < 0) then
          G.inquestref18_One_j1 h_0 c_1 true
        else
          G.inquestref18_One_j1 h_0 c_1 (decide ((Sh.len h_0.Txns) ≤ c_1.B))

def inquestref18_In_j1 : Option (Bool) :=
  some false

def inquestref18_In_b1 (l_0 : List G.api_Choice) (c_1 : G.api_Choice) (i22 : Int) : Option ((Int) ⊕ (Bool)) :=
  if decide (i22 < (Sh.len l_0)) then
    (Sh.idx l_0 i22).bind fun x28 =>
    if decide (x28 = c_1) then
      Sh.exit (some true)
    else
      Sh.next (w64 (i22 + 1))
  else
    Sh.exit (G.inquestref18_In_j1)

def inquestref18_In (l_0 : List G.api_Choice) (c_1 : G.api_Choice) : Option (Bool) :=
  Sh.loop (fun (p : Int) => G.inquestref18_In_b1 l_0 c_1 p) 0

def inquestref18_place_j1 : Option (Int) :=
  some (-1)

def inquestref18_place_b1 (l_0 : List Int) (n_1 : Int) (i22 : Int) : Option ((Int) ⊕ (Int)) :=
  if decide (i22 < (Sh.len l_0)) then
    (Sh.idx l_0 i22).bind fun x28 =>
    if decide (x28 = n_1) then
      Sh.exit (some i22)
    else
      Sh.next (w64 (i22 + 1))
  else
    Sh.exit (G.inquestref18_place_j1)

def inquestref18_place (l_0 : List Int) (n_1 : Int) : Option (Int) :=
  Sh.loop (fun (p : Int) => G.inquestref18_place_b1 l_0 n_1 p) 0

def inquestref18_Perm_j1 : Option (Bool) :=
  some true

def inquestref18_Perm_b1 (l_0 : List Int) (n_1 : Int) (i15 : Int) : Option ((Int) ⊕ (Bool)) :=
  if decide (i15 < n_1) then
    (G.inquestref18_place l_0 i15).bind fun r19 =>
    if decide (r19 < 0) then
      Sh.exit (some false)
    else
      Sh.next (w64 (i15 + 1))
  else
    Sh.exit (G.inquestref18_Perm_j1)

def inquestref18_Perm (l_0 : List Int) (n_1 : Int) : Option (Bool) :=
  if decide ((Sh.len l_0) ≠ n_1) then
    some false
  else
    Sh.loop (fun (p : Int) => G.inquestref18_Perm_b1 l_0 n_1 p) 0
end G
end

section
/- What the functions of a package compute, as plain functions. -/
open Go Go.Av
set_option linter.unusedVariables false
namespace G
def inquestref19_two (h_0 : G.api_Hist) (x_1 : Int) (y_2 : Int) : Option (Bool) :=
  (G.inquestref08_Right h_0).bind fun r8 =>
  if r8 then
    if decide ((0 : Int) ≤ x_1) then
      if decide (x_1 < (Sh.len h_0.Txns)) then
        if decide ((0 : Int) ≤ y_2) then
          some (decide (y_2 < (Sh.len h_0.Txns)))
        else
          some false
      else
        some false
    else
      some false
  else
    some false

def inquestref19_Direct_j3 : Option (Bool) :=
  some false

def inquestref19_Direct_j4 (i141 : Int) : Option ((Int) ⊕ (Bool)) :=
  Sh.next (w64 (i141 + 1))

def inquestref19_Direct_j5 (h_0 : G.api_Hist) (l_1 : List G.api_Choice) (i141 : Int) (v163 : Bool) : Option ((Int) ⊕ (Bool)) :=
  if v163 then
    G.inquestref19_Direct_j4 i141
  else
    (Sh.idx l_1 i141).bind fun x168 =>
    (G.inquestref18_One h_0 x168).bind fun r170 =>
    if r170 then
      Sh.exit (some true)
    else
      G.inquestref19_Direct_j4 i141

def inquestref19_Direct_b1 (h_0 : G.api_Hist) (l_1 : List G.api_Choice) (x_2 : Int) (y_3 : Int) (i141 : Int) : Option ((Int) ⊕ (Bool)) :=
  if decide (i141 < (Sh.len l_1)) then
    (Sh.idx l_1 i141).bind fun x172 =>
    if decide (x172.A ≠ x_2) then
      G.inquestref19_Direct_j5 h_0 l_1 i141 true
    else
      (Sh.idx l_1 i141).bind fun x175 =>
      G.inquestref19_Direct_j5 h_0 l_1 i141 (decide (x175.B ≠ y_3))
  else
    Sh.exit (G.inquestref19_Direct_j3)

def inquestref19_Direct_j2 (h_0 : G.api_Hist) (l_1 : List G.api_Choice) (x_2 : Int) (y_3 : Int) : Option (Bool) :=
  Sh.loop (fun (p : Int) => G.inquestref19_Direct_b1 h_0 l_1 x_2 y_3 p) 0

def inquestref19_Direct_b2 (h_0 : G.api_Hist) (l_1 : List G.api_Choice) (x_2 : Int) (y_3 : Int) (i190 : Int) : Option ((Int) ⊕ (Bool)) :=
  (Sh.idx h_0.Txns y_3).bind fun x195 =>
  if decide (i190 < (Sh.len x195.Reads)) then
    (Sh.idx h_0.Txns y_3).bind fun x206 =>
    (Sh.idx x206.Reads i190).bind fun x208 =>
    if decide (x208.From = x_2) then
      Sh.exit (some true)
    else
      Sh.next (w64 (i190 + 1))
  else
    Sh.exit (G.inquestref19_Direct_j2 h_0 l_1 x_2 y_3)

def inquestref19_Direct_j1 (h_0 : G.api_Hist) (l_1 : List G.api_Choice) (x_2 : Int) (y_3 : Int) (v71 : Bool) : Option (Bool) :=
  if v71 then
    some true
  else
    Sh.loop (fun (p : Int) => G.inquestref19_Direct_b2 h_0 l_1 x_2 y_3 p) 0

def inquestref19_Direct (h_0 : G.api_Hist) (l_1 : List G.api_Choice) (x_2 : Int) (y_3 : Int) : Option (Bool) :=
  (G.inquestref19_two h_0 x_2 y_3).bind fun r58 =>
  if !r58 then
    some false
  else
    if decide (x_2 < y_3) then
      (Sh.idx h_0.Txns x_2).bind fun x212 =>
      (Sh.idx h_0.Txns y_3).bind fun x214 =>
      G.inquestref19_Direct_j1 h_0 l_1 x_2 y_3 (decide (x212.Session = x214.Session))
    else
      G.inquestref19_Direct_j1 h_0 l_1 x_2 y_3 false

def inquestref19_Anti_j2 : Option (Bool) :=
  some false

def inquestref19_Anti_j3 (i128 : Int) (v167 : Bool) : Option ((Int) ⊕ (Bool)) :=
  if v167 then
    Sh.exit (some true)
  else
    Sh.next (w64 (i128 + 1))

def inquestref19_Anti_b1 (h_0 : G.api_Hist) (l_1 : List G.api_Choice) (x_2 : Int) (y_3 : Int) (i128 : Int) : Option ((Int) ⊕ (Bool)) :=
  (Sh.idx h_0.Txns x_2).bind fun x133 =>
  if decide (i128 < (Sh.len x133.Reads)) then
    (Sh.idx h_0.Txns x_2).bind fun x152 =>
    (Sh.idx x152.Reads i128).bind fun x154 =>
    (Sh.idx h_0.Txns y_3).bind fun x159 =>
    (G.inquestref08_Writes x159 x154.Key).bind fun r161 =>
    (G.inquestref18_In l_1 (G.api_Choice.mk x154.Key x154.From y_3)).bind fun r163 =>
    if r161 then
      if decide (x154.From = (-1)) then
        G.inquestref19_Anti_j3 i128 true
      else
        if r163 then
          G.inquestref19_Anti_j3 i128 (decide (x154.From ≠ y_3))
        else
          G.inquestref19_Anti_j3 i128 false
    else
      G.inquestref19_Anti_j3 i128 false
  else
    Sh.exit (G.inquestref19_Anti_j2)

def inquestref19_Anti_j1 (h_0 : G.api_Hist) (l_1 : List G.api_Choice) (x_2 : Int) (y_3 : Int) (v53 : Bool) : Option (Bool) :=
  if v53 then
    some false
  else
    Sh.loop (fun (p : Int) => G.inquestref19_Anti_b1 h_0 l_1 x_2 y_3 p) 0

def inquestref19_Anti (h_0 : G.api_Hist) (l_1 : List G.api_Choice) (x_2 : Int) (y_3 : Int) : Option (Bool) :=
  (G.inquestref19_two h_0 x_2 y_3).bind fun r49 =>
  if !r49 then
    G.inquestref19_Anti_j1 h_0 l_1 x_2 y_3 true
  else
    G.inquestref19_Anti_j1 h_0 l_1 x_2 y_3 (decide (x_2 = y_3))

def inquestref19_Is_j2 : Option (Bool) :=
  some false

def inquestref19_Is_j3 (m38 : Int) : Option ((Int) ⊕ (Bool)) :=
  Sh.next (w64 (m38 + 1))

def inquestref19_Is_b1 (h_0 : G.api_Hist) (l_2 : List G.api_Choice) (x_3 : Int) (y_4 : Int) (m38 : Int) : Option ((Int) ⊕ (Bool)) :=
  if decide (m38 < (Sh.len h_0.Txns)) then
    (G.inquestref19_Direct h_0 l_2 x_3 m38).bind fun r43 =>
    if !r43 then
      G.inquestref19_Is_j3 m38
    else
      (G.inquestref19_Anti h_0 l_2 m38 y_4).bind fun r46 =>
      if r46 then
        Sh.exit (some true)
      else
        G.inquestref19_Is_j3 m38
  else
    Sh.exit (G.inquestref19_Is_j2)

def inquestref19_Is_j1 (h_0 : G.api_Hist) (level_1 : Int) (l_2 : List G.api_Choice) (x_3 : Int) (y_4 : Int) (v16 : Bool) : Option (Bool) :=
  if v16 then
    some false
  else
    (G.inquestref19_Direct h_0 l_2 x_3 y_4).bind fun r19 =>
    if r19 then
      some true
    else
      if decide (level_1 = 0) then
        (G.inquestref19_Anti h_0 l_2 x_3 y_4).bind fun r24 =>
        some r24
      else
        Sh.loop (fun (p : Int) => G.inquestref19_Is_b1 h_0 l_2 x_3 y_4 p) 0

def inquestref19_Is (h_0 : G.api_Hist) (level_1 : Int) (l_2 : List G.api_Choice) (x_3 : Int) (y_4 : Int) : Option (Bool) :=
  if decide (level_1 ≠ 0) then
    G.inquestref19_Is_j1 h_0 level_1 l_2 x_3 y_4 (decide (level_1 ≠ 1))
  else
    G.inquestref19_Is_j1 h_0 level_1 l_2 x_3 y_4 false

def inquestref19_Cycle_j1 (row_3 : List Int) : Option (Bool) :=
  some (decide ((0 : Int) < (Sh.len row_3)))

def inquestref19_Cycle_j2 (i124 : Int) : Option ((Int) ⊕ (Bool)) :=
  Sh.next (w64 (i124 + 1))

def inquestref19_Cycle_j3 (h_0 : G.api_Hist) (level_1 : Int) (l_2 : List G.api_Choice) (row_3 : List Int) (i124 : Int) : Option ((Int) ⊕ (Bool)) :=
  (Sh.idx row_3 i124).bind fun x166 =>
  (Sh.rem (w64 (i124 + 1)) (Sh.len row_3)).bind fun q168 =>
  (Sh.idx row_3 q168).bind fun x169 =>
  (G.inquestref19_Is h_0 level_1 l_2 x166 x169).bind fun r171 =>
  if !r171 then
    Sh.exit (some false)
  else
    G.inquestref19_Cycle_j2 i124

def inquestref19_Cycle_b2 (h_0 : G.api_Hist) (level_1 : Int) (l_2 : List G.api_Choice) (row_3 : List Int) (i124 : Int) (k182 : Int) : Option ((Int) ⊕ ((Int) ⊕ (Bool))) :=
  if decide (k182 < i124) then
    (Sh.idx row_3 k182).bind fun x192 =>
    (Sh.idx row_3 i124).bind fun x194 =>
    if decide (x192 = x194) then
      Sh.exit (Sh.exit (some false))
    else
      Sh.next (w64 (k182 + 1))
  else
    Sh.exit (G.inquestref19_Cycle_j3 h_0 level_1 l_2 row_3 i124)

def inquestref19_Cycle_b1 (h_0 : G.api_Hist) (level_1 : Int) (l_2 : List G.api_Choice) (row_3 : List Int) (i124 : Int) : Option ((Int) ⊕ (Bool)) :=
  if decide (i124 < (Sh.len row_3)) then
    Sh.loop (fun (p : Int) => G.inquestref19_Cycle_b2 h_0 level_1 l_2 row_3 i124 p) 0
  else
    Sh.exit (G.inquestref19_Cycle_j1 row_3)

def inquestref19_Cycle (h_0 : G.api_Hist) (level_1 : Int) (l_2 : List G.api_Choice) (row_3 : List Int) : Option (Bool) :=
  Sh.loop (fun (p : Int) => G.inquestref19_Cycle_b1 h_0 level_1 l_2 row_3 p) 0
end G
end

section
/- What the functions of a package compute, as plain functions. -/
open Go Go.Av
set_option linter.unusedVariables false
namespace G
def inquestlaw19_awake : Option (Bool) :=
  (G.edge_Anti (G.api_Hist.mk ([(G.api_Txn.mk 1 [] ([(G.api_Take.mk 4 1)] : List G.api_Take)), (G.api_Txn.mk 2 [4] []), (G.api_Txn.mk 3 [4] [])] : List G.api_Txn)) ([(G.api_Choice.mk 4 1 2)] : List G.api_Choice) 0 2).bind fun r28 =>
  if r28 then
    (G.edge_Direct (G.api_Hist.mk ([(G.api_Txn.mk 1 [] ([(G.api_Take.mk 4 1)] : List G.api_Take)), (G.api_Txn.mk 2 [4] []), (G.api_Txn.mk 3 [4] [])] : List G.api_Txn)) ([(G.api_Choice.mk 4 1 2)] : List G.api_Choice) 1 0).bind fun r30 =>
    if r30 then
      (G.edge_Is (G.api_Hist.mk ([(G.api_Txn.mk 1 [] ([(G.api_Take.mk 4 1)] : List G.api_Take)), (G.api_Txn.mk 2 [4] []), (G.api_Txn.mk 3 [4] [])] : List G.api_Txn)) 1 ([(G.api_Choice.mk 4 1 2)] : List G.api_Choice) 1 2).bind fun r32 =>
      if r32 then
        (G.edge_Is (G.api_Hist.mk ([(G.api_Txn.mk 1 [] ([(G.api_Take.mk 4 1)] : List G.api_Take)), (G.api_Txn.mk 2 [4] []), (G.api_Txn.mk 3 [4] [])] : List G.api_Txn)) 1 ([(G.api_Choice.mk 4 1 2)] : List G.api_Choice) 0 2).bind fun r34 =>
        if !r34 then
          (G.edge_Is (G.api_Hist.mk ([(G.api_Txn.mk 1 [] ([(G.api_Take.mk 4 1)] : List G.api_Take)), (G.api_Txn.mk 2 [4] []), (G.api_Txn.mk 3 [4] [])] : List G.api_Txn)) 0 ([(G.api_Choice.mk 4 1 2)] : List G.api_Choice) 0 2).bind fun r36 =>
          if r36 then
            (G.edge_Cycle (G.api_Hist.mk ([(G.api_Txn.mk 1 [] ([(G.api_Take.mk 4 1)] : List G.api_Take)), (G.api_Txn.mk 2 [4] []), (G.api_Txn.mk 3 [4] [])] : List G.api_Txn)) 0 ([(G.api_Choice.mk 4 1 2)] : List G.api_Choice) [0, 1]).bind fun r38 =>
            if !r38 then
              (G.edge_Cycle (G.api_Hist.mk ([(G.api_Txn.mk 1 [] ([(G.api_Take.mk 4 1)] : List G.api_Take)), (G.api_Txn.mk 2 [4] []), (G.api_Txn.mk 3 [4] [])] : List G.api_Txn)) 0 ([(G.api_Choice.mk 4 1 2), (G.api_Choice.mk 4 2 1)] : List G.api_Choice) [2, 1]).bind fun r40 =>
              some r40
            else
              some false
          else
            some false
        else
          some false
      else
        some false
    else
      some false
  else
    some false

def inquestlaw19_few (a_0 : G.inquestlaw19_At) : Option (Bool) :=
  (G.inquestref08_Few a_0.H 12).bind fun r6 =>
  if r6 then
    if decide ((Sh.len a_0.L) ≤ 40) then
      some (decide ((Sh.len a_0.Row) ≤ 14))
    else
      some false
  else
    some false

def inquestlaw19_EdgeTells (a_0 : G.inquestlaw19_At) : Option (Bool) :=
  (G.inquestlaw19_awake).bind fun r16 =>
  if !r16 then
    some false
  else
    (G.inquestlaw19_few a_0).bind fun r19 =>
    if !r19 then
      some true
    else
      (G.edge_Direct a_0.H a_0.L a_0.X a_0.Y).bind fun r32 =>
      (G.inquestref19_Direct a_0.H a_0.L a_0.X a_0.Y).bind fun r33 =>
      if r32 == r33 then
        (G.edge_Anti a_0.H a_0.L a_0.X a_0.Y).bind fun r35 =>
        (G.inquestref19_Anti a_0.H a_0.L a_0.X a_0.Y).bind fun r36 =>
        if r35 == r36 then
          (G.edge_Is a_0.H a_0.Level a_0.L a_0.X a_0.Y).bind fun r38 =>
          (G.inquestref19_Is a_0.H a_0.Level a_0.L a_0.X a_0.Y).bind fun r39 =>
          if r38 == r39 then
            (G.edge_Cycle a_0.H a_0.Level a_0.L a_0.Row).bind fun r41 =>
            (G.inquestref19_Cycle a_0.H a_0.Level a_0.L a_0.Row).bind fun r42 =>
            some (r41 == r42)
          else
            some false
        else
          some false
      else
        some false

def inquestlaw19_EdgeMore_j2 (a_0 : G.inquestlaw19_At) (c_1 : G.api_Choice) (more38 : List G.api_Choice) (r42 : Bool) (r46 : Bool) (is58 : Bool) (ring59 : Bool) (v60 : Bool) : Option (Bool) :=
  if v60 then
    some false
  else
    (G.choice_Right a_0.H ([c_1] : List G.api_Choice)).bind fun r65 =>
    if r65 then
      (G.edge_Direct a_0.H more38 c_1.A c_1.B).bind fun r68 =>
      some r68
    else
      if is58 == r42 then
        some (ring59 == r46)
      else
        some false

def inquestlaw19_EdgeMore_j1 (a_0 : G.inquestlaw19_At) (c_1 : G.api_Choice) (v33 : Bool) : Option (Bool) :=
  if v33 then
    some true
  else
    (Sh.app 24 [] a_0.L).bind fun more36 =>
    (Sh.app 24 more36 ([c_1] : List G.api_Choice)).bind fun more38 =>
    (G.edge_Is a_0.H a_0.Level a_0.L a_0.X a_0.Y).bind fun r40 =>
    (G.edge_Is a_0.H a_0.Level more38 a_0.X a_0.Y).bind fun r42 =>
    (G.edge_Cycle a_0.H a_0.Level a_0.L a_0.Row).bind fun r44 =>
    (G.edge_Cycle a_0.H a_0.Level more38 a_0.Row).bind fun r46 =>
    if r40 then
      if !r42 then
        G.inquestlaw19_EdgeMore_j2 a_0 c_1 more38 r42 r46 true r44 true
      else
        if r44 then
          G.inquestlaw19_EdgeMore_j2 a_0 c_1 more38 r42 r46 true true (!r46)
        else
          G.inquestlaw19_EdgeMore_j2 a_0 c_1 more38 r42 r46 true false false
    else
      if r44 then
        G.inquestlaw19_EdgeMore_j2 a_0 c_1 more38 r42 r46 false true (!r46)
      else
        G.inquestlaw19_EdgeMore_j2 a_0 c_1 more38 r42 r46 false false false

def inquestlaw19_EdgeMore (a_0 : G.inquestlaw19_At) (c_1 : G.api_Choice) : Option (Bool) :=
  (G.inquestlaw19_awake).bind fun r24 =>
  if !r24 then
    some false
  else
    (G.inquestref08_Few a_0.H 40).bind fun r27 =>
    if !r27 then
      G.inquestlaw19_EdgeMore_j1 a_0 c_1 true
    else
      if decide ((60 : Int) < (Sh.len a_0.L)) then
        G.inquestlaw19_EdgeMore_j1 a_0 c_1 true
      else
        G.inquestlaw19_EdgeMore_j1 a_0 c_1 (decide ((50 : Int) < (Sh.len a_0.Row)))
end G
end
