/- What the functions compute, as plain functions. -/
import Derived.Test.YtcoegkcdabpijaaBase1
set_option linter.unusedSimpArgs false
set_option linter.unusedVariables false
section
/- The plain types. -/
open Go Go.Av
namespace G
structure api_Choice where
  Key : Int
  A : Int
  B : Int
  deriving DecidableEq, Inhabited
def api_Choice.av (x : api_Choice) : AV := .agg [i64 x.Key, i64 x.A, i64 x.B]
@[simp] theorem api_Choice.noid (x : api_Choice) : NoId (api_Choice.av x) := by simp [api_Choice.av]
@[simp] theorem api_Choice.solid (x : api_Choice) : AV.solid (api_Choice.av x) = true := rfl
@[simp] theorem api_Choice.dry (x : api_Choice) : Dry (api_Choice.av x) := by simp [api_Choice.av]
@[simp] theorem api_Choice.flat (x : api_Choice) : (api_Choice.av x).flat.length = 3 := rfl
structure api_Take where
  Key : Int
  From : Int
  deriving DecidableEq, Inhabited
def api_Take.av (x : api_Take) : AV := .agg [i64 x.Key, i64 x.From]
@[simp] theorem api_Take.noid (x : api_Take) : NoId (api_Take.av x) := by simp [api_Take.av]
@[simp] theorem api_Take.solid (x : api_Take) : AV.solid (api_Take.av x) = true := rfl
@[simp] theorem api_Take.dry (x : api_Take) : Dry (api_Take.av x) := by simp [api_Take.av]
@[simp] theorem api_Take.flat (x : api_Take) : (api_Take.av x).flat.length = 2 := rfl
structure api_Txn where
  Session : Int
  Writes : List Int
  Reads : List G.api_Take
  deriving DecidableEq, Inhabited
def api_Txn.av (x : api_Txn) : AV := .agg [i64 x.Session, .sl (List.map i64 x.Writes), .sl (List.map G.api_Take.av x.Reads)]
@[simp] theorem api_Txn.noid (x : api_Txn) : NoId (api_Txn.av x) := by simp [api_Txn.av]
@[simp] theorem api_Txn.solid (x : api_Txn) : AV.solid (api_Txn.av x) = true := rfl
@[simp] theorem api_Txn.flat (x : api_Txn) : (api_Txn.av x).flat.length = 3 := rfl
structure api_Hist where
  Txns : List G.api_Txn
  deriving DecidableEq, Inhabited
def api_Hist.av (x : api_Hist) : AV := .agg [.sl (List.map G.api_Txn.av x.Txns)]
@[simp] theorem api_Hist.noid (x : api_Hist) : NoId (api_Hist.av x) := by simp [api_Hist.av]
@[simp] theorem api_Hist.solid (x : api_Hist) : AV.solid (api_Hist.av x) = true := rfl
@[simp] theorem api_Hist.flat (x : api_Hist) : (api_Hist.av x).flat.length = 1 := rfl
structure edge_read where
  deriving DecidableEq, Inhabited
def edge_read.av (x : edge_read) : AV := .agg []
@[simp] theorem edge_read.noid (x : edge_read) : NoId (edge_read.av x) := by simp [edge_read.av]
@[simp] theorem edge_read.solid (x : edge_read) : AV.solid (edge_read.av x) = true := rfl
@[simp] theorem edge_read.dry (x : edge_read) : Dry (edge_read.av x) := by simp [edge_read.av]
@[simp] theorem edge_read.flat (x : edge_read) : (edge_read.av x).flat.length = 0 := rfl
structure edge_session where
  deriving DecidableEq, Inhabited
def edge_session.av (x : edge_session) : AV := .agg []
@[simp] theorem edge_session.noid (x : edge_session) : NoId (edge_session.av x) := by simp [edge_session.av]
@[simp] theorem edge_session.solid (x : edge_session) : AV.solid (edge_session.av x) = true := rfl
@[simp] theorem edge_session.dry (x : edge_session) : Dry (edge_session.av x) := by simp [edge_session.av]
@[simp] theorem edge_session.flat (x : edge_session) : (edge_session.av x).flat.length = 0 := rfl
structure inquestlaw19_At where
  H : G.api_Hist
  Level : Int
  L : List G.api_Choice
  X : Int
  Y : Int
  Row : List Int
  deriving DecidableEq, Inhabited
def inquestlaw19_At.av (x : inquestlaw19_At) : AV := .agg [.sl (List.map G.api_Txn.av x.H.Txns), i64 x.Level, .sl (List.map G.api_Choice.av x.L), i64 x.X, i64 x.Y, .sl (List.map i64 x.Row)]
@[simp] theorem inquestlaw19_At.noid (x : inquestlaw19_At) : NoId (inquestlaw19_At.av x) := by simp [inquestlaw19_At.av]
@[simp] theorem inquestlaw19_At.solid (x : inquestlaw19_At) : AV.solid (inquestlaw19_At.av x) = true := rfl
@[simp] theorem inquestlaw19_At.flat (x : inquestlaw19_At) : (inquestlaw19_At.av x).flat.length = 6 := rfl
end G
end

section
/- What the functions of a package compute, as plain functions. -/
open Go Go.Av
set_option linter.unusedVariables false
namespace G
def slices_Index_int_int_j1 : Option (Int) :=
  some (-1)

def slices_Index_int_int_b1 (s_0 : List Int) (v_1 : Int) (v22 : Int) : Option ((Int) ⊕ (Int)) :=
  if decide (v22 < (Sh.len s_0)) then
    (Sh.idx s_0 v22).bind fun x28 =>
    if decide (v_1 = x28) then
      Sh.exit (some v22)
    else
      Sh.next (w64 (v22 + 1))
  else
    Sh.exit (G.slices_Index_int_int_j1)

def slices_Index_int_int (s_0 : List Int) (v_1 : Int) : Option (Int) :=
  Sh.loop (fun (p : Int) => G.slices_Index_int_int_b1 s_0 v_1 p) 0

def slices_Contains_int_int (s_0 : List Int) (v_1 : Int) : Option (Bool) :=
  (G.slices_Index_int_int s_0 v_1).bind fun r3 =>
  some (decide ((0 : Int) ≤ r3))

def slices_Equal_api_Take_api_Take_j1 : Option (Bool) :=
  some true

def slices_Equal_api_Take_api_Take_b1 (s1_0 : List G.api_Take) (s2_1 : List G.api_Take) (v39 : Int) : Option ((Int) ⊕ (Bool)) :=
  if decide (v39 < (Sh.len s1_0)) then
    (Sh.idx s1_0 v39).bind fun x49 =>
    (Sh.idx s2_1 v39).bind fun x51 =>
    if !decide (x49 = x51) then
      Sh.exit (some false)
    else
      Sh.next (w64 (v39 + 1))
  else
    Sh.exit (G.slices_Equal_api_Take_api_Take_j1)

def slices_Equal_api_Take_api_Take (s1_0 : List G.api_Take) (s2_1 : List G.api_Take) : Option (Bool) :=
  if decide ((Sh.len s1_0) ≠ (Sh.len s2_1)) then
    some false
  else
    Sh.loop (fun (p : Int) => G.slices_Equal_api_Take_api_Take_b1 s1_0 s2_1 p) 0

end G
end

section
/- What the functions of a package compute, as plain functions. -/
open Go Go.Av
set_option linter.unusedVariables false
namespace G
def hist_faults (h_0 : G.api_Hist) : Option (Unit) :=
  some ()

def hist_Right__r (c_0 : Bool) (y_1 : Bool) : Option (Bool × Bool) :=
  if !y_1 then
    some (false, false)
  else
    some (c_0, true)

def hist_faults_1__hist_Right__r_j1 (v523 : Int) (c625 : Bool) : Option ((Bool × Int) ⊕ (Bool × Bool)) :=
  Sh.next (c625, w64 (v523 + 1))

def hist_faults_1__hist_Right__r_j3 (v523 : Int) (x628 : G.api_Txn) (v724 : Bool) : Option ((Bool × Int) ⊕ (Bool × Bool)) :=
  if decide ((0 : Int) ≤ x628.Session) then
    (G.hist_Right__r v724 (decide (x628.Session < 8))).bind fun y731 =>
    if y731.2 then
      G.hist_faults_1__hist_Right__r_j1 v523 y731.1
    else
      Sh.exit (some (y731.1, false))
  else
    (G.hist_Right__r v724 false).bind fun y733 =>
    if y733.2 then
      G.hist_faults_1__hist_Right__r_j1 v523 y733.1
    else
      Sh.exit (some (y733.1, false))

def hist_faults_1__hist_Right__r_j5 (v778 : Int) (x801 : G.api_Take) (c819 : Bool) : Option ((Bool × Int × Int) ⊕ ((Bool × Int) ⊕ (Bool × Bool))) :=
  Sh.next (c819, x801.Key, w64 (v778 + 1))

def hist_faults_1__hist_Right__r_j4 (c776 : Bool) (last777 : Int) (v778 : Int) (x801 : G.api_Take) (there810 : Bool) : Option ((Bool × Int × Int) ⊕ ((Bool × Int) ⊕ (Bool × Bool))) :=
  if decide (last777 < x801.Key) then
    if decide (x801.Key < 16) then
      (G.hist_Right__r c776 there810).bind fun y830 =>
      if y830.2 then
        G.hist_faults_1__hist_Right__r_j5 v778 x801 y830.1
      else
        Sh.exit (Sh.exit (some (y830.1, false)))
    else
      (G.hist_Right__r c776 false).bind fun y832 =>
      if y832.2 then
        G.hist_faults_1__hist_Right__r_j5 v778 x801 y832.1
      else
        Sh.exit (Sh.exit (some (y832.1, false)))
  else
    (G.hist_Right__r c776 false).bind fun y834 =>
    if y834.2 then
      G.hist_faults_1__hist_Right__r_j5 v778 x801 y834.1
    else
      Sh.exit (Sh.exit (some (y834.1, false)))

def hist_faults_1__hist_Right__r_b2 (c_1 : G.api_Hist) (v523 : Int) (x628 : G.api_Txn) (c776 : Bool) (last777 : Int) (v778 : Int) : Option ((Bool × Int × Int) ⊕ ((Bool × Int) ⊕ (Bool × Bool))) :=
  if decide (v778 < (Sh.len x628.Reads)) then
    (Sh.idx x628.Reads v778).bind fun x801 =>
    if decide (x801.From = (-1)) then
      G.hist_faults_1__hist_Right__r_j4 c776 last777 v778 x801 true
    else
      if decide ((0 : Int) ≤ x801.From) then
        if decide (x801.From < (Sh.len c_1.Txns)) then
          if decide (x801.From ≠ v523) then
            (Sh.idx c_1.Txns x801.From).bind fun x840 =>
            (G.slices_Contains_int_int x840.Writes x801.Key).bind fun r842 =>
            G.hist_faults_1__hist_Right__r_j4 c776 last777 v778 x801 r842
          else
            G.hist_faults_1__hist_Right__r_j4 c776 last777 v778 x801 false
        else
          G.hist_faults_1__hist_Right__r_j4 c776 last777 v778 x801 false
      else
        G.hist_faults_1__hist_Right__r_j4 c776 last777 v778 x801 false
  else
    Sh.exit (G.hist_faults_1__hist_Right__r_j3 v523 x628 c776)

def hist_faults_1__hist_Right__r_j2 (c_1 : G.api_Hist) (v523 : Int) (x628 : G.api_Txn) (v660 : Bool) : Option ((Bool × Int) ⊕ (Bool × Bool)) :=
  Sh.loop (fun (p : Bool × Int × Int) => G.hist_faults_1__hist_Right__r_b2 c_1 v523 x628 p.1 p.2.1 p.2.2) (v660, (-1), 0)

def hist_faults_1__hist_Right__r_j6 (v864 : Int) (x876 : Int) (c883 : Bool) : Option ((Bool × Int × Int) ⊕ ((Bool × Int) ⊕ (Bool × Bool))) :=
  Sh.next (c883, x876, w64 (v864 + 1))

def hist_faults_1__hist_Right__r_b3 (c_1 : G.api_Hist) (v523 : Int) (x628 : G.api_Txn) (c862 : Bool) (last863 : Int) (v864 : Int) : Option ((Bool × Int × Int) ⊕ ((Bool × Int) ⊕ (Bool × Bool))) :=
  if decide (v864 < (Sh.len x628.Writes)) then
    (Sh.idx x628.Writes v864).bind fun x876 =>
    if decide (last863 < x876) then
      (G.hist_Right__r c862 (decide (x876 < 16))).bind fun y890 =>
      if y890.2 then
        G.hist_faults_1__hist_Right__r_j6 v864 x876 y890.1
      else
        Sh.exit (Sh.exit (some (y890.1, false)))
    else
      (G.hist_Right__r c862 false).bind fun y892 =>
      if y892.2 then
        G.hist_faults_1__hist_Right__r_j6 v864 x876 y892.1
      else
        Sh.exit (Sh.exit (some (y892.1, false)))
  else
    Sh.exit (G.hist_faults_1__hist_Right__r_j2 c_1 v523 x628 c862)

def hist_faults_1__hist_Right__r_b1 (c_1 : G.api_Hist) (c522 : Bool) (v523 : Int) : Option ((Bool × Int) ⊕ (Bool × Bool)) :=
  if decide (v523 < (Sh.len c_1.Txns)) then
    (Sh.idx c_1.Txns v523).bind fun x628 =>
    Sh.loop (fun (p : Bool × Int × Int) => G.hist_faults_1__hist_Right__r_b3 c_1 v523 x628 p.1 p.2.1 p.2.2) (c522, (-1), 0)
  else
    Sh.exit (some (c522, true))

def hist_faults_1__hist_Right__r (c_0 : Bool) (c_1 : G.api_Hist) : Option (Bool × Bool) :=
  (G.hist_Right__r c_0 (decide ((Sh.len c_1.Txns) ≤ 32))).bind fun y316 =>
  if y316.2 then
    Sh.loop (fun (p : Bool × Int) => G.hist_faults_1__hist_Right__r_b1 c_1 p.1 p.2) (y316.1, 0)
  else
    some (y316.1, false)

def hist_Right (h_0 : G.api_Hist) : Option (Bool) :=
  (G.hist_faults h_0).bind fun r8 =>
  (G.hist_faults_1__hist_Right__r false h_0).bind fun it9 =>
  if it9.2 then
    some true
  else
    some it9.1
end G
end

section
/- What the functions of a package compute, as plain functions. -/
open Go Go.Av
set_option linter.unusedVariables false
namespace G
def inquestref08_Few_j1 : Option (Bool) :=
  some true

def inquestref08_Few_j2 (i55 : Int) (v68 : Bool) : Option ((Int) ⊕ (Bool)) :=
  if v68 then
    Sh.exit (some false)
  else
    Sh.next (w64 (i55 + 1))

def inquestref08_Few_b1 (h_0 : G.api_Hist) (i55 : Int) : Option ((Int) ⊕ (Bool)) :=
  if decide (i55 < (Sh.len h_0.Txns)) then
    (Sh.idx h_0.Txns i55).bind fun x70 =>
    if decide ((20 : Int) < (Sh.len x70.Writes)) then
      G.inquestref08_Few_j2 i55 true
    else
      (Sh.idx h_0.Txns i55).bind fun x73 =>
      G.inquestref08_Few_j2 i55 (decide ((20 : Int) < (Sh.len x73.Reads)))
  else
    Sh.exit (G.inquestref08_Few_j1)

def inquestref08_Few (h_0 : G.api_Hist) (many_1 : Int) : Option (Bool) :=
  if decide (many_1 < (Sh.len h_0.Txns)) then
    some false
  else
    Sh.loop (fun (p : Int) => G.inquestref08_Few_b1 h_0 p) 0

def inquestref08_Writes_j1 : Option (Bool) :=
  some false

def inquestref08_Writes_b1 (t_0 : G.api_Txn) (key_1 : Int) (i22 : Int) : Option ((Int) ⊕ (Bool)) :=
  if decide (i22 < (Sh.len t_0.Writes)) then
    (Sh.idx t_0.Writes i22).bind fun x28 =>
    if decide (x28 = key_1) then
      Sh.exit (some true)
    else
      Sh.next (w64 (i22 + 1))
  else
    Sh.exit (G.inquestref08_Writes_j1)

def inquestref08_Writes (t_0 : G.api_Txn) (key_1 : Int) : Option (Bool) :=
  Sh.loop (fun (p : Int) => G.inquestref08_Writes_b1 t_0 key_1 p) 0

end G
end

section
/- What the functions of a package compute, as plain functions. -/
open Go Go.Av
set_option linter.unusedVariables false
namespace G
end G
end

section
/- What the functions of a package compute, as plain functions. -/
open Go Go.Av
set_option linter.unusedVariables false
namespace G
end G
end

section
/- What the functions of a package compute, as plain functions. -/
open Go Go.Av
set_option linter.unusedVariables false
namespace G
def inquestref18_place_j1 : Option (Int) :=
  some (-1)

def inquestref18_place_b1 (l_0 : List Int) (n_1 : Int) (i22 : Int) : Option ((Int) ⊕ (Int)) :=
  if decide (i22 < (Sh.len l_0)) then
    (Sh.idx l_0 i22).bind fun x28 =>
    if decide (x28 = n_1) then
      Sh.exit (some i22)
    else
      Sh.next (w64 (i22 + 1))
  else
    Sh.exit (G.inquestref18_place_j1)

def inquestref18_place (l_0 : List Int) (n_1 : Int) : Option (Int) :=
  Sh.loop (fun (p : Int) => G.inquestref18_place_b1 l_0 n_1 p) 0

def inquestref18_Perm_j1 : Option (Bool) :=
  some true

def inquestref18_Perm_b1 (l_0 : List Int) (n_1 : Int) (i15 : Int) : Option ((Int) ⊕ (Bool)) :=
  if decide (i15 < n_1) then
    (G.inquestref18_place l_0 i15).bind fun r19 =>
    if decide (r19 < 0) then
      Sh.exit (some false)
    else
      Sh.next (w64 (i15 + 1))
  else
    Sh.exit (G.inquestref18_Perm_j1)

def inquestref18_Perm (l_0 : List Int) (n_1 : Int) : Option (Bool) :=
  if decide ((Sh.len l_0) ≠ n_1) then
    some false
  else
    Sh.loop (fun (p : Int) => G.inquestref18_Perm_b1 l_0 n_1 p) 0

end G
end

section
/- What the functions of a package compute, as plain functions. -/
open Go Go.Av
set_option linter.unusedVariables false
namespace G
end G
end

section
/- What the functions of a package compute, as plain functions. -/
open Go Go.Av
set_option linter.unusedVariables false
namespace G
def ser_right_j2 : Option (Bool) :=
  some true

def ser_right_j3 (seen93 : List Bool) (v94 : Int) (x107 : Int) (v118 : Bool) : Option (((List Bool) × Int) ⊕ (Bool)) :=
  if v118 then
    Sh.exit (some false)
  else
    (Sh.aidx 32 seen93 x107).bind fun x120 =>
    Sh.next (Sh.set seen93 x107 true, w64 (v94 + 1))

def ser_right_b1 (order_1 : List Int) (seen93 : List Bool) (v94 : Int) : Option (((List Bool) × Int) ⊕ (Bool)) :=
  if decide (v94 < (Sh.len order_1)) then
    (Sh.idx order_1 v94).bind fun x107 =>
    if decide (x107 < 0) then
      G.ser_right_j3 seen93 v94 x107 true
    else
      if decide ((Sh.len order_1) ≤ x107) then
        G.ser_right_j3 seen93 v94 x107 true
      else
        (Sh.aidx 32 seen93 x107).bind fun x124 =>
        G.ser_right_j3 seen93 v94 x107 x124
  else
    Sh.exit (G.ser_right_j2)

def ser_right_j1 (order_1 : List Int) (v40 : Bool) : Option (Bool) :=
  if v40 then
    some false
  else
    Sh.loop (fun (p : (List Bool) × Int) => G.ser_right_b1 order_1 p.1 p.2) ((List.replicate 32 false), 0)

def ser_right (h_0 : G.api_Hist) (order_1 : List Int) : Option (Bool) :=
  (G.hist_Right h_0).bind fun r126 =>
  if !r126 then
    G.ser_right_j1 order_1 true
  else
    G.ser_right_j1 order_1 (decide ((Sh.len order_1) ≠ (Sh.len h_0.Txns)))

def ser_Play_j1 (out339 : List (List G.api_Take)) : Option ((List (List G.api_Take))) :=
  some out339

def ser_Play_j2 (v451 : Int) (out506 : List (List G.api_Take)) (v507 : List Int) : Option (((List Int) × (List (List G.api_Take)) × Int) ⊕ ((List (List G.api_Take)))) :=
  Sh.next (v507, out506, w64 (v451 + 1))

def ser_Play_b2 (v451 : Int) (x510 : Int) (out545 : List (List G.api_Take)) (x548 : G.api_Txn) (last560 : List Int) (v561 : Int) : Option (((List Int) × Int) ⊕ (((List Int) × (List (List G.api_Take)) × Int) ⊕ ((List (List G.api_Take))))) :=
  if decide (v561 < (Sh.len x548.Writes)) then
    (Sh.idx x548.Writes v561).bind fun x569 =>
    (Sh.aidx 16 last560 x569).bind fun x571 =>
    Sh.next (Sh.set last560 x569 (w64 (x510 + 1)), w64 (v561 + 1))
  else
    Sh.exit (G.ser_Play_j2 v451 out545 last560)

def ser_Play_j3 (h_0 : G.api_Hist) (last449 : List Int) (v451 : Int) (x510 : Int) (out545 : List (List G.api_Take)) : Option (((List Int) × (List (List G.api_Take)) × Int) ⊕ ((List (List G.api_Take)))) :=
  (Sh.idx h_0.Txns x510).bind fun x548 =>
  Sh.loop (fun (p : (List Int) × Int) => G.ser_Play_b2 v451 x510 out545 x548 p.1 p.2) (last449, 0)

def ser_Play_b3 (h_0 : G.api_Hist) (last449 : List Int) (v451 : Int) (x510 : Int) (x575 : G.api_Txn) (out597 : List (List G.api_Take)) (v598 : Int) : Option (((List (List G.api_Take)) × Int) ⊕ (((List Int) × (List (List G.api_Take)) × Int) ⊕ ((List (List G.api_Take))))) :=
  if decide (v598 < (Sh.len x575.Reads)) then
    (Sh.idx x575.Reads v598).bind fun x611 =>
    (Sh.idx out597 x510).bind fun x613 =>
    (Sh.aidx 16 last449 x611.Key).bind fun x615 =>
    (Sh.app 16 x613 ([(G.api_Take.mk x611.Key (w64 (x615 - 1)))] : List G.api_Take)).bind fun l617 =>
    (Sh.idx out597 x510).bind fun x618 =>
    Sh.next (Sh.set out597 x510 l617, w64 (v598 + 1))
  else
    Sh.exit (G.ser_Play_j3 h_0 last449 v451 x510 out597)

def ser_Play_b1 (h_0 : G.api_Hist) (order_1 : List Int) (last449 : List Int) (out450 : List (List G.api_Take)) (v451 : Int) : Option (((List Int) × (List (List G.api_Take)) × Int) ⊕ ((List (List G.api_Take)))) :=
  if decide (v451 < (Sh.len order_1)) then
    (Sh.idx order_1 v451).bind fun x510 =>
    (Sh.idx h_0.Txns x510).bind fun x575 =>
    Sh.loop (fun (p : (List (List G.api_Take)) × Int) => G.ser_Play_b3 h_0 last449 v451 x510 x575 p.1 p.2) (out450, 0)
  else
    Sh.exit (G.ser_Play_j1 out450)

def ser_Play (h_0 : G.api_Hist) (order_1 : List Int) : Option ((List (List G.api_Take))) :=
  (G.ser_right h_0 order_1).bind fun r170 =>
  if !r170 then
    some []
  else
    (Sh.mk 24 (Sh.len order_1) (Sh.len order_1) []).bind fun made173 =>
    Sh.loop (fun (p : (List Int) × (List (List G.api_Take)) × Int) => G.ser_Play_b1 h_0 order_1 p.1 p.2.1 p.2.2) ((List.replicate 16 0), made173, 0)

def ser_Check_j2 : Option (Bool) :=
  some true

def ser_Check_b1 (h_0 : G.api_Hist) (order_1 : List Int) (last116 : List Int) (v117 : Int) : Option (((List Int) × Int) ⊕ (Bool)) :=
  if decide (v117 < (Sh.len order_1)) then
    (Sh.idx order_1 v117).bind fun x129 =>
    (Sh.idx h_0.Txns x129).bind fun x133 =>
    (Sh.aidx 8 last116 x133.Session).bind fun x139 =>
    if decide (x129 < x139) then
      Sh.exit (some false)
    else
      (Sh.aidx 8 last116 x133.Session).bind fun x142 =>
      Sh.next (Sh.set last116 x133.Session (w64 (x129 + 1)), w64 (v117 + 1))
  else
    Sh.exit (G.ser_Check_j2)

def ser_Check_j1 (h_0 : G.api_Hist) (order_1 : List Int) : Option (Bool) :=
  Sh.loop (fun (p : (List Int) × Int) => G.ser_Check_b1 h_0 order_1 p.1 p.2) ((List.replicate 8 0), 0)

def ser_Check_b2 (h_0 : G.api_Hist) (order_1 : List Int) (r145 : (List (List G.api_Take))) (v157 : Int) : Option ((Int) ⊕ (Bool)) :=
  if decide (v157 < (Sh.len r145)) then
    (Sh.idx r145 v157).bind fun x166 =>
    (Sh.idx h_0.Txns v157).bind fun x171 =>
    (G.slices_Equal_api_Take_api_Take x166 x171.Reads).bind fun r173 =>
    if !r173 then
      Sh.exit (some false)
    else
      Sh.next (w64 (v157 + 1))
  else
    Sh.exit (G.ser_Check_j1 h_0 order_1)

def ser_Check (h_0 : G.api_Hist) (order_1 : List Int) : Option (Bool) :=
  (G.ser_right h_0 order_1).bind fun r50 =>
  if !r50 then
    some false
  else
    (G.ser_Play h_0 order_1).bind fun r145 =>
    Sh.loop (fun (p : Int) => G.ser_Check_b2 h_0 order_1 r145 p) 0
end G
end

section
/- What the functions of a package compute, as plain functions. -/
open Go Go.Av
set_option linter.unusedVariables false
namespace G
def inquestref20_Takes_j1 : Option (Bool) :=
  some true

def inquestref20_Takes_b1 (a_0 : List G.api_Take) (b_1 : List G.api_Take) (i39 : Int) : Option ((Int) ⊕ (Bool)) :=
  if decide (i39 < (Sh.len a_0)) then
    (Sh.idx a_0 i39).bind fun x49 =>
    (Sh.idx b_1 i39).bind fun x51 =>
    if !decide (x49 = x51) then
      Sh.exit (some false)
    else
      Sh.next (w64 (i39 + 1))
  else
    Sh.exit (G.inquestref20_Takes_j1)

def inquestref20_Takes (a_0 : List G.api_Take) (b_1 : List G.api_Take) : Option (Bool) :=
  if decide ((Sh.len a_0) ≠ (Sh.len b_1)) then
    some false
  else
    Sh.loop (fun (p : Int) => G.inquestref20_Takes_b1 a_0 b_1 p) 0

end G
end

section
/- What the functions of a package compute, as plain functions. -/
open Go Go.Av
set_option linter.unusedVariables false
namespace G
def inquestlaw20_awake : Option (Bool) :=
  (G.ser_Play (G.api_Hist.mk ([(G.api_Txn.mk 0 [1] []), (G.api_Txn.mk 1 [] ([(G.api_Take.mk 1 0)] : List G.api_Take))] : List G.api_Txn)) [1, 0]).bind fun r11 =>
  if decide ((Sh.len r11) ≠ 2) then
    some false
  else
    (G.ser_Check (G.api_Hist.mk ([(G.api_Txn.mk 0 [1] []), (G.api_Txn.mk 1 [] ([(G.api_Take.mk 1 0)] : List G.api_Take))] : List G.api_Txn)) [0, 1]).bind fun r20 =>
    if r20 then
      (G.ser_Check (G.api_Hist.mk ([(G.api_Txn.mk 0 [1] []), (G.api_Txn.mk 1 [] ([(G.api_Take.mk 1 0)] : List G.api_Take))] : List G.api_Txn)) [1, 0]).bind fun r22 =>
      if !r22 then
        (Sh.idx r11 1).bind fun x24 =>
        (G.inquestref20_Takes x24 ([(G.api_Take.mk 1 (-1))] : List G.api_Take)).bind fun r26 =>
        some r26
      else
        some false
    else
      some false

def inquestlaw20_SerSwaps_j2 (h_0 : G.api_Hist) (order_1 : List Int) (at_2 : Int) : Option (Bool) :=
  (Sh.app 8 [] order_1).bind fun other323 =>
  (Sh.idx order_1 (w64 (at_2 + 1))).bind fun x328 =>
  (Sh.idx other323 at_2).bind fun x330 =>
  (Sh.idx order_1 at_2).bind fun x336 =>
  (Sh.idx (Sh.set other323 at_2 x328) (w64 (at_2 + 1))).bind fun x338 =>
  (G.ser_Check h_0 order_1).bind fun r342 =>
  (G.ser_Check h_0 (Sh.set (Sh.set other323 at_2 x328) (w64 (at_2 + 1)) x336)).bind fun r343 =>
  some (r342 == r343)

def inquestlaw20_SerSwaps_j3 (key429 : Int) : Option ((Int) ⊕ (Bool)) :=
  Sh.next (w64 (key429 + 1))

def inquestlaw20_SerSwaps_j6 (key429 : Int) (v518 : Bool) : Option ((Int) ⊕ (Bool)) :=
  if v518 then
    Sh.exit (some true)
  else
    G.inquestlaw20_SerSwaps_j3 key429

def inquestlaw20_SerSwaps_j5 (key429 : Int) (b496 : Bool) (a516 : Bool) : Option ((Int) ⊕ (Bool)) :=
  if a516 then
    G.inquestlaw20_SerSwaps_j6 key429 b496
  else
    G.inquestlaw20_SerSwaps_j6 key429 false

def inquestlaw20_SerSwaps_j7 (i534 : Int) (a544 : Bool) (v545 : Bool) : Option ((Bool × Int) ⊕ ((Int) ⊕ (Bool))) :=
  if v545 then
    Sh.exit (Sh.exit (some true))
  else
    Sh.next (a544, w64 (i534 + 1))

def inquestlaw20_SerSwaps_b2 (x191 : G.api_Txn) (key429 : Int) (b496 : Bool) (a533 : Bool) (i534 : Int) : Option ((Bool × Int) ⊕ ((Int) ⊕ (Bool))) :=
  if decide (i534 < (Sh.len x191.Reads)) then
    if a533 then
      (Sh.idx x191.Reads i534).bind fun x548 =>
      G.inquestlaw20_SerSwaps_j7 i534 true (decide (x548.Key = key429))
    else
      G.inquestlaw20_SerSwaps_j7 i534 false false
  else
    Sh.exit (G.inquestlaw20_SerSwaps_j5 key429 b496 a533)

def inquestlaw20_SerSwaps_j4 (x191 : G.api_Txn) (key429 : Int) (r474 : Bool) (b496 : Bool) : Option ((Int) ⊕ (Bool)) :=
  Sh.loop (fun (p : Bool × Int) => G.inquestlaw20_SerSwaps_b2 x191 key429 b496 p.1 p.2) (r474, 0)

def inquestlaw20_SerSwaps_j8 (i563 : Int) (b573 : Bool) (v574 : Bool) : Option ((Bool × Int) ⊕ ((Int) ⊕ (Bool))) :=
  if v574 then
    Sh.exit (Sh.exit (some true))
  else
    Sh.next (b573, w64 (i563 + 1))

def inquestlaw20_SerSwaps_b3 (x183 : G.api_Txn) (x191 : G.api_Txn) (key429 : Int) (r474 : Bool) (b562 : Bool) (i563 : Int) : Option ((Bool × Int) ⊕ ((Int) ⊕ (Bool))) :=
  if decide (i563 < (Sh.len x183.Reads)) then
    if b562 then
      (Sh.idx x183.Reads i563).bind fun x577 =>
      G.inquestlaw20_SerSwaps_j8 i563 true (decide (x577.Key = key429))
    else
      G.inquestlaw20_SerSwaps_j8 i563 false false
  else
    Sh.exit (G.inquestlaw20_SerSwaps_j4 x191 key429 r474 b562)

def inquestlaw20_SerSwaps_b1 (h_0 : G.api_Hist) (order_1 : List Int) (at_2 : Int) (x183 : G.api_Txn) (x191 : G.api_Txn) (key429 : Int) : Option ((Int) ⊕ (Bool)) :=
  if decide (key429 < 16) then
    (G.inquestref08_Writes x183 key429).bind fun r474 =>
    (G.inquestref08_Writes x191 key429).bind fun r476 =>
    Sh.loop (fun (p : Bool × Int) => G.inquestlaw20_SerSwaps_b3 x183 x191 key429 r474 p.1 p.2) (r476, 0)
  else
    Sh.exit (G.inquestlaw20_SerSwaps_j2 h_0 order_1 at_2)

def inquestlaw20_SerSwaps_j1 (h_0 : G.api_Hist) (order_1 : List Int) (at_2 : Int) (v175 : Bool) : Option (Bool) :=
  if v175 then
    some true
  else
    (Sh.idx order_1 at_2).bind fun x181 =>
    (Sh.idx h_0.Txns x181).bind fun x183 =>
    (Sh.idx order_1 (w64 (at_2 + 1))).bind fun x189 =>
    (Sh.idx h_0.Txns x189).bind fun x191 =>
    if decide (x183.Session = x191.Session) then
      some true
    else
      Sh.loop (fun (p : Int) => G.inquestlaw20_SerSwaps_b1 h_0 order_1 at_2 x183 x191 p) 0

def inquestlaw20_SerSwaps (h_0 : G.api_Hist) (order_1 : List Int) (at_2 : Int) : Option (Bool) :=
  (G.inquestlaw20_awake).bind fun r158 =>
  if !r158 then
    some false
  else
    (G.inquestref08_Few h_0 40).bind fun r161 =>
    (G.inquestref18_Perm order_1 (Sh.len h_0.Txns)).bind fun r163 =>
    if !r161 then
      G.inquestlaw20_SerSwaps_j1 h_0 order_1 at_2 true
    else
      if !r163 then
        G.inquestlaw20_SerSwaps_j1 h_0 order_1 at_2 true
      else
        (G.hist_Right h_0).bind fun r581 =>
        if !r581 then
          G.inquestlaw20_SerSwaps_j1 h_0 order_1 at_2 true
        else
          if decide (at_2 < 0) then
            G.inquestlaw20_SerSwaps_j1 h_0 order_1 at_2 true
          else
            G.inquestlaw20_SerSwaps_j1 h_0 order_1 at_2 (decide ((w64 ((Sh.len order_1) - 1)) ≤ at_2))
end G
end
