/- What the functions compute, as plain functions. -/
import Derived.Test.YtfgndjgcfkfobaaGreatDoorBase1
set_option linter.unusedSimpArgs false
set_option linter.unusedVariables false
section
/- The plain types. -/
open Go Go.Av
namespace G
structure api_Choice where
  Key : Int
  A : Int
  B : Int
  deriving DecidableEq, Inhabited
def api_Choice.av (x : api_Choice) : AV := .agg [i64 x.Key, i64 x.A, i64 x.B]
@[simp] theorem api_Choice.noid (x : api_Choice) : NoId (api_Choice.av x) := by simp [api_Choice.av]
@[simp] theorem api_Choice.solid (x : api_Choice) : AV.solid (api_Choice.av x) = true := rfl
@[simp] theorem api_Choice.dry (x : api_Choice) : Dry (api_Choice.av x) := by simp [api_Choice.av]
@[simp] theorem api_Choice.flat (x : api_Choice) : (api_Choice.av x).flat.length = 3 := rfl
structure api_Take where
  Key : Int
  From : Int
  deriving DecidableEq, Inhabited
def api_Take.av (x : api_Take) : AV := .agg [i64 x.Key, i64 x.From]
@[simp] theorem api_Take.noid (x : api_Take) : NoId (api_Take.av x) := by simp [api_Take.av]
@[simp] theorem api_Take.solid (x : api_Take) : AV.solid (api_Take.av x) = true := rfl
@[simp] theorem api_Take.dry (x : api_Take) : Dry (api_Take.av x) := by simp [api_Take.av]
@[simp] theorem api_Take.flat (x : api_Take) : (api_Take.av x).flat.length = 2 := rfl
structure api_Txn where
  Session : Int
  Writes : List Int
  Reads : List G.api_Take
  deriving DecidableEq, Inhabited
def api_Txn.av (x : api_Txn) : AV := .agg [i64 x.Session, .sl (List.map i64 x.Writes), .sl (List.map G.api_Take.av x.Reads)]
@[simp] theorem api_Txn.noid (x : api_Txn) : NoId (api_Txn.av x) := by simp [api_Txn.av]
@[simp] theorem api_Txn.solid (x : api_Txn) : AV.solid (api_Txn.av x) = true := rfl
@[simp] theorem api_Txn.flat (x : api_Txn) : (api_Txn.av x).flat.length = 3 := rfl
structure api_Hist where
  Txns : List G.api_Txn
  deriving DecidableEq, Inhabited
def api_Hist.av (x : api_Hist) : AV := .agg [.sl (List.map G.api_Txn.av x.Txns)]
@[simp] theorem api_Hist.noid (x : api_Hist) : NoId (api_Hist.av x) := by simp [api_Hist.av]
@[simp] theorem api_Hist.solid (x : api_Hist) : AV.solid (api_Hist.av x) = true := rfl
@[simp] theorem api_Hist.flat (x : api_Hist) : (api_Hist.av x).flat.length = 1 := rfl
structure graph_Graph where
  N : Int
  Rows : List (BitVec 64)
  deriving DecidableEq, Inhabited
def graph_Graph.av (x : graph_Graph) : AV := .agg [i64 x.N, .sl (List.map u64 x.Rows)]
@[simp] theorem graph_Graph.noid (x : graph_Graph) : NoId (graph_Graph.av x) := by simp [graph_Graph.av]
@[simp] theorem graph_Graph.solid (x : graph_Graph) : AV.solid (graph_Graph.av x) = true := rfl
@[simp] theorem graph_Graph.flat (x : graph_Graph) : (graph_Graph.av x).flat.length = 2 := rfl
structure index_read where
  t : Int
  Take : G.api_Take
  deriving DecidableEq, Inhabited
def index_read.av (x : index_read) : AV := .agg [i64 x.t, i64 x.Take.Key, i64 x.Take.From]
@[simp] theorem index_read.noid (x : index_read) : NoId (index_read.av x) := by simp [index_read.av]
@[simp] theorem index_read.solid (x : index_read) : AV.solid (index_read.av x) = true := rfl
@[simp] theorem index_read.dry (x : index_read) : Dry (index_read.av x) := by simp [index_read.av]
@[simp] theorem index_read.flat (x : index_read) : (index_read.av x).flat.length = 3 := rfl
structure inquestref12_G where
  N : Int
  Rows : List (BitVec 64)
  deriving DecidableEq, Inhabited
def inquestref12_G.av (x : inquestref12_G) : AV := .agg [i64 x.N, .sl (List.map u64 x.Rows)]
@[simp] theorem inquestref12_G.noid (x : inquestref12_G) : NoId (inquestref12_G.av x) := by simp [inquestref12_G.av]
@[simp] theorem inquestref12_G.solid (x : inquestref12_G) : AV.solid (inquestref12_G.av x) = true := rfl
@[simp] theorem inquestref12_G.flat (x : inquestref12_G) : (inquestref12_G.av x).flat.length = 2 := rfl
end G
end

section
/- What the functions of a package compute, as plain functions. -/
open Go Go.Av
set_option linter.unusedVariables false
namespace G
end G
end

section
/- What the functions of a package compute, as plain functions. -/
open Go Go.Av
set_option linter.unusedVariables false
namespace G
def slices_Index_int_int_j1 : Option (Int) :=
  some (-1)

def slices_Index_int_int_b1 (s_0 : List Int) (v_1 : Int) (v22 : Int) : Option ((Int) ⊕ (Int)) :=
  if decide (v22 < (Sh.len s_0)) then
    (Sh.idx s_0 v22).bind fun x28 =>
    if decide (v_1 = x28) then
      Sh.exit (some v22)
    else
      Sh.next (w64 (v22 + 1))
  else
    Sh.exit (G.slices_Index_int_int_j1)

def slices_Index_int_int (s_0 : List Int) (v_1 : Int) : Option (Int) :=
  Sh.loop (fun (p : Int) => G.slices_Index_int_int_b1 s_0 v_1 p) 0

def slices_Contains_int_int (s_0 : List Int) (v_1 : Int) : Option (Bool) :=
  (G.slices_Index_int_int s_0 v_1).bind fun r3 =>
  some (decide ((0 : Int) ≤ r3))

def slices_Index_api_Take_api_Take_j1 : Option (Int) :=
  some (-1)

def slices_Index_api_Take_api_Take_b1 (s_0 : List G.api_Take) (v_1 : G.api_Take) (v22 : Int) : Option ((Int) ⊕ (Int)) :=
  if decide (v22 < (Sh.len s_0)) then
    (Sh.idx s_0 v22).bind fun x28 =>
    if decide (v_1 = x28) then
      Sh.exit (some v22)
    else
      Sh.next (w64 (v22 + 1))
  else
    Sh.exit (G.slices_Index_api_Take_api_Take_j1)

def slices_Index_api_Take_api_Take (s_0 : List G.api_Take) (v_1 : G.api_Take) : Option (Int) :=
  Sh.loop (fun (p : Int) => G.slices_Index_api_Take_api_Take_b1 s_0 v_1 p) 0

def slices_Contains_api_Take_api_Take (s_0 : List G.api_Take) (v_1 : G.api_Take) : Option (Bool) :=
  (G.slices_Index_api_Take_api_Take s_0 v_1).bind fun r3 =>
  some (decide ((0 : Int) ≤ r3))

def slices_Index_api_Choice_api_Choice_j1 : Option (Int) :=
  some (-1)

def slices_Index_api_Choice_api_Choice_b1 (s_0 : List G.api_Choice) (v_1 : G.api_Choice) (v22 : Int) : Option ((Int) ⊕ (Int)) :=
  if decide (v22 < (Sh.len s_0)) then
    (Sh.idx s_0 v22).bind fun x28 =>
    if decide (v_1 = x28) then
      Sh.exit (some v22)
    else
      Sh.next (w64 (v22 + 1))
  else
    Sh.exit (G.slices_Index_api_Choice_api_Choice_j1)

def slices_Index_api_Choice_api_Choice (s_0 : List G.api_Choice) (v_1 : G.api_Choice) : Option (Int) :=
  Sh.loop (fun (p : Int) => G.slices_Index_api_Choice_api_Choice_b1 s_0 v_1 p) 0

def slices_Contains_api_Choice_api_Choice (s_0 : List G.api_Choice) (v_1 : G.api_Choice) : Option (Bool) :=
  (G.slices_Index_api_Choice_api_Choice s_0 v_1).bind fun r3 =>
  some (decide ((0 : Int) ≤ r3))
end G
end

section
/- What the functions of a package compute, as plain functions. -/
open Go Go.Av
set_option linter.unusedVariables false
namespace G
def hist_faults (h_0 : G.api_Hist) : Option (Unit) :=
  some ()

def hist_Right__r (c_0 : Bool) (y_1 : Bool) : Option (Bool × Bool) :=
  if !y_1 then
    some (false, false)
  else
    some (c_0, true)

def hist_faults_1__hist_Right__r_j1 (v523 : Int) (c625 : Bool) : Option ((Bool × Int) ⊕ (Bool × Bool)) :=
  Sh.next (c625, w64 (v523 + 1))

def hist_faults_1__hist_Right__r_j3 (v523 : Int) (x628 : G.api_Txn) (v724 : Bool) : Option ((Bool × Int) ⊕ (Bool × Bool)) :=
  if decide ((0 : Int) ≤ x628.Session) then
    (G.hist_Right__r v724 (decide (x628.Session < 8))).bind fun y731 =>
    if y731.2 then
      G.hist_faults_1__hist_Right__r_j1 v523 y731.1
    else
      Sh.exit (some (y731.1, false))
  else
    (G.hist_Right__r v724 false).bind fun y733 =>
    if y733.2 then
      G.hist_faults_1__hist_Right__r_j1 v523 y733.1
    else
      Sh.exit (some (y733.1, false))

def hist_faults_1__hist_Right__r_j5 (v778 : Int) (x801 : G.api_Take) (c819 : Bool) : Option ((Bool × Int × Int) ⊕ ((Bool × Int) ⊕ (Bool × Bool))) :=
  Sh.next (c819, x801.Key, w64 (v778 + 1))

def hist_faults_1__hist_Right__r_j4 (c776 : Bool) (last777 : Int) (v778 : Int) (x801 : G.api_Take) (there810 : Bool) : Option ((Bool × Int × Int) ⊕ ((Bool × Int) ⊕ (Bool × Bool))) :=
  if decide (last777 < x801.Key) then
    if decide (x801.Key < 16) then
      (G.hist_Right__r c776 there810).bind fun y830 =>
      if y830.2 then
        G.hist_faults_1__hist_Right__r_j5 v778 x801 y830.1
      else
        Sh.exit (Sh.exit (some (y830.1, false)))
    else
      (G.hist_Right__r c776 false).bind fun y832 =>
      if y832.2 then
        G.hist_faults_1__hist_Right__r_j5 v778 x801 y832.1
      else
        Sh.exit (Sh.exit (some (y832.1, false)))
  else
    (G.hist_Right__r c776 false).bind fun y834 =>
    if y834.2 then
      G.hist_faults_1__hist_Right__r_j5 v778 x801 y834.1
    else
      Sh.exit (Sh.exit (some (y834.1, false)))

def hist_faults_1__hist_Right__r_b2 (c_1 : G.api_Hist) (v523 : Int) (x628 : G.api_Txn) (c776 : Bool) (last777 : Int) (v778 : Int) : Option ((Bool × Int × Int) ⊕ ((Bool × Int) ⊕ (Bool × Bool))) :=
  if decide (v778 < (Sh.len x628.Reads)) then
    (Sh.idx x628.Reads v778).bind fun x801 =>
    if decide (x801.From = (-1)) then
      G.hist_faults_1__hist_Right__r_j4 c776 last777 v778 x801 true
    else
      if decide ((0 : Int) ≤ x801.From) then
        if decide (x801.From < (Sh.len c_1.Txns)) then
          if decide (x801.From ≠ v523) then
            (Sh.idx c_1.Txns x801.From).bind fun x840 =>
            (G.slices_Contains_int_int x840.Writes x801.Key).bind fun r842 =>
            G.hist_faults_1__hist_Right__r_j4 c776 last777 v778 x801 r842
          else
            G.hist_faults_1__hist_Right__r_j4 c776 last777 v778 x801 false
        else
          G.hist_faults_1__hist_Right__r_j4 c776 last777 v778 x801 false
      else
        G.hist_faults_1__hist_Right__r_j4 c776 last777 v778 x801 false
  else
    Sh.exit (G.hist_faults_1__hist_Right__r_j3 v523 x628 c776)

def hist_faults_1__hist_Right__r_j2 (c_1 : G.api_Hist) (v523 : Int) (x628 : G.api_Txn) (v660 : Bool) : Option ((Bool × Int) ⊕ (Bool × Bool)) :=
  Sh.loop (fun (p : Bool × Int × Int) => G.hist_faults_1__hist_Right__r_b2 c_1 v523 x628 p.1 p.2.1 p.2.2) (v660, (-1), 0)

def hist_faults_1__hist_Right__r_j6 (v864 : Int) (x876 : Int) (c883 : Bool) : Option ((Bool × Int × Int) ⊕ ((Bool × Int) ⊕ (Bool × Bool))) :=
  Sh.next (c883, x876, w64 (v864 + 1))

def hist_faults_1__hist_Right__r_b3 (c_1 : G.api_Hist) (v523 : Int) (x628 : G.api_Txn) (c862 : Bool) (last863 : Int) (v864 : Int) : Option ((Bool × Int × Int) ⊕ ((Bool × Int) ⊕ (Bool × Bool))) :=
  if decide (v864 < (Sh.len x628.Writes)) then
    (Sh.idx x628.Writes v864).bind fun x876 =>
    if decide (last863 < x876) then
      (G.hist_Right__r c862 (decide (x876 < 16))).bind fun y890 =>
      if y890.2 then
        G.hist_faults_1__hist_Right__r_j6 v864 x876 y890.1
      else
        Sh.exit (Sh.exit (some (y890.1, false)))
    else
      (G.hist_Right__r c862 false).bind fun y892 =>
      if y892.2 then
        G.hist_faults_1__hist_Right__r_j6 v864 x876 y892.1
      else
        Sh.exit (Sh.exit (some (y892.1, false)))
  else
    Sh.exit (G.hist_faults_1__hist_Right__r_j2 c_1 v523 x628 c862)

def hist_faults_1__hist_Right__r_b1 (c_1 : G.api_Hist) (c522 : Bool) (v523 : Int) : Option ((Bool × Int) ⊕ (Bool × Bool)) :=
  if decide (v523 < (Sh.len c_1.Txns)) then
    (Sh.idx c_1.Txns v523).bind fun x628 =>
    Sh.loop (fun (p : Bool × Int × Int) => G.hist_faults_1__hist_Right__r_b3 c_1 v523 x628 p.1 p.2.1 p.2.2) (c522, (-1), 0)
  else
    Sh.exit (some (c522, true))

def hist_faults_1__hist_Right__r (c_0 : Bool) (c_1 : G.api_Hist) : Option (Bool × Bool) :=
  (G.hist_Right__r c_0 (decide ((Sh.len c_1.Txns) ≤ 32))).bind fun y316 =>
  if y316.2 then
    Sh.loop (fun (p : Bool × Int) => G.hist_faults_1__hist_Right__r_b1 c_1 p.1 p.2) (y316.1, 0)
  else
    some (y316.1, false)

def hist_Right (h_0 : G.api_Hist) : Option (Bool) :=
  (G.hist_faults h_0).bind fun r8 =>
  (G.hist_faults_1__hist_Right__r false h_0).bind fun it9 =>
  if it9.2 then
    some true
  else
    some it9.1
end G
end

section
/- What the functions of a package compute, as plain functions. -/
open Go Go.Av
set_option linter.unusedVariables false
namespace G
def inquestref08_Few_j1 : Option (Bool) :=
  some true

def inquestref08_Few_j2 (i55 : Int) (v68 : Bool) : Option ((Int) ⊕ (Bool)) :=
  if v68 then
    Sh.exit (some false)
  else
    Sh.next (w64 (i55 + 1))

def inquestref08_Few_b1 (h_0 : G.api_Hist) (i55 : Int) : Option ((Int) ⊕ (Bool)) :=
  if decide (i55 < (Sh.len h_0.Txns)) then
    (Sh.idx h_0.Txns i55).bind fun x70 =>
    if decide ((20 : Int) < (Sh.len x70.Writes)) then
      G.inquestref08_Few_j2 i55 true
    else
      (Sh.idx h_0.Txns i55).bind fun x73 =>
      G.inquestref08_Few_j2 i55 (decide ((20 : Int) < (Sh.len x73.Reads)))
  else
    Sh.exit (G.inquestref08_Few_j1)

def inquestref08_Few (h_0 : G.api_Hist) (many_1 : Int) : Option (Bool) :=
  if decide (many_1 < (Sh.len h_0.Txns)) then
    some false
  else
    Sh.loop (fun (p : Int) => G.inquestref08_Few_b1 h_0 p) 0

def inquestref08_Writes_j1 : Option (Bool) :=
  some false

def inquestref08_Writes_b1 (t_0 : G.api_Txn) (key_1 : Int) (i22 : Int) : Option ((Int) ⊕ (Bool)) :=
  if decide (i22 < (Sh.len t_0.Writes)) then
    (Sh.idx t_0.Writes i22).bind fun x28 =>
    if decide (x28 = key_1) then
      Sh.exit (some true)
    else
      Sh.next (w64 (i22 + 1))
  else
    Sh.exit (G.inquestref08_Writes_j1)

def inquestref08_Writes (t_0 : G.api_Txn) (key_1 : Int) : Option (Bool) :=
  Sh.loop (fun (p : Int) => G.inquestref08_Writes_b1 t_0 key_1 p) 0

def inquestref08_one_j3 : Option (Bool) :=
  some true

def inquestref08_one_j4 (i195 : Int) : Option ((Int) ⊕ (Bool)) :=
  Sh.next (w64 (i195 + 1))

def inquestref08_one_j5 (h_0 : G.api_Hist) (i195 : Int) (x215 : G.api_Take) (v238 : Bool) : Option ((Int) ⊕ (Bool)) :=
  if v238 then
    Sh.exit (some false)
  else
    if decide (x215.From < 0) then
      G.inquestref08_one_j4 i195
    else
      (Sh.idx h_0.Txns x215.From).bind fun x244 =>
      (G.inquestref08_Writes x244 x215.Key).bind fun r246 =>
      if !r246 then
        Sh.exit (some false)
      else
        G.inquestref08_one_j4 i195

def inquestref08_one_b1 (h_0 : G.api_Hist) (n_1 : Int) (x84 : G.api_Txn) (i195 : Int) : Option ((Int) ⊕ (Bool)) :=
  if decide (i195 < (Sh.len x84.Reads)) then
    (Sh.idx x84.Reads i195).bind fun x215 =>
    if decide (x215.Key < 0) then
      G.inquestref08_one_j5 h_0 i195 x215 true
    else
      if decide ((15 : Int) < x215.Key) then
        G.inquestref08_one_j5 h_0 i195 x215 true
      else
        if decide ((0 : Int) < i195) then
          (Sh.idx x84.Reads (w64 (i195 - 1))).bind fun x251 =>
          if decide (x215.Key ≤ x251.Key) then
            G.inquestref08_one_j5 h_0 i195 x215 true
          else
            if decide (x215.From < (-1)) then
              G.inquestref08_one_j5 h_0 i195 x215 true
            else
              if decide ((Sh.len h_0.Txns) ≤ x215.From) then
                G.inquestref08_one_j5 h_0 i195 x215 true
              else
                G.inquestref08_one_j5 h_0 i195 x215 (decide (x215.From = n_1))
        else
          if decide (x215.From < (-1)) then
            G.inquestref08_one_j5 h_0 i195 x215 true
          else
            if decide ((Sh.len h_0.Txns) ≤ x215.From) then
              G.inquestref08_one_j5 h_0 i195 x215 true
            else
              G.inquestref08_one_j5 h_0 i195 x215 (decide (x215.From = n_1))
  else
    Sh.exit (G.inquestref08_one_j3)

def inquestref08_one_j2 (h_0 : G.api_Hist) (n_1 : Int) (x84 : G.api_Txn) : Option (Bool) :=
  Sh.loop (fun (p : Int) => G.inquestref08_one_b1 h_0 n_1 x84 p) 0

def inquestref08_one_j6 (i278 : Int) (v303 : Bool) : Option ((Int) ⊕ (Bool)) :=
  if v303 then
    Sh.exit (some false)
  else
    Sh.next (w64 (i278 + 1))

def inquestref08_one_b2 (h_0 : G.api_Hist) (n_1 : Int) (x84 : G.api_Txn) (i278 : Int) : Option ((Int) ⊕ (Bool)) :=
  if decide (i278 < (Sh.len x84.Writes)) then
    (Sh.idx x84.Writes i278).bind fun x305 =>
    if decide (x305 < 0) then
      G.inquestref08_one_j6 i278 true
    else
      (Sh.idx x84.Writes i278).bind fun x308 =>
      if decide ((15 : Int) < x308) then
        G.inquestref08_one_j6 i278 true
      else
        if decide ((0 : Int) < i278) then
          (Sh.idx x84.Writes (w64 (i278 - 1))).bind fun x312 =>
          (Sh.idx x84.Writes i278).bind fun x314 =>
          G.inquestref08_one_j6 i278 (decide (x314 ≤ x312))
        else
          G.inquestref08_one_j6 i278 false
  else
    Sh.exit (G.inquestref08_one_j2 h_0 n_1 x84)

def inquestref08_one_j1 (h_0 : G.api_Hist) (n_1 : Int) (x84 : G.api_Txn) (v89 : Bool) : Option (Bool) :=
  if v89 then
    some false
  else
    Sh.loop (fun (p : Int) => G.inquestref08_one_b2 h_0 n_1 x84 p) 0

def inquestref08_one (h_0 : G.api_Hist) (n_1 : Int) : Option (Bool) :=
  (Sh.idx h_0.Txns n_1).bind fun x84 =>
  if decide (x84.Session < 0) then
    G.inquestref08_one_j1 h_0 n_1 x84 true
  else
    G.inquestref08_one_j1 h_0 n_1 x84 (decide ((7 : Int) < x84.Session))

def inquestref08_Right_j1 : Option (Bool) :=
  some true

def inquestref08_Right_b1 (h_0 : G.api_Hist) (n15 : Int) : Option ((Int) ⊕ (Bool)) :=
  if decide (n15 < (Sh.len h_0.Txns)) then
    (G.inquestref08_one h_0 n15).bind fun r19 =>
    if !r19 then
      Sh.exit (some false)
    else
      Sh.next (w64 (n15 + 1))
  else
    Sh.exit (G.inquestref08_Right_j1)

def inquestref08_Right (h_0 : G.api_Hist) : Option (Bool) :=
  if decide ((32 : Int) < (Sh.len h_0.Txns)) then
    some false
  else
    Sh.loop (fun (p : Int) => G.inquestref08_Right_b1 h_0 p) 0
end G
end

section
/- What the functions of a package compute, as plain functions. -/
open Go Go.Av
set_option linter.unusedVariables false
namespace G
def bits_TrailingZeros64 (x_0 : BitVec 64) : Option (Int) :=
  if decide (x_0 = 0#64) then
    some 64
  else
    (Sh.shr ((x_0 &&& (-x_0)) * 285870213051353865#64) ((58#64).toNat : Int)).bind fun s8 =>
    (Sh.idx Sh.tab8 ((s8).toNat : Int)).bind fun x9 =>
    some (w64 x9)
end G
end

section
/- What the functions of a package compute, as plain functions. -/
open Go Go.Av
set_option linter.unusedVariables false
namespace G
def bits_Join_j1 (out21 : BitVec 64) : Option ((BitVec 64)) :=
  some out21

def bits_Join_b1 (l_0 : List (BitVec 64)) (out28 : BitVec 64) (v29 : Int) : Option (((BitVec 64) × Int) ⊕ ((BitVec 64))) :=
  if decide (v29 < (Sh.len l_0)) then
    (Sh.idx l_0 v29).bind fun x35 =>
    Sh.next (out28 ||| x35, w64 (v29 + 1))
  else
    Sh.exit (G.bits_Join_j1 out28)

def bits_Join (l_0 : List (BitVec 64)) : Option ((BitVec 64)) :=
  Sh.loop (fun (p : (BitVec 64) × Int) => G.bits_Join_b1 l_0 p.1 p.2) (0#64, 0)

def bits_Sub (a_0 : BitVec 64) (b_1 : BitVec 64) : Option (Bool) :=
  some (decide ((a_0 &&& ~~~b_1) = 0#64))

def bits_bit_j1 (i_0 : Int) (v7 : Bool) : Option ((BitVec 64)) :=
  if v7 then
    some 0#64
  else
    (Sh.shl 1#64 i_0).bind fun s10 =>
    some s10

def bits_bit (i_0 : Int) : Option ((BitVec 64)) :=
  if decide (i_0 < 0) then
    G.bits_bit_j1 i_0 true
  else
    G.bits_bit_j1 i_0 (decide ((64 : Int) ≤ i_0))

def bits_With (s_0 : BitVec 64) (i_1 : Int) : Option ((BitVec 64)) :=
  (G.bits_bit i_1).bind fun r3 =>
  some (s_0 ||| r3)

def bits_List_j1 (out21 : List Int) : Option ((List Int)) :=
  some out21

def bits_List_b1 (s28 : BitVec 64) (out29 : List Int) : Option (((BitVec 64) × (List Int)) ⊕ ((List Int))) :=
  if decide (s28 ≠ 0#64) then
    (G.bits_TrailingZeros64 s28).bind fun r33 =>
    (Sh.app 8 out29 [r33]).bind fun out34 =>
    Sh.next (s28 &&& (s28 - 1#64), out34)
  else
    Sh.exit (G.bits_List_j1 out29)

def bits_List (s_0 : BitVec 64) : Option ((List Int)) :=
  Sh.loop (fun (p : (BitVec 64) × (List Int)) => G.bits_List_b1 p.1 p.2) (s_0, [])

def bits_Has (s_0 : BitVec 64) (i_1 : Int) : Option (Bool) :=
  (G.bits_bit i_1).bind fun r3 =>
  some (decide ((s_0 &&& r3) ≠ 0#64))
end G
end

section
/- What the functions of a package compute, as plain functions. -/
open Go Go.Av
set_option linter.unusedVariables false
namespace G
def graph_New_j1 (n_0 : Int) (v7 : Bool) : Option (G.graph_Graph × Int) :=
  if v7 then
    some ((G.graph_Graph.mk 0 []), 1)
  else
    (Sh.mk 8 n_0 n_0 0#64).bind fun made10 =>
    some ((G.graph_Graph.mk n_0 made10), 0)

def graph_New (n_0 : Int) : Option (G.graph_Graph × Int) :=
  if decide (n_0 < 0) then
    G.graph_New_j1 n_0 true
  else
    G.graph_New_j1 n_0 (decide ((64 : Int) < n_0))

def graph_nodes (n_0 : Int) : Option ((BitVec 64)) :=
  (Sh.shl 1#64 n_0).bind fun s3 =>
  some (s3 - 1#64)

def graph_Right (g_0 : G.graph_Graph) : Option (Bool) :=
  if decide ((0 : Int) ≤ g_0.N) then
    if decide (g_0.N ≤ 64) then
      if decide ((Sh.len g_0.Rows) = g_0.N) then
        (G.bits_Join g_0.Rows).bind fun r17 =>
        (G.graph_nodes g_0.N).bind fun r18 =>
        (G.bits_Sub r17 r18).bind fun r19 =>
        some r19
      else
        some false
    else
      some false
  else
    some false

def graph_Add_j1 (g_0 : G.graph_Graph) (a_1 : Int) (b_2 : Int) (v26 : Bool) : Option (G.graph_Graph × Int) :=
  if v26 then
    some ((G.graph_Graph.mk 0 []), 1)
  else
    (G.graph_New g_0.N).bind fun r29 =>
    (Sh.cpy r29.1.Rows g_0.Rows).bind fun copied32 =>
    (Sh.idx copied32 a_1).bind fun x39 =>
    (G.bits_With x39 b_2).bind fun r41 =>
    (Sh.idx copied32 a_1).bind fun x42 =>
    some ((G.graph_Graph.mk r29.1.N (Sh.set copied32 a_1 r41)), r29.2)

def graph_Add (g_0 : G.graph_Graph) (a_1 : Int) (b_2 : Int) : Option (G.graph_Graph × Int) :=
  (G.graph_Right g_0).bind fun r44 =>
  if !r44 then
    G.graph_Add_j1 g_0 a_1 b_2 true
  else
    if decide (a_1 < 0) then
      G.graph_Add_j1 g_0 a_1 b_2 true
    else
      if decide (g_0.N ≤ a_1) then
        G.graph_Add_j1 g_0 a_1 b_2 true
      else
        if decide (b_2 < 0) then
          G.graph_Add_j1 g_0 a_1 b_2 true
        else
          G.graph_Add_j1 g_0 a_1 b_2 (decide (g_0.N ≤ b_2))

def graph_like (a_0 : G.graph_Graph) (b_1 : G.graph_Graph) : Option (Bool) :=
  (G.graph_Right a_0).bind fun r10 =>
  if r10 then
    (G.graph_Right b_1).bind fun r12 =>
    if r12 then
      some (decide (a_0.N = b_1.N))
    else
      some false
  else
    some false

def graph_Union_j1 (r33 : G.graph_Graph × Int) (v59 : List (BitVec 64)) : Option (G.graph_Graph × Int) :=
  some ((G.graph_Graph.mk r33.1.N v59), r33.2)

def graph_Union_b1 (a_0 : G.graph_Graph) (b_1 : G.graph_Graph) (r33 : G.graph_Graph × Int) (outRows76 : List (BitVec 64)) (v77 : Int) : Option (((List (BitVec 64)) × Int) ⊕ (G.graph_Graph × Int)) :=
  if decide (v77 < (Sh.len r33.1.Rows)) then
    (Sh.idx a_0.Rows v77).bind fun x86 =>
    (Sh.idx b_1.Rows v77).bind fun x88 =>
    (G.bits_Join [x86, x88]).bind fun r90 =>
    (Sh.idx outRows76 v77).bind fun x91 =>
    Sh.next (Sh.set outRows76 v77 r90, w64 (v77 + 1))
  else
    Sh.exit (G.graph_Union_j1 r33 outRows76)

def graph_Union (a_0 : G.graph_Graph) (b_1 : G.graph_Graph) : Option (G.graph_Graph × Int) :=
  (G.graph_like a_0 b_1).bind fun r30 =>
  if !r30 then
    some ((G.graph_Graph.mk 0 []), 1)
  else
    (G.graph_New a_0.N).bind fun r33 =>
    Sh.loop (fun (p : (List (BitVec 64)) × Int) => G.graph_Union_b1 a_0 b_1 r33 p.1 p.2) (r33.1.Rows, 0)

def graph_Compose_j1 (r114 : G.graph_Graph × Int) (v221 : List (BitVec 64)) : Option (G.graph_Graph × Int) :=
  some ((G.graph_Graph.mk r114.1.N v221), r114.2)

def graph_Compose_j2 (v293 : Int) (v329 : List (BitVec 64)) : Option (((List (BitVec 64)) × Int) ⊕ (G.graph_Graph × Int)) :=
  Sh.next (v329, w64 (v293 + 1))

def graph_Compose_b2 (b_1 : G.graph_Graph) (v293 : Int) (r335 : (List Int)) (outRows356 : List (BitVec 64)) (v357 : Int) : Option (((List (BitVec 64)) × Int) ⊕ (((List (BitVec 64)) × Int) ⊕ (G.graph_Graph × Int))) :=
  if decide (v357 < (Sh.len r335)) then
    (Sh.idx r335 v357).bind fun x370 =>
    (Sh.idx outRows356 v293).bind fun x372 =>
    (Sh.idx b_1.Rows x370).bind fun x374 =>
    (G.bits_Join [x372, x374]).bind fun r376 =>
    (Sh.idx outRows356 v293).bind fun x377 =>
    Sh.next (Sh.set outRows356 v293 r376, w64 (v357 + 1))
  else
    Sh.exit (G.graph_Compose_j2 v293 outRows356)

def graph_Compose_b1 (a_0 : G.graph_Graph) (b_1 : G.graph_Graph) (r114 : G.graph_Graph × Int) (outRows292 : List (BitVec 64)) (v293 : Int) : Option (((List (BitVec 64)) × Int) ⊕ (G.graph_Graph × Int)) :=
  if decide (v293 < (Sh.len r114.1.Rows)) then
    (Sh.idx a_0.Rows v293).bind fun x333 =>
    (G.bits_List x333).bind fun r335 =>
    Sh.loop (fun (p : (List (BitVec 64)) × Int) => G.graph_Compose_b2 b_1 v293 r335 p.1 p.2) (outRows292, 0)
  else
    Sh.exit (G.graph_Compose_j1 r114 outRows292)

def graph_Compose (a_0 : G.graph_Graph) (b_1 : G.graph_Graph) : Option (G.graph_Graph × Int) :=
  (G.graph_like a_0 b_1).bind fun r111 =>
  if !r111 then
    some ((G.graph_Graph.mk 0 []), 1)
  else
    (G.graph_New a_0.N).bind fun r114 =>
    Sh.loop (fun (p : (List (BitVec 64)) × Int) => G.graph_Compose_b1 a_0 b_1 r114 p.1 p.2) (r114.1.Rows, 0)

def graph_Has (g_0 : G.graph_Graph) (a_1 : Int) (b_2 : Int) : Option (Bool) :=
  (G.graph_Right g_0).bind fun r16 =>
  if r16 then
    if decide ((0 : Int) ≤ a_1) then
      if decide (a_1 < g_0.N) then
        (Sh.idx g_0.Rows a_1).bind fun x20 =>
        (G.bits_Has x20 b_2).bind fun r22 =>
        some r22
      else
        some false
    else
      some false
  else
    some false
end G
end

section
/- What the functions of a package compute, as plain functions. -/
open Go Go.Av
set_option linter.unusedVariables false
namespace G
def index_Keys_j1 (out35 : List Int) : Option ((List Int)) :=
  (Sh.sort out35).bind fun sort38 =>
  (Sh.compact sort38).bind fun compact41 =>
  some compact41

def index_Keys_b1 (h_0 : G.api_Hist) (out50 : List Int) (v51 : Int) : Option (((List Int) × Int) ⊕ ((List Int))) :=
  if decide (v51 < (Sh.len h_0.Txns)) then
    (Sh.idx h_0.Txns v51).bind fun x58 =>
    (Sh.app 8 out50 x58.Writes).bind fun out60 =>
    Sh.next (out60, w64 (v51 + 1))
  else
    Sh.exit (G.index_Keys_j1 out50)

def index_Keys (h_0 : G.api_Hist) : Option ((List Int)) :=
  (G.hist_Right h_0).bind fun r20 =>
  if !r20 then
    some []
  else
    Sh.loop (fun (p : (List Int) × Int) => G.index_Keys_b1 h_0 p.1 p.2) ([], 0)

def index_reads (h_0 : G.api_Hist) : Option (Unit) :=
  some ()

def index_Readers__r_j1 (l_2 : List Int) (y_3 : G.index_read) (v6 : Bool) : Option ((List Int)) :=
  if v6 then
    (Sh.app 8 l_2 [y_3.t]).bind fun l8 =>
    some l8
  else
    some l_2

def index_Readers__r (key_0 : Int) (from_1 : Int) (l_2 : List Int) (y_3 : G.index_read) : Option ((List Int)) :=
  if decide (y_3.Take.Key = key_0) then
    G.index_Readers__r_j1 l_2 y_3 (decide (y_3.Take.From = from_1))
  else
    G.index_Readers__r_j1 l_2 y_3 false

def index_reads_1__index_Readers__r_j1 (v89 : Int) (v106 : List Int) : Option (((List Int) × Int) ⊕ ((List Int))) :=
  Sh.next (v106, w64 (v89 + 1))

def index_reads_1__index_Readers__r_b2 (key_0 : Int) (from_1 : Int) (v89 : Int) (x109 : G.api_Txn) (c119 : List Int) (v120 : Int) : Option (((List Int) × Int) ⊕ (((List Int) × Int) ⊕ ((List Int)))) :=
  if decide (v120 < (Sh.len x109.Reads)) then
    (Sh.idx x109.Reads v120).bind fun x127 =>
    (G.index_Readers__r key_0 from_1 c119 (G.index_read.mk v89 (G.api_Take.mk x127.Key x127.From))).bind fun y130 =>
    Sh.next (y130, w64 (v120 + 1))
  else
    Sh.exit (G.index_reads_1__index_Readers__r_j1 v89 c119)

def index_reads_1__index_Readers__r_b1 (key_0 : Int) (from_1 : Int) (c_3 : G.api_Hist) (c88 : List Int) (v89 : Int) : Option (((List Int) × Int) ⊕ ((List Int))) :=
  if decide (v89 < (Sh.len c_3.Txns)) then
    (Sh.idx c_3.Txns v89).bind fun x109 =>
    Sh.loop (fun (p : (List Int) × Int) => G.index_reads_1__index_Readers__r_b2 key_0 from_1 v89 x109 p.1 p.2) (c88, 0)
  else
    Sh.exit (some c88)

def index_reads_1__index_Readers__r (key_0 : Int) (from_1 : Int) (l_2 : List Int) (c_3 : G.api_Hist) : Option ((List Int)) :=
  (G.hist_Right c_3).bind fun r54 =>
  if !r54 then
    some l_2
  else
    Sh.loop (fun (p : (List Int) × Int) => G.index_reads_1__index_Readers__r_b1 key_0 from_1 c_3 p.1 p.2) (l_2, 0)

def index_Readers (h_0 : G.api_Hist) (key_1 : Int) (from_2 : Int) : Option ((List Int)) :=
  (G.index_reads h_0).bind fun r8 =>
  (G.index_reads_1__index_Readers__r key_1 from_2 [] h_0).bind fun it9 =>
  some it9

def index_Writers_j1 (out44 : List Int) : Option ((List Int)) :=
  some out44

def index_Writers_j2 (v58 : Int) (out64 : List Int) : Option (((List Int) × Int) ⊕ ((List Int))) :=
  Sh.next (out64, w64 (v58 + 1))

def index_Writers_b1 (h_0 : G.api_Hist) (key_1 : Int) (out57 : List Int) (v58 : Int) : Option (((List Int) × Int) ⊕ ((List Int))) :=
  if decide (v58 < (Sh.len h_0.Txns)) then
    (Sh.idx h_0.Txns v58).bind fun x67 =>
    (G.slices_Contains_int_int x67.Writes key_1).bind fun r70 =>
    if r70 then
      (Sh.app 8 out57 [v58]).bind fun out72 =>
      G.index_Writers_j2 v58 out72
    else
      G.index_Writers_j2 v58 out57
  else
    Sh.exit (G.index_Writers_j1 out57)

def index_Writers (h_0 : G.api_Hist) (key_1 : Int) : Option ((List Int)) :=
  (G.hist_Right h_0).bind fun r23 =>
  if !r23 then
    some []
  else
    Sh.loop (fun (p : (List Int) × Int) => G.index_Writers_b1 h_0 key_1 p.1 p.2) ([], 0)

def index_Pairs_j1 (out341 : List G.api_Choice) : Option ((List G.api_Choice)) :=
  some out341

def index_Pairs_j2 (v457 : Int) (out514 : List G.api_Choice) : Option (((List G.api_Choice) × Int) ⊕ ((List G.api_Choice))) :=
  Sh.next (out514, w64 (v457 + 1))

def index_Pairs_j3 (v556 : Int) (out574 : List G.api_Choice) : Option (((List G.api_Choice) × Int) ⊕ (((List G.api_Choice) × Int) ⊕ ((List G.api_Choice)))) :=
  Sh.next (out574, w64 (v556 + 1))

def index_Pairs_b3 (x517 : Int) (v556 : Int) (x577 : Int) (part580 : List Int) (out589 : List G.api_Choice) (v590 : Int) : Option (((List G.api_Choice) × Int) ⊕ (((List G.api_Choice) × Int) ⊕ (((List G.api_Choice) × Int) ⊕ ((List G.api_Choice))))) :=
  if decide (v590 < (Sh.len part580)) then
    (Sh.idx part580 v590).bind fun x597 =>
    (Sh.app 24 out589 ([(G.api_Choice.mk x517 x577 x597)] : List G.api_Choice)).bind fun out599 =>
    Sh.next (out599, w64 (v590 + 1))
  else
    Sh.exit (G.index_Pairs_j3 v556 out589)

def index_Pairs_b2 (v457 : Int) (x517 : Int) (r520 : (List Int)) (out555 : List G.api_Choice) (v556 : Int) : Option (((List G.api_Choice) × Int) ⊕ (((List G.api_Choice) × Int) ⊕ ((List G.api_Choice)))) :=
  if decide (v556 < (Sh.len r520)) then
    (Sh.idx r520 v556).bind fun x577 =>
    (Sh.sub r520 (w64 (v556 + 1)) (Sh.len r520)).bind fun part580 =>
    Sh.loop (fun (p : (List G.api_Choice) × Int) => G.index_Pairs_b3 x517 v556 x577 part580 p.1 p.2) (out555, 0)
  else
    Sh.exit (G.index_Pairs_j2 v457 out555)

def index_Pairs_b1 (h_0 : G.api_Hist) (r343 : (List Int)) (out456 : List G.api_Choice) (v457 : Int) : Option (((List G.api_Choice) × Int) ⊕ ((List G.api_Choice))) :=
  if decide (v457 < (Sh.len r343)) then
    (Sh.idx r343 v457).bind fun x517 =>
    (G.index_Writers h_0 x517).bind fun r520 =>
    Sh.loop (fun (p : (List G.api_Choice) × Int) => G.index_Pairs_b2 v457 x517 r520 p.1 p.2) (out456, 0)
  else
    Sh.exit (G.index_Pairs_j1 out456)

def index_Pairs (h_0 : G.api_Hist) : Option ((List G.api_Choice)) :=
  (G.index_Keys h_0).bind fun r343 =>
  Sh.loop (fun (p : (List G.api_Choice) × Int) => G.index_Pairs_b1 h_0 r343 p.1 p.2) ([], 0)
end G
end

section
/- What the functions of a package compute, as plain functions. -/
open Go Go.Av
set_option linter.unusedVariables false
namespace G
def known_laid_1__2_j1 (a_0 : Int) (b_1 : Int) (c_2 : G.graph_Graph) (v6 : Bool) : Option (G.graph_Graph) :=
  if v6 then
    (G.graph_Add c_2 a_0 b_1).bind fun r8 =>
    some r8.1
  else
    some c_2

def known_laid_1__2 (a_0 : Int) (b_1 : Int) (c_2 : G.graph_Graph) : Option (G.graph_Graph) :=
  if decide ((0 : Int) ≤ a_0) then
    G.known_laid_1__2_j1 a_0 b_1 c_2 (decide (a_0 ≠ b_1))
  else
    G.known_laid_1__2_j1 a_0 b_1 c_2 false

def known_Init_1__known_laid_1_2_j1 (v287 : Int) (v344 : G.graph_Graph) : Option ((G.graph_Graph × Int) ⊕ (G.graph_Graph)) :=
  Sh.next (v344, w64 (v287 + 1))

def known_Init_1__known_laid_1_2_j2 (v386 : Int) (v404 : G.graph_Graph) : Option ((G.graph_Graph × Int) ⊕ ((G.graph_Graph × Int) ⊕ (G.graph_Graph))) :=
  Sh.next (v404, w64 (v386 + 1))

def known_Init_1__known_laid_1_2_b3 (v386 : Int) (x407 : Int) (r410 : (List Int)) (c419 : G.graph_Graph) (v420 : Int) : Option ((G.graph_Graph × Int) ⊕ ((G.graph_Graph × Int) ⊕ ((G.graph_Graph × Int) ⊕ (G.graph_Graph)))) :=
  if decide (v420 < (Sh.len r410)) then
    (Sh.idx r410 v420).bind fun x427 =>
    (G.known_laid_1__2 x407 x427 c419).bind fun r429 =>
    Sh.next (r429, w64 (v420 + 1))
  else
    Sh.exit (G.known_Init_1__known_laid_1_2_j2 v386 c419)

def known_Init_1__known_laid_1_2_b2 (a_0 : G.api_Hist) (v287 : Int) (x347 : Int) (r350 : (List Int)) (c385 : G.graph_Graph) (v386 : Int) : Option ((G.graph_Graph × Int) ⊕ ((G.graph_Graph × Int) ⊕ (G.graph_Graph))) :=
  if decide (v386 < (Sh.len r350)) then
    (Sh.idx r350 v386).bind fun x407 =>
    (G.index_Writers a_0 x347).bind fun r410 =>
    Sh.loop (fun (p : G.graph_Graph × Int) => G.known_Init_1__known_laid_1_2_b3 v386 x407 r410 p.1 p.2) (c385, 0)
  else
    Sh.exit (G.known_Init_1__known_laid_1_2_j1 v287 c385)

def known_Init_1__known_laid_1_2_b1 (a_0 : G.api_Hist) (r173 : (List Int)) (c286 : G.graph_Graph) (v287 : Int) : Option ((G.graph_Graph × Int) ⊕ (G.graph_Graph)) :=
  if decide (v287 < (Sh.len r173)) then
    (Sh.idx r173 v287).bind fun x347 =>
    (G.index_Readers a_0 x347 (-1)).bind fun r350 =>
    Sh.loop (fun (p : G.graph_Graph × Int) => G.known_Init_1__known_laid_1_2_b2 a_0 v287 x347 r350 p.1 p.2) (c286, 0)
  else
    Sh.exit (some c286)

def known_Init_1__known_laid_1_2 (a_0 : G.api_Hist) (c_1 : G.graph_Graph) : Option (G.graph_Graph) :=
  (G.index_Keys a_0).bind fun r173 =>
  Sh.loop (fun (p : G.graph_Graph × Int) => G.known_Init_1__known_laid_1_2_b1 a_0 r173 p.1 p.2) (c_1, 0)

def known_laid__known_Init_1 (h_0 : G.api_Hist) (lay_1 : G.api_Hist) : Option (G.graph_Graph) :=
  (G.hist_Right h_0).bind fun r6 =>
  if !r6 then
    some (G.graph_Graph.mk 0 [])
  else
    (G.graph_New (Sh.len h_0.Txns)).bind fun r9 =>
    (G.known_Init_1__known_laid_1_2 lay_1 r9.1).bind fun r11 =>
    some r11

def known_Init (h_0 : G.api_Hist) : Option (G.graph_Graph) :=
  (G.known_laid__known_Init_1 h_0 h_0).bind fun r3 =>
  some r3

def known_So_1__known_laid_1_2_j1 (v104 : Int) (v125 : G.graph_Graph) : Option ((G.graph_Graph × Int) ⊕ (G.graph_Graph)) :=
  Sh.next (v125, w64 (v104 + 1))

def known_So_1__known_laid_1_2_j2 (v143 : Int) (c148 : G.graph_Graph) : Option ((G.graph_Graph × Int) ⊕ ((G.graph_Graph × Int) ⊕ (G.graph_Graph))) :=
  Sh.next (c148, w64 (v143 + 1))

def known_So_1__known_laid_1_2_b2 (v104 : Int) (x128 : G.api_Txn) (part131 : List G.api_Txn) (c142 : G.graph_Graph) (v143 : Int) : Option ((G.graph_Graph × Int) ⊕ ((G.graph_Graph × Int) ⊕ (G.graph_Graph))) :=
  if decide (v143 < (Sh.len part131)) then
    (Sh.idx part131 v143).bind fun x151 =>
    if decide (x151.Session = x128.Session) then
      (G.known_laid_1__2 v143 v104 c142).bind fun r154 =>
      G.known_So_1__known_laid_1_2_j2 v143 r154
    else
      G.known_So_1__known_laid_1_2_j2 v143 c142
  else
    Sh.exit (G.known_So_1__known_laid_1_2_j1 v104 c142)

def known_So_1__known_laid_1_2_b1 (a_0 : G.api_Hist) (c103 : G.graph_Graph) (v104 : Int) : Option ((G.graph_Graph × Int) ⊕ (G.graph_Graph)) :=
  if decide (v104 < (Sh.len a_0.Txns)) then
    (Sh.idx a_0.Txns v104).bind fun x128 =>
    (Sh.sub a_0.Txns 0 v104).bind fun part131 =>
    Sh.loop (fun (p : G.graph_Graph × Int) => G.known_So_1__known_laid_1_2_b2 v104 x128 part131 p.1 p.2) (c103, 0)
  else
    Sh.exit (some c103)

def known_So_1__known_laid_1_2 (a_0 : G.api_Hist) (c_1 : G.graph_Graph) : Option (G.graph_Graph) :=
  Sh.loop (fun (p : G.graph_Graph × Int) => G.known_So_1__known_laid_1_2_b1 a_0 p.1 p.2) (c_1, 0)

def known_laid__known_So_1 (h_0 : G.api_Hist) (lay_1 : G.api_Hist) : Option (G.graph_Graph) :=
  (G.hist_Right h_0).bind fun r6 =>
  if !r6 then
    some (G.graph_Graph.mk 0 [])
  else
    (G.graph_New (Sh.len h_0.Txns)).bind fun r9 =>
    (G.known_So_1__known_laid_1_2 lay_1 r9.1).bind fun r11 =>
    some r11

def known_So (h_0 : G.api_Hist) : Option (G.graph_Graph) :=
  (G.known_laid__known_So_1 h_0 h_0).bind fun r3 =>
  some r3

def known_Wr_1__known_laid_1_2_j1 (v84 : Int) (v101 : G.graph_Graph) : Option ((G.graph_Graph × Int) ⊕ (G.graph_Graph)) :=
  Sh.next (v101, w64 (v84 + 1))

def known_Wr_1__known_laid_1_2_b2 (v84 : Int) (x104 : G.api_Txn) (c114 : G.graph_Graph) (v115 : Int) : Option ((G.graph_Graph × Int) ⊕ ((G.graph_Graph × Int) ⊕ (G.graph_Graph))) :=
  if decide (v115 < (Sh.len x104.Reads)) then
    (Sh.idx x104.Reads v115).bind fun x122 =>
    (G.known_laid_1__2 x122.From v84 c114).bind fun r124 =>
    Sh.next (r124, w64 (v115 + 1))
  else
    Sh.exit (G.known_Wr_1__known_laid_1_2_j1 v84 c114)

def known_Wr_1__known_laid_1_2_b1 (a_0 : G.api_Hist) (c83 : G.graph_Graph) (v84 : Int) : Option ((G.graph_Graph × Int) ⊕ (G.graph_Graph)) :=
  if decide (v84 < (Sh.len a_0.Txns)) then
    (Sh.idx a_0.Txns v84).bind fun x104 =>
    Sh.loop (fun (p : G.graph_Graph × Int) => G.known_Wr_1__known_laid_1_2_b2 v84 x104 p.1 p.2) (c83, 0)
  else
    Sh.exit (some c83)

def known_Wr_1__known_laid_1_2 (a_0 : G.api_Hist) (c_1 : G.graph_Graph) : Option (G.graph_Graph) :=
  Sh.loop (fun (p : G.graph_Graph × Int) => G.known_Wr_1__known_laid_1_2_b1 a_0 p.1 p.2) (c_1, 0)

def known_laid__known_Wr_1 (h_0 : G.api_Hist) (lay_1 : G.api_Hist) : Option (G.graph_Graph) :=
  (G.hist_Right h_0).bind fun r6 =>
  if !r6 then
    some (G.graph_Graph.mk 0 [])
  else
    (G.graph_New (Sh.len h_0.Txns)).bind fun r9 =>
    (G.known_Wr_1__known_laid_1_2 lay_1 r9.1).bind fun r11 =>
    some r11

def known_Wr (h_0 : G.api_Hist) : Option (G.graph_Graph) :=
  (G.known_laid__known_Wr_1 h_0 h_0).bind fun r3 =>
  some r3

def known_Past (h_0 : G.api_Hist) : Option (G.graph_Graph) :=
  (G.known_So h_0).bind fun r7 =>
  (G.known_Wr h_0).bind fun r8 =>
  (G.graph_Union r7 r8).bind fun r9 =>
  some r9.1
end G
end

section
/- What the functions of a package compute, as plain functions. -/
open Go Go.Av
set_option linter.unusedVariables false
namespace G
def choice_Right_1__1 (t_0 : Int) (key_1 : Int) (a_2 : G.api_Hist) : Option (Bool) :=
  if decide ((0 : Int) ≤ t_0) then
    if decide (t_0 < (Sh.len a_2.Txns)) then
      (Sh.idx a_2.Txns t_0).bind fun x14 =>
      (G.slices_Contains_int_int x14.Writes key_1).bind fun r16 =>
      some r16
    else
      some false
  else
    some false

def choice_Right_2__1 (c_0 : G.api_Choice) (a_1 : G.api_Hist) : Option (Bool) :=
  if decide (c_0.A = c_0.B) then
    some true
  else
    (G.choice_Right_1__1 c_0.A c_0.Key a_1).bind fun r11 =>
    if !r11 then
      some true
    else
      (G.choice_Right_1__1 c_0.B c_0.Key a_1).bind fun r13 =>
      some (!r13)

def slices_IndexFunc_api_Choice_api_Choice__choice_Right_2_j1 : Option (Int) :=
  some (-1)

def slices_IndexFunc_api_Choice_api_Choice__choice_Right_2_b1 (s_0 : List G.api_Choice) (f_1 : G.api_Hist) (v30 : Int) : Option ((Int) ⊕ (Int)) :=
  if decide (v30 < (Sh.len s_0)) then
    (Sh.idx s_0 v30).bind fun x38 =>
    (G.choice_Right_2__1 x38 f_1).bind fun r40 =>
    if r40 then
      Sh.exit (some v30)
    else
      Sh.next (w64 (v30 + 1))
  else
    Sh.exit (G.slices_IndexFunc_api_Choice_api_Choice__choice_Right_2_j1)

def slices_IndexFunc_api_Choice_api_Choice__choice_Right_2 (s_0 : List G.api_Choice) (f_1 : G.api_Hist) : Option (Int) :=
  Sh.loop (fun (p : Int) => G.slices_IndexFunc_api_Choice_api_Choice__choice_Right_2_b1 s_0 f_1 p) 0

def slices_ContainsFunc_api_Choice_api_Choice__choice_Right_2 (s_0 : List G.api_Choice) (f_1 : G.api_Hist) : Option (Bool) :=
  (G.slices_IndexFunc_api_Choice_api_Choice__choice_Right_2 s_0 f_1).bind fun r3 =>
  some (decide ((0 : Int) ≤ r3))

def choice_Right_j1 (h_0 : G.api_Hist) (l_1 : List G.api_Choice) (v10 : Bool) : Option (Bool) :=
  if v10 then
    some false
  else
    (G.slices_ContainsFunc_api_Choice_api_Choice__choice_Right_2 l_1 h_0).bind fun r13 =>
    some (!r13)

def choice_Right (h_0 : G.api_Hist) (l_1 : List G.api_Choice) : Option (Bool) :=
  (G.hist_Right h_0).bind fun r14 =>
  if !r14 then
    G.choice_Right_j1 h_0 l_1 true
  else
    G.choice_Right_j1 h_0 l_1 (decide ((20000 : Int) < (Sh.len l_1)))

def choice_Ww_j1 (v39 : Int) (v40 : List (BitVec 64)) : Option (G.graph_Graph) :=
  some (G.graph_Graph.mk v39 v40)

def choice_Ww_b1 (l_1 : List G.api_Choice) (gN50 : Int) (gRows51 : List (BitVec 64)) (v52 : Int) : Option ((Int × (List (BitVec 64)) × Int) ⊕ (G.graph_Graph)) :=
  if decide (v52 < (Sh.len l_1)) then
    (Sh.idx l_1 v52).bind fun x59 =>
    (G.graph_Add (G.graph_Graph.mk gN50 gRows51) x59.A x59.B).bind fun r61 =>
    Sh.next (r61.1.N, r61.1.Rows, w64 (v52 + 1))
  else
    Sh.exit (G.choice_Ww_j1 gN50 gRows51)

def choice_Ww (h_0 : G.api_Hist) (l_1 : List G.api_Choice) : Option (G.graph_Graph) :=
  (G.choice_Right h_0 l_1).bind fun r20 =>
  if !r20 then
    some (G.graph_Graph.mk 0 [])
  else
    (G.graph_New (Sh.len h_0.Txns)).bind fun r23 =>
    Sh.loop (fun (p : Int × (List (BitVec 64)) × Int) => G.choice_Ww_b1 l_1 p.1 p.2.1 p.2.2) (r23.1.N, r23.1.Rows, 0)

def choice_Rw_j1 (v197 : G.graph_Graph) : Option (G.graph_Graph) :=
  some v197

def choice_Rw_j2 (v261 : Int) (v293 : G.graph_Graph) : Option ((G.graph_Graph × Int) ⊕ (G.graph_Graph)) :=
  Sh.next (v293, w64 (v261 + 1))

def choice_Rw_j3 (v317 : Int) (gN325 : Int) (gRows326 : List (BitVec 64)) : Option ((G.graph_Graph × Int) ⊕ ((G.graph_Graph × Int) ⊕ (G.graph_Graph))) :=
  Sh.next ((G.graph_Graph.mk gN325 gRows326), w64 (v317 + 1))

def choice_Rw_j4 (x296 : G.api_Choice) (g316 : G.graph_Graph) (v317 : Int) (v333 : Bool) : Option ((G.graph_Graph × Int) ⊕ ((G.graph_Graph × Int) ⊕ (G.graph_Graph))) :=
  if v333 then
    (G.graph_Add g316 v317 x296.B).bind fun r335 =>
    G.choice_Rw_j3 v317 r335.1.N r335.1.Rows
  else
    G.choice_Rw_j3 v317 g316.N g316.Rows

def choice_Rw_b2 (h_0 : G.api_Hist) (v261 : Int) (x296 : G.api_Choice) (g316 : G.graph_Graph) (v317 : Int) : Option ((G.graph_Graph × Int) ⊕ ((G.graph_Graph × Int) ⊕ (G.graph_Graph))) :=
  if decide (v317 < (Sh.len h_0.Txns)) then
    (Sh.idx h_0.Txns v317).bind fun x329 =>
    if decide (v317 ≠ x296.B) then
      (G.slices_Contains_api_Take_api_Take x329.Reads (G.api_Take.mk x296.Key x296.A)).bind fun r337 =>
      G.choice_Rw_j4 x296 g316 v317 r337
    else
      G.choice_Rw_j4 x296 g316 v317 false
  else
    Sh.exit (G.choice_Rw_j2 v261 g316)

def choice_Rw_b1 (h_0 : G.api_Hist) (l_1 : List G.api_Choice) (g260 : G.graph_Graph) (v261 : Int) : Option ((G.graph_Graph × Int) ⊕ (G.graph_Graph)) :=
  if decide (v261 < (Sh.len l_1)) then
    (Sh.idx l_1 v261).bind fun x296 =>
    Sh.loop (fun (p : G.graph_Graph × Int) => G.choice_Rw_b2 h_0 v261 x296 p.1 p.2) (g260, 0)
  else
    Sh.exit (G.choice_Rw_j1 g260)

def choice_Rw (h_0 : G.api_Hist) (l_1 : List G.api_Choice) : Option (G.graph_Graph) :=
  (G.choice_Right h_0 l_1).bind fun r99 =>
  if !r99 then
    some (G.graph_Graph.mk 0 [])
  else
    (G.known_Init h_0).bind fun r102 =>
    Sh.loop (fun (p : G.graph_Graph × Int) => G.choice_Rw_b1 h_0 l_1 p.1 p.2) (r102, 0)

def choice_all_j1 (v31 : G.graph_Graph) : Option (G.graph_Graph) :=
  some v31

def choice_all_b1 (more_1 : List G.graph_Graph) (gN41 : Int) (gRows42 : List (BitVec 64)) (v43 : Int) : Option ((Int × (List (BitVec 64)) × Int) ⊕ (G.graph_Graph)) :=
  if decide (v43 < (Sh.len more_1)) then
    (Sh.idx more_1 v43).bind fun x50 =>
    (G.graph_Union (G.graph_Graph.mk gN41 gRows42) x50).bind fun r52 =>
    Sh.next (r52.1.N, r52.1.Rows, w64 (v43 + 1))
  else
    Sh.exit (G.choice_all_j1 (G.graph_Graph.mk gN41 gRows42))

def choice_all (g_0 : G.graph_Graph) (more_1 : List G.graph_Graph) : Option (G.graph_Graph) :=
  Sh.loop (fun (p : Int × (List (BitVec 64)) × Int) => G.choice_all_b1 more_1 p.1 p.2.1 p.2.2) (g_0.N, g_0.Rows, 0)

def choice_Full_j2 (r26 : G.graph_Graph) (over30 : G.graph_Graph) : Option (G.graph_Graph × Int) :=
  (G.choice_all r26 ([over30] : List G.graph_Graph)).bind fun r32 =>
  some (r32, 0)

def choice_Full_j1 (h_0 : G.api_Hist) (level_1 : Int) (l_2 : List G.api_Choice) (v19 : Bool) : Option (G.graph_Graph × Int) :=
  if v19 then
    some ((G.graph_Graph.mk 0 []), 1)
  else
    (G.known_Past h_0).bind fun r24 =>
    (G.choice_Ww h_0 l_2).bind fun r25 =>
    (G.choice_all r24 ([r25] : List G.graph_Graph)).bind fun r26 =>
    (G.choice_Rw h_0 l_2).bind fun r28 =>
    if decide (level_1 = 1) then
      (G.graph_Compose r26 r28).bind fun r34 =>
      G.choice_Full_j2 r26 r34.1
    else
      G.choice_Full_j2 r26 r28

def choice_Full (h_0 : G.api_Hist) (level_1 : Int) (l_2 : List G.api_Choice) : Option (G.graph_Graph × Int) :=
  (G.choice_Right h_0 l_2).bind fun r35 =>
  if !r35 then
    G.choice_Full_j1 h_0 level_1 l_2 true
  else
    if decide (level_1 ≠ 0) then
      G.choice_Full_j1 h_0 level_1 l_2 (decide (level_1 ≠ 1))
    else
      G.choice_Full_j1 h_0 level_1 l_2 false

def choice_Open_j1 : Option (G.api_Choice × Bool) :=
  some ((G.api_Choice.mk 0 0 0), false)

def choice_Open_j2 (v63 : Int) (x73 : G.api_Choice) (v78 : Bool) : Option ((Int) ⊕ (G.api_Choice × Bool)) :=
  if v78 then
    Sh.exit (some (x73, true))
  else
    Sh.next (w64 (v63 + 1))

def choice_Open_b1 (l_1 : List G.api_Choice) (r49 : (List G.api_Choice)) (v63 : Int) : Option ((Int) ⊕ (G.api_Choice × Bool)) :=
  if decide (v63 < (Sh.len r49)) then
    (Sh.idx r49 v63).bind fun x73 =>
    (G.slices_Contains_api_Choice_api_Choice l_1 x73).bind fun r80 =>
    if !r80 then
      (G.slices_Contains_api_Choice_api_Choice l_1 (G.api_Choice.mk x73.Key x73.B x73.A)).bind fun r82 =>
      G.choice_Open_j2 v63 x73 (!r82)
    else
      G.choice_Open_j2 v63 x73 false
  else
    Sh.exit (G.choice_Open_j1)

def choice_Open (h_0 : G.api_Hist) (l_1 : List G.api_Choice) : Option (G.api_Choice × Bool) :=
  (G.choice_Right h_0 l_1).bind fun r25 =>
  if !r25 then
    some ((G.api_Choice.mk 0 0 0), false)
  else
    (G.index_Pairs h_0).bind fun r49 =>
    Sh.loop (fun (p : Int) => G.choice_Open_b1 l_1 r49 p) 0
end G
end

section
/- What the functions of a package compute, as plain functions. -/
open Go Go.Av
set_option linter.unusedVariables false
namespace G
def inquestref09_Writers_j1 (out64 : List Int) : Option ((List Int)) :=
  some out64

def inquestref09_Writers_j3 (t86 : Int) (may91 : Bool) (out98 : List Int) : Option (((List Int) × Bool × Int) ⊕ ((List Int))) :=
  Sh.next (out98, may91, w64 (t86 + 1))

def inquestref09_Writers_j2 (h_0 : G.api_Hist) (key_1 : Int) (out84 : List Int) (t86 : Int) (may91 : Bool) (v92 : Bool) : Option (((List Int) × Bool × Int) ⊕ ((List Int))) :=
  if v92 then
    (Sh.idx h_0.Txns t86).bind fun x102 =>
    (G.inquestref08_Writes x102 key_1).bind fun r104 =>
    if r104 then
      (Sh.app 8 out84 [t86]).bind fun out106 =>
      G.inquestref09_Writers_j3 t86 may91 out106
    else
      G.inquestref09_Writers_j3 t86 may91 out84
  else
    Sh.exit (G.inquestref09_Writers_j1 out84)

def inquestref09_Writers_b1 (h_0 : G.api_Hist) (key_1 : Int) (out84 : List Int) (may85 : Bool) (t86 : Int) : Option (((List Int) × Bool × Int) ⊕ ((List Int))) :=
  if may85 then
    G.inquestref09_Writers_j2 h_0 key_1 out84 t86 true (decide (t86 < (Sh.len h_0.Txns)))
  else
    G.inquestref09_Writers_j2 h_0 key_1 out84 t86 false false

def inquestref09_Writers (h_0 : G.api_Hist) (key_1 : Int) : Option ((List Int)) :=
  (G.inquestref08_Right h_0).bind fun r33 =>
  Sh.loop (fun (p : (List Int) × Bool × Int) => G.inquestref09_Writers_b1 h_0 key_1 p.1 p.2.1 p.2.2) ([], r33, 0)

def inquestref09_Pairs_j1 (out381 : List G.api_Choice) : Option ((List G.api_Choice)) :=
  some out381

def inquestref09_Pairs_j2 (key509 : Int) (out573 : List G.api_Choice) : Option (((List G.api_Choice) × Int) ⊕ ((List G.api_Choice))) :=
  Sh.next (out573, w64 (key509 + 1))

def inquestref09_Pairs_j3 (i617 : Int) (out638 : List G.api_Choice) : Option (((List G.api_Choice) × Int) ⊕ (((List G.api_Choice) × Int) ⊕ ((List G.api_Choice)))) :=
  Sh.next (out638, w64 (i617 + 1))

def inquestref09_Pairs_b3 (key509 : Int) (r575 : (List Int)) (i617 : Int) (out651 : List G.api_Choice) (k652 : Int) : Option (((List G.api_Choice) × Int) ⊕ (((List G.api_Choice) × Int) ⊕ (((List G.api_Choice) × Int) ⊕ ((List G.api_Choice))))) :=
  if decide (k652 < (Sh.len r575)) then
    (Sh.idx r575 i617).bind fun x659 =>
    (Sh.idx r575 k652).bind fun x661 =>
    (Sh.app 24 out651 ([(G.api_Choice.mk key509 x659 x661)] : List G.api_Choice)).bind fun out663 =>
    Sh.next (out663, w64 (k652 + 1))
  else
    Sh.exit (G.inquestref09_Pairs_j3 i617 out651)

def inquestref09_Pairs_b2 (key509 : Int) (r575 : (List Int)) (out616 : List G.api_Choice) (i617 : Int) : Option (((List G.api_Choice) × Int) ⊕ (((List G.api_Choice) × Int) ⊕ ((List G.api_Choice)))) :=
  if decide (i617 < (Sh.len r575)) then
    Sh.loop (fun (p : (List G.api_Choice) × Int) => G.inquestref09_Pairs_b3 key509 r575 i617 p.1 p.2) (out616, w64 (i617 + 1))
  else
    Sh.exit (G.inquestref09_Pairs_j2 key509 out616)

def inquestref09_Pairs_b1 (h_0 : G.api_Hist) (out508 : List G.api_Choice) (key509 : Int) : Option (((List G.api_Choice) × Int) ⊕ ((List G.api_Choice))) :=
  if decide (key509 < 16) then
    (G.inquestref09_Writers h_0 key509).bind fun r575 =>
    Sh.loop (fun (p : (List G.api_Choice) × Int) => G.inquestref09_Pairs_b2 key509 r575 p.1 p.2) (out508, 0)
  else
    Sh.exit (G.inquestref09_Pairs_j1 out508)

def inquestref09_Pairs (h_0 : G.api_Hist) : Option ((List G.api_Choice)) :=
  Sh.loop (fun (p : (List G.api_Choice) × Int) => G.inquestref09_Pairs_b1 h_0 p.1 p.2) ([], 0)

def inquestref09_From_j2 : Option (Int × Bool) :=
  some (0, false)

def inquestref09_From_b1 (key_2 : Int) (x32 : G.api_Txn) (i57 : Int) : Option ((Int) ⊕ (Int × Bool)) :=
  if decide (i57 < (Sh.len x32.Reads)) then
    (Sh.idx x32.Reads i57).bind fun x65 =>
    if decide (x65.Key = key_2) then
      (Sh.idx x32.Reads i57).bind fun x70 =>
      Sh.exit (some (x70.From, true))
    else
      Sh.next (w64 (i57 + 1))
  else
    Sh.exit (G.inquestref09_From_j2)

def inquestref09_From_j1 (h_0 : G.api_Hist) (t_1 : Int) (key_2 : Int) (v28 : Bool) : Option (Int × Bool) :=
  if v28 then
    some (0, false)
  else
    (Sh.idx h_0.Txns t_1).bind fun x32 =>
    Sh.loop (fun (p : Int) => G.inquestref09_From_b1 key_2 x32 p) 0

def inquestref09_From (h_0 : G.api_Hist) (t_1 : Int) (key_2 : Int) : Option (Int × Bool) :=
  (G.inquestref08_Right h_0).bind fun r22 =>
  if !r22 then
    G.inquestref09_From_j1 h_0 t_1 key_2 true
  else
    if decide (t_1 < 0) then
      G.inquestref09_From_j1 h_0 t_1 key_2 true
    else
      G.inquestref09_From_j1 h_0 t_1 key_2 (decide ((Sh.len h_0.Txns) ≤ t_1))

def inquestref09_Readers_j1 (out39 : List Int) : Option ((List Int)) :=
  some out39

def inquestref09_Readers_j2 (t53 : Int) (out59 : List Int) : Option (((List Int) × Int) ⊕ ((List Int))) :=
  Sh.next (out59, w64 (t53 + 1))

def inquestref09_Readers_j3 (out52 : List Int) (t53 : Int) (v63 : Bool) : Option (((List Int) × Int) ⊕ ((List Int))) :=
  if v63 then
    (Sh.app 8 out52 [t53]).bind fun out65 =>
    G.inquestref09_Readers_j2 t53 out65
  else
    G.inquestref09_Readers_j2 t53 out52

def inquestref09_Readers_b1 (h_0 : G.api_Hist) (key_1 : Int) (from_2 : Int) (out52 : List Int) (t53 : Int) : Option (((List Int) × Int) ⊕ ((List Int))) :=
  if decide (t53 < (Sh.len h_0.Txns)) then
    (G.inquestref09_From h_0 t53 key_1).bind fun r61 =>
    if r61.2 then
      G.inquestref09_Readers_j3 out52 t53 (decide (r61.1 = from_2))
    else
      G.inquestref09_Readers_j3 out52 t53 false
  else
    Sh.exit (G.inquestref09_Readers_j1 out52)

def inquestref09_Readers (h_0 : G.api_Hist) (key_1 : Int) (from_2 : Int) : Option ((List Int)) :=
  Sh.loop (fun (p : (List Int) × Int) => G.inquestref09_Readers_b1 h_0 key_1 from_2 p.1 p.2) ([], 0)
end G
end

section
/- What the functions of a package compute, as plain functions. -/
open Go Go.Av
set_option linter.unusedVariables false
namespace G
def inquestref10_In (i_0 : Int) : Option (Bool) :=
  if decide ((0 : Int) ≤ i_0) then
    some (decide (i_0 ≤ 63))
  else
    some false

def inquestref10_Power_j1 (n9 : BitVec 64) : Option ((BitVec 64)) :=
  some n9

def inquestref10_Power_b1 (i_0 : Int) (n12 : BitVec 64) (k13 : Int) : Option (((BitVec 64) × Int) ⊕ ((BitVec 64))) :=
  if decide (k13 < i_0) then
    Sh.next (n12 + n12, w64 (k13 + 1))
  else
    Sh.exit (G.inquestref10_Power_j1 n12)

def inquestref10_Power (i_0 : Int) : Option ((BitVec 64)) :=
  Sh.loop (fun (p : (BitVec 64) × Int) => G.inquestref10_Power_b1 i_0 p.1 p.2) (1#64, 0)

def inquestref10_Has (s_0 : BitVec 64) (i_1 : Int) : Option (Bool) :=
  (G.inquestref10_In i_1).bind fun r7 =>
  if !r7 then
    some false
  else
    (G.inquestref10_Power i_1).bind fun r12 =>
    (Sh.udiv s_0 r12).bind fun q13 =>
    (Sh.umod q13 2#64).bind fun q14 =>
    some (decide (q14 = 1#64))

def inquestref10_With_j1 (s_0 : BitVec 64) (i_1 : Int) (v13 : Bool) : Option ((BitVec 64)) :=
  if v13 then
    some s_0
  else
    (G.inquestref10_Power i_1).bind fun r16 =>
    some (s_0 + r16)

def inquestref10_With (s_0 : BitVec 64) (i_1 : Int) : Option ((BitVec 64)) :=
  (G.inquestref10_Has s_0 i_1).bind fun r7 =>
  if r7 then
    G.inquestref10_With_j1 s_0 i_1 true
  else
    (G.inquestref10_In i_1).bind fun r18 =>
    G.inquestref10_With_j1 s_0 i_1 (!r18)
end G
end

section
/- What the functions of a package compute, as plain functions. -/
open Go Go.Av
set_option linter.unusedVariables false
namespace G
def inquestref12_Same_j2 : Option (Bool) :=
  some true

def inquestref12_Same_b1 (a_0 : G.inquestref12_G) (b_1 : G.inquestref12_G) (i45 : Int) : Option ((Int) ⊕ (Bool)) :=
  if decide (i45 < (Sh.len a_0.Rows)) then
    (Sh.idx a_0.Rows i45).bind fun x55 =>
    (Sh.idx b_1.Rows i45).bind fun x57 =>
    if decide (x55 ≠ x57) then
      Sh.exit (some false)
    else
      Sh.next (w64 (i45 + 1))
  else
    Sh.exit (G.inquestref12_Same_j2)

def inquestref12_Same_j1 (a_0 : G.inquestref12_G) (b_1 : G.inquestref12_G) (v20 : Bool) : Option (Bool) :=
  if v20 then
    some false
  else
    Sh.loop (fun (p : Int) => G.inquestref12_Same_b1 a_0 b_1 p) 0

def inquestref12_Same (a_0 : G.inquestref12_G) (b_1 : G.inquestref12_G) : Option (Bool) :=
  if decide (a_0.N ≠ b_1.N) then
    G.inquestref12_Same_j1 a_0 b_1 true
  else
    G.inquestref12_Same_j1 a_0 b_1 (decide ((Sh.len a_0.Rows) ≠ (Sh.len b_1.Rows)))

def inquestref12_New_j1 (n_0 : Int) (v15 : List (BitVec 64)) : Option (G.inquestref12_G) :=
  some (G.inquestref12_G.mk n_0 v15)

def inquestref12_New_b1 (n_0 : Int) (gRows20 : List (BitVec 64)) (i21 : Int) : Option (((List (BitVec 64)) × Int) ⊕ (G.inquestref12_G)) :=
  if decide (i21 < n_0) then
    (Sh.app 8 gRows20 [0#64]).bind fun l24 =>
    Sh.next (l24, w64 (i21 + 1))
  else
    Sh.exit (G.inquestref12_New_j1 n_0 gRows20)

def inquestref12_New (n_0 : Int) : Option (G.inquestref12_G) :=
  Sh.loop (fun (p : (List (BitVec 64)) × Int) => G.inquestref12_New_b1 n_0 p.1 p.2) ([], 0)

def inquestref12_Has (g_0 : G.inquestref12_G) (a_1 : Int) (b_2 : Int) : Option (Bool) :=
  (Sh.idx g_0.Rows a_1).bind fun x7 =>
  (G.inquestref10_Has x7 b_2).bind fun r9 =>
  some r9

def inquestref12_Union_j1 (r109 : G.inquestref12_G) (v216 : List (BitVec 64)) : Option (G.inquestref12_G) :=
  some (G.inquestref12_G.mk r109.N v216)

def inquestref12_Union_j2 (x288 : Int) (v324 : List (BitVec 64)) : Option (((List (BitVec 64)) × Int) ⊕ (G.inquestref12_G)) :=
  Sh.next (v324, w64 (x288 + 1))

def inquestref12_Union_j3 (y348 : Int) (outRows359 : List (BitVec 64)) : Option (((List (BitVec 64)) × Int) ⊕ (((List (BitVec 64)) × Int) ⊕ (G.inquestref12_G))) :=
  Sh.next (outRows359, w64 (y348 + 1))

def inquestref12_Union_j4 (x288 : Int) (outRows347 : List (BitVec 64)) (y348 : Int) (v365 : Bool) : Option (((List (BitVec 64)) × Int) ⊕ (((List (BitVec 64)) × Int) ⊕ (G.inquestref12_G))) :=
  if v365 then
    (Sh.idx outRows347 x288).bind fun x367 =>
    (G.inquestref10_With x367 y348).bind fun r369 =>
    (Sh.idx outRows347 x288).bind fun x370 =>
    G.inquestref12_Union_j3 y348 (Sh.set outRows347 x288 r369)
  else
    G.inquestref12_Union_j3 y348 outRows347

def inquestref12_Union_b2 (a_0 : G.inquestref12_G) (b_1 : G.inquestref12_G) (x288 : Int) (outRows347 : List (BitVec 64)) (y348 : Int) : Option (((List (BitVec 64)) × Int) ⊕ (((List (BitVec 64)) × Int) ⊕ (G.inquestref12_G))) :=
  if decide (y348 < a_0.N) then
    (G.inquestref12_Has a_0 x288 y348).bind fun r361 =>
    (G.inquestref12_Has b_1 x288 y348).bind fun r363 =>
    if r361 then
      G.inquestref12_Union_j4 x288 outRows347 y348 true
    else
      G.inquestref12_Union_j4 x288 outRows347 y348 r363
  else
    Sh.exit (G.inquestref12_Union_j2 x288 outRows347)

def inquestref12_Union_b1 (a_0 : G.inquestref12_G) (b_1 : G.inquestref12_G) (r109 : G.inquestref12_G) (outRows287 : List (BitVec 64)) (x288 : Int) : Option (((List (BitVec 64)) × Int) ⊕ (G.inquestref12_G)) :=
  if decide (x288 < a_0.N) then
    Sh.loop (fun (p : (List (BitVec 64)) × Int) => G.inquestref12_Union_b2 a_0 b_1 x288 p.1 p.2) (outRows287, 0)
  else
    Sh.exit (G.inquestref12_Union_j1 r109 outRows287)

def inquestref12_Union (a_0 : G.inquestref12_G) (b_1 : G.inquestref12_G) : Option (G.inquestref12_G) :=
  (G.inquestref12_New a_0.N).bind fun r109 =>
  Sh.loop (fun (p : (List (BitVec 64)) × Int) => G.inquestref12_Union_b1 a_0 b_1 r109 p.1 p.2) (r109.Rows, 0)

def inquestref12_Compose_j1 (r262 : G.inquestref12_G) (v522 : List (BitVec 64)) : Option (G.inquestref12_G) :=
  some (G.inquestref12_G.mk r262.N v522)

def inquestref12_Compose_j2 (x696 : Int) (v783 : List (BitVec 64)) : Option (((List (BitVec 64)) × Int) ⊕ (G.inquestref12_G)) :=
  Sh.next (v783, w64 (x696 + 1))

def inquestref12_Compose_j3 (y841 : Int) (outRows869 : List (BitVec 64)) : Option (((List (BitVec 64)) × Int) ⊕ (((List (BitVec 64)) × Int) ⊕ (G.inquestref12_G))) :=
  Sh.next (outRows869, w64 (y841 + 1))

def inquestref12_Compose_j4 (z890 : Int) (outRows898 : List (BitVec 64)) : Option (((List (BitVec 64)) × Int) ⊕ (((List (BitVec 64)) × Int) ⊕ (((List (BitVec 64)) × Int) ⊕ (G.inquestref12_G)))) :=
  Sh.next (outRows898, w64 (z890 + 1))

def inquestref12_Compose_b3 (a_0 : G.inquestref12_G) (b_1 : G.inquestref12_G) (x696 : Int) (y841 : Int) (outRows889 : List (BitVec 64)) (z890 : Int) : Option (((List (BitVec 64)) × Int) ⊕ (((List (BitVec 64)) × Int) ⊕ (((List (BitVec 64)) × Int) ⊕ (G.inquestref12_G)))) :=
  if decide (z890 < a_0.N) then
    (G.inquestref12_Has b_1 y841 z890).bind fun r900 =>
    if r900 then
      (Sh.idx outRows889 x696).bind fun x902 =>
      (G.inquestref10_With x902 z890).bind fun r904 =>
      (Sh.idx outRows889 x696).bind fun x905 =>
      G.inquestref12_Compose_j4 z890 (Sh.set outRows889 x696 r904)
    else
      G.inquestref12_Compose_j4 z890 outRows889
  else
    Sh.exit (G.inquestref12_Compose_j3 y841 outRows889)

def inquestref12_Compose_b2 (a_0 : G.inquestref12_G) (b_1 : G.inquestref12_G) (x696 : Int) (outRows840 : List (BitVec 64)) (y841 : Int) : Option (((List (BitVec 64)) × Int) ⊕ (((List (BitVec 64)) × Int) ⊕ (G.inquestref12_G))) :=
  if decide (y841 < a_0.N) then
    (G.inquestref12_Has a_0 x696 y841).bind fun r871 =>
    if !r871 then
      G.inquestref12_Compose_j3 y841 outRows840
    else
      Sh.loop (fun (p : (List (BitVec 64)) × Int) => G.inquestref12_Compose_b3 a_0 b_1 x696 y841 p.1 p.2) (outRows840, 0)
  else
    Sh.exit (G.inquestref12_Compose_j2 x696 outRows840)

def inquestref12_Compose_b1 (a_0 : G.inquestref12_G) (b_1 : G.inquestref12_G) (r262 : G.inquestref12_G) (outRows695 : List (BitVec 64)) (x696 : Int) : Option (((List (BitVec 64)) × Int) ⊕ (G.inquestref12_G)) :=
  if decide (x696 < a_0.N) then
    Sh.loop (fun (p : (List (BitVec 64)) × Int) => G.inquestref12_Compose_b2 a_0 b_1 x696 p.1 p.2) (outRows695, 0)
  else
    Sh.exit (G.inquestref12_Compose_j1 r262 outRows695)

def inquestref12_Compose (a_0 : G.inquestref12_G) (b_1 : G.inquestref12_G) : Option (G.inquestref12_G) :=
  (G.inquestref12_New a_0.N).bind fun r262 =>
  Sh.loop (fun (p : (List (BitVec 64)) × Int) => G.inquestref12_Compose_b1 a_0 b_1 r262 p.1 p.2) (r262.Rows, 0)
end G
end

section
/- What the functions of a package compute, as plain functions. -/
open Go Go.Av
set_option linter.unusedVariables false
namespace G
def inquestref17_Init_j1 (r523 : G.inquestref12_G) (v1044 : List (BitVec 64)) : Option (G.inquestref12_G) :=
  some (G.inquestref12_G.mk r523.N v1044)

def inquestref17_Init_j2 (t1402 : Int) (v1566 : List (BitVec 64)) : Option (((List (BitVec 64)) × Int) ⊕ (G.inquestref12_G)) :=
  Sh.next (v1566, w64 (t1402 + 1))

def inquestref17_Init_j3 (i1678 : Int) (v1732 : List (BitVec 64)) : Option (((List (BitVec 64)) × Int) ⊕ (((List (BitVec 64)) × Int) ⊕ (G.inquestref12_G))) :=
  Sh.next (v1732, w64 (i1678 + 1))

def inquestref17_Init_j4 (w1768 : Int) (gRows1785 : List (BitVec 64)) : Option (((List (BitVec 64)) × Int) ⊕ (((List (BitVec 64)) × Int) ⊕ (((List (BitVec 64)) × Int) ⊕ (G.inquestref12_G)))) :=
  Sh.next (gRows1785, w64 (w1768 + 1))

def inquestref17_Init_j5 (t1402 : Int) (gRows1767 : List (BitVec 64)) (w1768 : Int) (v1800 : Bool) : Option (((List (BitVec 64)) × Int) ⊕ (((List (BitVec 64)) × Int) ⊕ (((List (BitVec 64)) × Int) ⊕ (G.inquestref12_G)))) :=
  if v1800 then
    (Sh.idx gRows1767 t1402).bind fun x1802 =>
    (G.inquestref10_With x1802 w1768).bind fun r1804 =>
    (Sh.idx gRows1767 t1402).bind fun x1805 =>
    G.inquestref17_Init_j4 w1768 (Sh.set gRows1767 t1402 r1804)
  else
    G.inquestref17_Init_j4 w1768 gRows1767

def inquestref17_Init_b3 (h_0 : G.api_Hist) (r523 : G.inquestref12_G) (t1402 : Int) (x1569 : G.api_Txn) (i1678 : Int) (gRows1767 : List (BitVec 64)) (w1768 : Int) : Option (((List (BitVec 64)) × Int) ⊕ (((List (BitVec 64)) × Int) ⊕ (((List (BitVec 64)) × Int) ⊕ (G.inquestref12_G)))) :=
  if decide (w1768 < r523.N) then
    (Sh.idx h_0.Txns w1768).bind fun x1791 =>
    (Sh.idx x1569.Reads i1678).bind fun x1793 =>
    (G.inquestref08_Writes x1791 x1793.Key).bind fun r1795 =>
    if r1795 then
      (Sh.idx x1569.Reads i1678).bind fun x1808 =>
      if decide (x1808.From = (-1)) then
        G.inquestref17_Init_j5 t1402 gRows1767 w1768 (decide (w1768 ≠ t1402))
      else
        G.inquestref17_Init_j5 t1402 gRows1767 w1768 false
    else
      G.inquestref17_Init_j5 t1402 gRows1767 w1768 false
  else
    Sh.exit (G.inquestref17_Init_j3 i1678 gRows1767)

def inquestref17_Init_b2 (h_0 : G.api_Hist) (r523 : G.inquestref12_G) (t1402 : Int) (x1569 : G.api_Txn) (gRows1677 : List (BitVec 64)) (i1678 : Int) : Option (((List (BitVec 64)) × Int) ⊕ (((List (BitVec 64)) × Int) ⊕ (G.inquestref12_G))) :=
  if decide (i1678 < (Sh.len x1569.Reads)) then
    Sh.loop (fun (p : (List (BitVec 64)) × Int) => G.inquestref17_Init_b3 h_0 r523 t1402 x1569 i1678 p.1 p.2) (gRows1677, 0)
  else
    Sh.exit (G.inquestref17_Init_j2 t1402 gRows1677)

def inquestref17_Init_b1 (h_0 : G.api_Hist) (r523 : G.inquestref12_G) (gRows1401 : List (BitVec 64)) (t1402 : Int) : Option (((List (BitVec 64)) × Int) ⊕ (G.inquestref12_G)) :=
  if decide (t1402 < r523.N) then
    (Sh.idx h_0.Txns t1402).bind fun x1569 =>
    Sh.loop (fun (p : (List (BitVec 64)) × Int) => G.inquestref17_Init_b2 h_0 r523 t1402 x1569 p.1 p.2) (gRows1401, 0)
  else
    Sh.exit (G.inquestref17_Init_j1 r523 gRows1401)

def inquestref17_Init (h_0 : G.api_Hist) : Option (G.inquestref12_G) :=
  (G.inquestref12_New (Sh.len h_0.Txns)).bind fun r523 =>
  Sh.loop (fun (p : (List (BitVec 64)) × Int) => G.inquestref17_Init_b1 h_0 r523 p.1 p.2) (r523.Rows, 0)

def inquestref17_So_j1 (r109 : G.inquestref12_G) (v216 : List (BitVec 64)) : Option (G.inquestref12_G) :=
  some (G.inquestref12_G.mk r109.N v216)

def inquestref17_So_j2 (a288 : Int) (v324 : List (BitVec 64)) : Option (((List (BitVec 64)) × Int) ⊕ (G.inquestref12_G)) :=
  Sh.next (v324, w64 (a288 + 1))

def inquestref17_So_j3 (b348 : Int) (gRows359 : List (BitVec 64)) : Option (((List (BitVec 64)) × Int) ⊕ (((List (BitVec 64)) × Int) ⊕ (G.inquestref12_G))) :=
  Sh.next (gRows359, w64 (b348 + 1))

def inquestref17_So_b2 (h_0 : G.api_Hist) (r109 : G.inquestref12_G) (a288 : Int) (gRows347 : List (BitVec 64)) (b348 : Int) : Option (((List (BitVec 64)) × Int) ⊕ (((List (BitVec 64)) × Int) ⊕ (G.inquestref12_G))) :=
  if decide (b348 < r109.N) then
    (Sh.idx h_0.Txns a288).bind fun x364 =>
    (Sh.idx h_0.Txns b348).bind fun x366 =>
    if decide (x364.Session = x366.Session) then
      (Sh.idx gRows347 a288).bind fun x369 =>
      (G.inquestref10_With x369 b348).bind fun r371 =>
      (Sh.idx gRows347 a288).bind fun x372 =>
      G.inquestref17_So_j3 b348 (Sh.set gRows347 a288 r371)
    else
      G.inquestref17_So_j3 b348 gRows347
  else
    Sh.exit (G.inquestref17_So_j2 a288 gRows347)

def inquestref17_So_b1 (h_0 : G.api_Hist) (r109 : G.inquestref12_G) (gRows287 : List (BitVec 64)) (a288 : Int) : Option (((List (BitVec 64)) × Int) ⊕ (G.inquestref12_G)) :=
  if decide (a288 < r109.N) then
    Sh.loop (fun (p : (List (BitVec 64)) × Int) => G.inquestref17_So_b2 h_0 r109 a288 p.1 p.2) (gRows287, w64 (a288 + 1))
  else
    Sh.exit (G.inquestref17_So_j1 r109 gRows287)

def inquestref17_So (h_0 : G.api_Hist) : Option (G.inquestref12_G) :=
  (G.inquestref12_New (Sh.len h_0.Txns)).bind fun r109 =>
  Sh.loop (fun (p : (List (BitVec 64)) × Int) => G.inquestref17_So_b1 h_0 r109 p.1 p.2) (r109.Rows, 0)

def inquestref17_Wr_j1 (r133 : G.inquestref12_G) (v264 : List (BitVec 64)) : Option (G.inquestref12_G) :=
  some (G.inquestref12_G.mk r133.N v264)

def inquestref17_Wr_j2 (t352 : Int) (v396 : List (BitVec 64)) : Option (((List (BitVec 64)) × Int) ⊕ (G.inquestref12_G)) :=
  Sh.next (v396, w64 (t352 + 1))

def inquestref17_Wr_j3 (i428 : Int) (gRows441 : List (BitVec 64)) : Option (((List (BitVec 64)) × Int) ⊕ (((List (BitVec 64)) × Int) ⊕ (G.inquestref12_G))) :=
  Sh.next (gRows441, w64 (i428 + 1))

def inquestref17_Wr_b2 (t352 : Int) (x399 : G.api_Txn) (gRows427 : List (BitVec 64)) (i428 : Int) : Option (((List (BitVec 64)) × Int) ⊕ (((List (BitVec 64)) × Int) ⊕ (G.inquestref12_G))) :=
  if decide (i428 < (Sh.len x399.Reads)) then
    (Sh.idx x399.Reads i428).bind fun x444 =>
    if decide ((0 : Int) ≤ x444.From) then
      (Sh.idx x399.Reads i428).bind fun x447 =>
      (Sh.idx x399.Reads i428).bind fun x449 =>
      (Sh.idx gRows427 x449.From).bind fun x451 =>
      (G.inquestref10_With x451 t352).bind fun r453 =>
      (Sh.idx gRows427 x447.From).bind fun x454 =>
      G.inquestref17_Wr_j3 i428 (Sh.set gRows427 x447.From r453)
    else
      G.inquestref17_Wr_j3 i428 gRows427
  else
    Sh.exit (G.inquestref17_Wr_j2 t352 gRows427)

def inquestref17_Wr_b1 (h_0 : G.api_Hist) (r133 : G.inquestref12_G) (gRows351 : List (BitVec 64)) (t352 : Int) : Option (((List (BitVec 64)) × Int) ⊕ (G.inquestref12_G)) :=
  if decide (t352 < r133.N) then
    (Sh.idx h_0.Txns t352).bind fun x399 =>
    Sh.loop (fun (p : (List (BitVec 64)) × Int) => G.inquestref17_Wr_b2 t352 x399 p.1 p.2) (gRows351, 0)
  else
    Sh.exit (G.inquestref17_Wr_j1 r133 gRows351)

def inquestref17_Wr (h_0 : G.api_Hist) : Option (G.inquestref12_G) :=
  (G.inquestref12_New (Sh.len h_0.Txns)).bind fun r133 =>
  Sh.loop (fun (p : (List (BitVec 64)) × Int) => G.inquestref17_Wr_b1 h_0 r133 p.1 p.2) (r133.Rows, 0)

def inquestref17_Past (h_0 : G.api_Hist) : Option (G.inquestref12_G) :=
  (G.inquestref17_So h_0).bind fun r7 =>
  (G.inquestref17_Wr h_0).bind fun r8 =>
  (G.inquestref12_Union r7 r8).bind fun r9 =>
  some r9
end G
end

section
/- What the functions of a package compute, as plain functions. -/
open Go Go.Av
set_option linter.unusedVariables false
namespace G
def inquestref18_One_j1 (h_0 : G.api_Hist) (c_1 : G.api_Choice) (v23 : Bool) : Option (Bool) :=
  if v23 then
    some false
  else
    (Sh.idx h_0.Txns c_1.A).bind fun x28 =>
    (G.inquestref08_Writes x28 c_1.Key).bind fun r30 =>
    (Sh.idx h_0.Txns c_1.B).bind fun x34 =>
    (G.inquestref08_Writes x34 c_1.Key).bind fun r36 =>
    if r30 then
      some r36
    else
      some false

def inquestref18_One (h_0 : G.api_Hist) (c_1 : G.api_Choice) : Option (Bool) :=
  if decide (c_1.A = c_1.B) then
    G.inquestref18_One_j1 h_0 c_1 true
  else
    if decide (c_1.A < 0) then
      G.inquestref18_One_j1 h_0 c_1 true
    else
      if decide ((Sh.len h_0.Txns) ≤ c_1.A) then
        G.inquestref18_One_j1 h_0 c_1 true
      else
        if decide (c_1.B < 0) then
          G.inquestref18_One_j1 h_0 c_1 true
        else
          G.inquestref18_One_j1 h_0 c_1 (decide ((Sh.len h_0.Txns) ≤ c_1.B))

def inquestref18_Right_j2 : Option (Bool) :=
  some true

def inquestref18_Right_b1 (h_0 : G.api_Hist) (l_1 : List G.api_Choice) (i40 : Int) : Option ((Int) ⊕ (Bool)) :=
  if decide (i40 < (Sh.len l_1)) then
    (Sh.idx l_1 i40).bind fun x48 =>
    (G.inquestref18_One h_0 x48).bind fun r50 =>
    if !r50 then
      Sh.exit (some false)
    else
      Sh.next (w64 (i40 + 1))
  else
    Sh.exit (G.inquestref18_Right_j2)

def inquestref18_Right_j1 (h_0 : G.api_Hist) (l_1 : List G.api_Choice) (v20 : Bool) : Option (Bool) :=
  if v20 then
    some false
  else
    Sh.loop (fun (p : Int) => G.inquestref18_Right_b1 h_0 l_1 p) 0

def inquestref18_Right (h_0 : G.api_Hist) (l_1 : List G.api_Choice) : Option (Bool) :=
  (G.inquestref08_Right h_0).bind fun r16 =>
  if !r16 then
    G.inquestref18_Right_j1 h_0 l_1 true
  else
    G.inquestref18_Right_j1 h_0 l_1 (decide ((20000 : Int) < (Sh.len l_1)))

def inquestref18_In_j1 : Option (Bool) :=
  some false

def inquestref18_In_b1 (l_0 : List G.api_Choice) (c_1 : G.api_Choice) (i22 : Int) : Option ((Int) ⊕ (Bool)) :=
  if decide (i22 < (Sh.len l_0)) then
    (Sh.idx l_0 i22).bind fun x28 =>
    if decide (x28 = c_1) then
      Sh.exit (some true)
    else
      Sh.next (w64 (i22 + 1))
  else
    Sh.exit (G.inquestref18_In_j1)

def inquestref18_In (l_0 : List G.api_Choice) (c_1 : G.api_Choice) : Option (Bool) :=
  Sh.loop (fun (p : Int) => G.inquestref18_In_b1 l_0 c_1 p) 0

def inquestref18_Back (c_0 : G.api_Choice) : Option (G.api_Choice) :=
  some (G.api_Choice.mk c_0.Key c_0.B c_0.A)

def inquestref18_Open_j1 : Option (G.api_Choice × Bool) :=
  some ((G.api_Choice.mk 0 0 0), false)

def inquestref18_Open_j2 (r38 : (List G.api_Choice)) (i97 : Int) (v125 : Bool) : Option ((Int) ⊕ (G.api_Choice × Bool)) :=
  if v125 then
    (Sh.idx r38 i97).bind fun x129 =>
    Sh.exit (some (x129, true))
  else
    Sh.next (w64 (i97 + 1))

def inquestref18_Open_b1 (l_1 : List G.api_Choice) (r38 : (List G.api_Choice)) (i97 : Int) : Option ((Int) ⊕ (G.api_Choice × Bool)) :=
  if decide (i97 < (Sh.len r38)) then
    (Sh.idx r38 i97).bind fun x113 =>
    (G.inquestref18_In l_1 x113).bind fun r115 =>
    (Sh.idx r38 i97).bind fun x120 =>
    (G.inquestref18_Back x120).bind fun r122 =>
    (G.inquestref18_In l_1 r122).bind fun r123 =>
    if !r115 then
      G.inquestref18_Open_j2 r38 i97 (!r123)
    else
      G.inquestref18_Open_j2 r38 i97 false
  else
    Sh.exit (G.inquestref18_Open_j1)

def inquestref18_Open (h_0 : G.api_Hist) (l_1 : List G.api_Choice) : Option (G.api_Choice × Bool) :=
  (G.inquestref09_Pairs h_0).bind fun r38 =>
  Sh.loop (fun (p : Int) => G.inquestref18_Open_b1 l_1 r38 p) 0

def inquestref18_Ww_j1 (r40 : G.inquestref12_G) (v78 : List (BitVec 64)) : Option (G.inquestref12_G) :=
  some (G.inquestref12_G.mk r40.N v78)

def inquestref18_Ww_b1 (l_1 : List G.api_Choice) (r40 : G.inquestref12_G) (gRows103 : List (BitVec 64)) (i104 : Int) : Option (((List (BitVec 64)) × Int) ⊕ (G.inquestref12_G)) :=
  if decide (i104 < (Sh.len l_1)) then
    (Sh.idx l_1 i104).bind fun x117 =>
    (Sh.idx l_1 i104).bind fun x119 =>
    (Sh.idx gRows103 x119.A).bind fun x121 =>
    (Sh.idx l_1 i104).bind fun x123 =>
    (G.inquestref10_With x121 x123.B).bind fun r125 =>
    (Sh.idx gRows103 x117.A).bind fun x126 =>
    Sh.next (Sh.set gRows103 x117.A r125, w64 (i104 + 1))
  else
    Sh.exit (G.inquestref18_Ww_j1 r40 gRows103)

def inquestref18_Ww (h_0 : G.api_Hist) (l_1 : List G.api_Choice) : Option (G.inquestref12_G) :=
  (G.inquestref12_New (Sh.len h_0.Txns)).bind fun r40 =>
  Sh.loop (fun (p : (List (BitVec 64)) × Int) => G.inquestref18_Ww_b1 l_1 r40 p.1 p.2) (r40.Rows, 0)

def inquestref18_Rw_j1 (r178 : G.inquestref12_G) (v354 : List (BitVec 64)) : Option (G.inquestref12_G) :=
  some (G.inquestref12_G.mk r178.N v354)

def inquestref18_Rw_j2 (i472 : Int) (v531 : List (BitVec 64)) : Option (((List (BitVec 64)) × Int) ⊕ (G.inquestref12_G)) :=
  Sh.next (v531, w64 (i472 + 1))

def inquestref18_Rw_j3 (k577 : Int) (gRows594 : List (BitVec 64)) : Option (((List (BitVec 64)) × Int) ⊕ (((List (BitVec 64)) × Int) ⊕ (G.inquestref12_G))) :=
  Sh.next (gRows594, w64 (k577 + 1))

def inquestref18_Rw_b2 (l_1 : List G.api_Choice) (i472 : Int) (r541 : (List Int)) (gRows576 : List (BitVec 64)) (k577 : Int) : Option (((List (BitVec 64)) × Int) ⊕ (((List (BitVec 64)) × Int) ⊕ (G.inquestref12_G))) :=
  if decide (k577 < (Sh.len r541)) then
    (Sh.idx r541 k577).bind fun x599 =>
    (Sh.idx l_1 i472).bind fun x601 =>
    if decide (x599 ≠ x601.B) then
      (Sh.idx r541 k577).bind fun x604 =>
      (Sh.idx r541 k577).bind fun x606 =>
      (Sh.idx gRows576 x606).bind fun x608 =>
      (Sh.idx l_1 i472).bind fun x610 =>
      (G.inquestref10_With x608 x610.B).bind fun r612 =>
      (Sh.idx gRows576 x604).bind fun x613 =>
      G.inquestref18_Rw_j3 k577 (Sh.set gRows576 x604 r612)
    else
      G.inquestref18_Rw_j3 k577 gRows576
  else
    Sh.exit (G.inquestref18_Rw_j2 i472 gRows576)

def inquestref18_Rw_b1 (h_0 : G.api_Hist) (l_1 : List G.api_Choice) (r178 : G.inquestref12_G) (gRows471 : List (BitVec 64)) (i472 : Int) : Option (((List (BitVec 64)) × Int) ⊕ (G.inquestref12_G)) :=
  if decide (i472 < (Sh.len l_1)) then
    (Sh.idx l_1 i472).bind fun x537 =>
    (Sh.idx l_1 i472).bind fun x539 =>
    (G.inquestref09_Readers h_0 x537.Key x539.A).bind fun r541 =>
    Sh.loop (fun (p : (List (BitVec 64)) × Int) => G.inquestref18_Rw_b2 l_1 i472 r541 p.1 p.2) (gRows471, 0)
  else
    Sh.exit (G.inquestref18_Rw_j1 r178 gRows471)

def inquestref18_Rw (h_0 : G.api_Hist) (l_1 : List G.api_Choice) : Option (G.inquestref12_G) :=
  (G.inquestref17_Init h_0).bind fun r178 =>
  Sh.loop (fun (p : (List (BitVec 64)) × Int) => G.inquestref18_Rw_b1 h_0 l_1 r178 p.1 p.2) (r178.Rows, 0)

def inquestref18_Full_j1 (r13 : G.inquestref12_G) (r17 : G.inquestref12_G) : Option (G.inquestref12_G) :=
  (G.inquestref12_Union r13 r17).bind fun r19 =>
  some (G.inquestref12_G.mk r19.N r19.Rows)

def inquestref18_Full (h_0 : G.api_Hist) (level_1 : Int) (l_2 : List G.api_Choice) : Option (G.inquestref12_G) :=
  (G.inquestref17_Past h_0).bind fun r11 =>
  (G.inquestref18_Ww h_0 l_2).bind fun r12 =>
  (G.inquestref12_Union r11 r12).bind fun r13 =>
  (G.inquestref18_Rw h_0 l_2).bind fun r15 =>
  if decide (level_1 = 1) then
    (G.inquestref12_Compose r13 r15).bind fun r21 =>
    G.inquestref18_Full_j1 r13 r21
  else
    G.inquestref18_Full_j1 r13 r15
end G
end

section
/- What the functions of a package compute, as plain functions. -/
open Go Go.Av
set_option linter.unusedVariables false
namespace G
def inquestlaw18_awake : Option (Bool) :=
  (G.choice_Ww (G.api_Hist.mk ([(G.api_Txn.mk 1 [] ([(G.api_Take.mk 4 1)] : List G.api_Take)), (G.api_Txn.mk 2 [4] []), (G.api_Txn.mk 3 [4] [])] : List G.api_Txn)) ([(G.api_Choice.mk 4 1 2)] : List G.api_Choice)).bind fun r27 =>
  (G.choice_Rw (G.api_Hist.mk ([(G.api_Txn.mk 1 [] ([(G.api_Take.mk 4 1)] : List G.api_Take)), (G.api_Txn.mk 2 [4] []), (G.api_Txn.mk 3 [4] [])] : List G.api_Txn)) ([(G.api_Choice.mk 4 1 2)] : List G.api_Choice)).bind fun r29 =>
  (G.choice_Full (G.api_Hist.mk ([(G.api_Txn.mk 1 [] ([(G.api_Take.mk 4 1)] : List G.api_Take)), (G.api_Txn.mk 2 [4] []), (G.api_Txn.mk 3 [4] [])] : List G.api_Txn)) 1 ([(G.api_Choice.mk 4 1 2)] : List G.api_Choice)).bind fun r31 =>
  (G.choice_Open (G.api_Hist.mk ([(G.api_Txn.mk 1 [] ([(G.api_Take.mk 4 1)] : List G.api_Take)), (G.api_Txn.mk 2 [4] []), (G.api_Txn.mk 3 [4] [])] : List G.api_Txn)) []).bind fun r33 =>
  (G.choice_Open (G.api_Hist.mk ([(G.api_Txn.mk 1 [] ([(G.api_Take.mk 4 1)] : List G.api_Take)), (G.api_Txn.mk 2 [4] []), (G.api_Txn.mk 3 [4] [])] : List G.api_Txn)) ([(G.api_Choice.mk 4 1 2)] : List G.api_Choice)).bind fun r35 =>
  (G.graph_Has r27 1 2).bind fun r55 =>
  if r55 then
    (G.graph_Has r29 0 2).bind fun r57 =>
    if r57 then
      if decide (r31.2 = 0) then
        (G.graph_Has r31.1 1 0).bind fun r60 =>
        if r60 then
          (G.graph_Has r31.1 1 2).bind fun r62 =>
          if r62 then
            (G.graph_Has r31.1 0 2).bind fun r64 =>
            if !r64 then
              (G.choice_Right (G.api_Hist.mk ([(G.api_Txn.mk 1 [] ([(G.api_Take.mk 4 1)] : List G.api_Take)), (G.api_Txn.mk 2 [4] []), (G.api_Txn.mk 3 [4] [])] : List G.api_Txn)) ([(G.api_Choice.mk 4 1 2)] : List G.api_Choice)).bind fun r66 =>
              if r66 then
                (G.choice_Right (G.api_Hist.mk ([(G.api_Txn.mk 1 [] ([(G.api_Take.mk 4 1)] : List G.api_Take)), (G.api_Txn.mk 2 [4] []), (G.api_Txn.mk 3 [4] [])] : List G.api_Txn)) ([(G.api_Choice.mk 4 1 0)] : List G.api_Choice)).bind fun r68 =>
                if !r68 then
                  if r33.2 then
                    (Sh.idx ([(G.api_Choice.mk 4 1 2)] : List G.api_Choice) 0).bind fun x71 =>
                    if decide (r33.1 = x71) then
                      some (!r35.2)
                    else
                      some false
                  else
                    some false
                else
                  some false
              else
                some false
            else
              some false
          else
            some false
        else
          some false
      else
        some false
    else
      some false
  else
    some false

def inquestlaw18_plain (g_0 : G.graph_Graph) : Option (G.inquestref12_G) :=
  some (G.inquestref12_G.mk g_0.N g_0.Rows)

def inquestlaw18_ChoiceTells_j3 (h_0 : G.api_Hist) (level_1 : Int) (l_2 : List G.api_Choice) (r56 : G.graph_Graph × Int) (v104 : Bool) : Option (Bool) :=
  if v104 then
    if decide (r56.2 = 1) then
      if decide (r56.1.N = 0) then
        some (decide ((Sh.len r56.1.Rows) = 0))
      else
        some false
    else
      some false
  else
    if decide (r56.2 = 0) then
      (G.inquestlaw18_plain r56.1).bind fun r115 =>
      (G.inquestref18_Full h_0 level_1 l_2).bind fun r116 =>
      (G.inquestref12_Same r115 r116).bind fun r117 =>
      some r117
    else
      some false

def inquestlaw18_ChoiceTells_j2 (h_0 : G.api_Hist) (level_1 : Int) (l_2 : List G.api_Choice) (r56 : G.graph_Graph × Int) (v96 : Bool) : Option (Bool) :=
  if v96 then
    some false
  else
    if decide (level_1 ≠ 0) then
      G.inquestlaw18_ChoiceTells_j3 h_0 level_1 l_2 r56 (decide (level_1 ≠ 1))
    else
      G.inquestlaw18_ChoiceTells_j3 h_0 level_1 l_2 r56 false

def inquestlaw18_ChoiceTells_j1 (h_0 : G.api_Hist) (level_1 : Int) (l_2 : List G.api_Choice) (v45 : Bool) : Option (Bool) :=
  if v45 then
    some true
  else
    (G.choice_Ww h_0 l_2).bind fun r49 =>
    (G.inquestlaw18_plain r49).bind fun r50 =>
    (G.choice_Rw h_0 l_2).bind fun r53 =>
    (G.inquestlaw18_plain r53).bind fun r54 =>
    (G.choice_Full h_0 level_1 l_2).bind fun r56 =>
    (G.choice_Open h_0 l_2).bind fun r58 =>
    (G.inquestref18_Right h_0 l_2).bind fun r60 =>
    (G.choice_Right h_0 l_2).bind fun r63 =>
    if !(r63 == r60) then
      some false
    else
      if !r60 then
        if decide ((w64 ((w64 (r50.N + r54.N)) + r56.1.N)) = 0) then
          if decide ((w64 ((w64 ((Sh.len r50.Rows) + (Sh.len r54.Rows))) + (Sh.len r56.1.Rows))) = 0) then
            if decide (r56.2 = 1) then
              if decide (r58.1 = (G.api_Choice.mk 0 0 0)) then
                some (!r58.2)
              else
                some false
            else
              some false
          else
            some false
        else
          some false
      else
        (G.inquestref18_Open h_0 l_2).bind fun r80 =>
        (G.inquestref18_Ww h_0 l_2).bind fun r119 =>
        (G.inquestref12_Same r50 r119).bind fun r120 =>
        if !r120 then
          G.inquestlaw18_ChoiceTells_j2 h_0 level_1 l_2 r56 true
        else
          (G.inquestref18_Rw h_0 l_2).bind fun r122 =>
          (G.inquestref12_Same r54 r122).bind fun r123 =>
          if !r123 then
            G.inquestlaw18_ChoiceTells_j2 h_0 level_1 l_2 r56 true
          else
            if !decide (r58.1 = r80.1) then
              G.inquestlaw18_ChoiceTells_j2 h_0 level_1 l_2 r56 true
            else
              G.inquestlaw18_ChoiceTells_j2 h_0 level_1 l_2 r56 (!(r58.2 == r80.2))

def inquestlaw18_ChoiceTells (h_0 : G.api_Hist) (level_1 : Int) (l_2 : List G.api_Choice) : Option (Bool) :=
  (G.inquestlaw18_awake).bind fun r38 =>
  if !r38 then
    some false
  else
    (G.inquestref08_Few h_0 40).bind fun r41 =>
    if !r41 then
      G.inquestlaw18_ChoiceTells_j1 h_0 level_1 l_2 true
    else
      G.inquestlaw18_ChoiceTells_j1 h_0 level_1 l_2 (decide ((60 : Int) < (Sh.len l_2)))
end G
end
