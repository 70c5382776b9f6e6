/- What the functions compute, as plain functions. -/
import Derived.Test.YtfgndjgcfkfobaaBase1
set_option linter.unusedSimpArgs false
set_option linter.unusedVariables false
section
/- The plain types. -/
open Go Go.Av
namespace G
structure api_Choice where
  Key : Int
  A : Int
  B : Int
  deriving DecidableEq, Inhabited
def api_Choice.av (x : api_Choice) : AV := .agg [i64 x.Key, i64 x.A, i64 x.B]
@[simp] theorem api_Choice.noid (x : api_Choice) : NoId (api_Choice.av x) := by simp [api_Choice.av]
@[simp] theorem api_Choice.solid (x : api_Choice) : AV.solid (api_Choice.av x) = true := rfl
@[simp] theorem api_Choice.dry (x : api_Choice) : Dry (api_Choice.av x) := by simp [api_Choice.av]
@[simp] theorem api_Choice.flat (x : api_Choice) : (api_Choice.av x).flat.length = 3 := rfl
structure api_Take where
  Key : Int
  From : Int
  deriving DecidableEq, Inhabited
def api_Take.av (x : api_Take) : AV := .agg [i64 x.Key, i64 x.From]
@[simp] theorem api_Take.noid (x : api_Take) : NoId (api_Take.av x) := by simp [api_Take.av]
@[simp] theorem api_Take.solid (x : api_Take) : AV.solid (api_Take.av x) = true := rfl
@[simp] theorem api_Take.dry (x : api_Take) : Dry (api_Take.av x) := by simp [api_Take.av]
@[simp] theorem api_Take.flat (x : api_Take) : (api_Take.av x).flat.length = 2 := rfl
structure api_Txn where
  Session : Int
  Writes : List Int
  Reads : List G.api_Take
  deriving DecidableEq, Inhabited
def api_Txn.av (x : api_Txn) : AV := .agg [i64 x.Session, .sl (List.map i64 x.Writes), .sl (List.map G.api_Take.av x.Reads)]
@[simp] theorem api_Txn.noid (x : api_Txn) : NoId (api_Txn.av x) := by simp [api_Txn.av]
@[simp] theorem api_Txn.solid (x : api_Txn) : AV.solid (api_Txn.av x) = true := rfl
@[simp] theorem api_Txn.flat (x : api_Txn) : (api_Txn.av x).flat.length = 3 := rfl
structure api_Hist where
  Txns : List G.api_Txn
  deriving DecidableEq, Inhabited
def api_Hist.av (x : api_Hist) : AV := .agg [.sl (List.map G.api_Txn.av x.Txns)]
@[simp] theorem api_Hist.noid (x : api_Hist) : NoId (api_Hist.av x) := by simp [api_Hist.av]
@[simp] theorem api_Hist.solid (x : api_Hist) : AV.solid (api_Hist.av x) = true := rfl
@[simp] theorem api_Hist.flat (x : api_Hist) : (api_Hist.av x).flat.length = 1 := rfl
structure index_read where
  t : Int
  Take : G.api_Take
  deriving DecidableEq, Inhabited
def index_read.av (x : index_read) : AV := .agg [i64 x.t, i64 x.Take.Key, i64 x.Take.From]
@[simp] theorem index_read.noid (x : index_read) : NoId (index_read.av x) := by simp [index_read.av]
@[simp] theorem index_read.solid (x : index_read) : AV.solid (index_read.av x) = true := rfl
@[simp] theorem index_read.dry (x : index_read) : Dry (index_read.av x) := by simp [index_read.av]
@[simp] theorem index_read.flat (x : index_read) : (index_read.av x).flat.length = 3 := rfl
end G
end

section
/- What the functions of a package compute, as plain functions. -/
open Go Go.Av
set_option linter.unusedVariables false
namespace G
end G
end

section
/- What the functions of a package compute, as plain functions. -/
open Go Go.Av
set_option linter.unusedVariables false
namespace G
def slices_Index_int_int_j1 : Option (Int) :=
  some (-1)

def slices_Index_int_int_b1 (s_0 : List Int) (v_1 : Int) (v22 : Int) : Option ((Int) ⊕ (Int)) :=
  if decide (v22 < (Sh.len s_0)) then
    (Sh.idx s_0 v22).bind fun x28 =>
    if decide (v_1 = x28) then
      Sh.exit (some v22)
    else
      Sh.next (w64 (v22 + 1))
  else
    Sh.exit (G.slices_Index_int_int_j1)

def slices_Index_int_int (s_0 : List Int) (v_1 : Int) : Option (Int) :=
  Sh.loop (fun (p : Int) => G.slices_Index_int_int_b1 s_0 v_1 p) 0

def slices_Contains_int_int (s_0 : List Int) (v_1 : Int) : Option (Bool) :=
  (G.slices_Index_int_int s_0 v_1).bind fun r3 =>
  some (decide ((0 : Int) ≤ r3))

end G
end

section
/- What the functions of a package compute, as plain functions. -/
open Go Go.Av
set_option linter.unusedVariables false
namespace G
def hist_faults (h_0 : G.api_Hist) : Option (Unit) :=
  some ()

def hist_Right__r (c_0 : Bool) (y_1 : Bool) : Option (Bool × Bool) :=
  if !y_1 then
    some (false, false)
  else
    some (c_0, true)

def hist_faults_1__hist_Right__r_j1 (v523 : Int) (c625 : Bool) : Option ((Bool × Int) ⊕ (Bool × Bool)) :=
  Sh.next (c625, w64 (v523 + 1))

def hist_faults_1__hist_Right__r_j3 (v523 : Int) (x628 : G.api_Txn) (v724 : Bool) : Option ((Bool × Int) ⊕ (Bool × Bool)) :=
  if decide ((0 : Int) ≤ x628.Session) then
    (G.hist_Right__r v724 (decide (x628.Session < 8))).bind fun y731 =>
    if y731.2 then
      G.hist_faults_1__hist_Right__r_j1 v523 y731.1
    else
      Sh.exit (some (y731.1, false))
  else
    (G.hist_Right__r v724 false).bind fun y733 =>
    if y733.2 then
      G.hist_faults_1__hist_Right__r_j1 v523 y733.1
    else
      Sh.exit (some (y733.1, false))

def hist_faults_1__hist_Right__r_j5 (v778 : Int) (x801 : G.api_Take) (c819 : Bool) : Option ((Bool × Int × Int) ⊕ ((Bool × Int) ⊕ (Bool × Bool))) :=
  Sh.next (c819, x801.Key, w64 (v778 + 1))

def hist_faults_1__hist_Right__r_j4 (c776 : Bool) (last777 : Int) (v778 : Int) (x801 : G.api_Take) (there810 : Bool) : Option ((Bool × Int × Int) ⊕ ((Bool × Int) ⊕ (Bool × Bool))) :=
  if decide (last777 < x801.Key) then
    if decide (x801.Key < 16) then
      (G.hist_Right__r c776 there810).bind fun y830 =>
      if y830.2 then
        G.hist_faults_1__hist_Right__r_j5 v778 x801 y830.1
      else
        Sh.exit (Sh.exit (some (y830.1, false)))
    else
      (G.hist_Right__r c776 false).bind fun y832 =>
      if y832.2 then
        G.hist_faults_1__hist_Right__r_j5 v778 x801 y832.1
      else
        Sh.exit (Sh.exit (some (y832.1, false)))
  else
    (G.hist_Right__r c776 false).bind fun y834 =>
    if y834.2 then
      G.hist_faults_1__hist_Right__r_j5 v778 x801 y834.1
    else
      Sh.exit (Sh.exit (some (y834.1, false)))

def hist_faults_1__hist_Right__r_b2 (c_1 : G.api_Hist) (v523 : Int) (x628 : G.api_Txn) (c776 : Bool) (last777 : Int) (v778 : Int) : Option ((Bool × Int × Int) ⊕ ((Bool × Int) ⊕ (Bool × Bool))) :=
  if decide (v778 < (Sh.len x628.Reads)) then
    (Sh.idx x628.Reads v778).bind fun x801 =>
    if decide (x801.From = (-1)) then
      G.hist_faults_1__hist_Right__r_j4 c776 last777 v778 x801 true
    else
      if decide ((0 : Int) ≤ x801.From) then
        if decide (x801.From < (Sh.len c_1.Txns)) then
          if decide (x801.From ≠ v523) then
            (Sh.idx c_1.Txns x801.From).bind fun x840 =>
            (G.slices_Contains_int_int x840.Writes x801.Key).bind fun r842 =>
            G.hist_faults_1__hist_Right__r_j4 c776 last777 v778 x801 r842
          else
            G.hist_faults_1__hist_Right__r_j4 c776 last777 v778 x801 false
        else
          G.hist_faults_1__hist_Right__r_j4 c776 last777 v778 x801 false
      else
        G.hist_faults_1__hist_Right__r_j4 c776 last777 v778 x801 false
  else
    Sh.exit (G.hist_faults_1__hist_Right__r_j3 v523 x628 c776)

def hist_faults_1__hist_Right__r_j2 (c_1 : G.api_Hist) (v523 : Int) (x628 : G.api_Txn) (v660 : Bool) : Option ((Bool × Int) ⊕ (Bool × Bool)) :=
  Sh.loop (fun (p : Bool × Int × Int) => G.hist_faults_1__hist_Right__r_b2 c_1 v523 x628 p.1 p.2.1 p.2.2) (v660, (-1), 0)

def hist_faults_1__hist_Right__r_j6 (v864 : Int) (x876 : Int) (c883 : Bool) : Option ((Bool × Int × Int) ⊕ ((Bool × Int) ⊕ (Bool × Bool))) :=
  Sh.next (c883, x876, w64 (v864 + 1))

def hist_faults_1__hist_Right__r_b3 (c_1 : G.api_Hist) (v523 : Int) (x628 : G.api_Txn) (c862 : Bool) (last863 : Int) (v864 : Int) : Option ((Bool × Int × Int) ⊕ ((Bool × Int) ⊕ (Bool × Bool))) :=
  if decide (v864 < (Sh.len x628.Writes)) then
    (Sh.idx x628.Writes v864).bind fun x876 =>
    if decide (last863 < x876) then
      (G.hist_Right__r c862 (decide (x876 < 16))).bind fun y890 =>
      if y890.2 then
        G.hist_faults_1__hist_Right__r_j6 v864 x876 y890.1
      else
        Sh.exit (Sh.exit (some (y890.1, false)))
    else
      (G.hist_Right__r c862 false).bind fun y892 =>
      if y892.2 then
        G.hist_faults_1__hist_Right__r_j6 v864 x876 y892.1
      else
        Sh.exit (Sh.exit (some (y892.1, false)))
  else
    Sh.exit (G.hist_faults_1__hist_Right__r_j2 c_1 v523 x628 c862)

def hist_faults_1__hist_Right__r_b1 (c_1 : G.api_Hist) (c522 : Bool) (v523 : Int) : Option ((Bool × Int) ⊕ (Bool × Bool)) :=
  if decide (v523 < (Sh.len c_1.Txns)) then
    (Sh.idx c_1.Txns v523).bind fun x628 =>
    Sh.loop (fun (p : Bool × Int × Int) => G.hist_faults_1__hist_Right__r_b3 c_1 v523 x628 p.1 p.2.1 p.2.2) (c522, (-1), 0)
  else
    Sh.exit (some (c522, true))

def hist_faults_1__hist_Right__r (c_0 : Bool) (c_1 : G.api_Hist) : Option (Bool × Bool) :=
  (G.hist_Right__r c_0 (decide ((Sh.len c_1.Txns) ≤ 32))).bind fun y316 =>
  if y316.2 then
    Sh.loop (fun (p : Bool × Int) => G.hist_faults_1__hist_Right__r_b1 c_1 p.1 p.2) (y316.1, 0)
  else
    some (y316.1, false)

def hist_Right (h_0 : G.api_Hist) : Option (Bool) :=
  (G.hist_faults h_0).bind fun r8 =>
  (G.hist_faults_1__hist_Right__r false h_0).bind fun it9 =>
  if it9.2 then
    some true
  else
    some it9.1
end G
end

section
/- What the functions of a package compute, as plain functions. -/
open Go Go.Av
set_option linter.unusedVariables false
namespace G
def inquestref08_Few_j1 : Option (Bool) :=
  some true

def inquestref08_Few_j2 (i55 : Int) (v68 : Bool) : Option ((Int) ⊕ (Bool)) :=
  if v68 then
    Sh.exit (some false)
  else
    Sh.next (w64 (i55 + 1))

def inquestref08_Few_b1 (h_0 : G.api_Hist) (i55 : Int) : Option ((Int) ⊕ (Bool)) :=
  if decide (i55 < (Sh.len h_0.Txns)) then
    (Sh.idx h_0.Txns i55).bind fun x70 =>
    if decide ((20 : Int) < (Sh.len x70.Writes)) then
      G.inquestref08_Few_j2 i55 true
    else
      (Sh.idx h_0.Txns i55).bind fun x73 =>
      G.inquestref08_Few_j2 i55 (decide ((20 : Int) < (Sh.len x73.Reads)))
  else
    Sh.exit (G.inquestref08_Few_j1)

def inquestref08_Few (h_0 : G.api_Hist) (many_1 : Int) : Option (Bool) :=
  if decide (many_1 < (Sh.len h_0.Txns)) then
    some false
  else
    Sh.loop (fun (p : Int) => G.inquestref08_Few_b1 h_0 p) 0

end G
end

section
/- What the functions of a package compute, as plain functions. -/
open Go Go.Av
set_option linter.unusedVariables false
namespace G
def inquestref09_Choices_j1 : Option (Bool) :=
  some true

def inquestref09_Choices_b1 (a_0 : List G.api_Choice) (b_1 : List G.api_Choice) (i39 : Int) : Option ((Int) ⊕ (Bool)) :=
  if decide (i39 < (Sh.len a_0)) then
    (Sh.idx a_0 i39).bind fun x49 =>
    (Sh.idx b_1 i39).bind fun x51 =>
    if !decide (x49 = x51) then
      Sh.exit (some false)
    else
      Sh.next (w64 (i39 + 1))
  else
    Sh.exit (G.inquestref09_Choices_j1)

def inquestref09_Choices (a_0 : List G.api_Choice) (b_1 : List G.api_Choice) : Option (Bool) :=
  if decide ((Sh.len a_0) ≠ (Sh.len b_1)) then
    some false
  else
    Sh.loop (fun (p : Int) => G.inquestref09_Choices_b1 a_0 b_1 p) 0

end G
end

section
/- What the functions of a package compute, as plain functions. -/
open Go Go.Av
set_option linter.unusedVariables false
namespace G
def index_reads (h_0 : G.api_Hist) : Option (Unit) :=
  some ()

def index_From__r_j1 (c_2 : Int) (c_3 : Bool) (y_4 : G.index_read) (v7 : Bool) : Option (Int × Bool × Bool) :=
  if v7 then
    some (y_4.Take.From, true, false)
  else
    some (c_2, c_3, true)

def index_From__r (t_0 : Int) (key_1 : Int) (c_2 : Int) (c_3 : Bool) (y_4 : G.index_read) : Option (Int × Bool × Bool) :=
  if decide (y_4.t = t_0) then
    G.index_From__r_j1 c_2 c_3 y_4 (decide (y_4.Take.Key = key_1))
  else
    G.index_From__r_j1 c_2 c_3 y_4 false

def index_reads_1__index_From__r_j1 (v120 : Int) (v142 : Int) (v143 : Bool) : Option ((Int × Bool × Int) ⊕ (Int × Bool × Bool)) :=
  Sh.next (v142, v143, w64 (v120 + 1))

def index_reads_1__index_From__r_b2 (t_0 : Int) (key_1 : Int) (v120 : Int) (x146 : G.api_Txn) (c159 : Int) (c160 : Bool) (v161 : Int) : Option ((Int × Bool × Int) ⊕ ((Int × Bool × Int) ⊕ (Int × Bool × Bool))) :=
  if decide (v161 < (Sh.len x146.Reads)) then
    (Sh.idx x146.Reads v161).bind fun x169 =>
    (G.index_From__r t_0 key_1 c159 c160 (G.index_read.mk v120 (G.api_Take.mk x169.Key x169.From))).bind fun y173 =>
    if y173.2.2 then
      Sh.next (y173.1, y173.2.1, w64 (v161 + 1))
    else
      Sh.exit (Sh.exit (some (y173.1, y173.2.1, false)))
  else
    Sh.exit (G.index_reads_1__index_From__r_j1 v120 c159 c160)

def index_reads_1__index_From__r_b1 (t_0 : Int) (key_1 : Int) (c_4 : G.api_Hist) (c118 : Int) (c119 : Bool) (v120 : Int) : Option ((Int × Bool × Int) ⊕ (Int × Bool × Bool)) :=
  if decide (v120 < (Sh.len c_4.Txns)) then
    (Sh.idx c_4.Txns v120).bind fun x146 =>
    Sh.loop (fun (p : Int × Bool × Int) => G.index_reads_1__index_From__r_b2 t_0 key_1 v120 x146 p.1 p.2.1 p.2.2) (c118, c119, 0)
  else
    Sh.exit (some (c118, c119, true))

def index_reads_1__index_From__r (t_0 : Int) (key_1 : Int) (c_2 : Int) (c_3 : Bool) (c_4 : G.api_Hist) : Option (Int × Bool × Bool) :=
  (G.hist_Right c_4).bind fun r73 =>
  if !r73 then
    some (c_2, c_3, true)
  else
    Sh.loop (fun (p : Int × Bool × Int) => G.index_reads_1__index_From__r_b1 t_0 key_1 c_4 p.1 p.2.1 p.2.2) (c_2, c_3, 0)

def index_From (h_0 : G.api_Hist) (t_1 : Int) (key_2 : Int) : Option (Int × Bool) :=
  (G.index_reads h_0).bind fun r8 =>
  (G.index_reads_1__index_From__r t_1 key_2 0 false h_0).bind fun it9 =>
  if it9.2.2 then
    some (0, false)
  else
    some (it9.1, it9.2.1)

def index_Writers_j1 (out44 : List Int) : Option ((List Int)) :=
  some out44

def index_Writers_j2 (v58 : Int) (out64 : List Int) : Option (((List Int) × Int) ⊕ ((List Int))) :=
  Sh.next (out64, w64 (v58 + 1))

def index_Writers_b1 (h_0 : G.api_Hist) (key_1 : Int) (out57 : List Int) (v58 : Int) : Option (((List Int) × Int) ⊕ ((List Int))) :=
  if decide (v58 < (Sh.len h_0.Txns)) then
    (Sh.idx h_0.Txns v58).bind fun x67 =>
    (G.slices_Contains_int_int x67.Writes key_1).bind fun r70 =>
    if r70 then
      (Sh.app 8 out57 [v58]).bind fun out72 =>
      G.index_Writers_j2 v58 out72
    else
      G.index_Writers_j2 v58 out57
  else
    Sh.exit (G.index_Writers_j1 out57)

def index_Writers (h_0 : G.api_Hist) (key_1 : Int) : Option ((List Int)) :=
  (G.hist_Right h_0).bind fun r23 =>
  if !r23 then
    some []
  else
    Sh.loop (fun (p : (List Int) × Int) => G.index_Writers_b1 h_0 key_1 p.1 p.2) ([], 0)

def index_Readers__r_j1 (l_2 : List Int) (y_3 : G.index_read) (v6 : Bool) : Option ((List Int)) :=
  if v6 then
    (Sh.app 8 l_2 [y_3.t]).bind fun l8 =>
    some l8
  else
    some l_2

def index_Readers__r (key_0 : Int) (from_1 : Int) (l_2 : List Int) (y_3 : G.index_read) : Option ((List Int)) :=
  if decide (y_3.Take.Key = key_0) then
    G.index_Readers__r_j1 l_2 y_3 (decide (y_3.Take.From = from_1))
  else
    G.index_Readers__r_j1 l_2 y_3 false

def index_reads_1__index_Readers__r_j1 (v89 : Int) (v106 : List Int) : Option (((List Int) × Int) ⊕ ((List Int))) :=
  Sh.next (v106, w64 (v89 + 1))

def index_reads_1__index_Readers__r_b2 (key_0 : Int) (from_1 : Int) (v89 : Int) (x109 : G.api_Txn) (c119 : List Int) (v120 : Int) : Option (((List Int) × Int) ⊕ (((List Int) × Int) ⊕ ((List Int)))) :=
  if decide (v120 < (Sh.len x109.Reads)) then
    (Sh.idx x109.Reads v120).bind fun x127 =>
    (G.index_Readers__r key_0 from_1 c119 (G.index_read.mk v89 (G.api_Take.mk x127.Key x127.From))).bind fun y130 =>
    Sh.next (y130, w64 (v120 + 1))
  else
    Sh.exit (G.index_reads_1__index_Readers__r_j1 v89 c119)

def index_reads_1__index_Readers__r_b1 (key_0 : Int) (from_1 : Int) (c_3 : G.api_Hist) (c88 : List Int) (v89 : Int) : Option (((List Int) × Int) ⊕ ((List Int))) :=
  if decide (v89 < (Sh.len c_3.Txns)) then
    (Sh.idx c_3.Txns v89).bind fun x109 =>
    Sh.loop (fun (p : (List Int) × Int) => G.index_reads_1__index_Readers__r_b2 key_0 from_1 v89 x109 p.1 p.2) (c88, 0)
  else
    Sh.exit (some c88)

def index_reads_1__index_Readers__r (key_0 : Int) (from_1 : Int) (l_2 : List Int) (c_3 : G.api_Hist) : Option ((List Int)) :=
  (G.hist_Right c_3).bind fun r54 =>
  if !r54 then
    some l_2
  else
    Sh.loop (fun (p : (List Int) × Int) => G.index_reads_1__index_Readers__r_b1 key_0 from_1 c_3 p.1 p.2) (l_2, 0)

def index_Readers (h_0 : G.api_Hist) (key_1 : Int) (from_2 : Int) : Option ((List Int)) :=
  (G.index_reads h_0).bind fun r8 =>
  (G.index_reads_1__index_Readers__r key_1 from_2 [] h_0).bind fun it9 =>
  some it9

def index_Keys_j1 (out35 : List Int) : Option ((List Int)) :=
  (Sh.sort out35).bind fun sort38 =>
  (Sh.compact sort38).bind fun compact41 =>
  some compact41

def index_Keys_b1 (h_0 : G.api_Hist) (out50 : List Int) (v51 : Int) : Option (((List Int) × Int) ⊕ ((List Int))) :=
  if decide (v51 < (Sh.len h_0.Txns)) then
    (Sh.idx h_0.Txns v51).bind fun x58 =>
    (Sh.app 8 out50 x58.Writes).bind fun out60 =>
    Sh.next (out60, w64 (v51 + 1))
  else
    Sh.exit (G.index_Keys_j1 out50)

def index_Keys (h_0 : G.api_Hist) : Option ((List Int)) :=
  (G.hist_Right h_0).bind fun r20 =>
  if !r20 then
    some []
  else
    Sh.loop (fun (p : (List Int) × Int) => G.index_Keys_b1 h_0 p.1 p.2) ([], 0)

def index_Pairs_j1 (out341 : List G.api_Choice) : Option ((List G.api_Choice)) :=
  some out341

def index_Pairs_j2 (v457 : Int) (out514 : List G.api_Choice) : Option (((List G.api_Choice) × Int) ⊕ ((List G.api_Choice))) :=
  Sh.next (out514, w64 (v457 + 1))

def index_Pairs_j3 (v556 : Int) (out574 : List G.api_Choice) : Option (((List G.api_Choice) × Int) ⊕ (((List G.api_Choice) × Int) ⊕ ((List G.api_Choice)))) :=
  Sh.next (out574, w64 (v556 + 1))

def index_Pairs_b3 (x517 : Int) (v556 : Int) (x577 : Int) (part580 : List Int) (out589 : List G.api_Choice) (v590 : Int) : Option (((List G.api_Choice) × Int) ⊕ (((List G.api_Choice) × Int) ⊕ (((List G.api_Choice) × Int) ⊕ ((List G.api_Choice))))) :=
  if decide (v590 < (Sh.len part580)) then
    (Sh.idx part580 v590).bind fun x597 =>
    (Sh.app 24 out589 ([(G.api_Choice.mk x517 x577 x597)] : List G.api_Choice)).bind fun out599 =>
    Sh.next (out599, w64 (v590 + 1))
  else
    Sh.exit (G.index_Pairs_j3 v556 out589)

def index_Pairs_b2 (v457 : Int) (x517 : Int) (r520 : (List Int)) (out555 : List G.api_Choice) (v556 : Int) : Option (((List G.api_Choice) × Int) ⊕ (((List G.api_Choice) × Int) ⊕ ((List G.api_Choice)))) :=
  if decide (v556 < (Sh.len r520)) then
    (Sh.idx r520 v556).bind fun x577 =>
    (Sh.sub r520 (w64 (v556 + 1)) (Sh.len r520)).bind fun part580 =>
    Sh.loop (fun (p : (List G.api_Choice) × Int) => G.index_Pairs_b3 x517 v556 x577 part580 p.1 p.2) (out555, 0)
  else
    Sh.exit (G.index_Pairs_j2 v457 out555)

def index_Pairs_b1 (h_0 : G.api_Hist) (r343 : (List Int)) (out456 : List G.api_Choice) (v457 : Int) : Option (((List G.api_Choice) × Int) ⊕ ((List G.api_Choice))) :=
  if decide (v457 < (Sh.len r343)) then
    (Sh.idx r343 v457).bind fun x517 =>
    (G.index_Writers h_0 x517).bind fun r520 =>
    Sh.loop (fun (p : (List G.api_Choice) × Int) => G.index_Pairs_b2 v457 x517 r520 p.1 p.2) (out456, 0)
  else
    Sh.exit (G.index_Pairs_j1 out456)

def index_Pairs (h_0 : G.api_Hist) : Option ((List G.api_Choice)) :=
  (G.index_Keys h_0).bind fun r343 =>
  Sh.loop (fun (p : (List G.api_Choice) × Int) => G.index_Pairs_b1 h_0 r343 p.1 p.2) ([], 0)
end G
end

section
/- What the functions of a package compute, as plain functions. -/
open Go Go.Av
set_option linter.unusedVariables false
namespace G
def inquestref07_Ints_j1 : Option (Bool) :=
  some true

def inquestref07_Ints_b1 (a_0 : List Int) (b_1 : List Int) (i39 : Int) : Option ((Int) ⊕ (Bool)) :=
  if decide (i39 < (Sh.len a_0)) then
    (Sh.idx a_0 i39).bind fun x49 =>
    (Sh.idx b_1 i39).bind fun x51 =>
    if decide (x49 ≠ x51) then
      Sh.exit (some false)
    else
      Sh.next (w64 (i39 + 1))
  else
    Sh.exit (G.inquestref07_Ints_j1)

def inquestref07_Ints (a_0 : List Int) (b_1 : List Int) : Option (Bool) :=
  if decide ((Sh.len a_0) ≠ (Sh.len b_1)) then
    some false
  else
    Sh.loop (fun (p : Int) => G.inquestref07_Ints_b1 a_0 b_1 p) 0
end G
end

section
/- What the functions of a package compute, as plain functions. -/
open Go Go.Av
set_option linter.unusedVariables false
namespace G
def inquestlaw09_awake : Option (Bool) :=
  (G.index_From (G.api_Hist.mk ([(G.api_Txn.mk 0 [4] []), (G.api_Txn.mk 0 [] ([(G.api_Take.mk 4 2)] : List G.api_Take)), (G.api_Txn.mk 0 [4] []), (G.api_Txn.mk 0 [4] [])] : List G.api_Txn)) 1 4).bind fun r17 =>
  (G.index_Writers (G.api_Hist.mk ([(G.api_Txn.mk 0 [4] []), (G.api_Txn.mk 0 [] ([(G.api_Take.mk 4 2)] : List G.api_Take)), (G.api_Txn.mk 0 [4] []), (G.api_Txn.mk 0 [4] [])] : List G.api_Txn)) 4).bind fun r31 =>
  (G.inquestref07_Ints r31 [0, 2, 3]).bind fun r32 =>
  if r32 then
    (G.index_Readers (G.api_Hist.mk ([(G.api_Txn.mk 0 [4] []), (G.api_Txn.mk 0 [] ([(G.api_Take.mk 4 2)] : List G.api_Take)), (G.api_Txn.mk 0 [4] []), (G.api_Txn.mk 0 [4] [])] : List G.api_Txn)) 4 2).bind fun r34 =>
    (G.inquestref07_Ints r34 [1]).bind fun r35 =>
    if r35 then
      (G.index_Keys (G.api_Hist.mk ([(G.api_Txn.mk 0 [4] []), (G.api_Txn.mk 0 [] ([(G.api_Take.mk 4 2)] : List G.api_Take)), (G.api_Txn.mk 0 [4] []), (G.api_Txn.mk 0 [4] [])] : List G.api_Txn))).bind fun r37 =>
      (G.inquestref07_Ints r37 [4]).bind fun r38 =>
      if r38 then
        if r17.2 then
          if decide (r17.1 = 2) then
            (G.index_Pairs (G.api_Hist.mk ([(G.api_Txn.mk 0 [4] []), (G.api_Txn.mk 0 [] ([(G.api_Take.mk 4 2)] : List G.api_Take)), (G.api_Txn.mk 0 [4] []), (G.api_Txn.mk 0 [4] [])] : List G.api_Txn))).bind fun r42 =>
            (G.inquestref09_Choices r42 ([(G.api_Choice.mk 4 0 2), (G.api_Choice.mk 4 0 3), (G.api_Choice.mk 4 2 3)] : List G.api_Choice)).bind fun r43 =>
            some r43
          else
            some false
        else
          some false
      else
        some false
    else
      some false
  else
    some false

def inquestlaw09_IndexKeys_j2 : Option (Bool) :=
  some true

def inquestlaw09_IndexKeys_j3 (t210 : Int) : Option ((Int) ⊕ (Bool)) :=
  Sh.next (w64 (t210 + 1))

def inquestlaw09_IndexKeys_j5 (t210 : Int) (there250 : Bool) : Option ((Int) ⊕ (Bool)) :=
  if !there250 then
    Sh.exit (some false)
  else
    G.inquestlaw09_IndexKeys_j3 t210

def inquestlaw09_IndexKeys_j6 (i261 : Int) (there266 : Bool) : Option ((Bool × Int) ⊕ ((Int) ⊕ (Bool))) :=
  Sh.next (there266, w64 (i261 + 1))

def inquestlaw09_IndexKeys_b2 (r120 : (List Int)) (t210 : Int) (r230 : Int × Bool) (there260 : Bool) (i261 : Int) : Option ((Bool × Int) ⊕ ((Int) ⊕ (Bool))) :=
  if decide (i261 < (Sh.len r120)) then
    if there260 then
      G.inquestlaw09_IndexKeys_j6 i261 true
    else
      (Sh.idx r120 i261).bind fun x268 =>
      G.inquestlaw09_IndexKeys_j6 i261 (decide (x268 = r230.1))
  else
    Sh.exit (G.inquestlaw09_IndexKeys_j5 t210 there260)

def inquestlaw09_IndexKeys_j4 (r120 : (List Int)) (t210 : Int) (r230 : Int × Bool) (v234 : Bool) : Option ((Int) ⊕ (Bool)) :=
  if v234 then
    G.inquestlaw09_IndexKeys_j3 t210
  else
    Sh.loop (fun (p : Bool × Int) => G.inquestlaw09_IndexKeys_b2 r120 t210 r230 p.1 p.2) (false, 0)

def inquestlaw09_IndexKeys_b1 (h_0 : G.api_Hist) (key_1 : Int) (r120 : (List Int)) (t210 : Int) : Option ((Int) ⊕ (Bool)) :=
  if decide (t210 < (Sh.len h_0.Txns)) then
    (G.index_From h_0 t210 key_1).bind fun r230 =>
    if !r230.2 then
      G.inquestlaw09_IndexKeys_j4 r120 t210 r230 true
    else
      G.inquestlaw09_IndexKeys_j4 r120 t210 r230 (decide (r230.1 < 0))
  else
    Sh.exit (G.inquestlaw09_IndexKeys_j2)

def inquestlaw09_IndexKeys_j1 (h_0 : G.api_Hist) (key_1 : Int) (in118 : Bool) : Option (Bool) :=
  (G.index_Writers h_0 key_1).bind fun r120 =>
  if !(in118 == (decide ((0 : Int) < (Sh.len r120)))) then
    some false
  else
    Sh.loop (fun (p : Int) => G.inquestlaw09_IndexKeys_b1 h_0 key_1 r120 p) 0

def inquestlaw09_IndexKeys_j8 (i286 : Int) (in301 : Bool) (v307 : Bool) : Option ((Bool × Int) ⊕ (Bool)) :=
  if v307 then
    Sh.exit (some false)
  else
    Sh.next (in301, w64 (i286 + 1))

def inquestlaw09_IndexKeys_j7 (r91 : (List Int)) (i286 : Int) (in301 : Bool) : Option ((Bool × Int) ⊕ (Bool)) :=
  if decide ((0 : Int) < i286) then
    (Sh.idx r91 i286).bind fun x310 =>
    (Sh.idx r91 (w64 (i286 - 1))).bind fun x312 =>
    G.inquestlaw09_IndexKeys_j8 i286 in301 (decide (x310 ≤ x312))
  else
    G.inquestlaw09_IndexKeys_j8 i286 in301 false

def inquestlaw09_IndexKeys_b3 (h_0 : G.api_Hist) (key_1 : Int) (r91 : (List Int)) (in285 : Bool) (i286 : Int) : Option ((Bool × Int) ⊕ (Bool)) :=
  if decide (i286 < (Sh.len r91)) then
    if in285 then
      G.inquestlaw09_IndexKeys_j7 r91 i286 true
    else
      (Sh.idx r91 i286).bind fun x315 =>
      G.inquestlaw09_IndexKeys_j7 r91 i286 (decide (x315 = key_1))
  else
    Sh.exit (G.inquestlaw09_IndexKeys_j1 h_0 key_1 in285)

def inquestlaw09_IndexKeys (h_0 : G.api_Hist) (key_1 : Int) : Option (Bool) :=
  (G.inquestlaw09_awake).bind fun r85 =>
  if !r85 then
    some false
  else
    (G.inquestref08_Few h_0 40).bind fun r88 =>
    if !r88 then
      some true
    else
      (G.index_Keys h_0).bind fun r91 =>
      Sh.loop (fun (p : Bool × Int) => G.inquestlaw09_IndexKeys_b3 h_0 key_1 r91 p.1 p.2) (false, 0)
end G
end
