/- What the functions compute, as plain functions. -/
import Derived.Test.YtkiiigfefobdlaaDoorBase1
section
/- The plain types. -/
open Go Go.Av
namespace G
structure graph_Edge where
  A : Int
  B : Int
  deriving DecidableEq, Inhabited
def graph_Edge.av (x : graph_Edge) : AV := .agg [i64 x.A, i64 x.B]
@[simp] theorem graph_Edge.noid (x : graph_Edge) : NoId (graph_Edge.av x) := by simp [graph_Edge.av]
@[simp] theorem graph_Edge.solid (x : graph_Edge) : AV.solid (graph_Edge.av x) = true := rfl
@[simp] theorem graph_Edge.dry (x : graph_Edge) : Dry (graph_Edge.av x) := by simp [graph_Edge.av]
@[simp] theorem graph_Edge.flat (x : graph_Edge) : (graph_Edge.av x).flat.length = 2 := rfl
structure graph_Graph where
  N : Int
  Rows : List (BitVec 64)
  deriving DecidableEq, Inhabited
def graph_Graph.av (x : graph_Graph) : AV := .agg [i64 x.N, .sl (List.map u64 x.Rows)]
@[simp] theorem graph_Graph.noid (x : graph_Graph) : NoId (graph_Graph.av x) := by simp [graph_Graph.av]
@[simp] theorem graph_Graph.solid (x : graph_Graph) : AV.solid (graph_Graph.av x) = true := rfl
@[simp] theorem graph_Graph.flat (x : graph_Graph) : (graph_Graph.av x).flat.length = 2 := rfl
structure inquestref12_G where
  N : Int
  Rows : List (BitVec 64)
  deriving DecidableEq, Inhabited
def inquestref12_G.av (x : inquestref12_G) : AV := .agg [i64 x.N, .sl (List.map u64 x.Rows)]
@[simp] theorem inquestref12_G.noid (x : inquestref12_G) : NoId (inquestref12_G.av x) := by simp [inquestref12_G.av]
@[simp] theorem inquestref12_G.solid (x : inquestref12_G) : AV.solid (inquestref12_G.av x) = true := rfl
@[simp] theorem inquestref12_G.flat (x : inquestref12_G) : (inquestref12_G.av x).flat.length = 2 := rfl
end G
end

section
/- What the functions of a package compute, as plain functions. -/
open Go Go.Av
set_option linter.unusedVariables false
namespace G
def bits_TrailingZeros64 (x_0 : BitVec 64) : Option (Int) :=
  if decide (x_0 = 0#64) then
    some 64
  else
    (Sh.shr ((x_0 &&& (-x_0)) * 285870213051353865#64) ((58#64).toNat : Int)).bind fun s8 =>
    (Sh.idx Sh.tab8 ((s8).toNat : Int)).bind fun x9 =>
    some (w64 x9)
end G
end

section
/- What the functions of a package compute, as plain functions. -/
open Go Go.Av
set_option linter.unusedVariables false
namespace G
def bits_Join_j1 (out21 : BitVec 64) : Option ((BitVec 64)) :=
  some out21

def bits_Join_b1 (l_0 : List (BitVec 64)) (out28 : BitVec 64) (v29 : Int) : Option (((BitVec 64) × Int) ⊕ ((BitVec 64))) :=
  if decide (v29 < (Sh.len l_0)) then
    (Sh.idx l_0 v29).bind fun x35 =>
    Sh.next (out28 ||| x35, w64 (v29 + 1))
  else
    Sh.exit (G.bits_Join_j1 out28)

def bits_Join (l_0 : List (BitVec 64)) : Option ((BitVec 64)) :=
  Sh.loop (fun (p : (BitVec 64) × Int) => G.bits_Join_b1 l_0 p.1 p.2) (0#64, 0)

def bits_Sub (a_0 : BitVec 64) (b_1 : BitVec 64) : Option (Bool) :=
  some (decide ((a_0 &&& ~~~b_1) = 0#64))

def bits_bit_j1 (i_0 : Int) (v7 : Bool) : Option ((BitVec 64)) :=
  if v7 then
    some 0#64
  else
    (Sh.shl 1#64 i_0).bind fun s10 =>
    some s10

def bits_bit (i_0 : Int) : Option ((BitVec 64)) :=
  if decide (i_0 < 0) then
    G.bits_bit_j1 i_0 true
  else
    G.bits_bit_j1 i_0 (decide ((64 : Int) ≤ i_0))

def bits_Has (s_0 : BitVec 64) (i_1 : Int) : Option (Bool) :=
  (G.bits_bit i_1).bind fun r3 =>
  some (decide ((s_0 &&& r3) ≠ 0#64))

def bits_With (s_0 : BitVec 64) (i_1 : Int) : Option ((BitVec 64)) :=
  (G.bits_bit i_1).bind fun r3 =>
  some (s_0 ||| r3)

def bits_List_j1 (out21 : List Int) : Option ((List Int)) :=
  some out21

def bits_List_b1 (s28 : BitVec 64) (out29 : List Int) : Option (((BitVec 64) × (List Int)) ⊕ ((List Int))) :=
  if decide (s28 ≠ 0#64) then
    (G.bits_TrailingZeros64 s28).bind fun r33 =>
    (Sh.app 8 out29 [r33]).bind fun out34 =>
    Sh.next (s28 &&& (s28 - 1#64), out34)
  else
    Sh.exit (G.bits_List_j1 out29)

def bits_List (s_0 : BitVec 64) : Option ((List Int)) :=
  Sh.loop (fun (p : (BitVec 64) × (List Int)) => G.bits_List_b1 p.1 p.2) (s_0, [])

def bits_Least (s_0 : BitVec 64) : Option (Int) :=
  if decide (s_0 = 0#64) then
    some (-1)
  else
    (G.bits_TrailingZeros64 s_0).bind fun r4 =>
    some r4

def bits_Without (s_0 : BitVec 64) (i_1 : Int) : Option ((BitVec 64)) :=
  (G.bits_bit i_1).bind fun r3 =>
  some (s_0 &&& ~~~r3)
end G
end

section
/- What the functions of a package compute, as plain functions. -/
open Go Go.Av
set_option linter.unusedVariables false
namespace G
def inquestref10_In (i_0 : Int) : Option (Bool) :=
  if decide ((0 : Int) ≤ i_0) then
    some (decide (i_0 ≤ 63))
  else
    some false

def inquestref10_Power_j1 (n9 : BitVec 64) : Option ((BitVec 64)) :=
  some n9

def inquestref10_Power_b1 (i_0 : Int) (n12 : BitVec 64) (k13 : Int) : Option (((BitVec 64) × Int) ⊕ ((BitVec 64))) :=
  if decide (k13 < i_0) then
    Sh.next (n12 + n12, w64 (k13 + 1))
  else
    Sh.exit (G.inquestref10_Power_j1 n12)

def inquestref10_Power (i_0 : Int) : Option ((BitVec 64)) :=
  Sh.loop (fun (p : (BitVec 64) × Int) => G.inquestref10_Power_b1 i_0 p.1 p.2) (1#64, 0)

def inquestref10_Has (s_0 : BitVec 64) (i_1 : Int) : Option (Bool) :=
  (G.inquestref10_In i_1).bind fun r7 =>
  if !r7 then
    some false
  else
    (G.inquestref10_Power i_1).bind fun r12 =>
    (Sh.udiv s_0 r12).bind fun q13 =>
    (Sh.umod q13 2#64).bind fun q14 =>
    some (decide (q14 = 1#64))

def inquestref10_With_j1 (s_0 : BitVec 64) (i_1 : Int) (v13 : Bool) : Option ((BitVec 64)) :=
  if v13 then
    some s_0
  else
    (G.inquestref10_Power i_1).bind fun r16 =>
    some (s_0 + r16)

def inquestref10_With (s_0 : BitVec 64) (i_1 : Int) : Option ((BitVec 64)) :=
  (G.inquestref10_Has s_0 i_1).bind fun r7 =>
  if r7 then
    G.inquestref10_With_j1 s_0 i_1 true
  else
    (G.inquestref10_In i_1).bind fun r18 =>
    G.inquestref10_With_j1 s_0 i_1 (!r18)
end G
end

section
/- What the functions of a package compute, as plain functions. -/
open Go Go.Av
set_option linter.unusedVariables false
namespace G
def graph_nodes (n_0 : Int) : Option ((BitVec 64)) :=
  (Sh.shl 1#64 n_0).bind fun s3 =>
  some (s3 - 1#64)

def graph_Right (g_0 : G.graph_Graph) : Option (Bool) :=
  if decide ((0 : Int) ≤ g_0.N) then
    if decide (g_0.N ≤ 64) then
      if decide ((Sh.len g_0.Rows) = g_0.N) then
        (G.bits_Join g_0.Rows).bind fun r17 =>
        (G.graph_nodes g_0.N).bind fun r18 =>
        (G.bits_Sub r17 r18).bind fun r19 =>
        some r19
      else
        some false
    else
      some false
  else
    some false

def graph_Has (g_0 : G.graph_Graph) (a_1 : Int) (b_2 : Int) : Option (Bool) :=
  (G.graph_Right g_0).bind fun r16 =>
  if r16 then
    if decide ((0 : Int) ≤ a_1) then
      if decide (a_1 < g_0.N) then
        (Sh.idx g_0.Rows a_1).bind fun x20 =>
        (G.bits_Has x20 b_2).bind fun r22 =>
        some r22
      else
        some false
    else
      some false
  else
    some false

def graph_New_j1 (n_0 : Int) (v7 : Bool) : Option (G.graph_Graph × Int) :=
  if v7 then
    some ((G.graph_Graph.mk 0 []), 1)
  else
    (Sh.mk 8 n_0 n_0 0#64).bind fun made10 =>
    some ((G.graph_Graph.mk n_0 made10), 0)

def graph_New (n_0 : Int) : Option (G.graph_Graph × Int) :=
  if decide (n_0 < 0) then
    G.graph_New_j1 n_0 true
  else
    G.graph_New_j1 n_0 (decide ((64 : Int) < n_0))

def graph_Edges_j1 (out110 : List G.graph_Edge) : Option ((List G.graph_Edge)) :=
  some out110

def graph_Edges_j2 (v146 : Int) (out164 : List G.graph_Edge) : Option (((List G.graph_Edge) × Int) ⊕ ((List G.graph_Edge))) :=
  Sh.next (out164, w64 (v146 + 1))

def graph_Edges_b2 (v146 : Int) (r170 : (List Int)) (out179 : List G.graph_Edge) (v180 : Int) : Option (((List G.graph_Edge) × Int) ⊕ (((List G.graph_Edge) × Int) ⊕ ((List G.graph_Edge)))) :=
  if decide (v180 < (Sh.len r170)) then
    (Sh.idx r170 v180).bind fun x187 =>
    (Sh.app 16 out179 ([(G.graph_Edge.mk v146 x187)] : List G.graph_Edge)).bind fun out189 =>
    Sh.next (out189, w64 (v180 + 1))
  else
    Sh.exit (G.graph_Edges_j2 v146 out179)

def graph_Edges_b1 (g_0 : G.graph_Graph) (out145 : List G.graph_Edge) (v146 : Int) : Option (((List G.graph_Edge) × Int) ⊕ ((List G.graph_Edge))) :=
  if decide (v146 < (Sh.len g_0.Rows)) then
    (Sh.idx g_0.Rows v146).bind fun x167 =>
    (G.bits_List x167).bind fun r170 =>
    Sh.loop (fun (p : (List G.graph_Edge) × Int) => G.graph_Edges_b2 v146 r170 p.1 p.2) (out145, 0)
  else
    Sh.exit (G.graph_Edges_j1 out145)

def graph_Edges (g_0 : G.graph_Graph) : Option ((List G.graph_Edge)) :=
  (G.graph_Right g_0).bind fun r56 =>
  if !r56 then
    some []
  else
    Sh.loop (fun (p : (List G.graph_Edge) × Int) => G.graph_Edges_b1 g_0 p.1 p.2) ([], 0)

def graph_Turn_j1 (r34 : G.graph_Graph × Int) (v61 : List (BitVec 64)) : Option (G.graph_Graph × Int) :=
  some ((G.graph_Graph.mk r34.1.N v61), r34.2)

def graph_Turn_b1 (r34 : G.graph_Graph × Int) (r63 : (List G.graph_Edge)) (outRows80 : List (BitVec 64)) (v81 : Int) : Option (((List (BitVec 64)) × Int) ⊕ (G.graph_Graph × Int)) :=
  if decide (v81 < (Sh.len r63)) then
    (Sh.idx r63 v81).bind fun x92 =>
    (Sh.idx outRows80 x92.B).bind fun x94 =>
    (G.bits_With x94 x92.A).bind fun r96 =>
    (Sh.idx outRows80 x92.B).bind fun x97 =>
    Sh.next (Sh.set outRows80 x92.B r96, w64 (v81 + 1))
  else
    Sh.exit (G.graph_Turn_j1 r34 outRows80)

def graph_Turn (g_0 : G.graph_Graph) : Option (G.graph_Graph × Int) :=
  (G.graph_Right g_0).bind fun r31 =>
  if !r31 then
    some ((G.graph_Graph.mk 0 []), 1)
  else
    (G.graph_New g_0.N).bind fun r34 =>
    (G.graph_Edges g_0).bind fun r63 =>
    Sh.loop (fun (p : (List (BitVec 64)) × Int) => G.graph_Turn_b1 r34 r63 p.1 p.2) (r34.1.Rows, 0)

def graph_like (a_0 : G.graph_Graph) (b_1 : G.graph_Graph) : Option (Bool) :=
  (G.graph_Right a_0).bind fun r10 =>
  if r10 then
    (G.graph_Right b_1).bind fun r12 =>
    if r12 then
      some (decide (a_0.N = b_1.N))
    else
      some false
  else
    some false

def graph_Compose_j1 (r114 : G.graph_Graph × Int) (v221 : List (BitVec 64)) : Option (G.graph_Graph × Int) :=
  some ((G.graph_Graph.mk r114.1.N v221), r114.2)

def graph_Compose_j2 (v293 : Int) (v329 : List (BitVec 64)) : Option (((List (BitVec 64)) × Int) ⊕ (G.graph_Graph × Int)) :=
  Sh.next (v329, w64 (v293 + 1))

def graph_Compose_b2 (b_1 : G.graph_Graph) (v293 : Int) (r335 : (List Int)) (outRows356 : List (BitVec 64)) (v357 : Int) : Option (((List (BitVec 64)) × Int) ⊕ (((List (BitVec 64)) × Int) ⊕ (G.graph_Graph × Int))) :=
  if decide (v357 < (Sh.len r335)) then
    (Sh.idx r335 v357).bind fun x370 =>
    (Sh.idx outRows356 v293).bind fun x372 =>
    (Sh.idx b_1.Rows x370).bind fun x374 =>
    (G.bits_Join [x372, x374]).bind fun r376 =>
    (Sh.idx outRows356 v293).bind fun x377 =>
    Sh.next (Sh.set outRows356 v293 r376, w64 (v357 + 1))
  else
    Sh.exit (G.graph_Compose_j2 v293 outRows356)

def graph_Compose_b1 (a_0 : G.graph_Graph) (b_1 : G.graph_Graph) (r114 : G.graph_Graph × Int) (outRows292 : List (BitVec 64)) (v293 : Int) : Option (((List (BitVec 64)) × Int) ⊕ (G.graph_Graph × Int)) :=
  if decide (v293 < (Sh.len r114.1.Rows)) then
    (Sh.idx a_0.Rows v293).bind fun x333 =>
    (G.bits_List x333).bind fun r335 =>
    Sh.loop (fun (p : (List (BitVec 64)) × Int) => G.graph_Compose_b2 b_1 v293 r335 p.1 p.2) (outRows292, 0)
  else
    Sh.exit (G.graph_Compose_j1 r114 outRows292)

def graph_Compose (a_0 : G.graph_Graph) (b_1 : G.graph_Graph) : Option (G.graph_Graph × Int) :=
  (G.graph_like a_0 b_1).bind fun r111 =>
  if !r111 then
    some ((G.graph_Graph.mk 0 []), 1)
  else
    (G.graph_New a_0.N).bind fun r114 =>
    Sh.loop (fun (p : (List (BitVec 64)) × Int) => G.graph_Compose_b1 a_0 b_1 r114 p.1 p.2) (r114.1.Rows, 0)
end G
end

section
/- What the functions of a package compute, as plain functions. -/
open Go Go.Av
set_option linter.unusedVariables false
namespace G
def inquestref12_Right_j2 : Option (Bool) :=
  some true

def inquestref12_Right_j3 (i104 : Int) : Option ((Int) ⊕ (Bool)) :=
  Sh.next (w64 (i104 + 1))

def inquestref12_Right_b2 (g_0 : G.inquestref12_G) (i104 : Int) (k124 : Int) : Option ((Int) ⊕ ((Int) ⊕ (Bool))) :=
  if decide (k124 < 64) then
    (Sh.idx g_0.Rows i104).bind fun x132 =>
    (G.inquestref10_Has x132 k124).bind fun r134 =>
    if r134 then
      Sh.exit (Sh.exit (some false))
    else
      Sh.next (w64 (k124 + 1))
  else
    Sh.exit (G.inquestref12_Right_j3 i104)

def inquestref12_Right_b1 (g_0 : G.inquestref12_G) (i104 : Int) : Option ((Int) ⊕ (Bool)) :=
  if decide (i104 < g_0.N) then
    Sh.loop (fun (p : Int) => G.inquestref12_Right_b2 g_0 i104 p) g_0.N
  else
    Sh.exit (G.inquestref12_Right_j2)

def inquestref12_Right_j1 (g_0 : G.inquestref12_G) (v44 : Bool) : Option (Bool) :=
  if v44 then
    some false
  else
    Sh.loop (fun (p : Int) => G.inquestref12_Right_b1 g_0 p) 0

def inquestref12_Right (g_0 : G.inquestref12_G) : Option (Bool) :=
  if decide (g_0.N < 0) then
    G.inquestref12_Right_j1 g_0 true
  else
    if decide ((64 : Int) < g_0.N) then
      G.inquestref12_Right_j1 g_0 true
    else
      G.inquestref12_Right_j1 g_0 (decide ((Sh.len g_0.Rows) ≠ g_0.N))

def inquestref12_Node (g_0 : G.inquestref12_G) (a_1 : Int) : Option (Bool) :=
  if decide ((0 : Int) ≤ a_1) then
    some (decide (a_1 < g_0.N))
  else
    some false

def inquestref12_Has (g_0 : G.inquestref12_G) (a_1 : Int) (b_2 : Int) : Option (Bool) :=
  (Sh.idx g_0.Rows a_1).bind fun x7 =>
  (G.inquestref10_Has x7 b_2).bind fun r9 =>
  some r9

def inquestref12_New_j1 (n_0 : Int) (v15 : List (BitVec 64)) : Option (G.inquestref12_G) :=
  some (G.inquestref12_G.mk n_0 v15)

def inquestref12_New_b1 (n_0 : Int) (gRows20 : List (BitVec 64)) (i21 : Int) : Option (((List (BitVec 64)) × Int) ⊕ (G.inquestref12_G)) :=
  if decide (i21 < n_0) then
    (Sh.app 8 gRows20 [0#64]).bind fun l24 =>
    Sh.next (l24, w64 (i21 + 1))
  else
    Sh.exit (G.inquestref12_New_j1 n_0 gRows20)

def inquestref12_New (n_0 : Int) : Option (G.inquestref12_G) :=
  Sh.loop (fun (p : (List (BitVec 64)) × Int) => G.inquestref12_New_b1 n_0 p.1 p.2) ([], 0)
end G
end

section
/- What the functions of a package compute, as plain functions. -/
open Go Go.Av
set_option linter.unusedVariables false
namespace G
def cycle_Is_j2 : Option (Bool) :=
  some true

def cycle_Is_j3 (seen85 : BitVec 64) (v87 : Int) (x98 : Int) (v107 : Bool) : Option (((BitVec 64) × Int × Int) ⊕ (Bool)) :=
  if v107 then
    Sh.exit (some false)
  else
    (G.bits_With seen85 x98).bind fun r110 =>
    Sh.next (r110, x98, w64 (v87 + 1))

def cycle_Is_b1 (g_0 : G.graph_Graph) (l_1 : List Int) (seen85 : BitVec 64) (last86 : Int) (v87 : Int) : Option (((BitVec 64) × Int × Int) ⊕ (Bool)) :=
  if decide (v87 < (Sh.len l_1)) then
    (Sh.idx l_1 v87).bind fun x98 =>
    (G.graph_Has g_0 last86 x98).bind fun r111 =>
    if !r111 then
      G.cycle_Is_j3 seen85 v87 x98 true
    else
      (G.bits_Has seen85 x98).bind fun r113 =>
      G.cycle_Is_j3 seen85 v87 x98 r113
  else
    Sh.exit (G.cycle_Is_j2)

def cycle_Is_j1 (g_0 : G.graph_Graph) (l_1 : List Int) (v35 : Bool) : Option (Bool) :=
  if v35 then
    some false
  else
    (Sh.idx l_1 (w64 ((Sh.len l_1) - 1))).bind fun x39 =>
    Sh.loop (fun (p : (BitVec 64) × Int × Int) => G.cycle_Is_b1 g_0 l_1 p.1 p.2.1 p.2.2) (0#64, x39, 0)

def cycle_Is (g_0 : G.graph_Graph) (l_1 : List Int) : Option (Bool) :=
  if decide ((Sh.len l_1) = 0) then
    G.cycle_Is_j1 g_0 l_1 true
  else
    G.cycle_Is_j1 g_0 l_1 (decide (g_0.N < (Sh.len l_1)))

def cycle_far_j1 (v263 : List Int) : Option ((List Int)) :=
  (Sh.whole 64 v263).bind fun w268 =>
  (Sh.whole 64 v263).bind fun w270 =>
  (Sh.whole 64 v263).bind fun w272 =>
  some v263

def cycle_far_j2 (n359 : Int) (front401 : BitVec 64) (v402 : List Int) : Option (((List Int) × (BitVec 64) × Int) ⊕ ((List Int))) :=
  Sh.next (v402, front401, w64 (n359 + 1))

def cycle_far_j3 (n359 : Int) (next443 : BitVec 64) (v444 : List Int) : Option (((List Int) × (BitVec 64) × Int) ⊕ ((List Int))) :=
  G.cycle_far_j2 n359 next443 v444

def cycle_far_j4 (v474 : Int) (d485 : List Int) (next486 : BitVec 64) : Option (((List Int) × (BitVec 64) × Int) ⊕ (((List Int) × (BitVec 64) × Int) ⊕ ((List Int)))) :=
  Sh.next (d485, next486, w64 (v474 + 1))

def cycle_far_b2 (back_0 : G.graph_Graph) (n359 : Int) (r446 : (List Int)) (d472 : List Int) (next473 : BitVec 64) (v474 : Int) : Option (((List Int) × (BitVec 64) × Int) ⊕ (((List Int) × (BitVec 64) × Int) ⊕ ((List Int)))) :=
  if decide (v474 < (Sh.len r446)) then
    (Sh.idx r446 v474).bind fun x489 =>
    (Sh.aidx 64 d472 x489).bind fun x493 =>
    if decide (x493 = 0) then
      (Sh.aidx 64 d472 x489).bind fun x498 =>
      (Sh.idx back_0.Rows x489).bind fun x500 =>
      (G.bits_Join [next473, x500]).bind fun r502 =>
      G.cycle_far_j4 v474 (Sh.set d472 x489 n359) r502
    else
      G.cycle_far_j4 v474 d472 next473
  else
    Sh.exit (G.cycle_far_j3 n359 next473 d472)

def cycle_far_b1 (back_0 : G.graph_Graph) (d357 : List Int) (front358 : BitVec 64) (n359 : Int) : Option (((List Int) × (BitVec 64) × Int) ⊕ ((List Int))) :=
  if decide (front358 ≠ 0#64) then
    (G.bits_List front358).bind fun r446 =>
    Sh.loop (fun (p : (List Int) × (BitVec 64) × Int) => G.cycle_far_b2 back_0 n359 r446 p.1 p.2.1 p.2.2) (d357, 0#64, 0)
  else
    Sh.exit (G.cycle_far_j1 d357)

def cycle_far (back_0 : G.graph_Graph) (v_1 : Int) : Option ((List Int)) :=
  (Sh.idx back_0.Rows v_1).bind fun x135 =>
  Sh.loop (fun (p : (List Int) × (BitVec 64) × Int) => G.cycle_far_b1 back_0 p.1 p.2.1 p.2.2) ((List.replicate 64 0), x135, 1)

def cycle_Find_j1 : Option ((List Int)) :=
  some []

def cycle_Find_j2 (v666 : Int) : Option ((Int) ⊕ ((List Int))) :=
  Sh.next (w64 (v666 + 1))

def cycle_Find_j3 (out842 : List Int) : Option ((Int) ⊕ ((List Int))) :=
  Sh.exit (some out842)

def cycle_Find_j4 (left896 : Int) (out920 : List Int) : Option (((List Int) × Int) ⊕ ((Int) ⊕ ((List Int)))) :=
  Sh.next (out920, w64 (left896 - 1))

def cycle_Find_b3 (r755 : (List Int)) (out895 : List Int) (left896 : Int) (r930 : (List Int)) (v942 : Int) : Option ((Int) ⊕ (((List Int) × Int) ⊕ ((Int) ⊕ ((List Int))))) :=
  if decide (v942 < (Sh.len r930)) then
    (Sh.idx r930 v942).bind fun x951 =>
    (Sh.aidx 64 r755 x951).bind fun x955 =>
    if decide (x955 = left896) then
      (Sh.app 8 out895 [x951]).bind fun out959 =>
      Sh.exit (G.cycle_Find_j4 left896 out959)
    else
      Sh.next (w64 (v942 + 1))
  else
    Sh.exit (G.cycle_Find_j4 left896 out895)

def cycle_Find_b2 (g_0 : G.graph_Graph) (r755 : (List Int)) (out895 : List Int) (left896 : Int) : Option (((List Int) × Int) ⊕ ((Int) ⊕ ((List Int)))) :=
  if decide ((0 : Int) < left896) then
    (Sh.idx out895 (w64 ((Sh.len out895) - 1))).bind fun x926 =>
    (Sh.idx g_0.Rows x926).bind fun x928 =>
    (G.bits_List x928).bind fun r930 =>
    Sh.loop (fun (p : Int) => G.cycle_Find_b3 r755 out895 left896 r930 p) 0
  else
    Sh.exit (G.cycle_Find_j3 out895)

def cycle_Find_b1 (g_0 : G.graph_Graph) (r251 : G.graph_Graph × Int) (v666 : Int) : Option ((Int) ⊕ ((List Int))) :=
  if decide (v666 < g_0.N) then
    (G.cycle_far r251.1 v666).bind fun r755 =>
    (Sh.whole 64 (List.replicate 64 0)).bind fun w756 =>
    (Sh.whole 64 r755).bind fun w758 =>
    (Sh.aidx 64 r755 v666).bind fun x764 =>
    if decide (x764 = 0) then
      G.cycle_Find_j2 v666
    else
      (Sh.aidx 64 r755 v666).bind fun x845 =>
      Sh.loop (fun (p : (List Int) × Int) => G.cycle_Find_b2 g_0 r755 p.1 p.2) ([v666], w64 (x845 - 1))
  else
    Sh.exit (G.cycle_Find_j1)

def cycle_Find (g_0 : G.graph_Graph) : Option ((List Int)) :=
  (G.graph_Turn g_0).bind fun r251 =>
  if decide (r251.2 ≠ 0) then
    some []
  else
    Sh.loop (fun (p : Int) => G.cycle_Find_b1 g_0 r251 p) 0
end G
end

section
/- What the functions of a package compute, as plain functions. -/
open Go Go.Av
set_option linter.unusedVariables false
namespace G
def inquestref07_Ints_j1 : Option (Bool) :=
  some true

def inquestref07_Ints_b1 (a_0 : List Int) (b_1 : List Int) (i39 : Int) : Option ((Int) ⊕ (Bool)) :=
  if decide (i39 < (Sh.len a_0)) then
    (Sh.idx a_0 i39).bind fun x49 =>
    (Sh.idx b_1 i39).bind fun x51 =>
    if decide (x49 ≠ x51) then
      Sh.exit (some false)
    else
      Sh.next (w64 (i39 + 1))
  else
    Sh.exit (G.inquestref07_Ints_j1)

def inquestref07_Ints (a_0 : List Int) (b_1 : List Int) : Option (Bool) :=
  if decide ((Sh.len a_0) ≠ (Sh.len b_1)) then
    some false
  else
    Sh.loop (fun (p : Int) => G.inquestref07_Ints_b1 a_0 b_1 p) 0
end G
end

section
/- What the functions of a package compute, as plain functions. -/
open Go Go.Av
set_option linter.unusedVariables false
namespace G
def inquestref15_Is_j3 : Option (Bool) :=
  some true

def inquestref15_Is_b1 (g_0 : G.inquestref12_G) (l_1 : List Int) (i170 : Int) : Option ((Int) ⊕ (Bool)) :=
  if decide (i170 < (Sh.len l_1)) then
    (Sh.idx l_1 i170).bind fun x184 =>
    (Sh.rem (w64 (i170 + 1)) (Sh.len l_1)).bind fun q186 =>
    (Sh.idx l_1 q186).bind fun x187 =>
    (G.inquestref12_Has g_0 x184 x187).bind fun r189 =>
    if !r189 then
      Sh.exit (some false)
    else
      Sh.next (w64 (i170 + 1))
  else
    Sh.exit (G.inquestref15_Is_j3)

def inquestref15_Is_j2 (g_0 : G.inquestref12_G) (l_1 : List Int) : Option (Bool) :=
  Sh.loop (fun (p : Int) => G.inquestref15_Is_b1 g_0 l_1 p) 0

def inquestref15_Is_j4 (i226 : Int) : Option ((Int) ⊕ (Bool)) :=
  Sh.next (w64 (i226 + 1))

def inquestref15_Is_b3 (l_1 : List Int) (i226 : Int) (k264 : Int) : Option ((Int) ⊕ ((Int) ⊕ (Bool))) :=
  if decide (k264 < i226) then
    (Sh.idx l_1 k264).bind fun x274 =>
    (Sh.idx l_1 i226).bind fun x276 =>
    if decide (x274 = x276) then
      Sh.exit (Sh.exit (some false))
    else
      Sh.next (w64 (k264 + 1))
  else
    Sh.exit (G.inquestref15_Is_j4 i226)

def inquestref15_Is_b2 (g_0 : G.inquestref12_G) (l_1 : List Int) (i226 : Int) : Option ((Int) ⊕ (Bool)) :=
  if decide (i226 < (Sh.len l_1)) then
    (Sh.idx l_1 i226).bind fun x251 =>
    (G.inquestref12_Node g_0 x251).bind fun r253 =>
    if !r253 then
      Sh.exit (some false)
    else
      Sh.loop (fun (p : Int) => G.inquestref15_Is_b3 l_1 i226 p) 0
  else
    Sh.exit (G.inquestref15_Is_j2 g_0 l_1)

def inquestref15_Is_j1 (g_0 : G.inquestref12_G) (l_1 : List Int) (v82 : Bool) : Option (Bool) :=
  if v82 then
    some false
  else
    Sh.loop (fun (p : Int) => G.inquestref15_Is_b2 g_0 l_1 p) 0

def inquestref15_Is (g_0 : G.inquestref12_G) (l_1 : List Int) : Option (Bool) :=
  (G.inquestref12_Right g_0).bind fun r78 =>
  if !r78 then
    G.inquestref15_Is_j1 g_0 l_1 true
  else
    G.inquestref15_Is_j1 g_0 l_1 (decide ((Sh.len l_1) = 0))

def inquestref15_far_j2 (d780 : List Int) : Option ((List Int)) :=
  some d780

def inquestref15_far_j3 (k1032 : Int) (d1158 : List Int) : Option (((List Int) × Int) ⊕ ((List Int))) :=
  Sh.next (d1158, w64 (k1032 + 1))

def inquestref15_far_j4 (x1242 : Int) (d1284 : List Int) : Option (((List Int) × Int) ⊕ (((List Int) × Int) ⊕ ((List Int)))) :=
  Sh.next (d1284, w64 (x1242 + 1))

def inquestref15_far_j6 (y1312 : Int) (d1329 : List Int) : Option (((List Int) × Int) ⊕ (((List Int) × Int) ⊕ (((List Int) × Int) ⊕ ((List Int))))) :=
  Sh.next (d1329, w64 (y1312 + 1))

def inquestref15_far_j7 (k1032 : Int) (x1242 : Int) (d1311 : List Int) (y1312 : Int) (v1335 : Bool) : Option (((List Int) × Int) ⊕ (((List Int) × Int) ⊕ (((List Int) × Int) ⊕ ((List Int))))) :=
  if v1335 then
    (Sh.idx d1311 x1242).bind fun x1337 =>
    G.inquestref15_far_j6 y1312 (Sh.set d1311 x1242 (w64 (k1032 + 1)))
  else
    G.inquestref15_far_j6 y1312 d1311

def inquestref15_far_j5 (g_0 : G.inquestref12_G) (k1032 : Int) (x1242 : Int) (d1311 : List Int) (y1312 : Int) (v1320 : Bool) : Option (((List Int) × Int) ⊕ (((List Int) × Int) ⊕ (((List Int) × Int) ⊕ ((List Int))))) :=
  if v1320 then
    (G.inquestref12_Has g_0 x1242 y1312).bind fun r1331 =>
    if r1331 then
      (Sh.idx d1311 y1312).bind fun x1340 =>
      G.inquestref15_far_j7 k1032 x1242 d1311 y1312 (decide (x1340 = k1032))
    else
      G.inquestref15_far_j7 k1032 x1242 d1311 y1312 false
  else
    Sh.exit (G.inquestref15_far_j4 x1242 d1311)

def inquestref15_far_b3 (g_0 : G.inquestref12_G) (k1032 : Int) (x1242 : Int) (d1311 : List Int) (y1312 : Int) : Option (((List Int) × Int) ⊕ (((List Int) × Int) ⊕ (((List Int) × Int) ⊕ ((List Int))))) :=
  if decide (y1312 < g_0.N) then
    (Sh.idx d1311 x1242).bind fun x1343 =>
    G.inquestref15_far_j5 g_0 k1032 x1242 d1311 y1312 (decide (x1343 = 0))
  else
    G.inquestref15_far_j5 g_0 k1032 x1242 d1311 y1312 false

def inquestref15_far_b2 (g_0 : G.inquestref12_G) (k1032 : Int) (d1241 : List Int) (x1242 : Int) : Option (((List Int) × Int) ⊕ (((List Int) × Int) ⊕ ((List Int)))) :=
  if decide (x1242 < g_0.N) then
    Sh.loop (fun (p : (List Int) × Int) => G.inquestref15_far_b3 g_0 k1032 x1242 p.1 p.2) (d1241, 0)
  else
    Sh.exit (G.inquestref15_far_j3 k1032 d1241)

def inquestref15_far_b1 (g_0 : G.inquestref12_G) (d1031 : List Int) (k1032 : Int) : Option (((List Int) × Int) ⊕ ((List Int))) :=
  if decide (k1032 < g_0.N) then
    Sh.loop (fun (p : (List Int) × Int) => G.inquestref15_far_b2 g_0 k1032 p.1 p.2) (d1031, 0)
  else
    Sh.exit (G.inquestref15_far_j2 d1031)

def inquestref15_far_j1 (g_0 : G.inquestref12_G) (d403 : List Int) : Option ((List Int)) :=
  Sh.loop (fun (p : (List Int) × Int) => G.inquestref15_far_b1 g_0 p.1 p.2) (d403, 1)

def inquestref15_far_j8 (d1353 : List Int) (x1354 : Int) (n1361 : Int) : Option (((List Int) × Int) ⊕ ((List Int))) :=
  (Sh.app 8 d1353 [n1361]).bind fun d1362 =>
  Sh.next (d1362, w64 (x1354 + 1))

def inquestref15_far_b4 (g_0 : G.inquestref12_G) (v_1 : Int) (d1353 : List Int) (x1354 : Int) : Option (((List Int) × Int) ⊕ ((List Int))) :=
  if decide (x1354 < g_0.N) then
    (G.inquestref12_Has g_0 x1354 v_1).bind fun r1360 =>
    if r1360 then
      G.inquestref15_far_j8 d1353 x1354 1
    else
      G.inquestref15_far_j8 d1353 x1354 0
  else
    Sh.exit (G.inquestref15_far_j1 g_0 d1353)

def inquestref15_far (g_0 : G.inquestref12_G) (v_1 : Int) : Option ((List Int)) :=
  Sh.loop (fun (p : (List Int) × Int) => G.inquestref15_far_b4 g_0 v_1 p.1 p.2) ([], 0)

def inquestref15_Find_j1 : Option ((List Int)) :=
  some []

def inquestref15_Find_j2 (v650 : Int) : Option ((Int) ⊕ ((List Int))) :=
  Sh.next (w64 (v650 + 1))

def inquestref15_Find_j3 (out818 : List Int) : Option ((Int) ⊕ ((List Int))) :=
  Sh.exit (some out818)

def inquestref15_Find_j4 (left874 : Int) (x899 : Int) (out900 : List Int) : Option (((List Int) × Int × Int) ⊕ ((Int) ⊕ ((List Int)))) :=
  Sh.next (out900, x899, w64 (left874 - 1))

def inquestref15_Find_j5 (out872 : List Int) (left874 : Int) (next923 : Int) : Option (((List Int) × Int × Int) ⊕ ((Int) ⊕ ((List Int)))) :=
  (Sh.app 8 out872 [next923]).bind fun out924 =>
  G.inquestref15_Find_j4 left874 next923 out924

def inquestref15_Find_j6 (y940 : Int) (next947 : Int) : Option ((Int × Int) ⊕ (((List Int) × Int × Int) ⊕ ((Int) ⊕ ((List Int))))) :=
  Sh.next (next947, w64 (y940 - 1))

def inquestref15_Find_j7 (next939 : Int) (y940 : Int) (v953 : Bool) : Option ((Int × Int) ⊕ (((List Int) × Int × Int) ⊕ ((Int) ⊕ ((List Int))))) :=
  if v953 then
    G.inquestref15_Find_j6 y940 y940
  else
    G.inquestref15_Find_j6 y940 next939

def inquestref15_Find_b3 (g_0 : G.inquestref12_G) (r733 : (List Int)) (out872 : List Int) (x873 : Int) (left874 : Int) (next939 : Int) (y940 : Int) : Option ((Int × Int) ⊕ (((List Int) × Int × Int) ⊕ ((Int) ⊕ ((List Int))))) :=
  if decide ((0 : Int) ≤ y940) then
    (G.inquestref12_Has g_0 x873 y940).bind fun r949 =>
    if r949 then
      (Sh.idx r733 y940).bind fun x956 =>
      G.inquestref15_Find_j7 next939 y940 (decide (x956 = left874))
    else
      G.inquestref15_Find_j7 next939 y940 false
  else
    Sh.exit (G.inquestref15_Find_j5 out872 left874 next939)

def inquestref15_Find_b2 (g_0 : G.inquestref12_G) (r733 : (List Int)) (out872 : List Int) (x873 : Int) (left874 : Int) : Option (((List Int) × Int × Int) ⊕ ((Int) ⊕ ((List Int)))) :=
  if decide ((0 : Int) < left874) then
    Sh.loop (fun (p : Int × Int) => G.inquestref15_Find_b3 g_0 r733 out872 x873 left874 p.1 p.2) ((-1), w64 (g_0.N - 1))
  else
    Sh.exit (G.inquestref15_Find_j3 out872)

def inquestref15_Find_b1 (g_0 : G.inquestref12_G) (v650 : Int) : Option ((Int) ⊕ ((List Int))) :=
  if decide (v650 < g_0.N) then
    (G.inquestref15_far g_0 v650).bind fun r733 =>
    (Sh.idx r733 v650).bind fun x738 =>
    if decide (x738 = 0) then
      G.inquestref15_Find_j2 v650
    else
      (Sh.idx r733 v650).bind fun x821 =>
      Sh.loop (fun (p : (List Int) × Int × Int) => G.inquestref15_Find_b2 g_0 r733 p.1 p.2.1 p.2.2) ([v650], v650, w64 (x821 - 1))
  else
    Sh.exit (G.inquestref15_Find_j1)

def inquestref15_Find (g_0 : G.inquestref12_G) : Option ((List Int)) :=
  (G.inquestref12_Right g_0).bind fun r245 =>
  if !r245 then
    some []
  else
    Sh.loop (fun (p : Int) => G.inquestref15_Find_b1 g_0 p) 0
end G
end

section
/- What the functions of a package compute, as plain functions. -/
open Go Go.Av
set_option linter.unusedVariables false
namespace G
def inquestlaw15_awake : Option (Bool) :=
  (G.cycle_Find (G.graph_Graph.mk 3 [2#64, 4#64, 3#64])).bind fun r14 =>
  (G.inquestref07_Ints r14 [0, 1, 2]).bind fun r15 =>
  if r15 then
    (G.cycle_Is (G.graph_Graph.mk 3 [2#64, 4#64, 3#64]) [2, 1]).bind fun r17 =>
    if r17 then
      (G.cycle_Is (G.graph_Graph.mk 3 [2#64, 4#64, 3#64]) [0, 1]).bind fun r19 =>
      some (!r19)
    else
      some false
  else
    some false

def inquestlaw15_plain (g_0 : G.graph_Graph) : Option (G.inquestref12_G) :=
  some (G.inquestref12_G.mk g_0.N g_0.Rows)

def inquestlaw15_CycleTells_j2 (g_0 : G.graph_Graph) (l_1 : List Int) (r19 : G.inquestref12_G) (v30 : Bool) : Option (Bool) :=
  if v30 then
    some true
  else
    (G.cycle_Is g_0 l_1).bind fun r38 =>
    (G.inquestref15_Is r19 l_1).bind fun r39 =>
    if r38 == r39 then
      (G.cycle_Find g_0).bind fun r41 =>
      (G.inquestref15_Find r19).bind fun r42 =>
      (G.inquestref07_Ints r41 r42).bind fun r43 =>
      some r43
    else
      some false

def inquestlaw15_CycleTells_j1 (g_0 : G.graph_Graph) (l_1 : List Int) (r19 : G.inquestref12_G) (v23 : Bool) : Option (Bool) :=
  if v23 then
    some true
  else
    (G.inquestref12_Right r19).bind fun r26 =>
    if r26 then
      G.inquestlaw15_CycleTells_j2 g_0 l_1 r19 (decide ((12 : Int) < g_0.N))
    else
      G.inquestlaw15_CycleTells_j2 g_0 l_1 r19 false

def inquestlaw15_CycleTells (g_0 : G.graph_Graph) (l_1 : List Int) : Option (Bool) :=
  (G.inquestlaw15_awake).bind fun r16 =>
  if !r16 then
    some false
  else
    (G.inquestlaw15_plain g_0).bind fun r19 =>
    if decide ((70 : Int) < (Sh.len g_0.Rows)) then
      G.inquestlaw15_CycleTells_j1 g_0 l_1 r19 true
    else
      G.inquestlaw15_CycleTells_j1 g_0 l_1 r19 (decide ((100 : Int) < (Sh.len l_1)))

def inquestlaw15_CycleTurns_j2 (g_0 : G.graph_Graph) (l_1 : List Int) (k_2 : Int) (v68 : Bool) : Option (Bool) :=
  if v68 then
    some false
  else
    (Sh.app 8 [] g_0.Rows).bind fun l71 =>
    (Sh.idx l_1 k_2).bind fun x76 =>
    (Sh.idx l71 x76).bind fun x78 =>
    (Sh.app 8 [] l_1).bind fun twice81 =>
    (Sh.app 8 twice81 l_1).bind fun twice83 =>
    (G.cycle_Is (G.graph_Graph.mk g_0.N (Sh.set l71 x76 0#64)) l_1).bind fun r88 =>
    if !r88 then
      (G.cycle_Is g_0 twice83).bind fun r90 =>
      if !r90 then
        some (decide ((Sh.len l_1) ≤ g_0.N))
      else
        some false
    else
      some false

def inquestlaw15_CycleTurns_j1 (g_0 : G.graph_Graph) (l_1 : List Int) (k_2 : Int) (v40 : Bool) : Option (Bool) :=
  if v40 then
    some true
  else
    (Sh.sub l_1 k_2 (Sh.len l_1)).bind fun part44 =>
    (Sh.app 8 [] part44).bind fun turned45 =>
    (Sh.sub l_1 0 k_2).bind fun part48 =>
    (Sh.app 8 turned45 part48).bind fun turned49 =>
    (G.cycle_Is g_0 l_1).bind fun r51 =>
    (G.cycle_Is g_0 turned49).bind fun r54 =>
    if !(r54 == r51) then
      some false
    else
      if !r51 then
        some true
      else
        (Sh.idx l_1 k_2).bind fun x92 =>
        if decide (x92 < 0) then
          G.inquestlaw15_CycleTurns_j2 g_0 l_1 k_2 true
        else
          (Sh.idx l_1 k_2).bind fun x95 =>
          G.inquestlaw15_CycleTurns_j2 g_0 l_1 k_2 (decide ((Sh.len g_0.Rows) ≤ x95))

def inquestlaw15_CycleTurns (g_0 : G.graph_Graph) (l_1 : List Int) (k_2 : Int) : Option (Bool) :=
  (G.inquestlaw15_awake).bind fun r31 =>
  if !r31 then
    some false
  else
    if decide ((70 : Int) < (Sh.len g_0.Rows)) then
      G.inquestlaw15_CycleTurns_j1 g_0 l_1 k_2 true
    else
      if decide ((70 : Int) < (Sh.len l_1)) then
        G.inquestlaw15_CycleTurns_j1 g_0 l_1 k_2 true
      else
        if decide (k_2 < 0) then
          G.inquestlaw15_CycleTurns_j1 g_0 l_1 k_2 true
        else
          G.inquestlaw15_CycleTurns_j1 g_0 l_1 k_2 (decide ((Sh.len l_1) ≤ k_2))

def inquestlaw15_CycleShort_j1 (r35 : (List Int)) (v59 : G.graph_Graph) : Option (Bool) :=
  (Sh.idx r35 0).bind fun x65 =>
  (Sh.idx r35 0).bind fun x67 =>
  (G.graph_Has v59 x65 x67).bind fun r69 =>
  some r69

def inquestlaw15_CycleShort_b1 (g_0 : G.graph_Graph) (r35 : (List Int)) (p84 : G.graph_Graph) (k85 : Int) : Option ((G.graph_Graph × Int) ⊕ (Bool)) :=
  if decide (k85 < (Sh.len r35)) then
    (Sh.idx r35 0).bind fun x103 =>
    (Sh.idx r35 0).bind fun x105 =>
    (G.graph_Has p84 x103 x105).bind fun r107 =>
    if r107 then
      Sh.exit (some false)
    else
      (G.graph_Compose p84 g_0).bind fun r110 =>
      if decide (r110.2 ≠ 0) then
        Sh.exit (some false)
      else
        Sh.next (r110.1, w64 (k85 + 1))
  else
    Sh.exit (G.inquestlaw15_CycleShort_j1 r35 p84)

def inquestlaw15_CycleShort (g_0 : G.graph_Graph) : Option (Bool) :=
  (G.inquestlaw15_awake).bind fun r31 =>
  if !r31 then
    some false
  else
    if decide ((24 : Int) < (Sh.len g_0.Rows)) then
      some true
    else
      (G.cycle_Find g_0).bind fun r35 =>
      if decide ((Sh.len r35) = 0) then
        some true
      else
        Sh.loop (fun (p : G.graph_Graph × Int) => G.inquestlaw15_CycleShort_b1 g_0 r35 p.1 p.2) (g_0, 1)
end G
end
