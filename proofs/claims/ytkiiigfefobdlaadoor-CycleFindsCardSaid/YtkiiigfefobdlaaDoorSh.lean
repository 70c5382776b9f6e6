/- What the functions compute, as plain functions. -/
import Derived.Test.YtkiiigfefobdlaaDoorBase1
set_option linter.unusedSimpArgs false
set_option linter.unusedVariables false
section
/- The plain types. -/
open Go Go.Av
namespace G
structure graph_Edge where
  A : Int
  B : Int
  deriving DecidableEq, Inhabited
def graph_Edge.av (x : graph_Edge) : AV := .agg [i64 x.A, i64 x.B]
@[simp] theorem graph_Edge.noid (x : graph_Edge) : NoId (graph_Edge.av x) := by simp [graph_Edge.av]
@[simp] theorem graph_Edge.solid (x : graph_Edge) : AV.solid (graph_Edge.av x) = true := rfl
@[simp] theorem graph_Edge.dry (x : graph_Edge) : Dry (graph_Edge.av x) := by simp [graph_Edge.av]
@[simp] theorem graph_Edge.flat (x : graph_Edge) : (graph_Edge.av x).flat.length = 2 := rfl
structure graph_Graph where
  N : Int
  Rows : List (BitVec 64)
  deriving DecidableEq, Inhabited
def graph_Graph.av (x : graph_Graph) : AV := .agg [i64 x.N, .sl (List.map u64 x.Rows)]
@[simp] theorem graph_Graph.noid (x : graph_Graph) : NoId (graph_Graph.av x) := by simp [graph_Graph.av]
@[simp] theorem graph_Graph.solid (x : graph_Graph) : AV.solid (graph_Graph.av x) = true := rfl
@[simp] theorem graph_Graph.flat (x : graph_Graph) : (graph_Graph.av x).flat.length = 2 := rfl
structure inquestref12_G where
  N : Int
  Rows : List (BitVec 64)
  deriving DecidableEq, Inhabited
def inquestref12_G.av (x : inquestref12_G) : AV := .agg [i64 x.N, .sl (List.map u64 x.Rows)]
@[simp] theorem inquestref12_G.noid (x : inquestref12_G) : NoId (inquestref12_G.av x) := by simp [inquestref12_G.av]
@[simp] theorem inquestref12_G.solid (x : inquestref12_G) : AV.solid (inquestref12_G.av x) = true := rfl
@[simp] theorem inquestref12_G.flat (x : inquestref12_G) : (inquestref12_G.av x).flat.length = 2 := rfl
structure scc_place where
  node : Int
  left : BitVec 64
  deriving DecidableEq, Inhabited
def scc_place.av (x : scc_place) : AV := .agg [i64 x.node, u64 x.left]
@[simp] theorem scc_place.noid (x : scc_place) : NoId (scc_place.av x) := by simp [scc_place.av]
@[simp] theorem scc_place.solid (x : scc_place) : AV.solid (scc_place.av x) = true := rfl
@[simp] theorem scc_place.dry (x : scc_place) : Dry (scc_place.av x) := by simp [scc_place.av]
@[simp] theorem scc_place.flat (x : scc_place) : (scc_place.av x).flat.length = 2 := rfl
structure stack_Stack_int where
  most : Int
  l : List Int
  deriving DecidableEq, Inhabited
def stack_Stack_int.av (x : stack_Stack_int) : AV := .agg [i64 x.most, .sl (List.map i64 x.l)]
@[simp] theorem stack_Stack_int.noid (x : stack_Stack_int) : NoId (stack_Stack_int.av x) := by simp [stack_Stack_int.av]
@[simp] theorem stack_Stack_int.solid (x : stack_Stack_int) : AV.solid (stack_Stack_int.av x) = true := rfl
@[simp] theorem stack_Stack_int.flat (x : stack_Stack_int) : (stack_Stack_int.av x).flat.length = 2 := rfl
structure stack_Stack_scc_place where
  most : Int
  l : List G.scc_place
  deriving DecidableEq, Inhabited
def stack_Stack_scc_place.av (x : stack_Stack_scc_place) : AV := .agg [i64 x.most, .sl (List.map G.scc_place.av x.l)]
@[simp] theorem stack_Stack_scc_place.noid (x : stack_Stack_scc_place) : NoId (stack_Stack_scc_place.av x) := by simp [stack_Stack_scc_place.av]
@[simp] theorem stack_Stack_scc_place.solid (x : stack_Stack_scc_place) : AV.solid (stack_Stack_scc_place.av x) = true := rfl
@[simp] theorem stack_Stack_scc_place.flat (x : stack_Stack_scc_place) : (stack_Stack_scc_place.av x).flat.length = 2 := rfl
end G
end

section
/- What the functions of a package compute, as plain functions. -/
open Go Go.Av
set_option linter.unusedVariables false
namespace G
def bits_TrailingZeros64 (x_0 : BitVec 64) : Option (Int) :=
  if decide (x_0 = 0#64) then
    some 64
  else
    (Sh.shr ((x_0 &&& (-x_0)) * 285870213051353865#64) ((58#64).toNat : Int)).bind fun s8 =>
    (Sh.idx Sh.tab8 ((s8).toNat : Int)).bind fun x9 =>
    some (w64 x9)
end G
end

section
/- What the functions of a package compute, as plain functions. -/
open Go Go.Av
set_option linter.unusedVariables false
namespace G
def bits_Join_j1 (out21 : BitVec 64) : Option ((BitVec 64)) :=
  some out21

def bits_Join_b1 (l_0 : List (BitVec 64)) (out28 : BitVec 64) (v29 : Int) : Option (((BitVec 64) × Int) ⊕ ((BitVec 64))) :=
  if decide (v29 < (Sh.len l_0)) then
    (Sh.idx l_0 v29).bind fun x35 =>
    Sh.next (out28 ||| x35, w64 (v29 + 1))
  else
    Sh.exit (G.bits_Join_j1 out28)

def bits_Join (l_0 : List (BitVec 64)) : Option ((BitVec 64)) :=
  Sh.loop (fun (p : (BitVec 64) × Int) => G.bits_Join_b1 l_0 p.1 p.2) (0#64, 0)

def bits_Sub (a_0 : BitVec 64) (b_1 : BitVec 64) : Option (Bool) :=
  some (decide ((a_0 &&& ~~~b_1) = 0#64))

def bits_bit_j1 (i_0 : Int) (v7 : Bool) : Option ((BitVec 64)) :=
  if v7 then
    some 0#64
  else
    (Sh.shl 1#64 i_0).bind fun s10 =>
    some s10

def bits_bit (i_0 : Int) : Option ((BitVec 64)) :=
  if decide (i_0 < 0) then
    G.bits_bit_j1 i_0 true
  else
    G.bits_bit_j1 i_0 (decide ((64 : Int) ≤ i_0))

def bits_Has (s_0 : BitVec 64) (i_1 : Int) : Option (Bool) :=
  (G.bits_bit i_1).bind fun r3 =>
  some (decide ((s_0 &&& r3) ≠ 0#64))

def bits_With (s_0 : BitVec 64) (i_1 : Int) : Option ((BitVec 64)) :=
  (G.bits_bit i_1).bind fun r3 =>
  some (s_0 ||| r3)

def bits_List_j1 (out21 : List Int) : Option ((List Int)) :=
  some out21

def bits_List_b1 (s28 : BitVec 64) (out29 : List Int) : Option (((BitVec 64) × (List Int)) ⊕ ((List Int))) :=
  if decide (s28 ≠ 0#64) then
    (G.bits_TrailingZeros64 s28).bind fun r33 =>
    (Sh.app 8 out29 [r33]).bind fun out34 =>
    Sh.next (s28 &&& (s28 - 1#64), out34)
  else
    Sh.exit (G.bits_List_j1 out29)

def bits_List (s_0 : BitVec 64) : Option ((List Int)) :=
  Sh.loop (fun (p : (BitVec 64) × (List Int)) => G.bits_List_b1 p.1 p.2) (s_0, [])

def bits_Least (s_0 : BitVec 64) : Option (Int) :=
  if decide (s_0 = 0#64) then
    some (-1)
  else
    (G.bits_TrailingZeros64 s_0).bind fun r4 =>
    some r4

def bits_Without (s_0 : BitVec 64) (i_1 : Int) : Option ((BitVec 64)) :=
  (G.bits_bit i_1).bind fun r3 =>
  some (s_0 &&& ~~~r3)
end G
end

section
/- What the functions of a package compute, as plain functions. -/
open Go Go.Av
set_option linter.unusedVariables false
namespace G
def inquestref10_In (i_0 : Int) : Option (Bool) :=
  if decide ((0 : Int) ≤ i_0) then
    some (decide (i_0 ≤ 63))
  else
    some false

def inquestref10_Power_j1 (n9 : BitVec 64) : Option ((BitVec 64)) :=
  some n9

def inquestref10_Power_b1 (i_0 : Int) (n12 : BitVec 64) (k13 : Int) : Option (((BitVec 64) × Int) ⊕ ((BitVec 64))) :=
  if decide (k13 < i_0) then
    Sh.next (n12 + n12, w64 (k13 + 1))
  else
    Sh.exit (G.inquestref10_Power_j1 n12)

def inquestref10_Power (i_0 : Int) : Option ((BitVec 64)) :=
  Sh.loop (fun (p : (BitVec 64) × Int) => G.inquestref10_Power_b1 i_0 p.1 p.2) (1#64, 0)

def inquestref10_Has (s_0 : BitVec 64) (i_1 : Int) : Option (Bool) :=
  (G.inquestref10_In i_1).bind fun r7 =>
  if !r7 then
    some false
  else
    (G.inquestref10_Power i_1).bind fun r12 =>
    (Sh.udiv s_0 r12).bind fun q13 =>
    (Sh.umod q13 2#64).bind fun q14 =>
    some (decide (q14 = 1#64))

def inquestref10_With_j1 (s_0 : BitVec 64) (i_1 : Int) (v13 : Bool) : Option ((BitVec 64)) :=
  if v13 then
    some s_0
  else
    (G.inquestref10_Power i_1).bind fun r16 =>
    some (s_0 + r16)

def inquestref10_With (s_0 : BitVec 64) (i_1 : Int) : Option ((BitVec 64)) :=
  (G.inquestref10_Has s_0 i_1).bind fun r7 =>
  if r7 then
    G.inquestref10_With_j1 s_0 i_1 true
  else
    (G.inquestref10_In i_1).bind fun r18 =>
    G.inquestref10_With_j1 s_0 i_1 (!r18)
end G
end

section
/- What the functions of a package compute, as plain functions. -/
open Go Go.Av
set_option linter.unusedVariables false
namespace G
def graph_nodes (n_0 : Int) : Option ((BitVec 64)) :=
  (Sh.shl 1#64 n_0).bind fun s3 =>
  some (s3 - 1#64)

def graph_Right (g_0 : G.graph_Graph) : Option (Bool) :=
  if decide ((0 : Int) ≤ g_0.N) then
    if decide (g_0.N ≤ 64) then
      if decide ((Sh.len g_0.Rows) = g_0.N) then
        (G.bits_Join g_0.Rows).bind fun r17 =>
        (G.graph_nodes g_0.N).bind fun r18 =>
        (G.bits_Sub r17 r18).bind fun r19 =>
        some r19
      else
        some false
    else
      some false
  else
    some false

def graph_Has (g_0 : G.graph_Graph) (a_1 : Int) (b_2 : Int) : Option (Bool) :=
  (G.graph_Right g_0).bind fun r16 =>
  if r16 then
    if decide ((0 : Int) ≤ a_1) then
      if decide (a_1 < g_0.N) then
        (Sh.idx g_0.Rows a_1).bind fun x20 =>
        (G.bits_Has x20 b_2).bind fun r22 =>
        some r22
      else
        some false
    else
      some false
  else
    some false

def graph_New_j1 (n_0 : Int) (v7 : Bool) : Option (G.graph_Graph × Int) :=
  if v7 then
    some ((G.graph_Graph.mk 0 []), 1)
  else
    (Sh.mk 8 n_0 n_0 0#64).bind fun made10 =>
    some ((G.graph_Graph.mk n_0 made10), 0)

def graph_New (n_0 : Int) : Option (G.graph_Graph × Int) :=
  if decide (n_0 < 0) then
    G.graph_New_j1 n_0 true
  else
    G.graph_New_j1 n_0 (decide ((64 : Int) < n_0))

def graph_Edges_j1 (out110 : List G.graph_Edge) : Option ((List G.graph_Edge)) :=
  some out110

def graph_Edges_j2 (v146 : Int) (out164 : List G.graph_Edge) : Option (((List G.graph_Edge) × Int) ⊕ ((List G.graph_Edge))) :=
  Sh.next (out164, w64 (v146 + 1))

def graph_Edges_b2 (v146 : Int) (r170 : (List Int)) (out179 : List G.graph_Edge) (v180 : Int) : Option (((List G.graph_Edge) × Int) ⊕ (((List G.graph_Edge) × Int) ⊕ ((List G.graph_Edge)))) :=
  if decide (v180 < (Sh.len r170)) then
    (Sh.idx r170 v180).bind fun x187 =>
    (Sh.app 16 out179 ([(G.graph_Edge.mk v146 x187)] : List G.graph_Edge)).bind fun out189 =>
    Sh.next (out189, w64 (v180 + 1))
  else
    Sh.exit (G.graph_Edges_j2 v146 out179)

def graph_Edges_b1 (g_0 : G.graph_Graph) (out145 : List G.graph_Edge) (v146 : Int) : Option (((List G.graph_Edge) × Int) ⊕ ((List G.graph_Edge))) :=
  if decide (v146 < (Sh.len g_0.Rows)) then
    (Sh.idx g_0.Rows v146).bind fun x167 =>
    (G.bits_List x167).bind fun r170 =>
    Sh.loop (fun (p : (List G.graph_Edge) × Int) => G.graph_Edges_b2 v146 r170 p.1 p.2) (out145, 0)
  else
    Sh.exit (G.graph_Edges_j1 out145)

def graph_Edges (g_0 : G.graph_Graph) : Option ((List G.graph_Edge)) :=
  (G.graph_Right g_0).bind fun r56 =>
  if !r56 then
    some []
  else
    Sh.loop (fun (p : (List G.graph_Edge) × Int) => G.graph_Edges_b1 g_0 p.1 p.2) ([], 0)

def graph_Turn_j1 (r34 : G.graph_Graph × Int) (v61 : List (BitVec 64)) : Option (G.graph_Graph × Int) :=
  some ((G.graph_Graph.mk r34.1.N v61), r34.2)

def graph_Turn_b1 (r34 : G.graph_Graph × Int) (r63 : (List G.graph_Edge)) (outRows80 : List (BitVec 64)) (v81 : Int) : Option (((List (BitVec 64)) × Int) ⊕ (G.graph_Graph × Int)) :=
  if decide (v81 < (Sh.len r63)) then
    (Sh.idx r63 v81).bind fun x92 =>
    (Sh.idx outRows80 x92.B).bind fun x94 =>
    (G.bits_With x94 x92.A).bind fun r96 =>
    (Sh.idx outRows80 x92.B).bind fun x97 =>
    Sh.next (Sh.set outRows80 x92.B r96, w64 (v81 + 1))
  else
    Sh.exit (G.graph_Turn_j1 r34 outRows80)

def graph_Turn (g_0 : G.graph_Graph) : Option (G.graph_Graph × Int) :=
  (G.graph_Right g_0).bind fun r31 =>
  if !r31 then
    some ((G.graph_Graph.mk 0 []), 1)
  else
    (G.graph_New g_0.N).bind fun r34 =>
    (G.graph_Edges g_0).bind fun r63 =>
    Sh.loop (fun (p : (List (BitVec 64)) × Int) => G.graph_Turn_b1 r34 r63 p.1 p.2) (r34.1.Rows, 0)

end G
end

section
/- What the functions of a package compute, as plain functions. -/
open Go Go.Av
set_option linter.unusedVariables false
namespace G
def inquestref12_Node (g_0 : G.inquestref12_G) (a_1 : Int) : Option (Bool) :=
  if decide ((0 : Int) ≤ a_1) then
    some (decide (a_1 < g_0.N))
  else
    some false

end G
end

section
/- What the functions of a package compute, as plain functions. -/
open Go Go.Av
set_option linter.unusedVariables false
namespace G
def reach_From_b1 (g_0 : G.graph_Graph) (seen65 : BitVec 64) (left66 : BitVec 64) : Option (((BitVec 64) × (BitVec 64)) ⊕ ((BitVec 64))) :=
  (G.bits_Least left66).bind fun r68 =>
  if decide (r68 < 0) then
    Sh.exit (some seen65)
  else
    (G.bits_With seen65 r68).bind fun r71 =>
    (Sh.idx g_0.Rows r68).bind fun x75 =>
    (G.bits_Join [left66, x75]).bind fun r77 =>
    Sh.next (r71, r77 &&& ~~~r71)

def reach_From_j1 (g_0 : G.graph_Graph) (a_1 : Int) (v85 : Bool) : Option ((BitVec 64)) :=
  if v85 then
    some 0#64
  else
    (Sh.idx g_0.Rows a_1).bind fun x89 =>
    (G.bits_Least x89).bind fun r92 =>
    if decide (r92 < 0) then
      some 0#64
    else
      (G.bits_With 0#64 r92).bind fun r95 =>
      (Sh.idx g_0.Rows r92).bind fun x99 =>
      (G.bits_Join [x89, x99]).bind fun r101 =>
      Sh.loop (fun (p : (BitVec 64) × (BitVec 64)) => G.reach_From_b1 g_0 p.1 p.2) (r95, r101 &&& ~~~r95)

def reach_From (g_0 : G.graph_Graph) (a_1 : Int) : Option ((BitVec 64)) :=
  (G.graph_Right g_0).bind fun r102 =>
  if !r102 then
    G.reach_From_j1 g_0 a_1 true
  else
    if decide (a_1 < 0) then
      G.reach_From_j1 g_0 a_1 true
    else
      G.reach_From_j1 g_0 a_1 (decide (g_0.N ≤ a_1))

def reach_Cyclic_j1 : Option (Bool) :=
  some false

def reach_Cyclic_j2 (g_0 : G.graph_Graph) (a46 : Int) (v52 : Bool) : Option ((Int) ⊕ (Bool)) :=
  if v52 then
    (G.reach_From g_0 a46).bind fun r58 =>
    (G.bits_Has r58 a46).bind fun r59 =>
    if r59 then
      Sh.exit (some true)
    else
      Sh.next (w64 (a46 + 1))
  else
    Sh.exit (G.reach_Cyclic_j1)

def reach_Cyclic_b1 (g_0 : G.graph_Graph) (a46 : Int) : Option ((Int) ⊕ (Bool)) :=
  (G.graph_Right g_0).bind fun r61 =>
  if r61 then
    G.reach_Cyclic_j2 g_0 a46 (decide (a46 < g_0.N))
  else
    G.reach_Cyclic_j2 g_0 a46 false

def reach_Cyclic (g_0 : G.graph_Graph) : Option (Bool) :=
  Sh.loop (fun (p : Int) => G.reach_Cyclic_b1 g_0 p) 0
end G
end

section
/- What the functions of a package compute, as plain functions. -/
open Go Go.Av
set_option linter.unusedVariables false
namespace G
end G
end

section
/- What the functions of a package compute, as plain functions. -/
open Go Go.Av
set_option linter.unusedVariables false
namespace G
def cycle_Is_j2 : Option (Bool) :=
  some true

def cycle_Is_j3 (seen85 : BitVec 64) (v87 : Int) (x98 : Int) (v107 : Bool) : Option (((BitVec 64) × Int × Int) ⊕ (Bool)) :=
  if v107 then
    Sh.exit (some false)
  else
    (G.bits_With seen85 x98).bind fun r110 =>
    Sh.next (r110, x98, w64 (v87 + 1))

def cycle_Is_b1 (g_0 : G.graph_Graph) (l_1 : List Int) (seen85 : BitVec 64) (last86 : Int) (v87 : Int) : Option (((BitVec 64) × Int × Int) ⊕ (Bool)) :=
  if decide (v87 < (Sh.len l_1)) then
    (Sh.idx l_1 v87).bind fun x98 =>
    (G.graph_Has g_0 last86 x98).bind fun r111 =>
    if !r111 then
      G.cycle_Is_j3 seen85 v87 x98 true
    else
      (G.bits_Has seen85 x98).bind fun r113 =>
      G.cycle_Is_j3 seen85 v87 x98 r113
  else
    Sh.exit (G.cycle_Is_j2)

def cycle_Is_j1 (g_0 : G.graph_Graph) (l_1 : List Int) (v35 : Bool) : Option (Bool) :=
  if v35 then
    some false
  else
    (Sh.idx l_1 (w64 ((Sh.len l_1) - 1))).bind fun x39 =>
    Sh.loop (fun (p : (BitVec 64) × Int × Int) => G.cycle_Is_b1 g_0 l_1 p.1 p.2.1 p.2.2) (0#64, x39, 0)

def cycle_Is (g_0 : G.graph_Graph) (l_1 : List Int) : Option (Bool) :=
  if decide ((Sh.len l_1) = 0) then
    G.cycle_Is_j1 g_0 l_1 true
  else
    G.cycle_Is_j1 g_0 l_1 (decide (g_0.N < (Sh.len l_1)))

def cycle_far_j1 (v263 : List Int) : Option ((List Int)) :=
  (Sh.whole 64 v263).bind fun w268 =>
  (Sh.whole 64 v263).bind fun w270 =>
  (Sh.whole 64 v263).bind fun w272 =>
  some v263

def cycle_far_j2 (n359 : Int) (front401 : BitVec 64) (v402 : List Int) : Option (((List Int) × (BitVec 64) × Int) ⊕ ((List Int))) :=
  Sh.next (v402, front401, w64 (n359 + 1))

def cycle_far_j3 (n359 : Int) (next443 : BitVec 64) (v444 : List Int) : Option (((List Int) × (BitVec 64) × Int) ⊕ ((List Int))) :=
  G.cycle_far_j2 n359 next443 v444

def cycle_far_j4 (v474 : Int) (d485 : List Int) (next486 : BitVec 64) : Option (((List Int) × (BitVec 64) × Int) ⊕ (((List Int) × (BitVec 64) × Int) ⊕ ((List Int)))) :=
  Sh.next (d485, next486, w64 (v474 + 1))

def cycle_far_b2 (back_0 : G.graph_Graph) (n359 : Int) (r446 : (List Int)) (d472 : List Int) (next473 : BitVec 64) (v474 : Int) : Option (((List Int) × (BitVec 64) × Int) ⊕ (((List Int) × (BitVec 64) × Int) ⊕ ((List Int)))) :=
  if decide (v474 < (Sh.len r446)) then
    (Sh.idx r446 v474).bind fun x489 =>
    (Sh.aidx 64 d472 x489).bind fun x493 =>
    if decide (x493 = 0) then
      (Sh.aidx 64 d472 x489).bind fun x498 =>
      (Sh.idx back_0.Rows x489).bind fun x500 =>
      (G.bits_Join [next473, x500]).bind fun r502 =>
      G.cycle_far_j4 v474 (Sh.set d472 x489 n359) r502
    else
      G.cycle_far_j4 v474 d472 next473
  else
    Sh.exit (G.cycle_far_j3 n359 next473 d472)

def cycle_far_b1 (back_0 : G.graph_Graph) (d357 : List Int) (front358 : BitVec 64) (n359 : Int) : Option (((List Int) × (BitVec 64) × Int) ⊕ ((List Int))) :=
  if decide (front358 ≠ 0#64) then
    (G.bits_List front358).bind fun r446 =>
    Sh.loop (fun (p : (List Int) × (BitVec 64) × Int) => G.cycle_far_b2 back_0 n359 r446 p.1 p.2.1 p.2.2) (d357, 0#64, 0)
  else
    Sh.exit (G.cycle_far_j1 d357)

def cycle_far (back_0 : G.graph_Graph) (v_1 : Int) : Option ((List Int)) :=
  (Sh.idx back_0.Rows v_1).bind fun x135 =>
  Sh.loop (fun (p : (List Int) × (BitVec 64) × Int) => G.cycle_far_b1 back_0 p.1 p.2.1 p.2.2) ((List.replicate 64 0), x135, 1)

def cycle_Find_j1 : Option ((List Int)) :=
  some []

def cycle_Find_j2 (v666 : Int) : Option ((Int) ⊕ ((List Int))) :=
  Sh.next (w64 (v666 + 1))

def cycle_Find_j3 (out842 : List Int) : Option ((Int) ⊕ ((List Int))) :=
  Sh.exit (some out842)

def cycle_Find_j4 (left896 : Int) (out920 : List Int) : Option (((List Int) × Int) ⊕ ((Int) ⊕ ((List Int)))) :=
  Sh.next (out920, w64 (left896 - 1))

def cycle_Find_b3 (r755 : (List Int)) (out895 : List Int) (left896 : Int) (r930 : (List Int)) (v942 : Int) : Option ((Int) ⊕ (((List Int) × Int) ⊕ ((Int) ⊕ ((List Int))))) :=
  if decide (v942 < (Sh.len r930)) then
    (Sh.idx r930 v942).bind fun x951 =>
    (Sh.aidx 64 r755 x951).bind fun x955 =>
    if decide (x955 = left896) then
      (Sh.app 8 out895 [x951]).bind fun out959 =>
      Sh.exit (G.cycle_Find_j4 left896 out959)
    else
      Sh.next (w64 (v942 + 1))
  else
    Sh.exit (G.cycle_Find_j4 left896 out895)

def cycle_Find_b2 (g_0 : G.graph_Graph) (r755 : (List Int)) (out895 : List Int) (left896 : Int) : Option (((List Int) × Int) ⊕ ((Int) ⊕ ((List Int)))) :=
  if decide ((0 : Int) < left896) then
    (Sh.idx out895 (w64 ((Sh.len out895) - 1))).bind fun x926 =>
    (Sh.idx g_0.Rows x926).bind fun x928 =>
    (G.bits_List x928).bind fun r930 =>
    Sh.loop (fun (p : Int) => G.cycle_Find_b3 r755 out895 left896 r930 p) 0
  else
    Sh.exit (G.cycle_Find_j3 out895)

def cycle_Find_b1 (g_0 : G.graph_Graph) (r251 : G.graph_Graph × Int) (v666 : Int) : Option ((Int) ⊕ ((List Int))) :=
  if decide (v666 < g_0.N) then
    (G.cycle_far r251.1 v666).bind fun r755 =>
    (Sh.whole 64 (List.replicate 64 0)).bind fun w756 =>
    (Sh.whole 64 r755).bind fun w758 =>
    (Sh.aidx 64 r755 v666).bind fun x764 =>
    if decide (x764 = 0) then
      G.cycle_Find_j2 v666
    else
      (Sh.aidx 64 r755 v666).bind fun x845 =>
      Sh.loop (fun (p : (List Int) × Int) => G.cycle_Find_b2 g_0 r755 p.1 p.2) ([v666], w64 (x845 - 1))
  else
    Sh.exit (G.cycle_Find_j1)

def cycle_Find (g_0 : G.graph_Graph) : Option ((List Int)) :=
  (G.graph_Turn g_0).bind fun r251 =>
  if decide (r251.2 ≠ 0) then
    some []
  else
    Sh.loop (fun (p : Int) => G.cycle_Find_b1 g_0 r251 p) 0
end G
end

section
/- What the functions of a package compute, as plain functions. -/
open Go Go.Av
set_option linter.unusedVariables false
namespace G
def inquestref07_Ints_j1 : Option (Bool) :=
  some true

def inquestref07_Ints_b1 (a_0 : List Int) (b_1 : List Int) (i39 : Int) : Option ((Int) ⊕ (Bool)) :=
  if decide (i39 < (Sh.len a_0)) then
    (Sh.idx a_0 i39).bind fun x49 =>
    (Sh.idx b_1 i39).bind fun x51 =>
    if decide (x49 ≠ x51) then
      Sh.exit (some false)
    else
      Sh.next (w64 (i39 + 1))
  else
    Sh.exit (G.inquestref07_Ints_j1)

def inquestref07_Ints (a_0 : List Int) (b_1 : List Int) : Option (Bool) :=
  if decide ((Sh.len a_0) ≠ (Sh.len b_1)) then
    some false
  else
    Sh.loop (fun (p : Int) => G.inquestref07_Ints_b1 a_0 b_1 p) 0
end G
end

section
/- What the functions of a package compute, as plain functions. -/
open Go Go.Av
set_option linter.unusedVariables false
namespace G
end G
end

section
/- What the functions of a package compute, as plain functions. -/
open Go Go.Av
set_option linter.unusedVariables false
namespace G
def stack_New_scc_place (most_0 : Int) : Option (Unit) :=
  some ()

def stack_New_int (most_0 : Int) : Option (Unit) :=
  some ()

def stack_Ints (most_0 : Int) : Option (Unit) :=
  (G.stack_New_int most_0).bind fun r3 =>
  some ()
end G
end

section
/- What the functions of a package compute, as plain functions. -/
open Go Go.Av
set_option linter.unusedVariables false
namespace G
def cmp_isNaN_int (x_0 : Int) : Option (Bool) :=
  some (decide (x_0 ≠ x_0))

def cmp_Compare_int (x_0 : Int) (y_1 : Int) : Option (Int) :=
  (G.cmp_isNaN_int x_0).bind fun r4 =>
  (G.cmp_isNaN_int y_1).bind fun r6 =>
  if r4 then
    if r6 then
      some 0
    else
      some (-1)
  else
    if r6 then
      some 1
    else
      if decide (x_0 < y_1) then
        some (-1)
      else
        if decide (y_1 < x_0) then
          some 1
        else
          some 0
end G
end

section
/- What the functions of a package compute, as plain functions. -/
open Go Go.Av
set_option linter.unusedVariables false
namespace G
def stack_Stack_scc_place_Push__1 (x_0 : G.scc_place) (cmost_1 : Int) (l_2 : List G.scc_place) : Option ((List G.scc_place) × Bool) :=
  if decide (cmost_1 ≤ (Sh.len l_2)) then
    some (l_2, false)
  else
    (Sh.app 16 l_2 ([x_0] : List G.scc_place)).bind fun l6 =>
    some (l6, true)

def stack_Stack_int_Push__1 (x_0 : Int) (cmost_1 : Int) (l_2 : List Int) : Option ((List Int) × Bool) :=
  if decide (cmost_1 ≤ (Sh.len l_2)) then
    some (l_2, false)
  else
    (Sh.app 8 l_2 [x_0]).bind fun l6 =>
    some (l6, true)

def scc_walk_enter__1 (n_0 : Int) (cgN_1 : Int) (cgRows_2 : List (BitVec 64)) (cmet_3 : Int) (l_4 : List Int) (l_5 : List Int) (l_6 : List Bool) (cmost_7 : Int) (cmost_8 : Int) (l_9 : List (List Int)) (l_10 : List G.scc_place) (l_11 : List Int) : Option ((List G.scc_place) × (List Int)) :=
  (Sh.idx l_4 n_0).bind fun x15 =>
  (Sh.idx l_5 n_0).bind fun x17 =>
  (Sh.idx cgRows_2 n_0).bind fun x22 =>
  (G.stack_Stack_scc_place_Push__1 (G.scc_place.mk n_0 x22) cmost_7 l_10).bind fun r24 =>
  (G.stack_Stack_int_Push__1 n_0 cmost_8 l_11).bind fun r25 =>
  some (r24.1, r25.1)

def stack_Stack_scc_place_Len__1 (cmost_0 : Int) (l_1 : List G.scc_place) : Option (Unit) :=
  some ()

def stack_Stack_scc_place_Top__1 (cmost_0 : Int) (l_1 : List G.scc_place) : Option (G.scc_place × Bool) :=
  if decide ((Sh.len l_1) = 0) then
    some ((G.scc_place.mk 0 0#64), false)
  else
    (Sh.idx l_1 (w64 ((Sh.len l_1) - 1))).bind fun x8 =>
    some (x8, true)

def stack_Stack_scc_place_Pop__1_j1 (r8 : G.scc_place × Bool) (cl10 : List G.scc_place) : Option (G.scc_place × Bool × (List G.scc_place)) :=
  some (r8.1, r8.2, cl10)

def stack_Stack_scc_place_Pop__1 (cmost_0 : Int) (l_1 : List G.scc_place) : Option (G.scc_place × Bool × (List G.scc_place)) :=
  (G.stack_Stack_scc_place_Top__1 cmost_0 l_1).bind fun r8 =>
  if r8.2 then
    (Sh.sub l_1 0 (w64 ((Sh.len l_1) - 1))).bind fun part12 =>
    G.stack_Stack_scc_place_Pop__1_j1 r8 part12
  else
    G.stack_Stack_scc_place_Pop__1_j1 r8 l_1

def stack_Stack_int_Top__1 (cmost_0 : Int) (l_1 : List Int) : Option (Int × Bool) :=
  if decide ((Sh.len l_1) = 0) then
    some (0, false)
  else
    (Sh.idx l_1 (w64 ((Sh.len l_1) - 1))).bind fun x8 =>
    some (x8, true)

def stack_Stack_int_Pop__1_j1 (r8 : Int × Bool) (cl10 : List Int) : Option (Int × Bool × (List Int)) :=
  some (r8.1, r8.2, cl10)

def stack_Stack_int_Pop__1 (cmost_0 : Int) (l_1 : List Int) : Option (Int × Bool × (List Int)) :=
  (G.stack_Stack_int_Top__1 cmost_0 l_1).bind fun r8 =>
  if r8.2 then
    (Sh.sub l_1 0 (w64 ((Sh.len l_1) - 1))).bind fun part12 =>
    G.stack_Stack_int_Pop__1_j1 r8 part12
  else
    G.stack_Stack_int_Pop__1_j1 r8 l_1

def scc_walk_leave__1_j1 (n_0 : Int) (l_5 : List Int) (cmost_7 : Int) (l_10 : List G.scc_place) (cdone65 : List Bool) (copenl66 : List Int) (ccomponents67 : List (List Int)) : Option ((List Int) × (List Bool) × (List Int) × (List (List Int))) :=
  (G.stack_Stack_scc_place_Top__1 cmost_7 l_10).bind fun r69 =>
  if r69.2 then
    (Sh.idx l_5 r69.1.node).bind fun x71 =>
    (Sh.idx l_5 n_0).bind fun x73 =>
    (Sh.idx l_5 r69.1.node).bind fun x75 =>
    some (Sh.set l_5 r69.1.node (Sh.min x71 x73), cdone65, copenl66, ccomponents67)
  else
    some (l_5, cdone65, copenl66, ccomponents67)

def scc_walk_leave__1_j2 (n_0 : Int) (l_5 : List Int) (cmost_7 : Int) (l_9 : List (List Int)) (l_10 : List G.scc_place) (c104 : List Int) (v105 : List Bool) (v106 : List Int) : Option ((List Int) × (List Bool) × (List Int) × (List (List Int))) :=
  (Sh.sort c104).bind fun sort109 =>
  (Sh.app 24 l_9 ([sort109] : List (List Int))).bind fun l111 =>
  G.scc_walk_leave__1_j1 n_0 l_5 cmost_7 l_10 v105 v106 l111

def scc_walk_leave__1_b1 (n_0 : Int) (l_5 : List Int) (cmost_7 : Int) (cmost_8 : Int) (l_9 : List (List Int)) (l_10 : List G.scc_place) (cdone123 : List Bool) (copenl124 : List Int) (c125 : List Int) : Option (((List Bool) × (List Int) × (List Int)) ⊕ ((List Int) × (List Bool) × (List Int) × (List (List Int)))) :=
  (G.stack_Stack_int_Pop__1 cmost_8 copenl124).bind fun r127 =>
  (Sh.idx cdone123 r127.1).bind fun x130 =>
  (Sh.app 8 c125 [r127.1]).bind fun c133 =>
  if decide (r127.1 = n_0) then
    Sh.exit (G.scc_walk_leave__1_j2 n_0 l_5 cmost_7 l_9 l_10 c133 (Sh.set cdone123 r127.1 true) r127.2.2)
  else
    Sh.next (Sh.set cdone123 r127.1 true, r127.2.2, c133)

def scc_walk_leave__1 (n_0 : Int) (cgN_1 : Int) (cgRows_2 : List (BitVec 64)) (cmet_3 : Int) (l_4 : List Int) (l_5 : List Int) (l_6 : List Bool) (cmost_7 : Int) (cmost_8 : Int) (l_9 : List (List Int)) (l_10 : List G.scc_place) (l_11 : List Int) : Option ((List Int) × (List Bool) × (List Int) × (List (List Int))) :=
  (Sh.idx l_5 n_0).bind fun x81 =>
  (Sh.idx l_4 n_0).bind fun x83 =>
  if decide (x81 = x83) then
    Sh.loop (fun (p : (List Bool) × (List Int) × (List Int)) => G.scc_walk_leave__1_b1 n_0 l_5 cmost_7 cmost_8 l_9 l_10 p.1 p.2.1 p.2.2) (l_6, l_11, [])
  else
    G.scc_walk_leave__1_j1 n_0 l_5 cmost_7 l_10 l_6 l_11 l_9

def scc_walk_from__1_j1 (cgN_1 : Int) (cgRows_2 : List (BitVec 64)) (cmost_7 : Int) (cmost_8 : Int) (cwhen439 : List Int) (cdone441 : List Bool) (cmet442 : Int) (copenl444 : List Int) (ccomponents445 : List (List Int)) (r451 : G.scc_place × Bool × (List G.scc_place)) (v498 : List Int) (v499 : G.scc_place) : Option (((List Int) × (List Int) × (List Bool) × Int × (List G.scc_place) × (List Int) × (List (List Int))) ⊕ ((List Int) × (List Int) × (List Bool) × Int × (List (List Int)) × (List G.scc_place) × (List Int))) :=
  (G.scc_walk_leave__1 v499.node cgN_1 cgRows_2 cmet442 cwhen439 v498 cdone441 cmost_7 cmost_8 ccomponents445 r451.2.2 copenl444).bind fun r500 =>
  Sh.next (cwhen439, r500.1, r500.2.1, cmet442, r451.2.2, r500.2.2.1, r500.2.2.2)

def scc_walk_from__1_b2 (cgN_1 : Int) (cgRows_2 : List (BitVec 64)) (cmost_7 : Int) (cmost_8 : Int) (cwhen439 : List Int) (cdone441 : List Bool) (cmet442 : Int) (copenl444 : List Int) (ccomponents445 : List (List Int)) (r451 : G.scc_place × Bool × (List G.scc_place)) (clow531 : List Int) (p532 : G.scc_place) : Option (((List Int) × G.scc_place) ⊕ (((List Int) × (List Int) × (List Bool) × Int × (List G.scc_place) × (List Int) × (List (List Int))) ⊕ ((List Int) × (List Int) × (List Bool) × Int × (List (List Int)) × (List G.scc_place) × (List Int)))) :=
  if decide (p532.left ≠ 0#64) then
    (G.bits_Least p532.left).bind fun r535 =>
    (G.bits_Without p532.left r535).bind fun r537 =>
    (Sh.idx cwhen439 r535).bind fun x544 =>
    if decide (x544 = 0) then
      (G.stack_Stack_scc_place_Push__1 (G.scc_place.mk p532.node r537) cmost_7 r451.2.2).bind fun r548 =>
      (G.scc_walk_enter__1 r535 cgN_1 cgRows_2 cmet442 cwhen439 clow531 cdone441 cmost_7 cmost_8 ccomponents445 r548.1 copenl444).bind fun r550 =>
      Sh.exit (Sh.next (Sh.set cwhen439 r535 (w64 (cmet442 + 1)), Sh.set clow531 r535 (w64 (cmet442 + 1)), cdone441, w64 (cmet442 + 1), r550.1, r550.2, ccomponents445))
    else
      (Sh.idx cdone441 r535).bind fun x553 =>
      if !x553 then
        (Sh.idx clow531 p532.node).bind fun x556 =>
        (Sh.idx cwhen439 r535).bind fun x558 =>
        (Sh.idx clow531 p532.node).bind fun x560 =>
        Sh.next (Sh.set clow531 p532.node (Sh.min x556 x558), (G.scc_place.mk p532.node r537))
      else
        Sh.next (clow531, (G.scc_place.mk p532.node r537))
  else
    Sh.exit (G.scc_walk_from__1_j1 cgN_1 cgRows_2 cmost_7 cmost_8 cwhen439 cdone441 cmet442 copenl444 ccomponents445 r451 clow531 p532)

def scc_walk_from__1_b1 (cgN_1 : Int) (cgRows_2 : List (BitVec 64)) (cmost_7 : Int) (cmost_8 : Int) (cwhen439 : List Int) (clow440 : List Int) (cdone441 : List Bool) (cmet442 : Int) (ccallsl443 : List G.scc_place) (copenl444 : List Int) (ccomponents445 : List (List Int)) : Option (((List Int) × (List Int) × (List Bool) × Int × (List G.scc_place) × (List Int) × (List (List Int))) ⊕ ((List Int) × (List Int) × (List Bool) × Int × (List (List Int)) × (List G.scc_place) × (List Int))) :=
  (G.stack_Stack_scc_place_Len__1 cmost_7 ccallsl443).bind fun r448 =>
  if decide ((0 : Int) < (Sh.len ccallsl443)) then
    (G.stack_Stack_scc_place_Pop__1 cmost_7 ccallsl443).bind fun r451 =>
    Sh.loop (fun (p : (List Int) × G.scc_place) => G.scc_walk_from__1_b2 cgN_1 cgRows_2 cmost_7 cmost_8 cwhen439 cdone441 cmet442 copenl444 ccomponents445 r451 p.1 p.2) (clow440, r451.1)
  else
    Sh.exit (some (cwhen439, clow440, cdone441, cmet442, ccomponents445, ccallsl443, copenl444))

def scc_walk_from__1 (n_0 : Int) (cgN_1 : Int) (cgRows_2 : List (BitVec 64)) (cmet_3 : Int) (l_4 : List Int) (l_5 : List Int) (l_6 : List Bool) (cmost_7 : Int) (cmost_8 : Int) (l_9 : List (List Int)) (l_10 : List G.scc_place) (l_11 : List Int) : Option ((List Int) × (List Int) × (List Bool) × Int × (List (List Int)) × (List G.scc_place) × (List Int)) :=
  (G.scc_walk_enter__1 n_0 cgN_1 cgRows_2 cmet_3 l_4 l_5 l_6 cmost_7 cmost_8 l_9 l_10 l_11).bind fun r333 =>
  Sh.loop (fun (p : (List Int) × (List Int) × (List Bool) × Int × (List G.scc_place) × (List Int) × (List (List Int))) => G.scc_walk_from__1_b1 cgN_1 cgRows_2 cmost_7 cmost_8 p.1 p.2.1 p.2.2.1 p.2.2.2.1 p.2.2.2.2.1 p.2.2.2.2.2.1 p.2.2.2.2.2.2) (Sh.set l_4 n_0 (w64 (cmet_3 + 1)), Sh.set l_5 n_0 (w64 (cmet_3 + 1)), l_6, w64 (cmet_3 + 1), r333.1, r333.2, l_9)

def scc_Comps_j1 (v116 : List Int) (v117 : List Int) (v118 : List Bool) (v119 : Int) (v120 : List (List Int)) (v121 : G.stack_Stack_scc_place) (v122 : G.stack_Stack_int) : Option ((List (List Int))) :=
  (Sh.sortFirst v120).bind fun sorted125 =>
  some sorted125

def scc_Comps_j2 (v162 : Int) (wwhen167 : List Int) (wlow168 : List Int) (wdone169 : List Bool) (wmet170 : Int) (wcallsl171 : List G.scc_place) (wopenl172 : List Int) (wcomponents173 : List (List Int)) : Option (((List Int) × (List Int) × (List Bool) × Int × (List G.scc_place) × (List Int) × (List (List Int)) × Int) ⊕ ((List (List Int)))) :=
  Sh.next (wwhen167, wlow168, wdone169, wmet170, wcallsl171, wopenl172, wcomponents173, w64 (v162 + 1))

def scc_Comps_b1 (g_0 : G.graph_Graph) (wwhen155 : List Int) (wlow156 : List Int) (wdone157 : List Bool) (wmet158 : Int) (wcallsl159 : List G.scc_place) (wopenl160 : List Int) (wcomponents161 : List (List Int)) (v162 : Int) : Option (((List Int) × (List Int) × (List Bool) × Int × (List G.scc_place) × (List Int) × (List (List Int)) × Int) ⊕ ((List (List Int)))) :=
  if decide (v162 < g_0.N) then
    (Sh.idx wwhen155 v162).bind fun x176 =>
    if decide (x176 = 0) then
      (G.scc_walk_from__1 v162 g_0.N g_0.Rows wmet158 wwhen155 wlow156 wdone157 (w64 (g_0.N + 1)) (w64 (g_0.N + 1)) wcomponents161 wcallsl159 wopenl160).bind fun r179 =>
      G.scc_Comps_j2 v162 r179.1 r179.2.1 r179.2.2.1 r179.2.2.2.1 r179.2.2.2.2.2.1 r179.2.2.2.2.2.2 r179.2.2.2.2.1
    else
      G.scc_Comps_j2 v162 wwhen155 wlow156 wdone157 wmet158 wcallsl159 wopenl160 wcomponents161
  else
    Sh.exit (G.scc_Comps_j1 wwhen155 wlow156 wdone157 wmet158 wcomponents161 (G.stack_Stack_scc_place.mk (w64 (g_0.N + 1)) wcallsl159) (G.stack_Stack_int.mk (w64 (g_0.N + 1)) wopenl160))

def scc_Comps (g_0 : G.graph_Graph) : Option ((List (List Int))) :=
  (G.graph_Right g_0).bind fun r57 =>
  if !r57 then
    some []
  else
    (Sh.mk 8 g_0.N g_0.N 0).bind fun made64 =>
    (Sh.mk 8 g_0.N g_0.N 0).bind fun made65 =>
    (Sh.mk 1 g_0.N g_0.N false).bind fun made66 =>
    (G.stack_New_scc_place (w64 (g_0.N + 1))).bind fun r67 =>
    (G.stack_Ints (w64 (g_0.N + 1))).bind fun r68 =>
    Sh.loop (fun (p : (List Int) × (List Int) × (List Bool) × Int × (List G.scc_place) × (List Int) × (List (List Int)) × Int) => G.scc_Comps_b1 g_0 p.1 p.2.1 p.2.2.1 p.2.2.2.1 p.2.2.2.2.1 p.2.2.2.2.2.1 p.2.2.2.2.2.2.1 p.2.2.2.2.2.2.2) (made64, made65, made66, 0, [], [], [], 0)

def scc_Inner_j1 (out79 : List Int) : Option ((List Int)) :=
  (Sh.sort out79).bind fun sort82 =>
  some sort82

def scc_Inner_j2 (v111 : Int) (out123 : List Int) : Option (((List Int) × Int) ⊕ ((List Int))) :=
  Sh.next (out123, w64 (v111 + 1))

def scc_Inner_j3 (out110 : List Int) (v111 : Int) (x126 : List Int) (v134 : Bool) : Option (((List Int) × Int) ⊕ ((List Int))) :=
  if v134 then
    (Sh.app 8 out110 x126).bind fun out136 =>
    G.scc_Inner_j2 v111 out136
  else
    G.scc_Inner_j2 v111 out110

def scc_Inner_b1 (g_0 : G.graph_Graph) (r85 : (List (List Int))) (out110 : List Int) (v111 : Int) : Option (((List Int) × Int) ⊕ ((List Int))) :=
  if decide (v111 < (Sh.len r85)) then
    (Sh.idx r85 v111).bind fun x126 =>
    if decide ((1 : Int) < (Sh.len x126)) then
      G.scc_Inner_j3 out110 v111 x126 true
    else
      (Sh.idx x126 0).bind fun x138 =>
      (Sh.idx x126 0).bind fun x140 =>
      (G.graph_Has g_0 x138 x140).bind fun r142 =>
      G.scc_Inner_j3 out110 v111 x126 r142
  else
    Sh.exit (G.scc_Inner_j1 out110)

def scc_Inner (g_0 : G.graph_Graph) : Option ((List Int)) :=
  (G.scc_Comps g_0).bind fun r85 =>
  Sh.loop (fun (p : (List Int) × Int) => G.scc_Inner_b1 g_0 r85 p.1 p.2) ([], 0)
end G
end

section
/- What the functions of a package compute, as plain functions. -/
open Go Go.Av
set_option linter.unusedVariables false
namespace G
end G
end

section
/- What the functions of a package compute, as plain functions. -/
open Go Go.Av
set_option linter.unusedVariables false
namespace G
end G
end

section
/- What the functions of a package compute, as plain functions. -/
open Go Go.Av
set_option linter.unusedVariables false
namespace G
def inquestlaw15_awake : Option (Bool) :=
  (G.cycle_Find (G.graph_Graph.mk 3 [2#64, 4#64, 3#64])).bind fun r14 =>
  (G.inquestref07_Ints r14 [0, 1, 2]).bind fun r15 =>
  if r15 then
    (G.cycle_Is (G.graph_Graph.mk 3 [2#64, 4#64, 3#64]) [2, 1]).bind fun r17 =>
    if r17 then
      (G.cycle_Is (G.graph_Graph.mk 3 [2#64, 4#64, 3#64]) [0, 1]).bind fun r19 =>
      some (!r19)
    else
      some false
  else
    some false

def inquestlaw15_CycleFinds (g_0 : G.graph_Graph) : Option (Bool) :=
  (G.inquestlaw15_awake).bind fun r15 =>
  if !r15 then
    some false
  else
    if decide ((70 : Int) < (Sh.len g_0.Rows)) then
      some true
    else
      (G.cycle_Find g_0).bind fun r19 =>
      (G.reach_Cyclic g_0).bind fun r22 =>
      if !r22 then
        some (decide ((Sh.len r19) = 0))
      else
        (G.scc_Inner g_0).bind fun r25 =>
        if decide ((0 : Int) < (Sh.len r19)) then
          if decide ((0 : Int) < (Sh.len r25)) then
            (G.cycle_Is g_0 r19).bind fun r36 =>
            if r36 then
              (Sh.idx r19 0).bind fun x38 =>
              (Sh.idx r25 0).bind fun x40 =>
              some (decide (x38 = x40))
            else
              some false
          else
            some false
        else
          some false
end G
end
