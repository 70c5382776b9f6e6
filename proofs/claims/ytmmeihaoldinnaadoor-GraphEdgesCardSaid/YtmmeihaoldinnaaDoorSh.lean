/- What the functions compute, as plain functions. -/
import Derived.Test.YtmmeihaoldinnaaDoorBase1
section
/- The plain types. -/
open Go Go.Av
namespace G
structure graph_Edge where
  A : Int
  B : Int
  deriving DecidableEq, Inhabited
def graph_Edge.av (x : graph_Edge) : AV := .agg [i64 x.A, i64 x.B]
@[simp] theorem graph_Edge.noid (x : graph_Edge) : NoId (graph_Edge.av x) := by simp [graph_Edge.av]
@[simp] theorem graph_Edge.solid (x : graph_Edge) : AV.solid (graph_Edge.av x) = true := rfl
@[simp] theorem graph_Edge.dry (x : graph_Edge) : Dry (graph_Edge.av x) := by simp [graph_Edge.av]
@[simp] theorem graph_Edge.flat (x : graph_Edge) : (graph_Edge.av x).flat.length = 2 := rfl
structure graph_Graph where
  N : Int
  Rows : List (BitVec 64)
  deriving DecidableEq, Inhabited
def graph_Graph.av (x : graph_Graph) : AV := .agg [i64 x.N, .sl (List.map u64 x.Rows)]
@[simp] theorem graph_Graph.noid (x : graph_Graph) : NoId (graph_Graph.av x) := by simp [graph_Graph.av]
@[simp] theorem graph_Graph.solid (x : graph_Graph) : AV.solid (graph_Graph.av x) = true := rfl
@[simp] theorem graph_Graph.flat (x : graph_Graph) : (graph_Graph.av x).flat.length = 2 := rfl
structure inquestref12_G where
  N : Int
  Rows : List (BitVec 64)
  deriving DecidableEq, Inhabited
def inquestref12_G.av (x : inquestref12_G) : AV := .agg [i64 x.N, .sl (List.map u64 x.Rows)]
@[simp] theorem inquestref12_G.noid (x : inquestref12_G) : NoId (inquestref12_G.av x) := by simp [inquestref12_G.av]
@[simp] theorem inquestref12_G.solid (x : inquestref12_G) : AV.solid (inquestref12_G.av x) = true := rfl
@[simp] theorem inquestref12_G.flat (x : inquestref12_G) : (inquestref12_G.av x).flat.length = 2 := rfl
end G
end

section
/- What the functions of a package compute, as plain functions. -/
open Go Go.Av
set_option linter.unusedVariables false
namespace G
def bits_TrailingZeros64 (x_0 : BitVec 64) : Option (Int) :=
  if decide (x_0 = 0#64) then
    some 64
  else
    (Sh.shr ((x_0 &&& (-x_0)) * 285870213051353865#64) ((58#64).toNat : Int)).bind fun s8 =>
    (Sh.idx Sh.tab8 ((s8).toNat : Int)).bind fun x9 =>
    some (w64 x9)
end G
end

section
/- What the functions of a package compute, as plain functions. -/
open Go Go.Av
set_option linter.unusedVariables false
namespace G
def bits_Sub (a_0 : BitVec 64) (b_1 : BitVec 64) : Option (Bool) :=
  some (decide ((a_0 &&& ~~~b_1) = 0#64))

def bits_Join_j1 (out21 : BitVec 64) : Option ((BitVec 64)) :=
  some out21

def bits_Join_b1 (l_0 : List (BitVec 64)) (out28 : BitVec 64) (v29 : Int) : Option (((BitVec 64) × Int) ⊕ ((BitVec 64))) :=
  if decide (v29 < (Sh.len l_0)) then
    (Sh.idx l_0 v29).bind fun x35 =>
    Sh.next (out28 ||| x35, w64 (v29 + 1))
  else
    Sh.exit (G.bits_Join_j1 out28)

def bits_Join (l_0 : List (BitVec 64)) : Option ((BitVec 64)) :=
  Sh.loop (fun (p : (BitVec 64) × Int) => G.bits_Join_b1 l_0 p.1 p.2) (0#64, 0)

def bits_List_j1 (out21 : List Int) : Option ((List Int)) :=
  some out21

def bits_List_b1 (s28 : BitVec 64) (out29 : List Int) : Option (((BitVec 64) × (List Int)) ⊕ ((List Int))) :=
  if decide (s28 ≠ 0#64) then
    (G.bits_TrailingZeros64 s28).bind fun r33 =>
    (Sh.app 8 out29 [r33]).bind fun out34 =>
    Sh.next (s28 &&& (s28 - 1#64), out34)
  else
    Sh.exit (G.bits_List_j1 out29)

def bits_List (s_0 : BitVec 64) : Option ((List Int)) :=
  Sh.loop (fun (p : (BitVec 64) × (List Int)) => G.bits_List_b1 p.1 p.2) (s_0, [])

def bits_bit_j1 (i_0 : Int) (v7 : Bool) : Option ((BitVec 64)) :=
  if v7 then
    some 0#64
  else
    (Sh.shl 1#64 i_0).bind fun s10 =>
    some s10

def bits_bit (i_0 : Int) : Option ((BitVec 64)) :=
  if decide (i_0 < 0) then
    G.bits_bit_j1 i_0 true
  else
    G.bits_bit_j1 i_0 (decide ((64 : Int) ≤ i_0))

def bits_With (s_0 : BitVec 64) (i_1 : Int) : Option ((BitVec 64)) :=
  (G.bits_bit i_1).bind fun r3 =>
  some (s_0 ||| r3)

def bits_Has (s_0 : BitVec 64) (i_1 : Int) : Option (Bool) :=
  (G.bits_bit i_1).bind fun r3 =>
  some (decide ((s_0 &&& r3) ≠ 0#64))

def bits_Least (s_0 : BitVec 64) : Option (Int) :=
  if decide (s_0 = 0#64) then
    some (-1)
  else
    (G.bits_TrailingZeros64 s_0).bind fun r4 =>
    some r4
end G
end

section
/- What the functions of a package compute, as plain functions. -/
open Go Go.Av
set_option linter.unusedVariables false
namespace G
def inquestref10_In (i_0 : Int) : Option (Bool) :=
  if decide ((0 : Int) ≤ i_0) then
    some (decide (i_0 ≤ 63))
  else
    some false

def inquestref10_Power_j1 (n9 : BitVec 64) : Option ((BitVec 64)) :=
  some n9

def inquestref10_Power_b1 (i_0 : Int) (n12 : BitVec 64) (k13 : Int) : Option (((BitVec 64) × Int) ⊕ ((BitVec 64))) :=
  if decide (k13 < i_0) then
    Sh.next (n12 + n12, w64 (k13 + 1))
  else
    Sh.exit (G.inquestref10_Power_j1 n12)

def inquestref10_Power (i_0 : Int) : Option ((BitVec 64)) :=
  Sh.loop (fun (p : (BitVec 64) × Int) => G.inquestref10_Power_b1 i_0 p.1 p.2) (1#64, 0)

def inquestref10_Has (s_0 : BitVec 64) (i_1 : Int) : Option (Bool) :=
  (G.inquestref10_In i_1).bind fun r7 =>
  if !r7 then
    some false
  else
    (G.inquestref10_Power i_1).bind fun r12 =>
    (Sh.udiv s_0 r12).bind fun q13 =>
    (Sh.umod q13 2#64).bind fun q14 =>
    some (decide (q14 = 1#64))

def inquestref10_With_j1 (s_0 : BitVec 64) (i_1 : Int) (v13 : Bool) : Option ((BitVec 64)) :=
  if v13 then
    some s_0
  else
    (G.inquestref10_Power i_1).bind fun r16 =>
    some (s_0 + r16)

def inquestref10_With (s_0 : BitVec 64) (i_1 : Int) : Option ((BitVec 64)) :=
  (G.inquestref10_Has s_0 i_1).bind fun r7 =>
  if r7 then
    G.inquestref10_With_j1 s_0 i_1 true
  else
    (G.inquestref10_In i_1).bind fun r18 =>
    G.inquestref10_With_j1 s_0 i_1 (!r18)

def inquestref10_List_j1 (out27 : List Int) : Option ((List Int)) :=
  some out27

def inquestref10_List_j2 (i37 : Int) (out41 : List Int) : Option (((List Int) × Int) ⊕ ((List Int))) :=
  Sh.next (out41, w64 (i37 + 1))

def inquestref10_List_b1 (s_0 : BitVec 64) (out36 : List Int) (i37 : Int) : Option (((List Int) × Int) ⊕ ((List Int))) :=
  if decide (i37 < 64) then
    (G.inquestref10_Has s_0 i37).bind fun r43 =>
    if r43 then
      (Sh.app 8 out36 [i37]).bind fun out45 =>
      G.inquestref10_List_j2 i37 out45
    else
      G.inquestref10_List_j2 i37 out36
  else
    Sh.exit (G.inquestref10_List_j1 out36)

def inquestref10_List (s_0 : BitVec 64) : Option ((List Int)) :=
  Sh.loop (fun (p : (List Int) × Int) => G.inquestref10_List_b1 s_0 p.1 p.2) ([], 0)

def inquestref10_Sub_j1 : Option (Bool) :=
  some true

def inquestref10_Sub_b1 (b_1 : BitVec 64) (r14 : (List Int)) (i33 : Int) : Option ((Int) ⊕ (Bool)) :=
  if decide (i33 < (Sh.len r14)) then
    (Sh.idx r14 i33).bind fun x41 =>
    (G.inquestref10_Has b_1 x41).bind fun r43 =>
    if !r43 then
      Sh.exit (some false)
    else
      Sh.next (w64 (i33 + 1))
  else
    Sh.exit (G.inquestref10_Sub_j1)

def inquestref10_Sub (a_0 : BitVec 64) (b_1 : BitVec 64) : Option (Bool) :=
  (G.inquestref10_List a_0).bind fun r14 =>
  Sh.loop (fun (p : Int) => G.inquestref10_Sub_b1 b_1 r14 p) 0
end G
end

section
/- What the functions of a package compute, as plain functions. -/
open Go Go.Av
set_option linter.unusedVariables false
namespace G
def graph_nodes (n_0 : Int) : Option ((BitVec 64)) :=
  (Sh.shl 1#64 n_0).bind fun s3 =>
  some (s3 - 1#64)

def graph_Right (g_0 : G.graph_Graph) : Option (Bool) :=
  if decide ((0 : Int) ≤ g_0.N) then
    if decide (g_0.N ≤ 64) then
      if decide ((Sh.len g_0.Rows) = g_0.N) then
        (G.bits_Join g_0.Rows).bind fun r17 =>
        (G.graph_nodes g_0.N).bind fun r18 =>
        (G.bits_Sub r17 r18).bind fun r19 =>
        some r19
      else
        some false
    else
      some false
  else
    some false

def graph_Edges_j1 (out110 : List G.graph_Edge) : Option ((List G.graph_Edge)) :=
  some out110

def graph_Edges_j2 (v146 : Int) (out164 : List G.graph_Edge) : Option (((List G.graph_Edge) × Int) ⊕ ((List G.graph_Edge))) :=
  Sh.next (out164, w64 (v146 + 1))

def graph_Edges_b2 (v146 : Int) (r170 : (List Int)) (out179 : List G.graph_Edge) (v180 : Int) : Option (((List G.graph_Edge) × Int) ⊕ (((List G.graph_Edge) × Int) ⊕ ((List G.graph_Edge)))) :=
  if decide (v180 < (Sh.len r170)) then
    (Sh.idx r170 v180).bind fun x187 =>
    (Sh.app 16 out179 ([(G.graph_Edge.mk v146 x187)] : List G.graph_Edge)).bind fun out189 =>
    Sh.next (out189, w64 (v180 + 1))
  else
    Sh.exit (G.graph_Edges_j2 v146 out179)

def graph_Edges_b1 (g_0 : G.graph_Graph) (out145 : List G.graph_Edge) (v146 : Int) : Option (((List G.graph_Edge) × Int) ⊕ ((List G.graph_Edge))) :=
  if decide (v146 < (Sh.len g_0.Rows)) then
    (Sh.idx g_0.Rows v146).bind fun x167 =>
    (G.bits_List x167).bind fun r170 =>
    Sh.loop (fun (p : (List G.graph_Edge) × Int) => G.graph_Edges_b2 v146 r170 p.1 p.2) (out145, 0)
  else
    Sh.exit (G.graph_Edges_j1 out145)

def graph_Edges (g_0 : G.graph_Graph) : Option ((List G.graph_Edge)) :=
  (G.graph_Right g_0).bind fun r56 =>
  if !r56 then
    some []
  else
    Sh.loop (fun (p : (List G.graph_Edge) × Int) => G.graph_Edges_b1 g_0 p.1 p.2) ([], 0)

def graph_New_j1 (n_0 : Int) (v7 : Bool) : Option (G.graph_Graph × Int) :=
  if v7 then
    some ((G.graph_Graph.mk 0 []), 1)
  else
    (Sh.mk 8 n_0 n_0 0#64).bind fun made10 =>
    some ((G.graph_Graph.mk n_0 made10), 0)

def graph_New (n_0 : Int) : Option (G.graph_Graph × Int) :=
  if decide (n_0 < 0) then
    G.graph_New_j1 n_0 true
  else
    G.graph_New_j1 n_0 (decide ((64 : Int) < n_0))

def graph_Turn_j1 (r34 : G.graph_Graph × Int) (v61 : List (BitVec 64)) : Option (G.graph_Graph × Int) :=
  some ((G.graph_Graph.mk r34.1.N v61), r34.2)

def graph_Turn_b1 (r34 : G.graph_Graph × Int) (r63 : (List G.graph_Edge)) (outRows80 : List (BitVec 64)) (v81 : Int) : Option (((List (BitVec 64)) × Int) ⊕ (G.graph_Graph × Int)) :=
  if decide (v81 < (Sh.len r63)) then
    (Sh.idx r63 v81).bind fun x92 =>
    (Sh.idx outRows80 x92.B).bind fun x94 =>
    (G.bits_With x94 x92.A).bind fun r96 =>
    (Sh.idx outRows80 x92.B).bind fun x97 =>
    Sh.next (Sh.set outRows80 x92.B r96, w64 (v81 + 1))
  else
    Sh.exit (G.graph_Turn_j1 r34 outRows80)

def graph_Turn (g_0 : G.graph_Graph) : Option (G.graph_Graph × Int) :=
  (G.graph_Right g_0).bind fun r31 =>
  if !r31 then
    some ((G.graph_Graph.mk 0 []), 1)
  else
    (G.graph_New g_0.N).bind fun r34 =>
    (G.graph_Edges g_0).bind fun r63 =>
    Sh.loop (fun (p : (List (BitVec 64)) × Int) => G.graph_Turn_b1 r34 r63 p.1 p.2) (r34.1.Rows, 0)

def graph_Has (g_0 : G.graph_Graph) (a_1 : Int) (b_2 : Int) : Option (Bool) :=
  (G.graph_Right g_0).bind fun r16 =>
  if r16 then
    if decide ((0 : Int) ≤ a_1) then
      if decide (a_1 < g_0.N) then
        (Sh.idx g_0.Rows a_1).bind fun x20 =>
        (G.bits_Has x20 b_2).bind fun r22 =>
        some r22
      else
        some false
    else
      some false
  else
    some false

def graph_Add_j1 (g_0 : G.graph_Graph) (a_1 : Int) (b_2 : Int) (v26 : Bool) : Option (G.graph_Graph × Int) :=
  if v26 then
    some ((G.graph_Graph.mk 0 []), 1)
  else
    (G.graph_New g_0.N).bind fun r29 =>
    (Sh.cpy r29.1.Rows g_0.Rows).bind fun copied32 =>
    (Sh.idx copied32 a_1).bind fun x39 =>
    (G.bits_With x39 b_2).bind fun r41 =>
    (Sh.idx copied32 a_1).bind fun x42 =>
    some ((G.graph_Graph.mk r29.1.N (Sh.set copied32 a_1 r41)), r29.2)

def graph_Add (g_0 : G.graph_Graph) (a_1 : Int) (b_2 : Int) : Option (G.graph_Graph × Int) :=
  (G.graph_Right g_0).bind fun r44 =>
  if !r44 then
    G.graph_Add_j1 g_0 a_1 b_2 true
  else
    if decide (a_1 < 0) then
      G.graph_Add_j1 g_0 a_1 b_2 true
    else
      if decide (g_0.N ≤ a_1) then
        G.graph_Add_j1 g_0 a_1 b_2 true
      else
        if decide (b_2 < 0) then
          G.graph_Add_j1 g_0 a_1 b_2 true
        else
          G.graph_Add_j1 g_0 a_1 b_2 (decide (g_0.N ≤ b_2))

def graph_like (a_0 : G.graph_Graph) (b_1 : G.graph_Graph) : Option (Bool) :=
  (G.graph_Right a_0).bind fun r10 =>
  if r10 then
    (G.graph_Right b_1).bind fun r12 =>
    if r12 then
      some (decide (a_0.N = b_1.N))
    else
      some false
  else
    some false

def graph_Compose_j1 (r114 : G.graph_Graph × Int) (v221 : List (BitVec 64)) : Option (G.graph_Graph × Int) :=
  some ((G.graph_Graph.mk r114.1.N v221), r114.2)

def graph_Compose_j2 (v293 : Int) (v329 : List (BitVec 64)) : Option (((List (BitVec 64)) × Int) ⊕ (G.graph_Graph × Int)) :=
  Sh.next (v329, w64 (v293 + 1))

def graph_Compose_b2 (b_1 : G.graph_Graph) (v293 : Int) (r335 : (List Int)) (outRows356 : List (BitVec 64)) (v357 : Int) : Option (((List (BitVec 64)) × Int) ⊕ (((List (BitVec 64)) × Int) ⊕ (G.graph_Graph × Int))) :=
  if decide (v357 < (Sh.len r335)) then
    (Sh.idx r335 v357).bind fun x370 =>
    (Sh.idx outRows356 v293).bind fun x372 =>
    (Sh.idx b_1.Rows x370).bind fun x374 =>
    (G.bits_Join [x372, x374]).bind fun r376 =>
    (Sh.idx outRows356 v293).bind fun x377 =>
    Sh.next (Sh.set outRows356 v293 r376, w64 (v357 + 1))
  else
    Sh.exit (G.graph_Compose_j2 v293 outRows356)

def graph_Compose_b1 (a_0 : G.graph_Graph) (b_1 : G.graph_Graph) (r114 : G.graph_Graph × Int) (outRows292 : List (BitVec 64)) (v293 : Int) : Option (((List (BitVec 64)) × Int) ⊕ (G.graph_Graph × Int)) :=
  if decide (v293 < (Sh.len r114.1.Rows)) then
    (Sh.idx a_0.Rows v293).bind fun x333 =>
    (G.bits_List x333).bind fun r335 =>
    Sh.loop (fun (p : (List (BitVec 64)) × Int) => G.graph_Compose_b2 b_1 v293 r335 p.1 p.2) (outRows292, 0)
  else
    Sh.exit (G.graph_Compose_j1 r114 outRows292)

def graph_Compose (a_0 : G.graph_Graph) (b_1 : G.graph_Graph) : Option (G.graph_Graph × Int) :=
  (G.graph_like a_0 b_1).bind fun r111 =>
  if !r111 then
    some ((G.graph_Graph.mk 0 []), 1)
  else
    (G.graph_New a_0.N).bind fun r114 =>
    Sh.loop (fun (p : (List (BitVec 64)) × Int) => G.graph_Compose_b1 a_0 b_1 r114 p.1 p.2) (r114.1.Rows, 0)

def graph_Union_j1 (r33 : G.graph_Graph × Int) (v59 : List (BitVec 64)) : Option (G.graph_Graph × Int) :=
  some ((G.graph_Graph.mk r33.1.N v59), r33.2)

def graph_Union_b1 (a_0 : G.graph_Graph) (b_1 : G.graph_Graph) (r33 : G.graph_Graph × Int) (outRows76 : List (BitVec 64)) (v77 : Int) : Option (((List (BitVec 64)) × Int) ⊕ (G.graph_Graph × Int)) :=
  if decide (v77 < (Sh.len r33.1.Rows)) then
    (Sh.idx a_0.Rows v77).bind fun x86 =>
    (Sh.idx b_1.Rows v77).bind fun x88 =>
    (G.bits_Join [x86, x88]).bind fun r90 =>
    (Sh.idx outRows76 v77).bind fun x91 =>
    Sh.next (Sh.set outRows76 v77 r90, w64 (v77 + 1))
  else
    Sh.exit (G.graph_Union_j1 r33 outRows76)

def graph_Union (a_0 : G.graph_Graph) (b_1 : G.graph_Graph) : Option (G.graph_Graph × Int) :=
  (G.graph_like a_0 b_1).bind fun r30 =>
  if !r30 then
    some ((G.graph_Graph.mk 0 []), 1)
  else
    (G.graph_New a_0.N).bind fun r33 =>
    Sh.loop (fun (p : (List (BitVec 64)) × Int) => G.graph_Union_b1 a_0 b_1 r33 p.1 p.2) (r33.1.Rows, 0)
end G
end

section
/- What the functions of a package compute, as plain functions. -/
open Go Go.Av
set_option linter.unusedVariables false
namespace G
def inquestref12_Right_j2 : Option (Bool) :=
  some true

def inquestref12_Right_j3 (i104 : Int) : Option ((Int) ⊕ (Bool)) :=
  Sh.next (w64 (i104 + 1))

def inquestref12_Right_b2 (g_0 : G.inquestref12_G) (i104 : Int) (k124 : Int) : Option ((Int) ⊕ ((Int) ⊕ (Bool))) :=
  if decide (k124 < 64) then
    (Sh.idx g_0.Rows i104).bind fun x132 =>
    (G.inquestref10_Has x132 k124).bind fun r134 =>
    if r134 then
      Sh.exit (Sh.exit (some false))
    else
      Sh.next (w64 (k124 + 1))
  else
    Sh.exit (G.inquestref12_Right_j3 i104)

def inquestref12_Right_b1 (g_0 : G.inquestref12_G) (i104 : Int) : Option ((Int) ⊕ (Bool)) :=
  if decide (i104 < g_0.N) then
    Sh.loop (fun (p : Int) => G.inquestref12_Right_b2 g_0 i104 p) g_0.N
  else
    Sh.exit (G.inquestref12_Right_j2)

def inquestref12_Right_j1 (g_0 : G.inquestref12_G) (v44 : Bool) : Option (Bool) :=
  if v44 then
    some false
  else
    Sh.loop (fun (p : Int) => G.inquestref12_Right_b1 g_0 p) 0

def inquestref12_Right (g_0 : G.inquestref12_G) : Option (Bool) :=
  if decide (g_0.N < 0) then
    G.inquestref12_Right_j1 g_0 true
  else
    if decide ((64 : Int) < g_0.N) then
      G.inquestref12_Right_j1 g_0 true
    else
      G.inquestref12_Right_j1 g_0 (decide ((Sh.len g_0.Rows) ≠ g_0.N))

def inquestref12_Same_j2 : Option (Bool) :=
  some true

def inquestref12_Same_b1 (a_0 : G.inquestref12_G) (b_1 : G.inquestref12_G) (i45 : Int) : Option ((Int) ⊕ (Bool)) :=
  if decide (i45 < (Sh.len a_0.Rows)) then
    (Sh.idx a_0.Rows i45).bind fun x55 =>
    (Sh.idx b_1.Rows i45).bind fun x57 =>
    if decide (x55 ≠ x57) then
      Sh.exit (some false)
    else
      Sh.next (w64 (i45 + 1))
  else
    Sh.exit (G.inquestref12_Same_j2)

def inquestref12_Same_j1 (a_0 : G.inquestref12_G) (b_1 : G.inquestref12_G) (v20 : Bool) : Option (Bool) :=
  if v20 then
    some false
  else
    Sh.loop (fun (p : Int) => G.inquestref12_Same_b1 a_0 b_1 p) 0

def inquestref12_Same (a_0 : G.inquestref12_G) (b_1 : G.inquestref12_G) : Option (Bool) :=
  if decide (a_0.N ≠ b_1.N) then
    G.inquestref12_Same_j1 a_0 b_1 true
  else
    G.inquestref12_Same_j1 a_0 b_1 (decide ((Sh.len a_0.Rows) ≠ (Sh.len b_1.Rows)))

def inquestref12_Has (g_0 : G.inquestref12_G) (a_1 : Int) (b_2 : Int) : Option (Bool) :=
  (Sh.idx g_0.Rows a_1).bind fun x7 =>
  (G.inquestref10_Has x7 b_2).bind fun r9 =>
  some r9

def inquestref12_New_j1 (n_0 : Int) (v15 : List (BitVec 64)) : Option (G.inquestref12_G) :=
  some (G.inquestref12_G.mk n_0 v15)

def inquestref12_New_b1 (n_0 : Int) (gRows20 : List (BitVec 64)) (i21 : Int) : Option (((List (BitVec 64)) × Int) ⊕ (G.inquestref12_G)) :=
  if decide (i21 < n_0) then
    (Sh.app 8 gRows20 [0#64]).bind fun l24 =>
    Sh.next (l24, w64 (i21 + 1))
  else
    Sh.exit (G.inquestref12_New_j1 n_0 gRows20)

def inquestref12_New (n_0 : Int) : Option (G.inquestref12_G) :=
  Sh.loop (fun (p : (List (BitVec 64)) × Int) => G.inquestref12_New_b1 n_0 p.1 p.2) ([], 0)

def inquestref12_Turn_j1 (r82 : G.inquestref12_G) (v162 : List (BitVec 64)) : Option (G.inquestref12_G) :=
  some (G.inquestref12_G.mk r82.N v162)

def inquestref12_Turn_j2 (x216 : Int) (v243 : List (BitVec 64)) : Option (((List (BitVec 64)) × Int) ⊕ (G.inquestref12_G)) :=
  Sh.next (v243, w64 (x216 + 1))

def inquestref12_Turn_j3 (y261 : Int) (outRows269 : List (BitVec 64)) : Option (((List (BitVec 64)) × Int) ⊕ (((List (BitVec 64)) × Int) ⊕ (G.inquestref12_G))) :=
  Sh.next (outRows269, w64 (y261 + 1))

def inquestref12_Turn_b2 (g_0 : G.inquestref12_G) (x216 : Int) (outRows260 : List (BitVec 64)) (y261 : Int) : Option (((List (BitVec 64)) × Int) ⊕ (((List (BitVec 64)) × Int) ⊕ (G.inquestref12_G))) :=
  if decide (y261 < g_0.N) then
    (G.inquestref12_Has g_0 y261 x216).bind fun r271 =>
    if r271 then
      (Sh.idx outRows260 x216).bind fun x273 =>
      (G.inquestref10_With x273 y261).bind fun r275 =>
      (Sh.idx outRows260 x216).bind fun x276 =>
      G.inquestref12_Turn_j3 y261 (Sh.set outRows260 x216 r275)
    else
      G.inquestref12_Turn_j3 y261 outRows260
  else
    Sh.exit (G.inquestref12_Turn_j2 x216 outRows260)

def inquestref12_Turn_b1 (g_0 : G.inquestref12_G) (r82 : G.inquestref12_G) (outRows215 : List (BitVec 64)) (x216 : Int) : Option (((List (BitVec 64)) × Int) ⊕ (G.inquestref12_G)) :=
  if decide (x216 < g_0.N) then
    Sh.loop (fun (p : (List (BitVec 64)) × Int) => G.inquestref12_Turn_b2 g_0 x216 p.1 p.2) (outRows215, 0)
  else
    Sh.exit (G.inquestref12_Turn_j1 r82 outRows215)

def inquestref12_Turn (g_0 : G.inquestref12_G) : Option (G.inquestref12_G) :=
  (G.inquestref12_New g_0.N).bind fun r82 =>
  Sh.loop (fun (p : (List (BitVec 64)) × Int) => G.inquestref12_Turn_b1 g_0 r82 p.1 p.2) (r82.Rows, 0)

def inquestref12_Node (g_0 : G.inquestref12_G) (a_1 : Int) : Option (Bool) :=
  if decide ((0 : Int) ≤ a_1) then
    some (decide (a_1 < g_0.N))
  else
    some false

def inquestref12_Set (g_0 : G.inquestref12_G) (a_1 : Int) (b_2 : Int) : Option (G.inquestref12_G) :=
  (Sh.app 8 [] g_0.Rows).bind fun l8 =>
  (Sh.idx l8 a_1).bind fun x14 =>
  (G.inquestref10_With x14 b_2).bind fun r16 =>
  (Sh.idx l8 a_1).bind fun x17 =>
  some (G.inquestref12_G.mk g_0.N (Sh.set l8 a_1 r16))

def inquestref12_Union_j1 (r109 : G.inquestref12_G) (v216 : List (BitVec 64)) : Option (G.inquestref12_G) :=
  some (G.inquestref12_G.mk r109.N v216)

def inquestref12_Union_j2 (x288 : Int) (v324 : List (BitVec 64)) : Option (((List (BitVec 64)) × Int) ⊕ (G.inquestref12_G)) :=
  Sh.next (v324, w64 (x288 + 1))

def inquestref12_Union_j3 (y348 : Int) (outRows359 : List (BitVec 64)) : Option (((List (BitVec 64)) × Int) ⊕ (((List (BitVec 64)) × Int) ⊕ (G.inquestref12_G))) :=
  Sh.next (outRows359, w64 (y348 + 1))

def inquestref12_Union_j4 (x288 : Int) (outRows347 : List (BitVec 64)) (y348 : Int) (v365 : Bool) : Option (((List (BitVec 64)) × Int) ⊕ (((List (BitVec 64)) × Int) ⊕ (G.inquestref12_G))) :=
  if v365 then
    (Sh.idx outRows347 x288).bind fun x367 =>
    (G.inquestref10_With x367 y348).bind fun r369 =>
    (Sh.idx outRows347 x288).bind fun x370 =>
    G.inquestref12_Union_j3 y348 (Sh.set outRows347 x288 r369)
  else
    G.inquestref12_Union_j3 y348 outRows347

def inquestref12_Union_b2 (a_0 : G.inquestref12_G) (b_1 : G.inquestref12_G) (x288 : Int) (outRows347 : List (BitVec 64)) (y348 : Int) : Option (((List (BitVec 64)) × Int) ⊕ (((List (BitVec 64)) × Int) ⊕ (G.inquestref12_G))) :=
  if decide (y348 < a_0.N) then
    (G.inquestref12_Has a_0 x288 y348).bind fun r361 =>
    (G.inquestref12_Has b_1 x288 y348).bind fun r363 =>
    if r361 then
      G.inquestref12_Union_j4 x288 outRows347 y348 true
    else
      G.inquestref12_Union_j4 x288 outRows347 y348 r363
  else
    Sh.exit (G.inquestref12_Union_j2 x288 outRows347)

def inquestref12_Union_b1 (a_0 : G.inquestref12_G) (b_1 : G.inquestref12_G) (r109 : G.inquestref12_G) (outRows287 : List (BitVec 64)) (x288 : Int) : Option (((List (BitVec 64)) × Int) ⊕ (G.inquestref12_G)) :=
  if decide (x288 < a_0.N) then
    Sh.loop (fun (p : (List (BitVec 64)) × Int) => G.inquestref12_Union_b2 a_0 b_1 x288 p.1 p.2) (outRows287, 0)
  else
    Sh.exit (G.inquestref12_Union_j1 r109 outRows287)

def inquestref12_Union (a_0 : G.inquestref12_G) (b_1 : G.inquestref12_G) : Option (G.inquestref12_G) :=
  (G.inquestref12_New a_0.N).bind fun r109 =>
  Sh.loop (fun (p : (List (BitVec 64)) × Int) => G.inquestref12_Union_b1 a_0 b_1 r109 p.1 p.2) (r109.Rows, 0)

def inquestref12_Compose_j1 (r262 : G.inquestref12_G) (v522 : List (BitVec 64)) : Option (G.inquestref12_G) :=
  some (G.inquestref12_G.mk r262.N v522)

def inquestref12_Compose_j2 (x696 : Int) (v783 : List (BitVec 64)) : Option (((List (BitVec 64)) × Int) ⊕ (G.inquestref12_G)) :=
  Sh.next (v783, w64 (x696 + 1))

def inquestref12_Compose_j3 (y841 : Int) (outRows869 : List (BitVec 64)) : Option (((List (BitVec 64)) × Int) ⊕ (((List (BitVec 64)) × Int) ⊕ (G.inquestref12_G))) :=
  Sh.next (outRows869, w64 (y841 + 1))

def inquestref12_Compose_j4 (z890 : Int) (outRows898 : List (BitVec 64)) : Option (((List (BitVec 64)) × Int) ⊕ (((List (BitVec 64)) × Int) ⊕ (((List (BitVec 64)) × Int) ⊕ (G.inquestref12_G)))) :=
  Sh.next (outRows898, w64 (z890 + 1))

def inquestref12_Compose_b3 (a_0 : G.inquestref12_G) (b_1 : G.inquestref12_G) (x696 : Int) (y841 : Int) (outRows889 : List (BitVec 64)) (z890 : Int) : Option (((List (BitVec 64)) × Int) ⊕ (((List (BitVec 64)) × Int) ⊕ (((List (BitVec 64)) × Int) ⊕ (G.inquestref12_G)))) :=
  if decide (z890 < a_0.N) then
    (G.inquestref12_Has b_1 y841 z890).bind fun r900 =>
    if r900 then
      (Sh.idx outRows889 x696).bind fun x902 =>
      (G.inquestref10_With x902 z890).bind fun r904 =>
      (Sh.idx outRows889 x696).bind fun x905 =>
      G.inquestref12_Compose_j4 z890 (Sh.set outRows889 x696 r904)
    else
      G.inquestref12_Compose_j4 z890 outRows889
  else
    Sh.exit (G.inquestref12_Compose_j3 y841 outRows889)

def inquestref12_Compose_b2 (a_0 : G.inquestref12_G) (b_1 : G.inquestref12_G) (x696 : Int) (outRows840 : List (BitVec 64)) (y841 : Int) : Option (((List (BitVec 64)) × Int) ⊕ (((List (BitVec 64)) × Int) ⊕ (G.inquestref12_G))) :=
  if decide (y841 < a_0.N) then
    (G.inquestref12_Has a_0 x696 y841).bind fun r871 =>
    if !r871 then
      G.inquestref12_Compose_j3 y841 outRows840
    else
      Sh.loop (fun (p : (List (BitVec 64)) × Int) => G.inquestref12_Compose_b3 a_0 b_1 x696 y841 p.1 p.2) (outRows840, 0)
  else
    Sh.exit (G.inquestref12_Compose_j2 x696 outRows840)

def inquestref12_Compose_b1 (a_0 : G.inquestref12_G) (b_1 : G.inquestref12_G) (r262 : G.inquestref12_G) (outRows695 : List (BitVec 64)) (x696 : Int) : Option (((List (BitVec 64)) × Int) ⊕ (G.inquestref12_G)) :=
  if decide (x696 < a_0.N) then
    Sh.loop (fun (p : (List (BitVec 64)) × Int) => G.inquestref12_Compose_b2 a_0 b_1 x696 p.1 p.2) (outRows695, 0)
  else
    Sh.exit (G.inquestref12_Compose_j1 r262 outRows695)

def inquestref12_Compose (a_0 : G.inquestref12_G) (b_1 : G.inquestref12_G) : Option (G.inquestref12_G) :=
  (G.inquestref12_New a_0.N).bind fun r262 =>
  Sh.loop (fun (p : (List (BitVec 64)) × Int) => G.inquestref12_Compose_b1 a_0 b_1 r262 p.1 p.2) (r262.Rows, 0)
end G
end

section
/- What the functions of a package compute, as plain functions. -/
open Go Go.Av
set_option linter.unusedVariables false
namespace G
def inquestlaw12_made_j1 (e58 : Int) (v59 : G.graph_Graph) : Option (G.graph_Graph × Int) :=
  some (v59, e58)

def inquestlaw12_made_j2 (l_1 : List G.graph_Edge) (g77 : G.graph_Graph) (e78 : Int) (i79 : Int) (v83 : Bool) : Option ((G.graph_Graph × Int × Int) ⊕ (G.graph_Graph × Int)) :=
  if v83 then
    (Sh.idx l_1 i79).bind fun x90 =>
    (Sh.idx l_1 i79).bind fun x92 =>
    (G.graph_Add g77 x90.A x92.B).bind fun r94 =>
    Sh.next (r94.1, r94.2, w64 (i79 + 1))
  else
    Sh.exit (G.inquestlaw12_made_j1 e78 g77)

def inquestlaw12_made_b1 (l_1 : List G.graph_Edge) (g77 : G.graph_Graph) (e78 : Int) (i79 : Int) : Option ((G.graph_Graph × Int × Int) ⊕ (G.graph_Graph × Int)) :=
  if decide (i79 < (Sh.len l_1)) then
    G.inquestlaw12_made_j2 l_1 g77 e78 i79 (decide (e78 = 0))
  else
    G.inquestlaw12_made_j2 l_1 g77 e78 i79 false

def inquestlaw12_made (n_0 : Int) (l_1 : List G.graph_Edge) : Option (G.graph_Graph × Int) :=
  (G.graph_New n_0).bind fun r30 =>
  Sh.loop (fun (p : G.graph_Graph × Int × Int) => G.inquestlaw12_made_b1 l_1 p.1 p.2.1 p.2.2) (r30.1, r30.2, 0)

def inquestlaw12_awake : Option (Bool) :=
  (G.inquestlaw12_made 3 ([(G.graph_Edge.mk 0 1), (G.graph_Edge.mk 1 2)] : List G.graph_Edge)).bind fun r21 =>
  (G.graph_Compose r21.1 r21.1).bind fun r23 =>
  (G.graph_Turn r23.1).bind fun r25 =>
  (G.graph_Edges r25.1).bind fun r27 =>
  if decide (r21.2 = 0) then
    if decide (r23.2 = 0) then
      if decide (r25.2 = 0) then
        (G.graph_Has r23.1 0 2).bind fun r45 =>
        if r45 then
          (G.graph_Has r23.1 0 1).bind fun r47 =>
          if !r47 then
            if decide ((Sh.len r27) = 1) then
              (Sh.idx r27 0).bind fun x50 =>
              if decide (x50 = (G.graph_Edge.mk 2 0)) then
                (G.graph_Right r21.1).bind fun r53 =>
                if r53 then
                  (G.graph_Right (G.graph_Graph.mk 1 [])).bind fun r55 =>
                  some (!r55)
                else
                  some false
              else
                some false
            else
              some false
          else
            some false
        else
          some false
      else
        some false
    else
      some false
  else
    some false

def inquestlaw12_Plain (g_0 : G.graph_Graph) : Option (G.inquestref12_G) :=
  some (G.inquestref12_G.mk g_0.N g_0.Rows)

def inquestlaw12_GraphTells_j3 (g_0 : G.graph_Graph) (a_1 : Int) (b_2 : Int) (r48 : G.inquestref12_G) (r52 : G.graph_Graph × Int) (v109 : Bool) : Option (Bool) :=
  if v109 then
    if decide (r52.2 = 1) then
      if decide (r52.1.N = 0) then
        if decide ((Sh.len r52.1.Rows) = 0) then
          (G.graph_Has g_0 a_1 b_2).bind fun r118 =>
          some (!r118)
        else
          some false
      else
        some false
    else
      some false
  else
    if decide (r52.2 = 0) then
      (G.inquestlaw12_Plain r52.1).bind fun r127 =>
      (G.inquestref12_Set r48 a_1 b_2).bind fun r128 =>
      (G.inquestref12_Same r127 r128).bind fun r129 =>
      if r129 then
        (G.graph_Has g_0 a_1 b_2).bind fun r131 =>
        (G.inquestref12_Has r48 a_1 b_2).bind fun r132 =>
        some (r131 == r132)
      else
        some false
    else
      some false

def inquestlaw12_GraphTells_j2 (g_0 : G.graph_Graph) (a_1 : Int) (b_2 : Int) (r48 : G.inquestref12_G) (r52 : G.graph_Graph × Int) (v95 : Bool) : Option (Bool) :=
  if v95 then
    some false
  else
    (G.inquestref12_Node r48 a_1).bind fun r133 =>
    if !r133 then
      G.inquestlaw12_GraphTells_j3 g_0 a_1 b_2 r48 r52 true
    else
      (G.inquestref12_Node r48 b_2).bind fun r135 =>
      G.inquestlaw12_GraphTells_j3 g_0 a_1 b_2 r48 r52 (!r135)

def inquestlaw12_GraphTells_j1 (g_0 : G.graph_Graph) (a_1 : Int) (b_2 : Int) (r48 : G.inquestref12_G) (r50 : Bool) (r52 : G.graph_Graph × Int) (r54 : G.graph_Graph × Int) (v64 : Bool) : Option (Bool) :=
  if v64 then
    some false
  else
    if !r50 then
      if decide (r52.2 = 1) then
        if decide (r54.2 = 1) then
          if decide ((w64 ((Sh.len r52.1.Rows) + (Sh.len r54.1.Rows))) = 0) then
            (G.graph_Has g_0 a_1 b_2).bind fun r83 =>
            if !r83 then
              (G.graph_Edges g_0).bind fun r85 =>
              some (decide ((Sh.len r85) = 0))
            else
              some false
          else
            some false
        else
          some false
      else
        some false
    else
      if decide (r54.2 ≠ 0) then
        G.inquestlaw12_GraphTells_j2 g_0 a_1 b_2 r48 r52 true
      else
        (G.inquestlaw12_Plain r54.1).bind fun r137 =>
        (G.inquestref12_Turn r48).bind fun r138 =>
        (G.inquestref12_Same r137 r138).bind fun r139 =>
        G.inquestlaw12_GraphTells_j2 g_0 a_1 b_2 r48 r52 (!r139)

def inquestlaw12_GraphTells (g_0 : G.graph_Graph) (a_1 : Int) (b_2 : Int) : Option (Bool) :=
  (G.inquestlaw12_awake).bind fun r42 =>
  if !r42 then
    some false
  else
    if decide ((70 : Int) < (Sh.len g_0.Rows)) then
      some true
    else
      (Sh.app 8 [] g_0.Rows).bind fun l46 =>
      (G.inquestlaw12_Plain (G.graph_Graph.mk g_0.N l46)).bind fun r48 =>
      (G.inquestref12_Right r48).bind fun r50 =>
      (G.graph_Add g_0 a_1 b_2).bind fun r52 =>
      (G.graph_Turn g_0).bind fun r54 =>
      (G.graph_Right g_0).bind fun r140 =>
      if !(r140 == r50) then
        G.inquestlaw12_GraphTells_j1 g_0 a_1 b_2 r48 r50 r52 r54 true
      else
        (G.inquestlaw12_Plain g_0).bind fun r142 =>
        (G.inquestref12_Same r142 r48).bind fun r143 =>
        G.inquestlaw12_GraphTells_j1 g_0 a_1 b_2 r48 r50 r52 r54 (!r143)

def inquestlaw12_GraphEdges_j2 (g_0 : G.graph_Graph) (a_1 : Int) (b_2 : Int) (r116 : (List G.graph_Edge)) (in208 : Bool) : Option (Bool) :=
  (G.inquestlaw12_made g_0.N r116).bind fun r210 =>
  if decide (r210.2 = 0) then
    (G.inquestlaw12_Plain g_0).bind fun r218 =>
    (G.inquestlaw12_Plain r210.1).bind fun r219 =>
    (G.inquestref12_Same r218 r219).bind fun r220 =>
    if r220 then
      (G.graph_Has g_0 a_1 b_2).bind fun r222 =>
      some (r222 == in208)
    else
      some false
  else
    some false

def inquestlaw12_GraphEdges_j3 (i284 : Int) (in314 : Bool) : Option ((Bool × Int) ⊕ (Bool)) :=
  Sh.next (in314, w64 (i284 + 1))

def inquestlaw12_GraphEdges_j4 (a_1 : Int) (b_2 : Int) (r116 : (List G.graph_Edge)) (in283 : Bool) (i284 : Int) (v358 : Bool) : Option ((Bool × Int) ⊕ (Bool)) :=
  if v358 then
    Sh.exit (some false)
  else
    if in283 then
      G.inquestlaw12_GraphEdges_j3 i284 true
    else
      (Sh.idx r116 i284).bind fun x361 =>
      if decide (x361.A = a_1) then
        (Sh.idx r116 i284).bind fun x364 =>
        G.inquestlaw12_GraphEdges_j3 i284 (decide (x364.B = b_2))
      else
        G.inquestlaw12_GraphEdges_j3 i284 false

def inquestlaw12_GraphEdges_b1 (g_0 : G.graph_Graph) (a_1 : Int) (b_2 : Int) (r116 : (List G.graph_Edge)) (in283 : Bool) (i284 : Int) : Option ((Bool × Int) ⊕ (Bool)) :=
  if decide (i284 < (Sh.len r116)) then
    (Sh.idx r116 i284).bind fun x366 =>
    (Sh.idx r116 i284).bind fun x368 =>
    (G.graph_Has g_0 x366.A x368.B).bind fun r370 =>
    if !r370 then
      G.inquestlaw12_GraphEdges_j4 a_1 b_2 r116 in283 i284 true
    else
      if decide ((0 : Int) < i284) then
        (Sh.idx r116 i284).bind fun x373 =>
        (Sh.idx r116 (w64 (i284 - 1))).bind fun x375 =>
        if decide (x373.A < x375.A) then
          G.inquestlaw12_GraphEdges_j4 a_1 b_2 r116 in283 i284 true
        else
          (Sh.idx r116 i284).bind fun x378 =>
          (Sh.idx r116 (w64 (i284 - 1))).bind fun x380 =>
          if decide (x378.A = x380.A) then
            (Sh.idx r116 i284).bind fun x383 =>
            (Sh.idx r116 (w64 (i284 - 1))).bind fun x385 =>
            G.inquestlaw12_GraphEdges_j4 a_1 b_2 r116 in283 i284 (decide (x383.B ≤ x385.B))
          else
            G.inquestlaw12_GraphEdges_j4 a_1 b_2 r116 in283 i284 false
      else
        G.inquestlaw12_GraphEdges_j4 a_1 b_2 r116 in283 i284 false
  else
    Sh.exit (G.inquestlaw12_GraphEdges_j2 g_0 a_1 b_2 r116 in283)

def inquestlaw12_GraphEdges_j1 (g_0 : G.graph_Graph) (a_1 : Int) (b_2 : Int) (v113 : Bool) : Option (Bool) :=
  if v113 then
    some true
  else
    (G.graph_Edges g_0).bind fun r116 =>
    Sh.loop (fun (p : Bool × Int) => G.inquestlaw12_GraphEdges_b1 g_0 a_1 b_2 r116 p.1 p.2) (false, 0)

def inquestlaw12_GraphEdges (g_0 : G.graph_Graph) (a_1 : Int) (b_2 : Int) : Option (Bool) :=
  (G.inquestlaw12_awake).bind fun r106 =>
  if !r106 then
    some false
  else
    if decide ((70 : Int) < (Sh.len g_0.Rows)) then
      G.inquestlaw12_GraphEdges_j1 g_0 a_1 b_2 true
    else
      (G.graph_Right g_0).bind fun r388 =>
      G.inquestlaw12_GraphEdges_j1 g_0 a_1 b_2 (!r388)

def inquestlaw12_GraphBoth_j2 (a_0 : G.graph_Graph) (b_1 : G.graph_Graph) (r40 : G.graph_Graph × Int) (r42 : G.graph_Graph × Int) (v60 : Bool) : Option (Bool) :=
  if v60 then
    if decide (r40.2 = 1) then
      if decide (r42.2 = 1) then
        Sh.lett (decide ((w64 ((w64 ((w64 (r40.1.N + r42.1.N)) + (Sh.len r40.1.Rows))) + (Sh.len r42.1.Rows))) = 0)) fun x67 =>
        some x67
      else
        some false
    else
      some false
  else
    if decide (r40.2 = 0) then
      if decide (r42.2 = 0) then
        (G.inquestlaw12_Plain r40.1).bind fun r83 =>
        (G.inquestlaw12_Plain a_0).bind fun r84 =>
        (G.inquestlaw12_Plain b_1).bind fun r85 =>
        (G.inquestref12_Union r84 r85).bind fun r86 =>
        (G.inquestref12_Same r83 r86).bind fun r87 =>
        if r87 then
          (G.inquestlaw12_Plain r42.1).bind fun r89 =>
          (G.inquestlaw12_Plain a_0).bind fun r90 =>
          (G.inquestlaw12_Plain b_1).bind fun r91 =>
          (G.inquestref12_Compose r90 r91).bind fun r92 =>
          (G.inquestref12_Same r89 r92).bind fun r93 =>
          some r93
        else
          some false
      else
        some false
    else
      some false

def inquestlaw12_GraphBoth_j1 (a_0 : G.graph_Graph) (b_1 : G.graph_Graph) (v37 : Bool) : Option (Bool) :=
  if v37 then
    some true
  else
    (G.graph_Union a_0 b_1).bind fun r40 =>
    (G.graph_Compose a_0 b_1).bind fun r42 =>
    (G.inquestlaw12_Plain a_0).bind fun r45 =>
    (G.inquestref12_Right r45).bind fun r46 =>
    (G.inquestlaw12_Plain b_1).bind fun r49 =>
    (G.inquestref12_Right r49).bind fun r50 =>
    if !r46 then
      G.inquestlaw12_GraphBoth_j2 a_0 b_1 r40 r42 true
    else
      if !r50 then
        G.inquestlaw12_GraphBoth_j2 a_0 b_1 r40 r42 true
      else
        G.inquestlaw12_GraphBoth_j2 a_0 b_1 r40 r42 (decide (a_0.N ≠ b_1.N))

def inquestlaw12_GraphBoth (a_0 : G.graph_Graph) (b_1 : G.graph_Graph) : Option (Bool) :=
  (G.inquestlaw12_awake).bind fun r32 =>
  if !r32 then
    some false
  else
    if decide ((70 : Int) < (Sh.len a_0.Rows)) then
      G.inquestlaw12_GraphBoth_j1 a_0 b_1 true
    else
      G.inquestlaw12_GraphBoth_j1 a_0 b_1 (decide ((70 : Int) < (Sh.len b_1.Rows)))

def inquestlaw12_GraphTurns_j1 (a_0 : G.graph_Graph) (b_1 : G.graph_Graph) (v50 : Bool) : Option (Bool) :=
  if v50 then
    some true
  else
    (G.graph_Turn a_0).bind fun r53 =>
    (G.graph_Turn b_1).bind fun r55 =>
    (G.graph_Turn r53.1).bind fun r57 =>
    (G.graph_Compose a_0 b_1).bind fun r59 =>
    (G.graph_Turn r59.1).bind fun r61 =>
    (G.graph_Compose r55.1 r53.1).bind fun r63 =>
    (G.graph_Union a_0 a_0).bind fun r65 =>
    (G.graph_Union a_0 b_1).bind fun r67 =>
    (G.graph_Union b_1 a_0).bind fun r69 =>
    (G.inquestlaw12_Plain r57.1).bind fun r85 =>
    (G.inquestlaw12_Plain a_0).bind fun r86 =>
    (G.inquestref12_Same r85 r86).bind fun r87 =>
    if r87 then
      (G.inquestlaw12_Plain r61.1).bind fun r89 =>
      (G.inquestlaw12_Plain r63.1).bind fun r90 =>
      (G.inquestref12_Same r89 r90).bind fun r91 =>
      if r91 then
        (G.inquestlaw12_Plain r65.1).bind fun r93 =>
        (G.inquestlaw12_Plain a_0).bind fun r94 =>
        (G.inquestref12_Same r93 r94).bind fun r95 =>
        if r95 then
          (G.inquestlaw12_Plain r67.1).bind fun r97 =>
          (G.inquestlaw12_Plain r69.1).bind fun r98 =>
          (G.inquestref12_Same r97 r98).bind fun r99 =>
          some r99
        else
          some false
      else
        some false
    else
      some false

def inquestlaw12_GraphTurns (a_0 : G.graph_Graph) (b_1 : G.graph_Graph) : Option (Bool) :=
  (G.inquestlaw12_awake).bind fun r35 =>
  if !r35 then
    some false
  else
    if decide ((70 : Int) < (Sh.len a_0.Rows)) then
      G.inquestlaw12_GraphTurns_j1 a_0 b_1 true
    else
      if decide ((70 : Int) < (Sh.len b_1.Rows)) then
        G.inquestlaw12_GraphTurns_j1 a_0 b_1 true
      else
        (G.graph_Right a_0).bind fun r102 =>
        if !r102 then
          G.inquestlaw12_GraphTurns_j1 a_0 b_1 true
        else
          (G.graph_Right b_1).bind fun r104 =>
          if !r104 then
            G.inquestlaw12_GraphTurns_j1 a_0 b_1 true
          else
            G.inquestlaw12_GraphTurns_j1 a_0 b_1 (decide (a_0.N ≠ b_1.N))
end G
end
