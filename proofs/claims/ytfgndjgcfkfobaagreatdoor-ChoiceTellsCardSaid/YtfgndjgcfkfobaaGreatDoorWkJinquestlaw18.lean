/- That the functions of a package do what their plain functions say. -/
import Derived.Test.YtfgndjgcfkfobaaGreatDoorSh
import Derived.Test.YtfgndjgcfkfobaaGreatDoorWkJFacts
import Derived.Test.YtfgndjgcfkfobaaGreatDoorWkJchoice
import Derived.Test.YtfgndjgcfkfobaaGreatDoorWkJgraph
import Derived.Test.YtfgndjgcfkfobaaGreatDoorWkJinquestref08
import Derived.Test.YtfgndjgcfkfobaaGreatDoorWkJinquestref12
import Derived.Test.YtfgndjgcfkfobaaGreatDoorWkJinquestref18
open Go Go.Av Go.Proofs
set_option linter.unusedVariables false
set_option maxHeartbeats 8000000
set_option maxRecDepth 20000
namespace Wk
theorem inquestlaw18_awake_ok0 {W0 : World} (hT : Tab W0) {r : Bool} (h : G.inquestlaw18_awake = some r) : Fun2 Tryz.prog W0 4 [] (bl r) .empty := by
 refine fun2_of_awp Tryz.func4 rfl (by kernel_rfl) Tryz.ntmps4 (by simp) ?_
 unfold G.inquestlaw18_awake at h
 show AWP _ _ _ _ ⟨[], .empty⟩ _
 refine awp_seqK fun K1 hK1 => awp_reg rfl <| AR.op rfl (aop_move (.inr rfl) rfl) <| AR.nil <| hK1 _ (AWP.weak (Weak.kt [] rfl) ?_)
 refine awp_seqK fun K2 hK2 => awp_reg rfl <| AR.op (r := .agg [i64 4, i64 1]) rfl (aop_build rfl bd47 rfl rfl rfl) <| AR.op (r := .clip (List.map G.api_Take.av ([(G.api_Take.mk 4 1)] : List G.api_Take))) rfl (aop_buildSlice rfl (xo := [.tmp 11]) rfl rfl rfl (by simp) (by simp) el48 ze48 (by decide)) <| AR.op (r := .agg [i64 1, nilS, .clip (List.map G.api_Take.av ([(G.api_Take.mk 4 1)] : List G.api_Take))]) rfl (aop_build rfl bd51 rfl rfl rfl) <| AR.keep [13] rfl <| AR.op (r := .clip (List.map i64 [4])) rfl (aop_buildSlice rfl (xo := [.const (.int .i64 4)]) rfl rfl rfl (by simp [AV.solid]) (by simp [AV.flat]) el49 ze49 (by decide)) <| AR.op (r := .agg [i64 2, .clip (List.map i64 [4]), nilS]) rfl (aop_build rfl bd51 rfl rfl rfl) ?_
 refine AR.op (r := .clip (List.map i64 [4])) rfl (aop_buildSlice rfl (xo := [.const (.int .i64 4)]) rfl rfl rfl (by simp [AV.solid]) (by simp [AV.flat]) el49 ze49 (by decide)) <| AR.keep [13, 15, 16] rfl <| AR.op (r := .agg [i64 3, .clip (List.map i64 [4]), nilS]) rfl (aop_build rfl bd51 rfl rfl rfl) <| AR.op (r := .clip (List.map G.api_Txn.av ([(G.api_Txn.mk 1 [] ([(G.api_Take.mk 4 1)] : List G.api_Take)), (G.api_Txn.mk 2 [4] []), (G.api_Txn.mk 3 [4] [])] : List G.api_Txn))) rfl ((aop_buildSlice (xs := [.agg [i64 1, nilS, .clip (List.map G.api_Take.av ([(G.api_Take.mk 4 1)] : List G.api_Take))], .agg [i64 2, .clip (List.map i64 [4]), nilS], .agg [i64 3, .clip (List.map i64 [4]), nilS]]) rfl (xo := [.tmp 13, .tmp 15, .tmp 17]) rfl rfl rfl (by simp [AV.solid]) (by simp [AV.flat]) el22 ze22 (by decide)).clipw ⟨⟨.same _, .nil, .clip _, trivial⟩, ⟨.same _, .clip _, .nil, trivial⟩, ⟨.same _, .clip _, .nil, trivial⟩, trivial⟩) <| AR.op (r := .agg [.clip (List.map G.api_Txn.av ([(G.api_Txn.mk 1 [] ([(G.api_Take.mk 4 1)] : List G.api_Take)), (G.api_Txn.mk 2 [4] []), (G.api_Txn.mk 3 [4] [])] : List G.api_Txn))]) rfl (aop_build rfl bd24 rfl rfl rfl) <| AR.keep [19] rfl <| AR.op (r := .ref 0 0 0) rfl (aop_alloc 1 [.agg [nilS]] rfl zr24 (by kernel_rfl) (.inl ⟨rfl, rfl⟩)) <| AR.op rfl (aop_store (e' := .agg [.clip (List.map G.api_Txn.av ([(G.api_Txn.mk 1 [] ([(G.api_Take.mk 4 1)] : List G.api_Take)), (G.api_Txn.mk 2 [4] []), (G.api_Txn.mk 3 [4] [])] : List G.api_Txn))]) rfl rfl rfl rfl rfl rfl sz24 rfl dt rfl) ?_
 refine AR.nil <| hK2 _ (AWP.weak (Weak.e (fr' := [(1, .pp [.clip (List.map G.api_Txn.av ([(G.api_Txn.mk 1 [] ([(G.api_Take.mk 4 1)] : List G.api_Take)), (G.api_Txn.mk 2 [4] []), (G.api_Txn.mk 3 [4] [])] : List G.api_Txn))] 0)]) (H' := .empty) ⟨⟨_, rfl, .frzA rfl rfl rfl rfl (by simp)⟩, trivial⟩) ?_)
 refine awp_seqK fun K3 hK3 => awp_reg rfl <| AR.op (r := .agg [i64 4, i64 1, i64 2]) rfl (aop_build rfl bd38 rfl rfl rfl) <| AR.op (r := .clip (List.map G.api_Choice.av ([(G.api_Choice.mk 4 1 2)] : List G.api_Choice))) rfl (aop_buildSlice rfl (xo := [.tmp 20]) rfl rfl rfl (by simp) (by simp) el25 ze25 (by decide)) <| AR.op rfl (aop_move (.inr rfl) rfl) <| AR.nil <| hK3 _ (AWP.weak (Weak.kt [1, 2] rfl) ?_)
 refine awp_seqK fun K4 hK4 => awp_reg rfl <| AR.op (r := .agg [.clip (List.map G.api_Txn.av ([(G.api_Txn.mk 1 [] ([(G.api_Take.mk 4 1)] : List G.api_Take)), (G.api_Txn.mk 2 [4] []), (G.api_Txn.mk 3 [4] [])] : List G.api_Txn))]) rfl (aop_load_pp rfl rfl sz24 rfl) <| AR.op rfl (aop_move (.inl rfl) rfl) ?_
 obtain ⟨r27, hr27, h⟩ := Sh.bind_some' h
 refine AR.op (r := G.graph_Graph.av r27) rfl (aop_callN rfl (ys := [.agg [.clip (List.map G.api_Txn.av ([(G.api_Txn.mk 1 [] ([(G.api_Take.mk 4 1)] : List G.api_Take)), (G.api_Txn.mk 2 [4] []), (G.api_Txn.mk 3 [4] [])] : List G.api_Txn))], .clip (List.map G.api_Choice.av ([(G.api_Choice.mk 4 1 2)] : List G.api_Choice))]) (xs := [G.api_Hist.av (G.api_Hist.mk ([(G.api_Txn.mk 1 [] ([(G.api_Take.mk 4 1)] : List G.api_Take)), (G.api_Txn.mk 2 [4] []), (G.api_Txn.mk 3 [4] [])] : List G.api_Txn)), .sl (List.map G.api_Choice.av ([(G.api_Choice.mk 4 1 2)] : List G.api_Choice))]) rfl (Weak.e (fr' := argsFr 0 [G.api_Hist.av (G.api_Hist.mk ([(G.api_Txn.mk 1 [] ([(G.api_Take.mk 4 1)] : List G.api_Take)), (G.api_Txn.mk 2 [4] []), (G.api_Txn.mk 3 [4] [])] : List G.api_Txn)), .sl (List.map G.api_Choice.av ([(G.api_Choice.mk 4 1 2)] : List G.api_Choice))]) (H' := .empty) ⟨⟨.agg [.clip (List.map G.api_Txn.av ([(G.api_Txn.mk 1 [] ([(G.api_Take.mk 4 1)] : List G.api_Take)), (G.api_Txn.mk 2 [4] []), (G.api_Txn.mk 3 [4] [])] : List G.api_Txn))], rfl, .ag ⟨.wide _ (by simp), trivial⟩⟩, ⟨.clip (List.map G.api_Choice.av ([(G.api_Choice.mk 4 1 2)] : List G.api_Choice)), rfl, .wide _ (by simp)⟩, trivial⟩) rfl (by simp) (choice_Ww_ok hT hr27)) <| AR.keep [1, 2, 24] rfl <| AR.op (r := .ref 0 0 0) rfl (aop_alloc 2 [.agg [i64 0, nilS]] rfl zr32 (by kernel_rfl) (.inl ⟨rfl, rfl⟩)) <| AR.op rfl (aop_store (e' := G.graph_Graph.av r27) rfl rfl rfl rfl rfl rfl sz32 rfl dt rfl) <| AR.nil <| hK4 _ (AWP.weak (Weak.e (fr' := [(1, .pp [.clip (List.map G.api_Txn.av ([(G.api_Txn.mk 1 [] ([(G.api_Take.mk 4 1)] : List G.api_Take)), (G.api_Txn.mk 2 [4] []), (G.api_Txn.mk 3 [4] [])] : List G.api_Txn))] 0), (2, .clip (List.map G.api_Choice.av ([(G.api_Choice.mk 4 1 2)] : List G.api_Choice))), (3, .pp [i64 r27.N, .sl (List.map u64 r27.Rows)] 0)]) (H' := .empty) ⟨.k, ⟨.clip (List.map G.api_Choice.av ([(G.api_Choice.mk 4 1 2)] : List G.api_Choice)), rfl, .sm⟩, ⟨_, rfl, .frzA rfl rfl rfl rfl (by simp)⟩, trivial⟩) ?_)
 refine awp_seqK fun K5 hK5 => awp_reg rfl <| AR.op (r := .agg [.clip (List.map G.api_Txn.av ([(G.api_Txn.mk 1 [] ([(G.api_Take.mk 4 1)] : List G.api_Take)), (G.api_Txn.mk 2 [4] []), (G.api_Txn.mk 3 [4] [])] : List G.api_Txn))]) rfl (aop_load_pp rfl rfl sz24 rfl) <| AR.op rfl (aop_move (.inl rfl) rfl) ?_
 obtain ⟨r29, hr29, h⟩ := Sh.bind_some' h
 refine AR.op (r := G.graph_Graph.av r29) rfl (aop_callN rfl (ys := [.agg [.clip (List.map G.api_Txn.av ([(G.api_Txn.mk 1 [] ([(G.api_Take.mk 4 1)] : List G.api_Take)), (G.api_Txn.mk 2 [4] []), (G.api_Txn.mk 3 [4] [])] : List G.api_Txn))], .clip (List.map G.api_Choice.av ([(G.api_Choice.mk 4 1 2)] : List G.api_Choice))]) (xs := [G.api_Hist.av (G.api_Hist.mk ([(G.api_Txn.mk 1 [] ([(G.api_Take.mk 4 1)] : List G.api_Take)), (G.api_Txn.mk 2 [4] []), (G.api_Txn.mk 3 [4] [])] : List G.api_Txn)), .sl (List.map G.api_Choice.av ([(G.api_Choice.mk 4 1 2)] : List G.api_Choice))]) rfl (Weak.e (fr' := argsFr 0 [G.api_Hist.av (G.api_Hist.mk ([(G.api_Txn.mk 1 [] ([(G.api_Take.mk 4 1)] : List G.api_Take)), (G.api_Txn.mk 2 [4] []), (G.api_Txn.mk 3 [4] [])] : List G.api_Txn)), .sl (List.map G.api_Choice.av ([(G.api_Choice.mk 4 1 2)] : List G.api_Choice))]) (H' := .empty) ⟨⟨.agg [.clip (List.map G.api_Txn.av ([(G.api_Txn.mk 1 [] ([(G.api_Take.mk 4 1)] : List G.api_Take)), (G.api_Txn.mk 2 [4] []), (G.api_Txn.mk 3 [4] [])] : List G.api_Txn))], rfl, .ag ⟨.wide _ (by simp), trivial⟩⟩, ⟨.clip (List.map G.api_Choice.av ([(G.api_Choice.mk 4 1 2)] : List G.api_Choice)), rfl, .wide _ (by simp)⟩, trivial⟩) rfl (by simp) (choice_Rw_ok hT hr29)) <| AR.keep [1, 2, 3, 27] rfl <| AR.op (r := .ref 0 0 0) rfl (aop_alloc 2 [.agg [i64 0, nilS]] rfl zr32 (by kernel_rfl) (.inl ⟨rfl, rfl⟩)) <| AR.op rfl (aop_store (e' := G.graph_Graph.av r29) rfl rfl rfl rfl rfl rfl sz32 rfl dt rfl) <| AR.nil <| hK5 _ (AWP.weak (Weak.e (fr' := [(1, .pp [.clip (List.map G.api_Txn.av ([(G.api_Txn.mk 1 [] ([(G.api_Take.mk 4 1)] : List G.api_Take)), (G.api_Txn.mk 2 [4] []), (G.api_Txn.mk 3 [4] [])] : List G.api_Txn))] 0), (2, .clip (List.map G.api_Choice.av ([(G.api_Choice.mk 4 1 2)] : List G.api_Choice))), (3, .pp [i64 r27.N, .sl (List.map u64 r27.Rows)] 0), (4, .pp [i64 r29.N, .sl (List.map u64 r29.Rows)] 0)]) (H' := .empty) ⟨.k, ⟨.clip (List.map G.api_Choice.av ([(G.api_Choice.mk 4 1 2)] : List G.api_Choice)), rfl, .sm⟩, .k, ⟨_, rfl, .frzA rfl rfl rfl rfl (by simp)⟩, trivial⟩) ?_)
 refine awp_seqK fun K6 hK6 => awp_reg rfl <| AR.op (r := .agg [.clip (List.map G.api_Txn.av ([(G.api_Txn.mk 1 [] ([(G.api_Take.mk 4 1)] : List G.api_Take)), (G.api_Txn.mk 2 [4] []), (G.api_Txn.mk 3 [4] [])] : List G.api_Txn))]) rfl (aop_load_pp rfl rfl sz24 rfl) <| AR.op rfl (aop_move (.inl rfl) rfl) ?_
 obtain ⟨r31, hr31, h⟩ := Sh.bind_some' h
 refine AR.op (r := .tuple [G.graph_Graph.av r31.1, i64 r31.2]) rfl (aop_callN rfl (ys := [.agg [.clip (List.map G.api_Txn.av ([(G.api_Txn.mk 1 [] ([(G.api_Take.mk 4 1)] : List G.api_Take)), (G.api_Txn.mk 2 [4] []), (G.api_Txn.mk 3 [4] [])] : List G.api_Txn))], i64 1, .clip (List.map G.api_Choice.av ([(G.api_Choice.mk 4 1 2)] : List G.api_Choice))]) (xs := [G.api_Hist.av (G.api_Hist.mk ([(G.api_Txn.mk 1 [] ([(G.api_Take.mk 4 1)] : List G.api_Take)), (G.api_Txn.mk 2 [4] []), (G.api_Txn.mk 3 [4] [])] : List G.api_Txn)), i64 1, .sl (List.map G.api_Choice.av ([(G.api_Choice.mk 4 1 2)] : List G.api_Choice))]) rfl (Weak.e (fr' := argsFr 0 [G.api_Hist.av (G.api_Hist.mk ([(G.api_Txn.mk 1 [] ([(G.api_Take.mk 4 1)] : List G.api_Take)), (G.api_Txn.mk 2 [4] []), (G.api_Txn.mk 3 [4] [])] : List G.api_Txn)), i64 1, .sl (List.map G.api_Choice.av ([(G.api_Choice.mk 4 1 2)] : List G.api_Choice))]) (H' := .empty) ⟨⟨.agg [.clip (List.map G.api_Txn.av ([(G.api_Txn.mk 1 [] ([(G.api_Take.mk 4 1)] : List G.api_Take)), (G.api_Txn.mk 2 [4] []), (G.api_Txn.mk 3 [4] [])] : List G.api_Txn))], rfl, .ag ⟨.wide _ (by simp), trivial⟩⟩, .k, ⟨.clip (List.map G.api_Choice.av ([(G.api_Choice.mk 4 1 2)] : List G.api_Choice)), rfl, .wide _ (by simp)⟩, trivial⟩) rfl (by simp) (choice_Full_ok hT hr31)) <| AR.keep [1, 2, 3, 4, 31] rfl <| AR.op rfl (aop_move (.inl rfl) rfl) <| AR.op (r := G.graph_Graph.av r31.1) rfl (aop_extract rfl rfl rfl) <| AR.op (r := i64 r31.2) rfl (aop_extract rfl rfl rfl) <| AR.keep [1, 2, 3, 4, 32, 33] rfl <| AR.op (r := .ref 0 0 0) rfl (aop_alloc 2 [.agg [i64 0, nilS]] rfl zr32 (by kernel_rfl) (.inl ⟨rfl, rfl⟩)) <| AR.op rfl (aop_store (e' := G.graph_Graph.av r31.1) rfl rfl rfl rfl rfl rfl sz32 rfl dt rfl) ?_
 refine AR.op rfl (aop_move (.inr rfl) rfl) <| AR.nil <| hK6 _ (AWP.weak (Weak.e (fr' := [(1, .pp [.clip (List.map G.api_Txn.av ([(G.api_Txn.mk 1 [] ([(G.api_Take.mk 4 1)] : List G.api_Take)), (G.api_Txn.mk 2 [4] []), (G.api_Txn.mk 3 [4] [])] : List G.api_Txn))] 0), (2, .clip (List.map G.api_Choice.av ([(G.api_Choice.mk 4 1 2)] : List G.api_Choice))), (3, .pp [i64 r27.N, .sl (List.map u64 r27.Rows)] 0), (4, .pp [i64 r29.N, .sl (List.map u64 r29.Rows)] 0), (5, .pp [i64 r31.1.N, .sl (List.map u64 r31.1.Rows)] 0), (6, i64 r31.2)]) (H' := .empty) ⟨.k, ⟨.clip (List.map G.api_Choice.av ([(G.api_Choice.mk 4 1 2)] : List G.api_Choice)), rfl, .sm⟩, .k, .k, ⟨_, rfl, .frzA rfl rfl rfl rfl (by simp)⟩, .k, trivial⟩) ?_)
 refine awp_seqK fun K7 hK7 => awp_reg rfl <| AR.op (r := .agg [.clip (List.map G.api_Txn.av ([(G.api_Txn.mk 1 [] ([(G.api_Take.mk 4 1)] : List G.api_Take)), (G.api_Txn.mk 2 [4] []), (G.api_Txn.mk 3 [4] [])] : List G.api_Txn))]) rfl (aop_load_pp rfl rfl sz24 rfl) ?_
 obtain ⟨r33, hr33, h⟩ := Sh.bind_some' h
 refine AR.op (r := .tuple [G.api_Choice.av r33.1, bl r33.2]) rfl (aop_callN rfl (ys := [.agg [.clip (List.map G.api_Txn.av ([(G.api_Txn.mk 1 [] ([(G.api_Take.mk 4 1)] : List G.api_Take)), (G.api_Txn.mk 2 [4] []), (G.api_Txn.mk 3 [4] [])] : List G.api_Txn))], nilS]) (xs := [G.api_Hist.av (G.api_Hist.mk ([(G.api_Txn.mk 1 [] ([(G.api_Take.mk 4 1)] : List G.api_Take)), (G.api_Txn.mk 2 [4] []), (G.api_Txn.mk 3 [4] [])] : List G.api_Txn)), .sl (List.map G.api_Choice.av [])]) rfl (Weak.e (fr' := argsFr 0 [G.api_Hist.av (G.api_Hist.mk ([(G.api_Txn.mk 1 [] ([(G.api_Take.mk 4 1)] : List G.api_Take)), (G.api_Txn.mk 2 [4] []), (G.api_Txn.mk 3 [4] [])] : List G.api_Txn)), .sl (List.map G.api_Choice.av [])]) (H' := .empty) ⟨⟨.agg [.clip (List.map G.api_Txn.av ([(G.api_Txn.mk 1 [] ([(G.api_Take.mk 4 1)] : List G.api_Take)), (G.api_Txn.mk 2 [4] []), (G.api_Txn.mk 3 [4] [])] : List G.api_Txn))], rfl, .ag ⟨.wide _ (by simp), trivial⟩⟩, ⟨_, rfl, .nilsl⟩, trivial⟩) rfl (by simp) (choice_Open_ok hT hr33)) <| AR.op rfl (aop_move (.inl rfl) rfl) <| AR.keep [1, 2, 3, 4, 5, 6, 34] rfl <| AR.op (r := G.api_Choice.av r33.1) rfl (aop_extract rfl rfl rfl) <| AR.op (r := bl r33.2) rfl (aop_extract rfl rfl rfl) <| AR.op (r := .ref 0 0 0) rfl (aop_alloc 3 [.agg [i64 0, i64 0, i64 0]] rfl zr38 (by kernel_rfl) (.inl ⟨rfl, rfl⟩)) <| AR.keep [1, 2, 3, 4, 5, 6, 37, 38, 7] rfl <| AR.op rfl (aop_store (e' := G.api_Choice.av r33.1) rfl rfl rfl rfl rfl rfl sz38 rfl dt rfl) ?_
 refine AR.op rfl (aop_move (.inr rfl) rfl) <| AR.nil <| hK7 _ (AWP.weak (Weak.e (fr' := [(1, .pp [.clip (List.map G.api_Txn.av ([(G.api_Txn.mk 1 [] ([(G.api_Take.mk 4 1)] : List G.api_Take)), (G.api_Txn.mk 2 [4] []), (G.api_Txn.mk 3 [4] [])] : List G.api_Txn))] 0), (2, .clip (List.map G.api_Choice.av ([(G.api_Choice.mk 4 1 2)] : List G.api_Choice))), (3, .pp [i64 r27.N, .sl (List.map u64 r27.Rows)] 0), (4, .pp [i64 r29.N, .sl (List.map u64 r29.Rows)] 0), (5, .pp [i64 r31.1.N, .sl (List.map u64 r31.1.Rows)] 0), (6, i64 r31.2), (7, .pp [i64 r33.1.Key, i64 r33.1.A, i64 r33.1.B] 0), (8, bl r33.2)]) (H' := .empty) ⟨.k, ⟨.clip (List.map G.api_Choice.av ([(G.api_Choice.mk 4 1 2)] : List G.api_Choice)), rfl, .sm⟩, .k, .k, .k, .k, ⟨_, rfl, .frzA rfl rfl rfl rfl (by simp)⟩, .k, trivial⟩) ?_)
 refine awp_seqK fun K8 hK8 => awp_reg rfl <| AR.op (r := .agg [.clip (List.map G.api_Txn.av ([(G.api_Txn.mk 1 [] ([(G.api_Take.mk 4 1)] : List G.api_Take)), (G.api_Txn.mk 2 [4] []), (G.api_Txn.mk 3 [4] [])] : List G.api_Txn))]) rfl (aop_load_pp rfl rfl sz24 rfl) <| AR.op rfl (aop_move (.inl rfl) rfl) ?_
 obtain ⟨r35, hr35, h⟩ := Sh.bind_some' h
 refine AR.op (r := .tuple [G.api_Choice.av r35.1, bl r35.2]) rfl (aop_callN rfl (ys := [.agg [.clip (List.map G.api_Txn.av ([(G.api_Txn.mk 1 [] ([(G.api_Take.mk 4 1)] : List G.api_Take)), (G.api_Txn.mk 2 [4] []), (G.api_Txn.mk 3 [4] [])] : List G.api_Txn))], .clip (List.map G.api_Choice.av ([(G.api_Choice.mk 4 1 2)] : List G.api_Choice))]) (xs := [G.api_Hist.av (G.api_Hist.mk ([(G.api_Txn.mk 1 [] ([(G.api_Take.mk 4 1)] : List G.api_Take)), (G.api_Txn.mk 2 [4] []), (G.api_Txn.mk 3 [4] [])] : List G.api_Txn)), .sl (List.map G.api_Choice.av ([(G.api_Choice.mk 4 1 2)] : List G.api_Choice))]) rfl (Weak.e (fr' := argsFr 0 [G.api_Hist.av (G.api_Hist.mk ([(G.api_Txn.mk 1 [] ([(G.api_Take.mk 4 1)] : List G.api_Take)), (G.api_Txn.mk 2 [4] []), (G.api_Txn.mk 3 [4] [])] : List G.api_Txn)), .sl (List.map G.api_Choice.av ([(G.api_Choice.mk 4 1 2)] : List G.api_Choice))]) (H' := .empty) ⟨⟨.agg [.clip (List.map G.api_Txn.av ([(G.api_Txn.mk 1 [] ([(G.api_Take.mk 4 1)] : List G.api_Take)), (G.api_Txn.mk 2 [4] []), (G.api_Txn.mk 3 [4] [])] : List G.api_Txn))], rfl, .ag ⟨.wide _ (by simp), trivial⟩⟩, ⟨.clip (List.map G.api_Choice.av ([(G.api_Choice.mk 4 1 2)] : List G.api_Choice)), rfl, .wide _ (by simp)⟩, trivial⟩) rfl (by simp) (choice_Open_ok hT hr35)) <| AR.keep [1, 2, 3, 4, 5, 6, 7, 8, 42] rfl <| AR.op rfl (aop_move (.inl rfl) rfl) <| AR.op (r := G.api_Choice.av r35.1) rfl (aop_extract rfl rfl rfl) <| AR.op (r := bl r35.2) rfl (aop_extract rfl rfl rfl) <| AR.keep [1, 2, 3, 4, 5, 6, 7, 8, 43, 44] rfl <| AR.op (r := .ref 0 0 0) rfl (aop_alloc 3 [.agg [i64 0, i64 0, i64 0]] rfl zr38 (by kernel_rfl) (.inl ⟨rfl, rfl⟩)) <| AR.op rfl (aop_store (e' := G.api_Choice.av r35.1) rfl rfl rfl rfl rfl rfl sz38 rfl dt rfl) ?_
 refine AR.op rfl (aop_move (.inr rfl) rfl) <| AR.nil <| hK8 _ (AWP.weak (Weak.e (fr' := [(1, .pp [.clip (List.map G.api_Txn.av ([(G.api_Txn.mk 1 [] ([(G.api_Take.mk 4 1)] : List G.api_Take)), (G.api_Txn.mk 2 [4] []), (G.api_Txn.mk 3 [4] [])] : List G.api_Txn))] 0), (2, .clip (List.map G.api_Choice.av ([(G.api_Choice.mk 4 1 2)] : List G.api_Choice))), (3, .pp [i64 r27.N, .sl (List.map u64 r27.Rows)] 0), (4, .pp [i64 r29.N, .sl (List.map u64 r29.Rows)] 0), (5, .pp [i64 r31.1.N, .sl (List.map u64 r31.1.Rows)] 0), (6, i64 r31.2), (7, .pp [i64 r33.1.Key, i64 r33.1.A, i64 r33.1.B] 0), (8, bl r33.2), (10, bl r35.2)]) (H' := .empty) ⟨.k, ⟨.clip (List.map G.api_Choice.av ([(G.api_Choice.mk 4 1 2)] : List G.api_Choice)), rfl, .sm⟩, .k, .k, .k, .k, .k, .k, .k, trivial⟩) ?_)
 refine awp_seqK fun K9 hK9 => awp_any [(true, false), (true, false), (true, false), (true, false), (true, false), (true, false), (true, false), (true, false), (true, false), (true, false), (true, false), (true, false), (true, false), (true, false), (true, false), (true, false), (true, false), (true, false), (true, false), (true, false), (true, false), (true, false), (true, false), (true, false), (true, false), (true, false), (true, false), (true, false), (true, false), (true, false), (true, false), (true, false), (true, false), (true, false), (true, false), (true, false), (true, false), (true, false), (true, false), (true, false), (true, false), (true, false), (true, false), (true, false), (true, false), (true, false), (true, false), (true, false), (true, false), (true, false)] (by kernel_rfl) (by kernel_rfl) rfl ?_
 refine ARH.dry (r := G.graph_Graph.av r27) rfl (fun _ => aop_load_pp rfl rfl sz32 rfl) ?_
 obtain ⟨r55, hr55, h⟩ := Sh.bind_some' h
 refine ARH.dry (r := bl r55) rfl (fun _ => aop_call1 rfl rfl (by simp) (graph_Has_ok hT hr55)) <| ARH.dry rfl (fun _ => aop_move (.inl rfl) rfl) <| ARH.keep [1, 2, 4, 5, 6, 7, 8, 10, 47] rfl ?_
 rcases Bool.eq_false_or_eq_true (r55) with hb56 | hb56
 ·rw [hb56]
  replace h := Sh.if_t h hb56
  refine ARH.dry (r := G.graph_Graph.av r29) rfl (fun _ => aop_load_pp rfl rfl sz32 rfl) ?_
  obtain ⟨r57, hr57, h⟩ := Sh.bind_some' h
  refine ARH.dry (r := bl r57) rfl (fun _ => aop_call1 rfl rfl (by simp) (graph_Has_ok hT hr57)) <| ARH.dry rfl (fun _ => aop_pick rfl rfl rfl) <| ARH.keep [1, 2, 5, 6, 7, 8, 10, 50] rfl <| ARH.dry rfl (fun _ => aop_move (.inl rfl) rfl) ?_
  rcases Bool.eq_false_or_eq_true (r57) with hb58 | hb58
  ·rw [hb58]
   replace h := Sh.if_t h hb58
   refine ARH.dry rfl (fun _ => aop_move (.inl rfl) rfl) <| ARH.dry (r := bl (decide (r31.2 = 0))) rfl (fun _ => aop_eql rfl rfl rfl) <| ARH.keep [1, 2, 5, 7, 8, 10, 51, 53] rfl <| ARH.dry rfl (fun _ => aop_pick rfl rfl rfl) <| ARH.dry rfl (fun _ => aop_move (.inl rfl) rfl) ?_
   rcases Bool.eq_false_or_eq_true (decide (r31.2 = 0)) with hb59 | hb59
   ·rw [hb59]
    replace h := Sh.if_t h hb59
    refine ARH.dry (r := G.graph_Graph.av r31.1) rfl (fun _ => aop_load_pp rfl rfl sz32 rfl) <| ARH.keep [1, 2, 5, 7, 8, 10, 55, 56] rfl ?_
    obtain ⟨r60, hr60, h⟩ := Sh.bind_some' h
    refine ARH.dry (r := bl r60) rfl (fun _ => aop_call1 rfl rfl (by simp) (graph_Has_ok hT hr60)) <| ARH.dry rfl (fun _ => aop_pick rfl rfl rfl) <| ARH.dry rfl (fun _ => aop_move (.inl rfl) rfl) <| ARH.keep [1, 2, 5, 7, 8, 10, 59] rfl ?_
    rcases Bool.eq_false_or_eq_true (r60) with hb61 | hb61
    ·rw [hb61]
     replace h := Sh.if_t h hb61
     refine ARH.dry (r := G.graph_Graph.av r31.1) rfl (fun _ => aop_load_pp rfl rfl sz32 rfl) ?_
     obtain ⟨r62, hr62, h⟩ := Sh.bind_some' h
     refine ARH.dry (r := bl r62) rfl (fun _ => aop_call1 rfl rfl (by simp) (graph_Has_ok hT hr62)) <| ARH.dry rfl (fun _ => aop_pick rfl rfl rfl) <| ARH.keep [1, 2, 5, 7, 8, 10, 62] rfl <| ARH.dry rfl (fun _ => aop_move (.inl rfl) rfl) ?_
     rcases Bool.eq_false_or_eq_true (r62) with hb63 | hb63
     ·rw [hb63]
      replace h := Sh.if_t h hb63
      refine ARH.dry (r := G.graph_Graph.av r31.1) rfl (fun _ => aop_load_pp rfl rfl sz32 rfl) ?_
      obtain ⟨r64, hr64, h⟩ := Sh.bind_some' h
      refine ARH.dry (r := bl r64) rfl (fun _ => aop_call1 rfl rfl (by simp) (graph_Has_ok hT hr64)) <| ARH.keep [1, 2, 7, 8, 10, 63, 65] rfl <| ARH.dry (r := bl (!r64)) rfl (fun _ => aop_not rfl rfl) <| ARH.dry rfl (fun _ => aop_pick rfl rfl rfl) <| ARH.dry rfl (fun _ => aop_move (.inl rfl) rfl) <| ARH.keep [1, 2, 7, 8, 10, 68] rfl ?_
      rcases Bool.eq_false_or_eq_true (!r64) with hb65 | hb65
      ·rw [hb65]
       replace h := Sh.if_t h hb65
       refine ARH.dry (r := .agg [.clip (List.map G.api_Txn.av ([(G.api_Txn.mk 1 [] ([(G.api_Take.mk 4 1)] : List G.api_Take)), (G.api_Txn.mk 2 [4] []), (G.api_Txn.mk 3 [4] [])] : List G.api_Txn))]) rfl (fun _ => aop_load_pp rfl rfl sz24 rfl) <| ARH.dry rfl (fun _ => aop_move (.inl rfl) rfl) ?_
       obtain ⟨r66, hr66, h⟩ := Sh.bind_some' h
       refine ARH.dry (r := bl r66) rfl (fun _ => aop_callN rfl (ys := [.agg [.clip (List.map G.api_Txn.av ([(G.api_Txn.mk 1 [] ([(G.api_Take.mk 4 1)] : List G.api_Take)), (G.api_Txn.mk 2 [4] []), (G.api_Txn.mk 3 [4] [])] : List G.api_Txn))], .clip (List.map G.api_Choice.av ([(G.api_Choice.mk 4 1 2)] : List G.api_Choice))]) (xs := [G.api_Hist.av (G.api_Hist.mk ([(G.api_Txn.mk 1 [] ([(G.api_Take.mk 4 1)] : List G.api_Take)), (G.api_Txn.mk 2 [4] []), (G.api_Txn.mk 3 [4] [])] : List G.api_Txn)), .sl (List.map G.api_Choice.av ([(G.api_Choice.mk 4 1 2)] : List G.api_Choice))]) rfl (Weak.e (fr' := argsFr 0 [G.api_Hist.av (G.api_Hist.mk ([(G.api_Txn.mk 1 [] ([(G.api_Take.mk 4 1)] : List G.api_Take)), (G.api_Txn.mk 2 [4] []), (G.api_Txn.mk 3 [4] [])] : List G.api_Txn)), .sl (List.map G.api_Choice.av ([(G.api_Choice.mk 4 1 2)] : List G.api_Choice))]) (H' := .empty) ⟨⟨.agg [.clip (List.map G.api_Txn.av ([(G.api_Txn.mk 1 [] ([(G.api_Take.mk 4 1)] : List G.api_Take)), (G.api_Txn.mk 2 [4] []), (G.api_Txn.mk 3 [4] [])] : List G.api_Txn))], rfl, .ag ⟨.wide _ (by simp), trivial⟩⟩, ⟨.clip (List.map G.api_Choice.av ([(G.api_Choice.mk 4 1 2)] : List G.api_Choice)), rfl, .wide _ (by simp)⟩, trivial⟩) rfl (by simp) (choice_Right_ok hT hr66)) <| ARH.keep [1, 2, 7, 8, 10, 68, 71] rfl <| ARH.dry rfl (fun _ => aop_pick rfl rfl rfl) <| ARH.dry rfl (fun _ => aop_move (.inl rfl) rfl) ?_
       rcases Bool.eq_false_or_eq_true (r66) with hb67 | hb67
       ·rw [hb67]
        replace h := Sh.if_t h hb67
        refine ARH.dry (r := .agg [.clip (List.map G.api_Txn.av ([(G.api_Txn.mk 1 [] ([(G.api_Take.mk 4 1)] : List G.api_Take)), (G.api_Txn.mk 2 [4] []), (G.api_Txn.mk 3 [4] [])] : List G.api_Txn))]) rfl (fun _ => aop_load_pp rfl rfl sz24 rfl) <| ARH.keep [2, 7, 8, 10, 73, 74] rfl <| ARH.dry (r := .agg [i64 4, i64 1, i64 0]) rfl (fun _ => aop_build rfl bd38 rfl rfl rfl) <| ARH.dry (r := .clip (List.map G.api_Choice.av ([(G.api_Choice.mk 4 1 0)] : List G.api_Choice))) rfl (fun _ => aop_buildSlice rfl (xo := [.tmp 75]) rfl rfl rfl (by simp) (by simp) el25 ze25 (by decide)) ?_
        obtain ⟨r68, hr68, h⟩ := Sh.bind_some' h
        refine ARH.dry (r := bl r68) rfl (fun _ => aop_callN rfl (ys := [.agg [.clip (List.map G.api_Txn.av ([(G.api_Txn.mk 1 [] ([(G.api_Take.mk 4 1)] : List G.api_Take)), (G.api_Txn.mk 2 [4] []), (G.api_Txn.mk 3 [4] [])] : List G.api_Txn))], .clip (List.map G.api_Choice.av ([(G.api_Choice.mk 4 1 0)] : List G.api_Choice))]) (xs := [G.api_Hist.av (G.api_Hist.mk ([(G.api_Txn.mk 1 [] ([(G.api_Take.mk 4 1)] : List G.api_Take)), (G.api_Txn.mk 2 [4] []), (G.api_Txn.mk 3 [4] [])] : List G.api_Txn)), .sl (List.map G.api_Choice.av ([(G.api_Choice.mk 4 1 0)] : List G.api_Choice))]) rfl (Weak.e (fr' := argsFr 0 [G.api_Hist.av (G.api_Hist.mk ([(G.api_Txn.mk 1 [] ([(G.api_Take.mk 4 1)] : List G.api_Take)), (G.api_Txn.mk 2 [4] []), (G.api_Txn.mk 3 [4] [])] : List G.api_Txn)), .sl (List.map G.api_Choice.av ([(G.api_Choice.mk 4 1 0)] : List G.api_Choice))]) (H' := .empty) ⟨⟨.agg [.clip (List.map G.api_Txn.av ([(G.api_Txn.mk 1 [] ([(G.api_Take.mk 4 1)] : List G.api_Take)), (G.api_Txn.mk 2 [4] []), (G.api_Txn.mk 3 [4] [])] : List G.api_Txn))], rfl, .ag ⟨.wide _ (by simp), trivial⟩⟩, ⟨.clip (List.map G.api_Choice.av ([(G.api_Choice.mk 4 1 0)] : List G.api_Choice)), rfl, .wide _ (by simp)⟩, trivial⟩) rfl (by simp) (choice_Right_ok hT hr68)) <| ARH.keep [2, 7, 8, 10, 73, 77] rfl <| ARH.dry (r := bl (!r68)) rfl (fun _ => aop_not rfl rfl) <| ARH.dry rfl (fun _ => aop_pick rfl rfl rfl) <| ARH.dry rfl (fun _ => aop_move (.inl rfl) rfl) <| ARH.keep [2, 7, 8, 10, 80] rfl ?_
        rcases Bool.eq_false_or_eq_true (!r68) with hb69 | hb69
        ·rw [hb69]
         replace h := Sh.if_t h hb69
         refine ARH.dry rfl (fun _ => aop_move (.inl rfl) rfl) <| ARH.dry rfl (fun _ => aop_pick rfl rfl rfl) <| ARH.dry rfl (fun _ => aop_move (.inl rfl) rfl) <| ARH.keep [2, 7, 10, 83] rfl ?_
         rcases Bool.eq_false_or_eq_true (r33.2) with hb70 | hb70
         ·rw [hb70]
          replace h := Sh.if_t h hb70
          refine ARH.dry (r := G.api_Choice.av r33.1) rfl (fun _ => aop_load_pp rfl rfl sz38 rfl) <| ARH.dry rfl (fun _ => aop_move (.inl rfl) rfl) ?_
          obtain ⟨x71, hx71, h⟩ := Sh.bind_some' h
          obtain ⟨k72, hi72, hl72⟩ := Sh.idx_some hx71
          refine ARH.dry rfl (fun _ => t_index_clip G.api_Choice.av ([(G.api_Choice.mk 4 1 2)] : List G.api_Choice) hi72 hl72 rfl rfl rfl el25 rfl) <| ARH.keep [10, 83, 84, 86] rfl <| ARH.dry (r := G.api_Choice.av x71) rfl (fun _ => aop_load_pp rfl rfl sz38 rfl) <| ARH.dry (r := bl (decide (r33.1 = x71))) rfl (fun _ => t_eq_api_Choice (a := r33.1) (b := x71) rfl rfl rfl) <| ARH.dry rfl (fun _ => aop_pick rfl rfl rfl) <| ARH.keep [10, 89] rfl <| ARH.dry rfl (fun _ => aop_move (.inl rfl) rfl) ?_
          rcases Bool.eq_false_or_eq_true (decide (r33.1 = x71)) with hb73 | hb73
          ·rw [hb73]
           replace h := Sh.if_t h hb73
           refine ARH.dry rfl (fun _ => aop_move (.inl rfl) rfl) <| ARH.dry (r := bl (!r35.2)) rfl (fun _ => aop_not rfl rfl) <| ARH.keep [90, 92] rfl <| ARH.dry rfl (fun _ => aop_pick rfl rfl rfl) <| ARH.dry rfl (fun _ => aop_move (.inr rfl) rfl) <| ARH.nil <| hK9 _ (AWP.weak (Weak.kt [0] rfl) ?_)
           refine awp_ret ?_
           obtain rfl := Option.some.inj h
           refine ⟨.inr rfl, bl (!r35.2), rfl, ?_⟩
           exact Weak.e ⟨.k, trivial⟩
          ·rw [hb73]
           replace h := Sh.if_f h hb73
           refine ARH.skip rfl <| ARH.skip rfl <| ARH.keep [90, 92] rfl <| ARH.dry rfl (fun _ => aop_pick rfl rfl rfl) <| ARH.dry rfl (fun _ => aop_move (.inr rfl) rfl) <| ARH.nil <| hK9 _ (AWP.weak (Weak.kt [0] rfl) ?_)
           refine awp_ret ?_
           obtain rfl := Option.some.inj h
           refine ⟨.inr rfl, bl false, rfl, ?_⟩
           exact Weak.e ⟨.k, trivial⟩
         ·rw [hb70]
          replace h := Sh.if_f h hb70
          refine ARH.skip rfl <| ARH.skip rfl <| ARH.skip rfl <| ARH.keep [10, 83, 84, 86] rfl <| ARH.skip rfl <| ARH.skip rfl <| ARH.dry rfl (fun _ => aop_pick rfl rfl rfl) <| ARH.keep [10, 89] rfl ?_
          refine ARH.dry rfl (fun _ => aop_move (.inl rfl) rfl) <| ARH.skip rfl <| ARH.skip rfl <| ARH.keep [90, 92] rfl <| ARH.dry rfl (fun _ => aop_pick rfl rfl rfl) <| ARH.dry rfl (fun _ => aop_move (.inr rfl) rfl) <| ARH.nil <| hK9 _ (AWP.weak (Weak.kt [0] rfl) ?_)
          refine awp_ret ?_
          obtain rfl := Option.some.inj h
          refine ⟨.inr rfl, bl false, rfl, ?_⟩
          exact Weak.e ⟨.k, trivial⟩
        ·rw [hb69]
         replace h := Sh.if_f h hb69
         refine ARH.skip rfl <| ARH.dry rfl (fun _ => aop_pick rfl rfl rfl) <| ARH.dry rfl (fun _ => aop_move (.inl rfl) rfl) <| ARH.keep [2, 7, 10, 83] rfl <| ARH.skip rfl <| ARH.skip rfl <| ARH.skip rfl <| ARH.keep [10, 83, 84, 86] rfl ?_
         refine ARH.skip rfl <| ARH.skip rfl <| ARH.dry rfl (fun _ => aop_pick rfl rfl rfl) <| ARH.keep [10, 89] rfl <| ARH.dry rfl (fun _ => aop_move (.inl rfl) rfl) <| ARH.skip rfl <| ARH.skip rfl <| ARH.keep [90, 92] rfl ?_
         refine ARH.dry rfl (fun _ => aop_pick rfl rfl rfl) <| ARH.dry rfl (fun _ => aop_move (.inr rfl) rfl) <| ARH.nil <| hK9 _ (AWP.weak (Weak.kt [0] rfl) ?_)
         refine awp_ret ?_
         obtain rfl := Option.some.inj h
         refine ⟨.inr rfl, bl false, rfl, ?_⟩
         exact Weak.e ⟨.k, trivial⟩
       ·rw [hb67]
        replace h := Sh.if_f h hb67
        refine ARH.skip rfl <| ARH.keep [2, 7, 8, 10, 73, 74] rfl <| ARH.skip rfl <| ARH.skip rfl <| ARH.skip rfl <| ARH.keep [2, 7, 8, 10, 73, 77] rfl <| ARH.skip rfl <| ARH.dry rfl (fun _ => aop_pick rfl rfl rfl) ?_
        refine ARH.dry rfl (fun _ => aop_move (.inl rfl) rfl) <| ARH.keep [2, 7, 8, 10, 80] rfl <| ARH.skip rfl <| ARH.dry rfl (fun _ => aop_pick rfl rfl rfl) <| ARH.dry rfl (fun _ => aop_move (.inl rfl) rfl) <| ARH.keep [2, 7, 10, 83] rfl <| ARH.skip rfl <| ARH.skip rfl ?_
        refine ARH.skip rfl <| ARH.keep [10, 83, 84, 86] rfl <| ARH.skip rfl <| ARH.skip rfl <| ARH.dry rfl (fun _ => aop_pick rfl rfl rfl) <| ARH.keep [10, 89] rfl <| ARH.dry rfl (fun _ => aop_move (.inl rfl) rfl) <| ARH.skip rfl ?_
        refine ARH.skip rfl <| ARH.keep [90, 92] rfl <| ARH.dry rfl (fun _ => aop_pick rfl rfl rfl) <| ARH.dry rfl (fun _ => aop_move (.inr rfl) rfl) <| ARH.nil <| hK9 _ (AWP.weak (Weak.kt [0] rfl) ?_)
        refine awp_ret ?_
        obtain rfl := Option.some.inj h
        refine ⟨.inr rfl, bl false, rfl, ?_⟩
        exact Weak.e ⟨.k, trivial⟩
      ·rw [hb65]
       replace h := Sh.if_f h hb65
       refine ARH.skip rfl <| ARH.skip rfl <| ARH.skip rfl <| ARH.keep [1, 2, 7, 8, 10, 68, 71] rfl <| ARH.dry rfl (fun _ => aop_pick rfl rfl rfl) <| ARH.dry rfl (fun _ => aop_move (.inl rfl) rfl) <| ARH.skip rfl <| ARH.keep [2, 7, 8, 10, 73, 74] rfl ?_
       refine ARH.skip rfl <| ARH.skip rfl <| ARH.skip rfl <| ARH.keep [2, 7, 8, 10, 73, 77] rfl <| ARH.skip rfl <| ARH.dry rfl (fun _ => aop_pick rfl rfl rfl) <| ARH.dry rfl (fun _ => aop_move (.inl rfl) rfl) <| ARH.keep [2, 7, 8, 10, 80] rfl ?_
       refine ARH.skip rfl <| ARH.dry rfl (fun _ => aop_pick rfl rfl rfl) <| ARH.dry rfl (fun _ => aop_move (.inl rfl) rfl) <| ARH.keep [2, 7, 10, 83] rfl <| ARH.skip rfl <| ARH.skip rfl <| ARH.skip rfl <| ARH.keep [10, 83, 84, 86] rfl ?_
       refine ARH.skip rfl <| ARH.skip rfl <| ARH.dry rfl (fun _ => aop_pick rfl rfl rfl) <| ARH.keep [10, 89] rfl <| ARH.dry rfl (fun _ => aop_move (.inl rfl) rfl) <| ARH.skip rfl <| ARH.skip rfl <| ARH.keep [90, 92] rfl ?_
       refine ARH.dry rfl (fun _ => aop_pick rfl rfl rfl) <| ARH.dry rfl (fun _ => aop_move (.inr rfl) rfl) <| ARH.nil <| hK9 _ (AWP.weak (Weak.kt [0] rfl) ?_)
       refine awp_ret ?_
       obtain rfl := Option.some.inj h
       refine ⟨.inr rfl, bl false, rfl, ?_⟩
       exact Weak.e ⟨.k, trivial⟩
     ·rw [hb63]
      replace h := Sh.if_f h hb63
      refine ARH.skip rfl <| ARH.skip rfl <| ARH.keep [1, 2, 7, 8, 10, 63, 65] rfl <| ARH.skip rfl <| ARH.dry rfl (fun _ => aop_pick rfl rfl rfl) <| ARH.dry rfl (fun _ => aop_move (.inl rfl) rfl) <| ARH.keep [1, 2, 7, 8, 10, 68] rfl <| ARH.skip rfl ?_
      refine ARH.skip rfl <| ARH.skip rfl <| ARH.keep [1, 2, 7, 8, 10, 68, 71] rfl <| ARH.dry rfl (fun _ => aop_pick rfl rfl rfl) <| ARH.dry rfl (fun _ => aop_move (.inl rfl) rfl) <| ARH.skip rfl <| ARH.keep [2, 7, 8, 10, 73, 74] rfl <| ARH.skip rfl ?_
      refine ARH.skip rfl <| ARH.skip rfl <| ARH.keep [2, 7, 8, 10, 73, 77] rfl <| ARH.skip rfl <| ARH.dry rfl (fun _ => aop_pick rfl rfl rfl) <| ARH.dry rfl (fun _ => aop_move (.inl rfl) rfl) <| ARH.keep [2, 7, 8, 10, 80] rfl <| ARH.skip rfl ?_
      refine ARH.dry rfl (fun _ => aop_pick rfl rfl rfl) <| ARH.dry rfl (fun _ => aop_move (.inl rfl) rfl) <| ARH.keep [2, 7, 10, 83] rfl <| ARH.skip rfl <| ARH.skip rfl <| ARH.skip rfl <| ARH.keep [10, 83, 84, 86] rfl <| ARH.skip rfl ?_
      refine ARH.skip rfl <| ARH.dry rfl (fun _ => aop_pick rfl rfl rfl) <| ARH.keep [10, 89] rfl <| ARH.dry rfl (fun _ => aop_move (.inl rfl) rfl) <| ARH.skip rfl <| ARH.skip rfl <| ARH.keep [90, 92] rfl <| ARH.dry rfl (fun _ => aop_pick rfl rfl rfl) ?_
      refine ARH.dry rfl (fun _ => aop_move (.inr rfl) rfl) <| ARH.nil <| hK9 _ (AWP.weak (Weak.kt [0] rfl) ?_)
      refine awp_ret ?_
      obtain rfl := Option.some.inj h
      refine ⟨.inr rfl, bl false, rfl, ?_⟩
      exact Weak.e ⟨.k, trivial⟩
    ·rw [hb61]
     replace h := Sh.if_f h hb61
     refine ARH.skip rfl <| ARH.skip rfl <| ARH.dry rfl (fun _ => aop_pick rfl rfl rfl) <| ARH.keep [1, 2, 5, 7, 8, 10, 62] rfl <| ARH.dry rfl (fun _ => aop_move (.inl rfl) rfl) <| ARH.skip rfl <| ARH.skip rfl <| ARH.keep [1, 2, 7, 8, 10, 63, 65] rfl ?_
     refine ARH.skip rfl <| ARH.dry rfl (fun _ => aop_pick rfl rfl rfl) <| ARH.dry rfl (fun _ => aop_move (.inl rfl) rfl) <| ARH.keep [1, 2, 7, 8, 10, 68] rfl <| ARH.skip rfl <| ARH.skip rfl <| ARH.skip rfl <| ARH.keep [1, 2, 7, 8, 10, 68, 71] rfl ?_
     refine ARH.dry rfl (fun _ => aop_pick rfl rfl rfl) <| ARH.dry rfl (fun _ => aop_move (.inl rfl) rfl) <| ARH.skip rfl <| ARH.keep [2, 7, 8, 10, 73, 74] rfl <| ARH.skip rfl <| ARH.skip rfl <| ARH.skip rfl <| ARH.keep [2, 7, 8, 10, 73, 77] rfl ?_
     refine ARH.skip rfl <| ARH.dry rfl (fun _ => aop_pick rfl rfl rfl) <| ARH.dry rfl (fun _ => aop_move (.inl rfl) rfl) <| ARH.keep [2, 7, 8, 10, 80] rfl <| ARH.skip rfl <| ARH.dry rfl (fun _ => aop_pick rfl rfl rfl) <| ARH.dry rfl (fun _ => aop_move (.inl rfl) rfl) <| ARH.keep [2, 7, 10, 83] rfl ?_
     refine ARH.skip rfl <| ARH.skip rfl <| ARH.skip rfl <| ARH.keep [10, 83, 84, 86] rfl <| ARH.skip rfl <| ARH.skip rfl <| ARH.dry rfl (fun _ => aop_pick rfl rfl rfl) <| ARH.keep [10, 89] rfl ?_
     refine ARH.dry rfl (fun _ => aop_move (.inl rfl) rfl) <| ARH.skip rfl <| ARH.skip rfl <| ARH.keep [90, 92] rfl <| ARH.dry rfl (fun _ => aop_pick rfl rfl rfl) <| ARH.dry rfl (fun _ => aop_move (.inr rfl) rfl) <| ARH.nil <| hK9 _ (AWP.weak (Weak.kt [0] rfl) ?_)
     refine awp_ret ?_
     obtain rfl := Option.some.inj h
     refine ⟨.inr rfl, bl false, rfl, ?_⟩
     exact Weak.e ⟨.k, trivial⟩
   ·rw [hb59]
    replace h := Sh.if_f h hb59
    refine ARH.skip rfl <| ARH.keep [1, 2, 5, 7, 8, 10, 55, 56] rfl <| ARH.skip rfl <| ARH.dry rfl (fun _ => aop_pick rfl rfl rfl) <| ARH.dry rfl (fun _ => aop_move (.inl rfl) rfl) <| ARH.keep [1, 2, 5, 7, 8, 10, 59] rfl <| ARH.skip rfl <| ARH.skip rfl ?_
    refine ARH.dry rfl (fun _ => aop_pick rfl rfl rfl) <| ARH.keep [1, 2, 5, 7, 8, 10, 62] rfl <| ARH.dry rfl (fun _ => aop_move (.inl rfl) rfl) <| ARH.skip rfl <| ARH.skip rfl <| ARH.keep [1, 2, 7, 8, 10, 63, 65] rfl <| ARH.skip rfl <| ARH.dry rfl (fun _ => aop_pick rfl rfl rfl) ?_
    refine ARH.dry rfl (fun _ => aop_move (.inl rfl) rfl) <| ARH.keep [1, 2, 7, 8, 10, 68] rfl <| ARH.skip rfl <| ARH.skip rfl <| ARH.skip rfl <| ARH.keep [1, 2, 7, 8, 10, 68, 71] rfl <| ARH.dry rfl (fun _ => aop_pick rfl rfl rfl) <| ARH.dry rfl (fun _ => aop_move (.inl rfl) rfl) ?_
    refine ARH.skip rfl <| ARH.keep [2, 7, 8, 10, 73, 74] rfl <| ARH.skip rfl <| ARH.skip rfl <| ARH.skip rfl <| ARH.keep [2, 7, 8, 10, 73, 77] rfl <| ARH.skip rfl <| ARH.dry rfl (fun _ => aop_pick rfl rfl rfl) ?_
    refine ARH.dry rfl (fun _ => aop_move (.inl rfl) rfl) <| ARH.keep [2, 7, 8, 10, 80] rfl <| ARH.skip rfl <| ARH.dry rfl (fun _ => aop_pick rfl rfl rfl) <| ARH.dry rfl (fun _ => aop_move (.inl rfl) rfl) <| ARH.keep [2, 7, 10, 83] rfl <| ARH.skip rfl <| ARH.skip rfl ?_
    refine ARH.skip rfl <| ARH.keep [10, 83, 84, 86] rfl <| ARH.skip rfl <| ARH.skip rfl <| ARH.dry rfl (fun _ => aop_pick rfl rfl rfl) <| ARH.keep [10, 89] rfl <| ARH.dry rfl (fun _ => aop_move (.inl rfl) rfl) <| ARH.skip rfl ?_
    refine ARH.skip rfl <| ARH.keep [90, 92] rfl <| ARH.dry rfl (fun _ => aop_pick rfl rfl rfl) <| ARH.dry rfl (fun _ => aop_move (.inr rfl) rfl) <| ARH.nil <| hK9 _ (AWP.weak (Weak.kt [0] rfl) ?_)
    refine awp_ret ?_
    obtain rfl := Option.some.inj h
    refine ⟨.inr rfl, bl false, rfl, ?_⟩
    exact Weak.e ⟨.k, trivial⟩
  ·rw [hb58]
   replace h := Sh.if_f h hb58
   refine ARH.skip rfl <| ARH.skip rfl <| ARH.keep [1, 2, 5, 7, 8, 10, 51, 53] rfl <| ARH.dry rfl (fun _ => aop_pick rfl rfl rfl) <| ARH.dry rfl (fun _ => aop_move (.inl rfl) rfl) <| ARH.skip rfl <| ARH.keep [1, 2, 5, 7, 8, 10, 55, 56] rfl <| ARH.skip rfl ?_
   refine ARH.dry rfl (fun _ => aop_pick rfl rfl rfl) <| ARH.dry rfl (fun _ => aop_move (.inl rfl) rfl) <| ARH.keep [1, 2, 5, 7, 8, 10, 59] rfl <| ARH.skip rfl <| ARH.skip rfl <| ARH.dry rfl (fun _ => aop_pick rfl rfl rfl) <| ARH.keep [1, 2, 5, 7, 8, 10, 62] rfl <| ARH.dry rfl (fun _ => aop_move (.inl rfl) rfl) ?_
   refine ARH.skip rfl <| ARH.skip rfl <| ARH.keep [1, 2, 7, 8, 10, 63, 65] rfl <| ARH.skip rfl <| ARH.dry rfl (fun _ => aop_pick rfl rfl rfl) <| ARH.dry rfl (fun _ => aop_move (.inl rfl) rfl) <| ARH.keep [1, 2, 7, 8, 10, 68] rfl <| ARH.skip rfl ?_
   refine ARH.skip rfl <| ARH.skip rfl <| ARH.keep [1, 2, 7, 8, 10, 68, 71] rfl <| ARH.dry rfl (fun _ => aop_pick rfl rfl rfl) <| ARH.dry rfl (fun _ => aop_move (.inl rfl) rfl) <| ARH.skip rfl <| ARH.keep [2, 7, 8, 10, 73, 74] rfl <| ARH.skip rfl ?_
   refine ARH.skip rfl <| ARH.skip rfl <| ARH.keep [2, 7, 8, 10, 73, 77] rfl <| ARH.skip rfl <| ARH.dry rfl (fun _ => aop_pick rfl rfl rfl) <| ARH.dry rfl (fun _ => aop_move (.inl rfl) rfl) <| ARH.keep [2, 7, 8, 10, 80] rfl <| ARH.skip rfl ?_
   refine ARH.dry rfl (fun _ => aop_pick rfl rfl rfl) <| ARH.dry rfl (fun _ => aop_move (.inl rfl) rfl) <| ARH.keep [2, 7, 10, 83] rfl <| ARH.skip rfl <| ARH.skip rfl <| ARH.skip rfl <| ARH.keep [10, 83, 84, 86] rfl <| ARH.skip rfl ?_
   refine ARH.skip rfl <| ARH.dry rfl (fun _ => aop_pick rfl rfl rfl) <| ARH.keep [10, 89] rfl <| ARH.dry rfl (fun _ => aop_move (.inl rfl) rfl) <| ARH.skip rfl <| ARH.skip rfl <| ARH.keep [90, 92] rfl <| ARH.dry rfl (fun _ => aop_pick rfl rfl rfl) ?_
   refine ARH.dry rfl (fun _ => aop_move (.inr rfl) rfl) <| ARH.nil <| hK9 _ (AWP.weak (Weak.kt [0] rfl) ?_)
   refine awp_ret ?_
   obtain rfl := Option.some.inj h
   refine ⟨.inr rfl, bl false, rfl, ?_⟩
   exact Weak.e ⟨.k, trivial⟩
 ·rw [hb56]
  replace h := Sh.if_f h hb56
  refine ARH.skip rfl <| ARH.skip rfl <| ARH.dry rfl (fun _ => aop_pick rfl rfl rfl) <| ARH.keep [1, 2, 5, 6, 7, 8, 10, 50] rfl <| ARH.dry rfl (fun _ => aop_move (.inl rfl) rfl) <| ARH.skip rfl <| ARH.skip rfl <| ARH.keep [1, 2, 5, 7, 8, 10, 51, 53] rfl ?_
  refine ARH.dry rfl (fun _ => aop_pick rfl rfl rfl) <| ARH.dry rfl (fun _ => aop_move (.inl rfl) rfl) <| ARH.skip rfl <| ARH.keep [1, 2, 5, 7, 8, 10, 55, 56] rfl <| ARH.skip rfl <| ARH.dry rfl (fun _ => aop_pick rfl rfl rfl) <| ARH.dry rfl (fun _ => aop_move (.inl rfl) rfl) <| ARH.keep [1, 2, 5, 7, 8, 10, 59] rfl ?_
  refine ARH.skip rfl <| ARH.skip rfl <| ARH.dry rfl (fun _ => aop_pick rfl rfl rfl) <| ARH.keep [1, 2, 5, 7, 8, 10, 62] rfl <| ARH.dry rfl (fun _ => aop_move (.inl rfl) rfl) <| ARH.skip rfl <| ARH.skip rfl <| ARH.keep [1, 2, 7, 8, 10, 63, 65] rfl ?_
  refine ARH.skip rfl <| ARH.dry rfl (fun _ => aop_pick rfl rfl rfl) <| ARH.dry rfl (fun _ => aop_move (.inl rfl) rfl) <| ARH.keep [1, 2, 7, 8, 10, 68] rfl <| ARH.skip rfl <| ARH.skip rfl <| ARH.skip rfl <| ARH.keep [1, 2, 7, 8, 10, 68, 71] rfl ?_
  refine ARH.dry rfl (fun _ => aop_pick rfl rfl rfl) <| ARH.dry rfl (fun _ => aop_move (.inl rfl) rfl) <| ARH.skip rfl <| ARH.keep [2, 7, 8, 10, 73, 74] rfl <| ARH.skip rfl <| ARH.skip rfl <| ARH.skip rfl <| ARH.keep [2, 7, 8, 10, 73, 77] rfl ?_
  refine ARH.skip rfl <| ARH.dry rfl (fun _ => aop_pick rfl rfl rfl) <| ARH.dry rfl (fun _ => aop_move (.inl rfl) rfl) <| ARH.keep [2, 7, 8, 10, 80] rfl <| ARH.skip rfl <| ARH.dry rfl (fun _ => aop_pick rfl rfl rfl) <| ARH.dry rfl (fun _ => aop_move (.inl rfl) rfl) <| ARH.keep [2, 7, 10, 83] rfl ?_
  refine ARH.skip rfl <| ARH.skip rfl <| ARH.skip rfl <| ARH.keep [10, 83, 84, 86] rfl <| ARH.skip rfl <| ARH.skip rfl <| ARH.dry rfl (fun _ => aop_pick rfl rfl rfl) <| ARH.keep [10, 89] rfl ?_
  refine ARH.dry rfl (fun _ => aop_move (.inl rfl) rfl) <| ARH.skip rfl <| ARH.skip rfl <| ARH.keep [90, 92] rfl <| ARH.dry rfl (fun _ => aop_pick rfl rfl rfl) <| ARH.dry rfl (fun _ => aop_move (.inr rfl) rfl) <| ARH.nil <| hK9 _ (AWP.weak (Weak.kt [0] rfl) ?_)
  refine awp_ret ?_
  obtain rfl := Option.some.inj h
  refine ⟨.inr rfl, bl false, rfl, ?_⟩
  exact Weak.e ⟨.k, trivial⟩
theorem inquestlaw18_awake_ok {W0 : World} (hT : Tab W0) {r : Bool} (h : G.inquestlaw18_awake = some r) : Fun1 Tryz.prog W0 4 [] (bl r) := Fun1.two (inquestlaw18_awake_ok0 hT h) (by simp)


theorem inquestlaw18_plain_ok0 {W0 : World} (hT : Tab W0) {g_0 : G.graph_Graph} {r : G.inquestref12_G} (h : G.inquestlaw18_plain g_0 = some r) : Fun2 Tryz.prog W0 6 [G.graph_Graph.av g_0] (G.inquestref12_G.av r) .empty := by
 refine fun2_of_awp Tryz.func6 rfl (by kernel_rfl) Tryz.ntmps6 (by simp) ?_
 unfold G.inquestlaw18_plain at h
 show AWP _ _ _ _ ⟨[(0, G.graph_Graph.av g_0)], .empty⟩ _
 refine awp_seqK fun K1 hK1 => awp_reg rfl <| AR.op (r := .ref 0 0 0) rfl (aop_box 2 [G.graph_Graph.av g_0] rfl rfl rfl (.inl ⟨rfl, rfl⟩)) <| AR.op (r := .ref 1 0 0) rfl (aop_alloc 2 [.agg [i64 0, nilS]] rfl zr30 (by kernel_rfl) (.inl ⟨rfl, rfl⟩)) <| AR.nil <| hK1 _ (AWP.weak (Weak.re (fr' := [(1, .pp [i64 g_0.N, .sl (List.map u64 g_0.Rows)] 0), (2, .ref 0 0 0)]) (H' := ⟨1, [(0, (2, [.agg [i64 0, nilS]]))], []⟩) [(0, 1)] [] rfl rfl rfl (.cons rfl rfl (.one (.sm) rfl) dt trivial) ⟨⟨_, rfl, .frzA rfl rfl rfl rfl (by simp)⟩, ⟨_, rfl, .ref rfl⟩, trivial⟩) ?_)
 refine awp_seqK fun K2 hK2 => awp_reg rfl <| AR.op rfl (aop_field_pp rfl rfl fd32_0 (by decide)) <| AR.op (r := i64 g_0.N) rfl (aop_load_pp rfl rfl sz3 rfl) <| AR.op rfl (aop_field_pp rfl rfl fd32_1 (by decide)) <| AR.keep [2, 4, 5] rfl <| AR.op (r := .sl (List.map u64 g_0.Rows)) rfl (aop_load_pp rfl rfl sz28 rfl) <| AR.op (r := .agg [i64 g_0.N, .sl (List.map u64 g_0.Rows)]) rfl (aop_build rfl bd30 rfl rfl rfl) ?_
 refine AR.op rfl (aop_store (e' := .agg [i64 g_0.N, .sl (List.map u64 g_0.Rows)]) rfl rfl rfl rfl rfl rfl sz30 rfl dt rfl) <| AR.nil <| hK2 _ (AWP.weak (Weak.kt [2] rfl) ?_)
 refine awp_ret ?_
 obtain rfl := Option.some.inj h
 refine ⟨.inr rfl, .agg [i64 g_0.N, .sl (List.map u64 g_0.Rows)], rfl, ?_⟩
 exact Weak.e ⟨⟨.agg [i64 g_0.N, .sl (List.map u64 g_0.Rows)], rfl, .sm⟩, trivial⟩
theorem inquestlaw18_plain_ok {W0 : World} (hT : Tab W0) {g_0 : G.graph_Graph} {r : G.inquestref12_G} (h : G.inquestlaw18_plain g_0 = some r) : Fun1 Tryz.prog W0 6 [G.graph_Graph.av g_0] (G.inquestref12_G.av r) := Fun1.two (inquestlaw18_plain_ok0 hT h) (by simp)

end Wk
