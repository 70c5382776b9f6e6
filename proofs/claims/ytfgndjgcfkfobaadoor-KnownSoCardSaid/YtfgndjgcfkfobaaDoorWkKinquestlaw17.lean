/- That the functions of a package do what their plain functions say. -/
import Derived.Test.YtfgndjgcfkfobaaDoorSh
import Derived.Test.YtfgndjgcfkfobaaDoorWkKFacts
import Derived.Test.YtfgndjgcfkfobaaDoorWkKgraph
import Derived.Test.YtfgndjgcfkfobaaDoorWkKhist
import Derived.Test.YtfgndjgcfkfobaaDoorWkKindex
import Derived.Test.YtfgndjgcfkfobaaDoorWkKinquestref08
import Derived.Test.YtfgndjgcfkfobaaDoorWkKinquestref12
import Derived.Test.YtfgndjgcfkfobaaDoorWkKinquestref17
import Derived.Test.YtfgndjgcfkfobaaDoorWkKknown
import Derived.Test.YtfgndjgcfkfobaaDoorWkKreach
open Go Go.Av Go.Proofs
set_option linter.unusedVariables false
set_option maxHeartbeats 8000000
set_option maxRecDepth 20000
namespace Wk
theorem inquestlaw17_awake_ok0 {W0 : World} (hT : Tab W0) {r : Bool} (h : G.inquestlaw17_awake = some r) : Fun2 Tryd.prog W0 10 [] (bl r) .empty := by
 refine fun2_of_awp Tryd.func10 rfl (by kernel_rfl) Tryd.ntmps10 (by simp) ?_
 unfold G.inquestlaw17_awake at h
 show AWP _ _ _ _ ⟨[], .empty⟩ _
 refine awp_seqK fun K1 hK1 => awp_reg rfl <| AR.op rfl (aop_move (.inr rfl) rfl) <| AR.nil <| hK1 _ (AWP.weak (Weak.kt [] rfl) ?_)
 refine awp_seqK fun K2 hK2 => awp_reg rfl <| AR.op (r := .clip (List.map i64 [1])) rfl (aop_buildSlice rfl (xo := [.const (.int .i64 1)]) rfl rfl rfl (by simp [AV.solid]) (by simp [AV.flat]) el37 ze37 (by decide)) <| AR.op (r := .agg [i64 0, .clip (List.map i64 [1]), nilS]) rfl (aop_build rfl bd40 rfl rfl rfl) <| AR.op (r := .agg [i64 1, i64 0]) rfl (aop_build rfl bd70 rfl rfl rfl) <| AR.keep [7, 8] rfl <| AR.op (r := .agg [i64 2, i64 (-1)]) rfl (aop_build rfl bd70 rfl rfl rfl) <| AR.op (r := .clip (List.map G.api_Take.av ([(G.api_Take.mk 1 0), (G.api_Take.mk 2 (-1))] : List G.api_Take))) rfl (aop_buildSlice rfl (xo := [.tmp 8, .tmp 9]) rfl rfl rfl (by simp) (by simp) el38 ze38 (by decide)) ?_
 refine AR.op (r := .agg [i64 1, nilS, .clip (List.map G.api_Take.av ([(G.api_Take.mk 1 0), (G.api_Take.mk 2 (-1))] : List G.api_Take))]) rfl (aop_build rfl bd40 rfl rfl rfl) <| AR.keep [7, 11] rfl <| AR.op (r := .clip (List.map i64 [2])) rfl (aop_buildSlice rfl (xo := [.const (.int .i64 2)]) rfl rfl rfl (by simp [AV.solid]) (by simp [AV.flat]) el37 ze37 (by decide)) <| AR.op (r := .agg [i64 0, .clip (List.map i64 [2]), nilS]) rfl (aop_build rfl bd40 rfl rfl rfl) <| AR.op (r := .clip (List.map G.api_Txn.av ([(G.api_Txn.mk 0 [1] []), (G.api_Txn.mk 1 [] ([(G.api_Take.mk 1 0), (G.api_Take.mk 2 (-1))] : List G.api_Take)), (G.api_Txn.mk 0 [2] [])] : List G.api_Txn))) rfl ((aop_buildSlice (xs := [.agg [i64 0, .clip (List.map i64 [1]), nilS], .agg [i64 1, nilS, .clip (List.map G.api_Take.av ([(G.api_Take.mk 1 0), (G.api_Take.mk 2 (-1))] : List G.api_Take))], .agg [i64 0, .clip (List.map i64 [2]), nilS]]) rfl (xo := [.tmp 7, .tmp 11, .tmp 13]) rfl rfl rfl (by simp [AV.solid]) (by simp [AV.flat]) el22 ze22 (by decide)).clipw ⟨⟨.same _, .clip _, .nil, trivial⟩, ⟨.same _, .nil, .clip _, trivial⟩, ⟨.same _, .clip _, .nil, trivial⟩, trivial⟩) <| AR.keep [14] rfl <| AR.op (r := .agg [.clip (List.map G.api_Txn.av ([(G.api_Txn.mk 0 [1] []), (G.api_Txn.mk 1 [] ([(G.api_Take.mk 1 0), (G.api_Take.mk 2 (-1))] : List G.api_Take)), (G.api_Txn.mk 0 [2] [])] : List G.api_Txn))]) rfl (aop_build rfl bd24 rfl rfl rfl) <| AR.op (r := .ref 0 0 0) rfl (aop_alloc 1 [.agg [nilS]] rfl zr24 (by kernel_rfl) (.inl ⟨rfl, rfl⟩)) ?_
 refine AR.op rfl (aop_store (e' := .agg [.clip (List.map G.api_Txn.av ([(G.api_Txn.mk 0 [1] []), (G.api_Txn.mk 1 [] ([(G.api_Take.mk 1 0), (G.api_Take.mk 2 (-1))] : List G.api_Take)), (G.api_Txn.mk 0 [2] [])] : List G.api_Txn))]) rfl rfl rfl rfl rfl rfl sz24 rfl dt rfl) <| AR.nil <| hK2 _ (AWP.weak (Weak.e (fr' := [(1, .pp [.clip (List.map G.api_Txn.av ([(G.api_Txn.mk 0 [1] []), (G.api_Txn.mk 1 [] ([(G.api_Take.mk 1 0), (G.api_Take.mk 2 (-1))] : List G.api_Take)), (G.api_Txn.mk 0 [2] [])] : List G.api_Txn))] 0)]) (H' := .empty) ⟨⟨_, rfl, .frzA rfl rfl rfl rfl (by simp)⟩, trivial⟩) ?_)
 refine awp_seqK fun K3 hK3 => awp_reg rfl <| AR.op (r := .agg [.clip (List.map G.api_Txn.av ([(G.api_Txn.mk 0 [1] []), (G.api_Txn.mk 1 [] ([(G.api_Take.mk 1 0), (G.api_Take.mk 2 (-1))] : List G.api_Take)), (G.api_Txn.mk 0 [2] [])] : List G.api_Txn))]) rfl (aop_load_pp rfl rfl sz24 rfl) ?_
 obtain ⟨r16, hr16, h⟩ := Sh.bind_some' h
 refine AR.op (r := G.graph_Graph.av r16) rfl (aop_callN rfl (ys := [.agg [.clip (List.map G.api_Txn.av ([(G.api_Txn.mk 0 [1] []), (G.api_Txn.mk 1 [] ([(G.api_Take.mk 1 0), (G.api_Take.mk 2 (-1))] : List G.api_Take)), (G.api_Txn.mk 0 [2] [])] : List G.api_Txn))]]) (xs := [G.api_Hist.av (G.api_Hist.mk ([(G.api_Txn.mk 0 [1] []), (G.api_Txn.mk 1 [] ([(G.api_Take.mk 1 0), (G.api_Take.mk 2 (-1))] : List G.api_Take)), (G.api_Txn.mk 0 [2] [])] : List G.api_Txn))]) rfl (Weak.e (fr' := argsFr 0 [G.api_Hist.av (G.api_Hist.mk ([(G.api_Txn.mk 0 [1] []), (G.api_Txn.mk 1 [] ([(G.api_Take.mk 1 0), (G.api_Take.mk 2 (-1))] : List G.api_Take)), (G.api_Txn.mk 0 [2] [])] : List G.api_Txn))]) (H' := .empty) ⟨⟨.agg [.clip (List.map G.api_Txn.av ([(G.api_Txn.mk 0 [1] []), (G.api_Txn.mk 1 [] ([(G.api_Take.mk 1 0), (G.api_Take.mk 2 (-1))] : List G.api_Take)), (G.api_Txn.mk 0 [2] [])] : List G.api_Txn))], rfl, .ag ⟨.wide _ (by simp), trivial⟩⟩, trivial⟩) rfl (by simp) (known_So_ok hT hr16)) <| AR.op (r := .ref 0 0 0) rfl (aop_alloc 2 [.agg [i64 0, nilS]] rfl zr31 (by kernel_rfl) (.inl ⟨rfl, rfl⟩)) <| AR.keep [1, 17, 2] rfl <| AR.op rfl (aop_store (e' := G.graph_Graph.av r16) rfl rfl rfl rfl rfl rfl sz31 rfl dt rfl) <| AR.nil <| hK3 _ (AWP.weak (Weak.e (fr' := [(1, .pp [.clip (List.map G.api_Txn.av ([(G.api_Txn.mk 0 [1] []), (G.api_Txn.mk 1 [] ([(G.api_Take.mk 1 0), (G.api_Take.mk 2 (-1))] : List G.api_Take)), (G.api_Txn.mk 0 [2] [])] : List G.api_Txn))] 0), (2, .pp [i64 r16.N, .sl (List.map u64 r16.Rows)] 0)]) (H' := .empty) ⟨.k, ⟨_, rfl, .frzA rfl rfl rfl rfl (by simp)⟩, trivial⟩) ?_)
 refine awp_seqK fun K4 hK4 => awp_reg rfl <| AR.op (r := .agg [.clip (List.map G.api_Txn.av ([(G.api_Txn.mk 0 [1] []), (G.api_Txn.mk 1 [] ([(G.api_Take.mk 1 0), (G.api_Take.mk 2 (-1))] : List G.api_Take)), (G.api_Txn.mk 0 [2] [])] : List G.api_Txn))]) rfl (aop_load_pp rfl rfl sz24 rfl) ?_
 obtain ⟨r18, hr18, h⟩ := Sh.bind_some' h
 refine AR.op (r := G.graph_Graph.av r18) rfl (aop_callN rfl (ys := [.agg [.clip (List.map G.api_Txn.av ([(G.api_Txn.mk 0 [1] []), (G.api_Txn.mk 1 [] ([(G.api_Take.mk 1 0), (G.api_Take.mk 2 (-1))] : List G.api_Take)), (G.api_Txn.mk 0 [2] [])] : List G.api_Txn))]]) (xs := [G.api_Hist.av (G.api_Hist.mk ([(G.api_Txn.mk 0 [1] []), (G.api_Txn.mk 1 [] ([(G.api_Take.mk 1 0), (G.api_Take.mk 2 (-1))] : List G.api_Take)), (G.api_Txn.mk 0 [2] [])] : List G.api_Txn))]) rfl (Weak.e (fr' := argsFr 0 [G.api_Hist.av (G.api_Hist.mk ([(G.api_Txn.mk 0 [1] []), (G.api_Txn.mk 1 [] ([(G.api_Take.mk 1 0), (G.api_Take.mk 2 (-1))] : List G.api_Take)), (G.api_Txn.mk 0 [2] [])] : List G.api_Txn))]) (H' := .empty) ⟨⟨.agg [.clip (List.map G.api_Txn.av ([(G.api_Txn.mk 0 [1] []), (G.api_Txn.mk 1 [] ([(G.api_Take.mk 1 0), (G.api_Take.mk 2 (-1))] : List G.api_Take)), (G.api_Txn.mk 0 [2] [])] : List G.api_Txn))], rfl, .ag ⟨.wide _ (by simp), trivial⟩⟩, trivial⟩) rfl (by simp) (known_Wr_ok hT hr18)) <| AR.op (r := .ref 0 0 0) rfl (aop_alloc 2 [.agg [i64 0, nilS]] rfl zr31 (by kernel_rfl) (.inl ⟨rfl, rfl⟩)) <| AR.keep [1, 2, 19, 3] rfl <| AR.op rfl (aop_store (e' := G.graph_Graph.av r18) rfl rfl rfl rfl rfl rfl sz31 rfl dt rfl) <| AR.nil <| hK4 _ (AWP.weak (Weak.e (fr' := [(1, .pp [.clip (List.map G.api_Txn.av ([(G.api_Txn.mk 0 [1] []), (G.api_Txn.mk 1 [] ([(G.api_Take.mk 1 0), (G.api_Take.mk 2 (-1))] : List G.api_Take)), (G.api_Txn.mk 0 [2] [])] : List G.api_Txn))] 0), (2, .pp [i64 r16.N, .sl (List.map u64 r16.Rows)] 0), (3, .pp [i64 r18.N, .sl (List.map u64 r18.Rows)] 0)]) (H' := .empty) ⟨.k, .k, ⟨_, rfl, .frzA rfl rfl rfl rfl (by simp)⟩, trivial⟩) ?_)
 refine awp_seqK fun K5 hK5 => awp_reg rfl <| AR.op (r := .agg [.clip (List.map G.api_Txn.av ([(G.api_Txn.mk 0 [1] []), (G.api_Txn.mk 1 [] ([(G.api_Take.mk 1 0), (G.api_Take.mk 2 (-1))] : List G.api_Take)), (G.api_Txn.mk 0 [2] [])] : List G.api_Txn))]) rfl (aop_load_pp rfl rfl sz24 rfl) ?_
 obtain ⟨r20, hr20, h⟩ := Sh.bind_some' h
 refine AR.op (r := G.graph_Graph.av r20) rfl (aop_callN rfl (ys := [.agg [.clip (List.map G.api_Txn.av ([(G.api_Txn.mk 0 [1] []), (G.api_Txn.mk 1 [] ([(G.api_Take.mk 1 0), (G.api_Take.mk 2 (-1))] : List G.api_Take)), (G.api_Txn.mk 0 [2] [])] : List G.api_Txn))]]) (xs := [G.api_Hist.av (G.api_Hist.mk ([(G.api_Txn.mk 0 [1] []), (G.api_Txn.mk 1 [] ([(G.api_Take.mk 1 0), (G.api_Take.mk 2 (-1))] : List G.api_Take)), (G.api_Txn.mk 0 [2] [])] : List G.api_Txn))]) rfl (Weak.e (fr' := argsFr 0 [G.api_Hist.av (G.api_Hist.mk ([(G.api_Txn.mk 0 [1] []), (G.api_Txn.mk 1 [] ([(G.api_Take.mk 1 0), (G.api_Take.mk 2 (-1))] : List G.api_Take)), (G.api_Txn.mk 0 [2] [])] : List G.api_Txn))]) (H' := .empty) ⟨⟨.agg [.clip (List.map G.api_Txn.av ([(G.api_Txn.mk 0 [1] []), (G.api_Txn.mk 1 [] ([(G.api_Take.mk 1 0), (G.api_Take.mk 2 (-1))] : List G.api_Take)), (G.api_Txn.mk 0 [2] [])] : List G.api_Txn))], rfl, .ag ⟨.wide _ (by simp), trivial⟩⟩, trivial⟩) rfl (by simp) (known_Init_ok hT hr20)) <| AR.op (r := .ref 0 0 0) rfl (aop_alloc 2 [.agg [i64 0, nilS]] rfl zr31 (by kernel_rfl) (.inl ⟨rfl, rfl⟩)) <| AR.keep [1, 2, 3, 21, 4] rfl <| AR.op rfl (aop_store (e' := G.graph_Graph.av r20) rfl rfl rfl rfl rfl rfl sz31 rfl dt rfl) <| AR.nil <| hK5 _ (AWP.weak (Weak.e (fr' := [(1, .pp [.clip (List.map G.api_Txn.av ([(G.api_Txn.mk 0 [1] []), (G.api_Txn.mk 1 [] ([(G.api_Take.mk 1 0), (G.api_Take.mk 2 (-1))] : List G.api_Take)), (G.api_Txn.mk 0 [2] [])] : List G.api_Txn))] 0), (2, .pp [i64 r16.N, .sl (List.map u64 r16.Rows)] 0), (3, .pp [i64 r18.N, .sl (List.map u64 r18.Rows)] 0), (4, .pp [i64 r20.N, .sl (List.map u64 r20.Rows)] 0)]) (H' := .empty) ⟨.k, .k, .k, ⟨_, rfl, .frzA rfl rfl rfl rfl (by simp)⟩, trivial⟩) ?_)
 refine awp_seqK fun K6 hK6 => awp_reg rfl <| AR.op (r := .agg [.clip (List.map G.api_Txn.av ([(G.api_Txn.mk 0 [1] []), (G.api_Txn.mk 1 [] ([(G.api_Take.mk 1 0), (G.api_Take.mk 2 (-1))] : List G.api_Take)), (G.api_Txn.mk 0 [2] [])] : List G.api_Txn))]) rfl (aop_load_pp rfl rfl sz24 rfl) ?_
 obtain ⟨r22, hr22, h⟩ := Sh.bind_some' h
 refine AR.op (r := G.graph_Graph.av r22) rfl (aop_callN rfl (ys := [.agg [.clip (List.map G.api_Txn.av ([(G.api_Txn.mk 0 [1] []), (G.api_Txn.mk 1 [] ([(G.api_Take.mk 1 0), (G.api_Take.mk 2 (-1))] : List G.api_Take)), (G.api_Txn.mk 0 [2] [])] : List G.api_Txn))]]) (xs := [G.api_Hist.av (G.api_Hist.mk ([(G.api_Txn.mk 0 [1] []), (G.api_Txn.mk 1 [] ([(G.api_Take.mk 1 0), (G.api_Take.mk 2 (-1))] : List G.api_Take)), (G.api_Txn.mk 0 [2] [])] : List G.api_Txn))]) rfl (Weak.e (fr' := argsFr 0 [G.api_Hist.av (G.api_Hist.mk ([(G.api_Txn.mk 0 [1] []), (G.api_Txn.mk 1 [] ([(G.api_Take.mk 1 0), (G.api_Take.mk 2 (-1))] : List G.api_Take)), (G.api_Txn.mk 0 [2] [])] : List G.api_Txn))]) (H' := .empty) ⟨⟨.agg [.clip (List.map G.api_Txn.av ([(G.api_Txn.mk 0 [1] []), (G.api_Txn.mk 1 [] ([(G.api_Take.mk 1 0), (G.api_Take.mk 2 (-1))] : List G.api_Take)), (G.api_Txn.mk 0 [2] [])] : List G.api_Txn))], rfl, .ag ⟨.wide _ (by simp), trivial⟩⟩, trivial⟩) rfl (by simp) (known_Past_ok hT hr22)) <| AR.op (r := .ref 0 0 0) rfl (aop_alloc 2 [.agg [i64 0, nilS]] rfl zr31 (by kernel_rfl) (.inl ⟨rfl, rfl⟩)) <| AR.keep [2, 3, 4, 23, 5] rfl <| AR.op rfl (aop_store (e' := G.graph_Graph.av r22) rfl rfl rfl rfl rfl rfl sz31 rfl dt rfl) <| AR.nil <| hK6 _ (AWP.weak (Weak.e (fr' := [(2, .pp [i64 r16.N, .sl (List.map u64 r16.Rows)] 0), (3, .pp [i64 r18.N, .sl (List.map u64 r18.Rows)] 0), (4, .pp [i64 r20.N, .sl (List.map u64 r20.Rows)] 0), (5, .pp [i64 r22.N, .sl (List.map u64 r22.Rows)] 0)]) (H' := .empty) ⟨.k, .k, .k, ⟨_, rfl, .frzA rfl rfl rfl rfl (by simp)⟩, trivial⟩) ?_)
 refine awp_seqK fun K7 hK7 => awp_reg rfl <| AR.op (r := G.graph_Graph.av r16) rfl (aop_load_pp rfl rfl sz31 rfl) ?_
 obtain ⟨r32, hr32, h⟩ := Sh.bind_some' h
 refine AR.op (r := bl r32) rfl (aop_call1 rfl rfl (by simp) (graph_Has_ok hT hr32)) <| AR.op rfl (aop_move (.inl rfl) rfl) <| AR.keep [3, 4, 5, 26] rfl ?_
 rcases Bool.eq_false_or_eq_true (r32) with hb33 | hb33
 ·rw [hb33]
  replace h := Sh.if_t h hb33
  refine AR.op (r := G.graph_Graph.av r18) rfl (aop_load_pp rfl rfl sz31 rfl) ?_
  obtain ⟨r34, hr34, h⟩ := Sh.bind_some' h
  refine AR.op (r := bl r34) rfl (aop_call1 rfl rfl (by simp) (graph_Has_ok hT hr34)) <| AR.op rfl (aop_pick rfl rfl rfl) <| AR.keep [4, 5, 29] rfl <| AR.op rfl (aop_move (.inl rfl) rfl) ?_
  rcases Bool.eq_false_or_eq_true (r34) with hb35 | hb35
  ·rw [hb35]
   replace h := Sh.if_t h hb35
   refine AR.op (r := G.graph_Graph.av r20) rfl (aop_load_pp rfl rfl sz31 rfl) ?_
   obtain ⟨r36, hr36, h⟩ := Sh.bind_some' h
   refine AR.op (r := bl r36) rfl (aop_call1 rfl rfl (by simp) (graph_Has_ok hT hr36)) <| AR.keep [4, 5, 30, 32] rfl <| AR.op rfl (aop_pick rfl rfl rfl) <| AR.op rfl (aop_move (.inl rfl) rfl) ?_
   rcases Bool.eq_false_or_eq_true (r36) with hb37 | hb37
   ·rw [hb37]
    replace h := Sh.if_t h hb37
    refine AR.op (r := G.graph_Graph.av r22) rfl (aop_load_pp rfl rfl sz31 rfl) <| AR.keep [4, 34, 35] rfl ?_
    obtain ⟨r38, hr38, h⟩ := Sh.bind_some' h
    refine AR.op (r := .sl (List.map G.graph_Edge.av r38)) rfl (aop_call1 rfl rfl (by simp) (graph_Edges_ok hT hr38)) <| AR.op rfl (t_len_sl G.graph_Edge.av r38 rfl rfl el41) <| AR.op (r := bl (decide ((Sh.len r38) = 2))) rfl (aop_eql rfl rfl rfl) <| AR.keep [4, 34, 38] rfl <| AR.op rfl (aop_pick rfl rfl rfl) <| AR.op rfl (aop_move (.inl rfl) rfl) ?_
    rcases Bool.eq_false_or_eq_true (decide ((Sh.len r38) = 2)) with hb39 | hb39
    ·rw [hb39]
     replace h := Sh.if_t h hb39
     refine AR.op (r := G.graph_Graph.av r20) rfl (aop_load_pp rfl rfl sz31 rfl) <| AR.keep [40, 41] rfl ?_
     obtain ⟨r40, hr40, h⟩ := Sh.bind_some' h
     refine AR.op (r := .sl (List.map G.graph_Edge.av r40)) rfl (aop_call1 rfl rfl (by simp) (graph_Edges_ok hT hr40)) <| AR.op rfl (t_len_sl G.graph_Edge.av r40 rfl rfl el41) <| AR.op (r := bl (decide ((Sh.len r40) = 1))) rfl (aop_eql rfl rfl rfl) <| AR.keep [40, 44] rfl <| AR.op rfl (aop_pick rfl rfl rfl) <| AR.op rfl (aop_move (.inr rfl) rfl) <| AR.nil <| hK7 _ (AWP.weak (Weak.kt [0] rfl) ?_)
     refine awp_ret ?_
     obtain rfl := Option.some.inj h
     refine ⟨.inr rfl, bl (decide ((Sh.len r40) = 1)), rfl, ?_⟩
     exact Weak.e ⟨.k, trivial⟩
    ·rw [hb39]
     replace h := Sh.if_f h hb39
     refine AR.skip rfl <| AR.keep [40, 41] rfl <| AR.skip rfl <| AR.skip rfl <| AR.skip rfl <| AR.keep [40, 44] rfl <| AR.op rfl (aop_pick rfl rfl rfl) <| AR.op rfl (aop_move (.inr rfl) rfl) ?_
     refine AR.nil <| hK7 _ (AWP.weak (Weak.kt [0] rfl) ?_)
     refine awp_ret ?_
     obtain rfl := Option.some.inj h
     refine ⟨.inr rfl, bl false, rfl, ?_⟩
     exact Weak.e ⟨.k, trivial⟩
   ·rw [hb37]
    replace h := Sh.if_f h hb37
    refine AR.skip rfl <| AR.keep [4, 34, 35] rfl <| AR.skip rfl <| AR.skip rfl <| AR.skip rfl <| AR.keep [4, 34, 38] rfl <| AR.op rfl (aop_pick rfl rfl rfl) <| AR.op rfl (aop_move (.inl rfl) rfl) ?_
    refine AR.skip rfl <| AR.keep [40, 41] rfl <| AR.skip rfl <| AR.skip rfl <| AR.skip rfl <| AR.keep [40, 44] rfl <| AR.op rfl (aop_pick rfl rfl rfl) <| AR.op rfl (aop_move (.inr rfl) rfl) ?_
    refine AR.nil <| hK7 _ (AWP.weak (Weak.kt [0] rfl) ?_)
    refine awp_ret ?_
    obtain rfl := Option.some.inj h
    refine ⟨.inr rfl, bl false, rfl, ?_⟩
    exact Weak.e ⟨.k, trivial⟩
  ·rw [hb35]
   replace h := Sh.if_f h hb35
   refine AR.skip rfl <| AR.skip rfl <| AR.keep [4, 5, 30, 32] rfl <| AR.op rfl (aop_pick rfl rfl rfl) <| AR.op rfl (aop_move (.inl rfl) rfl) <| AR.skip rfl <| AR.keep [4, 34, 35] rfl <| AR.skip rfl ?_
   refine AR.skip rfl <| AR.skip rfl <| AR.keep [4, 34, 38] rfl <| AR.op rfl (aop_pick rfl rfl rfl) <| AR.op rfl (aop_move (.inl rfl) rfl) <| AR.skip rfl <| AR.keep [40, 41] rfl <| AR.skip rfl ?_
   refine AR.skip rfl <| AR.skip rfl <| AR.keep [40, 44] rfl <| AR.op rfl (aop_pick rfl rfl rfl) <| AR.op rfl (aop_move (.inr rfl) rfl) <| AR.nil <| hK7 _ (AWP.weak (Weak.kt [0] rfl) ?_)
   refine awp_ret ?_
   obtain rfl := Option.some.inj h
   refine ⟨.inr rfl, bl false, rfl, ?_⟩
   exact Weak.e ⟨.k, trivial⟩
 ·rw [hb33]
  replace h := Sh.if_f h hb33
  refine AR.skip rfl <| AR.skip rfl <| AR.op rfl (aop_pick rfl rfl rfl) <| AR.keep [4, 5, 29] rfl <| AR.op rfl (aop_move (.inl rfl) rfl) <| AR.skip rfl <| AR.skip rfl <| AR.keep [4, 5, 30, 32] rfl ?_
  refine AR.op rfl (aop_pick rfl rfl rfl) <| AR.op rfl (aop_move (.inl rfl) rfl) <| AR.skip rfl <| AR.keep [4, 34, 35] rfl <| AR.skip rfl <| AR.skip rfl <| AR.skip rfl <| AR.keep [4, 34, 38] rfl ?_
  refine AR.op rfl (aop_pick rfl rfl rfl) <| AR.op rfl (aop_move (.inl rfl) rfl) <| AR.skip rfl <| AR.keep [40, 41] rfl <| AR.skip rfl <| AR.skip rfl <| AR.skip rfl <| AR.keep [40, 44] rfl ?_
  refine AR.op rfl (aop_pick rfl rfl rfl) <| AR.op rfl (aop_move (.inr rfl) rfl) <| AR.nil <| hK7 _ (AWP.weak (Weak.kt [0] rfl) ?_)
  refine awp_ret ?_
  obtain rfl := Option.some.inj h
  refine ⟨.inr rfl, bl false, rfl, ?_⟩
  exact Weak.e ⟨.k, trivial⟩
theorem inquestlaw17_awake_ok {W0 : World} (hT : Tab W0) {r : Bool} (h : G.inquestlaw17_awake = some r) : Fun1 Tryd.prog W0 10 [] (bl r) := Fun1.two (inquestlaw17_awake_ok0 hT h) (by simp)


theorem inquestlaw17_plain_ok0 {W0 : World} (hT : Tab W0) {g_0 : G.graph_Graph} {r : G.inquestref12_G} (h : G.inquestlaw17_plain g_0 = some r) : Fun2 Tryd.prog W0 12 [G.graph_Graph.av g_0] (G.inquestref12_G.av r) .empty := by
 refine fun2_of_awp Tryd.func12 rfl (by kernel_rfl) Tryd.ntmps12 (by simp) ?_
 unfold G.inquestlaw17_plain at h
 show AWP _ _ _ _ ⟨[(0, G.graph_Graph.av g_0)], .empty⟩ _
 refine awp_seqK fun K1 hK1 => awp_reg rfl <| AR.op (r := .ref 0 0 0) rfl (aop_box 2 [G.graph_Graph.av g_0] rfl rfl rfl (.inl ⟨rfl, rfl⟩)) <| AR.op (r := .ref 1 0 0) rfl (aop_alloc 2 [.agg [i64 0, nilS]] rfl zr29 (by kernel_rfl) (.inl ⟨rfl, rfl⟩)) <| AR.nil <| hK1 _ (AWP.weak (Weak.re (fr' := [(1, .pp [i64 g_0.N, .sl (List.map u64 g_0.Rows)] 0), (2, .ref 0 0 0)]) (H' := ⟨1, [(0, (2, [.agg [i64 0, nilS]]))], []⟩) [(0, 1)] [] rfl rfl rfl (.cons rfl rfl (.one (.sm) rfl) dt trivial) ⟨⟨_, rfl, .frzA rfl rfl rfl rfl (by simp)⟩, ⟨_, rfl, .ref rfl⟩, trivial⟩) ?_)
 refine awp_seqK fun K2 hK2 => awp_reg rfl <| AR.op rfl (aop_field_pp rfl rfl fd31_0 (by decide)) <| AR.op (r := i64 g_0.N) rfl (aop_load_pp rfl rfl sz3 rfl) <| AR.op rfl (aop_field_pp rfl rfl fd31_1 (by decide)) <| AR.keep [2, 4, 5] rfl <| AR.op (r := .sl (List.map u64 g_0.Rows)) rfl (aop_load_pp rfl rfl sz27 rfl) <| AR.op (r := .agg [i64 g_0.N, .sl (List.map u64 g_0.Rows)]) rfl (aop_build rfl bd29 rfl rfl rfl) ?_
 refine AR.op rfl (aop_store (e' := .agg [i64 g_0.N, .sl (List.map u64 g_0.Rows)]) rfl rfl rfl rfl rfl rfl sz29 rfl dt rfl) <| AR.nil <| hK2 _ (AWP.weak (Weak.re (fr' := [(2, .ref 0 0 0)]) (H' := ⟨1, [(0, (2, [.agg [i64 g_0.N, .sl (List.map u64 g_0.Rows)]]))], []⟩) [(0, 0)] [] rfl rfl rfl (.cons rfl rfl (.one (.sm) rfl) dt trivial) ⟨⟨_, rfl, .ref rfl⟩, trivial⟩) ?_)
 refine awp_ret ?_
 obtain rfl := Option.some.inj h
 refine ⟨.inr rfl, .agg [i64 g_0.N, .sl (List.map u64 g_0.Rows)], rfl, ?_⟩
 exact Weak.e ⟨⟨.agg [i64 g_0.N, .sl (List.map u64 g_0.Rows)], rfl, .sm⟩, trivial⟩
theorem inquestlaw17_plain_ok {W0 : World} (hT : Tab W0) {g_0 : G.graph_Graph} {r : G.inquestref12_G} (h : G.inquestlaw17_plain g_0 = some r) : Fun1 Tryd.prog W0 12 [G.graph_Graph.av g_0] (G.inquestref12_G.av r) := Fun1.two (inquestlaw17_plain_ok0 hT h) (by simp)

end Wk
