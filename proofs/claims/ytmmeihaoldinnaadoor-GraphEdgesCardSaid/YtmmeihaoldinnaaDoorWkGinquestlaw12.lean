/- That the functions of a package do what their plain functions say. -/
import Derived.Test.YtmmeihaoldinnaaDoorSh
import Derived.Test.YtmmeihaoldinnaaDoorWkGFacts
import Derived.Test.YtmmeihaoldinnaaDoorWkGgraph
import Derived.Test.YtmmeihaoldinnaaDoorWkGinquestref12
open Go Go.Av Go.Proofs
set_option linter.unusedVariables false
namespace Wk
set_option maxHeartbeats 8000000 in
theorem inquestlaw12_made_ok0 {W0 : World} (hT : Tab W0) {n_0 : Int} {l_1 : List G.graph_Edge} {r : G.graph_Graph × Int} (h : G.inquestlaw12_made n_0 l_1 = some r) : Fun2 Tryd.prog W0 28 [i64 n_0, .sl (List.map G.graph_Edge.av l_1)] (.tuple [G.graph_Graph.av r.1, i64 r.2]) .empty := by
  refine fun2_of_awp Tryd.func28 rfl (by kernel_rfl) Tryd.ntmps28 (by simp) ?_
  unfold G.inquestlaw12_made at h
  show AWP _ _ _ _ ⟨[(0, i64 n_0), (1, .sl (List.map G.graph_Edge.av l_1))], .empty⟩ _
  refine awp_seqK fun K1 hK1 => ?_
  refine awp_reg rfl ?_
  refine AR.op (r := .ref 0 0 0) rfl (aop_alloc 2 [.agg [i64 0, nilS]] rfl zr24 (by kernel_rfl) (.inl ⟨rfl, rfl⟩)) ?_
  refine AR.op (r := i64 0) rfl (aop_move (.inr rfl) rfl) ?_
  refine AR.nil ?_
  refine hK1 _ (AWP.weak (Weak.re (fr' := [(0, i64 n_0), (1, .sl (List.map G.graph_Edge.av l_1)), (4, .ref 0 0 0)]) (H' := ⟨1, [(0, (2, [.agg [i64 0, nilS]]))]⟩) [(0, 0)] [] rfl rfl rfl (.cons rfl rfl (.one (.same _ (by simp)) rfl) (of_decide_eq_true rfl) (trivial)) ⟨⟨_, rfl, .same _ (by simp)⟩, ⟨.sl (List.map G.graph_Edge.av l_1), rfl, .same _ (by simp)⟩, ⟨_, rfl, .ref rfl⟩, trivial⟩) ?_)
  clear hK1 K1
  refine awp_seqK fun K2 hK2 => ?_
  refine awp_reg rfl ?_
  refine AR.op (r := i64 n_0) rfl (aop_move (.inl rfl) rfl) ?_
  obtain ⟨r30, hr30, h⟩ := Sh.bind_some' h
  refine AR.op (r := .tuple [G.graph_Graph.av r30.1, i64 r30.2]) rfl (aop_call1 rfl rfl (by simp) (graph_New_ok hT hr30)) ?_
  refine AR.op (r := .tuple [G.graph_Graph.av r30.1, i64 r30.2]) rfl (aop_move (.inl rfl) rfl) ?_
  refine AR.drop (frx := [(1, _), (4, _), (9, _)]) ⟨rfl, rfl, rfl, trivial⟩ ?_
  refine AR.op (r := G.graph_Graph.av r30.1) rfl (aop_extract rfl rfl rfl) ?_
  refine AR.op (r := i64 r30.2) rfl (aop_extract rfl rfl rfl) ?_
  refine AR.op (r := .ref 1 0 0) rfl (aop_alloc 2 [.agg [i64 0, nilS]] rfl zr24 (by kernel_rfl) (.inl ⟨rfl, rfl⟩)) ?_
  refine AR.drop (frx := [(1, _), (4, _), (12, _), (13, _), (6, _)]) ⟨rfl, rfl, rfl, rfl, rfl, trivial⟩ ?_
  refine AR.op rfl (aop_store (e' := G.graph_Graph.av r30.1) rfl rfl rfl rfl rfl rfl sz24 rfl (of_decide_eq_true rfl) rfl) ?_
  refine AR.op (r := i64 r30.2) rfl (aop_move (.inr rfl) rfl) ?_
  refine AR.nil ?_
  refine hK2 _ (AWP.weak (Weak.re (fr' := [(1, .sl (List.map G.graph_Edge.av l_1)), (4, .ref 0 0 0), (6, .ref 1 0 0), (7, i64 r30.2)]) (H' := ⟨2, [(0, (2, [.agg [i64 0, nilS]])), (1, (2, [G.graph_Graph.av r30.1]))]⟩) [(0, 0), (1, 1)] [] rfl rfl rfl (.cons rfl rfl (.one (.same _ (by simp)) rfl) (of_decide_eq_true rfl) (.cons rfl rfl (.one (.same _ (by simp)) rfl) (of_decide_eq_true rfl) (trivial))) ⟨⟨.sl (List.map G.graph_Edge.av l_1), rfl, .same _ (by simp)⟩, ⟨_, rfl, .ref rfl⟩, ⟨_, rfl, .ref rfl⟩, ⟨_, rfl, .same _ (by simp)⟩, trivial⟩) ?_)
  clear hK2 K2
  refine awp_seqJ (fun (p : Int × G.graph_Graph) => (⟨[(4, .ref 0 0 0), (6, .ref 1 0 0), (7, i64 p.1)], ⟨2, [(0, (2, [.agg [i64 0, nilS]])), (1, (2, [G.graph_Graph.av p.2]))]⟩⟩ : St)) (fun (p : Int × G.graph_Graph) => G.inquestlaw12_made_j1 p.1 p.2 = some r) ?_ ?_
  · rintro ⟨e58, v59⟩ h
    replace h : G.inquestlaw12_made_j1 e58 v59 = some r := h
    unfold G.inquestlaw12_made_j1 at h
    show AWP _ _ _ _ ⟨[(4, .ref 0 0 0), (6, .ref 1 0 0), (7, i64 e58)], ⟨2, [(0, (2, [.agg [i64 0, nilS]])), (1, (2, [G.graph_Graph.av v59]))]⟩⟩ _
    refine awp_seqK fun K3 hK3 => ?_
    refine awp_reg rfl ?_
    refine AR.op (r := G.graph_Graph.av v59) rfl (aop_load_ref rfl rfl rfl rfl sz24 rfl) ?_
    refine AR.op (r := i64 e58) rfl (aop_move (.inl rfl) rfl) ?_
    refine AR.op rfl (aop_store (e' := G.graph_Graph.av v59) rfl rfl rfl rfl rfl rfl sz24 rfl (of_decide_eq_true rfl) rfl) ?_
    refine AR.drop (frx := [(4, _), (40, _)]) ⟨rfl, rfl, trivial⟩ ?_
    refine AR.op (r := i64 e58) rfl (aop_move (.inr rfl) rfl) ?_
    refine AR.nil ?_
    refine hK3 _ (AWP.weak (Weak.re (fr' := [(4, .ref 0 0 0), (5, i64 e58)]) (H' := ⟨1, [(0, (2, [G.graph_Graph.av v59]))]⟩) [(0, 0)] [] rfl rfl rfl (.cons rfl rfl (.one (.same _ (by simp)) rfl) (of_decide_eq_true rfl) (trivial)) ⟨⟨_, rfl, .ref rfl⟩, ⟨_, rfl, .same _ (by simp)⟩, trivial⟩) ?_)
    clear hK3 K3
    refine awp_ret ?_
    obtain rfl := Option.some.inj h
    refine ⟨.inr rfl, .tuple [G.graph_Graph.av v59, i64 e58], rfl, ?_⟩
    exact Weak.re [] [] rfl rfl rfl (trivial) ⟨⟨.tuple [G.graph_Graph.av v59, i64 e58], rfl, .tp ⟨.same _ (by simp), .same _ (by simp), trivial⟩⟩, trivial⟩
  · intro K4 hK4
    refine awp_seqK fun K5 hK5 => ?_
    refine awp_reg rfl ?_
    refine AR.op (r := i64 0) rfl (aop_move (.inr rfl) rfl) ?_
    refine AR.nil ?_
    refine hK5 _ ?_
    clear hK5 K5
    refine awp_block ?_
    refine awp_iter (fun (p : G.graph_Graph × Int × Int) => G.inquestlaw12_made_b1 l_1 p.1 p.2.1 p.2.2) (fun (p : G.graph_Graph × Int × Int) => (⟨[(1, .sl (List.map G.graph_Edge.av l_1)), (4, .ref 0 0 0), (6, .ref 1 0 0), (7, i64 p.2.1), (8, i64 p.2.2)], ⟨2, [(0, (2, [.agg [i64 0, nilS]])), (1, (2, [G.graph_Graph.av p.1]))]⟩⟩ : St)) h (Weak.re (fr' := [(1, .sl (List.map G.graph_Edge.av l_1)), (4, .ref 0 0 0), (6, .ref 1 0 0), (7, i64 r30.2), (8, i64 0)]) (H' := ⟨2, [(0, (2, [.agg [i64 0, nilS]])), (1, (2, [G.graph_Graph.av r30.1]))]⟩) [(0, 0), (1, 1)] [] rfl rfl rfl (.cons rfl rfl (.one (.same _ (by simp)) rfl) (of_decide_eq_true rfl) (.cons rfl rfl (.one (.same _ (by simp)) rfl) (of_decide_eq_true rfl) (trivial))) ⟨⟨.sl (List.map G.graph_Edge.av l_1), rfl, .same _ (by simp)⟩, ⟨_, rfl, .ref rfl⟩, ⟨_, rfl, .ref rfl⟩, ⟨_, rfl, .same _ (by simp)⟩, ⟨_, rfl, .same _ (by simp)⟩, trivial⟩) ?_
    · skip
      rintro ⟨g77, e78, i79⟩ o1 h hx1
      replace h : G.inquestlaw12_made_b1 l_1 g77 e78 i79 = some o1 := h
      unfold G.inquestlaw12_made_b1 at h
      show AWP _ _ _ _ ⟨[(1, .sl (List.map G.graph_Edge.av l_1)), (4, .ref 0 0 0), (6, .ref 1 0 0), (7, i64 e78), (8, i64 i79)], ⟨2, [(0, (2, [.agg [i64 0, nilS]])), (1, (2, [G.graph_Graph.av g77]))]⟩⟩ _
      refine awp_seqK fun K6 hK6 => ?_
      refine awp_seqJ (fun (p : Bool) => (⟨[(1, .sl (List.map G.graph_Edge.av l_1)), (4, .ref 0 0 0), (6, .ref 1 0 0), (7, i64 e78), (8, i64 i79), (19, .any), (20, .any), (21, bl p)], ⟨2, [(0, (2, [.agg [i64 0, nilS]])), (1, (2, [G.graph_Graph.av g77]))]⟩⟩ : St)) (fun (p : Bool) => G.inquestlaw12_made_j2 l_1 g77 e78 i79 p = some o1) ?_ ?_
      · rintro v83 h
        replace h : G.inquestlaw12_made_j2 l_1 g77 e78 i79 v83 = some o1 := h
        unfold G.inquestlaw12_made_j2 at h
        show AWP _ _ _ _ ⟨[(1, .sl (List.map G.graph_Edge.av l_1)), (4, .ref 0 0 0), (6, .ref 1 0 0), (7, i64 e78), (8, i64 i79), (19, .any), (20, .any), (21, bl v83)], ⟨2, [(0, (2, [.agg [i64 0, nilS]])), (1, (2, [G.graph_Graph.av g77]))]⟩⟩ _
        refine awp_cond rfl (fun hb84 => ?_) (fun hb84 => ?_)
        · replace h := Sh.if_t h hb84
          refine awp_skip ?_
          refine hK6 _ (AWP.weak (Weak.re (fr' := [(1, .sl (List.map G.graph_Edge.av l_1)), (4, .ref 0 0 0), (6, .ref 1 0 0), (8, i64 i79), (19, .any), (20, .any)]) (H' := ⟨2, [(0, (2, [.agg [i64 0, nilS]])), (1, (2, [G.graph_Graph.av g77]))]⟩) [(0, 0), (1, 1)] [] rfl rfl rfl (.cons rfl rfl (.one (.same _ (by simp)) rfl) (of_decide_eq_true rfl) (.cons rfl rfl (.one (.same _ (by simp)) rfl) (of_decide_eq_true rfl) (trivial))) ⟨⟨.sl (List.map G.graph_Edge.av l_1), rfl, .same _ (by simp)⟩, ⟨_, rfl, .ref rfl⟩, ⟨_, rfl, .ref rfl⟩, ⟨_, rfl, .same _ (by simp)⟩, ⟨_, rfl, .any _⟩, ⟨_, rfl, .any _⟩, trivial⟩) ?_)
          clear hK6 K6
          refine awp_seqK fun K7 hK7 => ?_
          refine awp_block ?_
          refine awp_any (by kernel_rfl) (by kernel_rfl) rfl ?_
          refine ARH.op (r := G.graph_Graph.av g77) rfl rfl (aop_load_ref rfl rfl rfl rfl sz24 rfl) ?_
          refine ARH.dry (r := .sl (List.map G.graph_Edge.av l_1)) rfl (fun _ => aop_move (.inl rfl) rfl) ?_
          refine ARH.dry (r := i64 i79) rfl (fun _ => aop_move (.inl rfl) rfl) ?_
          refine ARH.drop (frx := [(1, _), (4, _), (6, _), (8, _), (19, _), (20, _), (25, _), (26, _), (27, _)]) ⟨rfl, rfl, rfl, rfl, rfl, rfl, rfl, rfl, rfl, trivial⟩ ?_
          obtain ⟨x90, hx90, h⟩ := Sh.bind_some' h
          obtain ⟨k91, hi91, hl91⟩ := Sh.idx_some hx90
          refine ARH.op rfl rfl (t_index_sl G.graph_Edge.av l_1 hi91 hl91 rfl rfl rfl el36 rfl) ?_
          refine ARH.op rfl rfl (aop_field_pp rfl rfl fd43_0 (by decide)) ?_
          refine ARH.op (r := i64 x90.A) rfl rfl (aop_load_pp rfl rfl sz3 rfl) ?_
          refine ARH.drop (frx := [(1, _), (4, _), (6, _), (8, _), (19, _), (20, _), (25, _), (30, _)]) ⟨rfl, rfl, rfl, rfl, rfl, rfl, rfl, rfl, trivial⟩ ?_
          refine ARH.dry (r := .sl (List.map G.graph_Edge.av l_1)) rfl (fun _ => aop_move (.inl rfl) rfl) ?_
          refine ARH.dry (r := i64 i79) rfl (fun _ => aop_move (.inl rfl) rfl) ?_
          obtain ⟨x92, hx92, h⟩ := Sh.bind_some' h
          obtain ⟨k93, hi93, hl93⟩ := Sh.idx_some hx92
          refine ARH.op rfl rfl (t_index_sl G.graph_Edge.av l_1 hi93 hl93 rfl rfl rfl el36 rfl) ?_
          refine ARH.drop (frx := [(1, _), (4, _), (6, _), (8, _), (19, _), (20, _), (25, _), (30, _), (33, _)]) ⟨rfl, rfl, rfl, rfl, rfl, rfl, rfl, rfl, rfl, trivial⟩ ?_
          refine ARH.op rfl rfl (aop_field_pp rfl rfl fd43_1 (by decide)) ?_
          refine ARH.op (r := i64 x92.B) rfl rfl (aop_load_pp rfl rfl sz3 rfl) ?_
          obtain ⟨r94, hr94, h⟩ := Sh.bind_some' h
          refine ARH.op (r := .tuple [G.graph_Graph.av r94.1, i64 r94.2]) rfl rfl (aop_call1 rfl rfl (by simp) (graph_Add_ok hT hr94)) ?_
          refine ARH.drop (frx := [(1, _), (4, _), (6, _), (8, _), (19, _), (20, _), (36, _)]) ⟨rfl, rfl, rfl, rfl, rfl, rfl, rfl, trivial⟩ ?_
          refine ARH.dry (r := .tuple [G.graph_Graph.av r94.1, i64 r94.2]) rfl (fun _ => aop_move (.inl rfl) rfl) ?_
          refine ARH.dry (r := G.graph_Graph.av r94.1) rfl (fun _ => aop_extract rfl rfl rfl) ?_
          refine ARH.dry (r := i64 r94.2) rfl (fun _ => aop_extract rfl rfl rfl) ?_
          refine ARH.drop (frx := [(1, _), (4, _), (6, _), (8, _), (19, _), (20, _), (37, _), (38, _)]) ⟨rfl, rfl, rfl, rfl, rfl, rfl, rfl, rfl, trivial⟩ ?_
          refine ARH.loud rfl rfl rfl (aop_store (e' := G.graph_Graph.av r94.1) rfl rfl rfl rfl rfl rfl sz24 rfl (of_decide_eq_true rfl) rfl) ?_
          refine ARH.dry (r := i64 r94.2) rfl (fun _ => aop_move (.inr rfl) rfl) ?_
          refine ARH.nil ?_
          refine hK7 _ (AWP.weak (Weak.re (fr' := [(1, .sl (List.map G.graph_Edge.av l_1)), (4, .ref 0 0 0), (6, .ref 1 0 0), (8, i64 i79), (19, .any), (20, .any), (7, i64 r94.2)]) (H' := ⟨2, [(0, (2, [.agg [i64 0, nilS]])), (1, (2, [G.graph_Graph.av r94.1]))]⟩) [(0, 0), (1, 1)] [] rfl rfl rfl (.cons rfl rfl (.one (.same _ (by simp)) rfl) (of_decide_eq_true rfl) (.cons rfl rfl (.one (.same _ (by simp)) rfl) (of_decide_eq_true rfl) (trivial))) ⟨⟨.sl (List.map G.graph_Edge.av l_1), rfl, .same _ (by simp)⟩, ⟨_, rfl, .ref rfl⟩, ⟨_, rfl, .ref rfl⟩, ⟨_, rfl, .same _ (by simp)⟩, ⟨_, rfl, .any _⟩, ⟨_, rfl, .any _⟩, ⟨_, rfl, .same _ (by simp)⟩, trivial⟩) ?_)
          clear hK7 K7
          refine awp_reg rfl ?_
          refine AR.op (r := i64 i79) rfl (aop_move (.inl rfl) rfl) ?_
          refine AR.op (r := i64 (w64 (i79 + 1))) rfl (aop_add rfl rfl rfl rfl) ?_
          refine AR.op (r := i64 (w64 (i79 + 1))) rfl (aop_move (.inr rfl) rfl) ?_
          refine AR.nil ?_
          replace h := Sh.next_eq h
          exact ⟨_, h, Weak.re (fr' := [(1, .sl (List.map G.graph_Edge.av l_1)), (4, .ref 0 0 0), (6, .ref 1 0 0), (7, i64 r94.2), (8, i64 (w64 (i79 + 1)))]) (H' := ⟨2, [(0, (2, [.agg [i64 0, nilS]])), (1, (2, [G.graph_Graph.av r94.1]))]⟩) [(0, 0), (1, 1)] [] rfl rfl rfl (.cons rfl rfl (.one (.same _ (by simp)) rfl) (of_decide_eq_true rfl) (.cons rfl rfl (.one (.same _ (by simp)) rfl) (of_decide_eq_true rfl) (trivial))) ⟨⟨.sl (List.map G.graph_Edge.av l_1), rfl, .same _ (by simp)⟩, ⟨_, rfl, .ref rfl⟩, ⟨_, rfl, .ref rfl⟩, ⟨_, rfl, .same _ (by simp)⟩, ⟨_, rfl, .same _ (by simp)⟩, trivial⟩⟩
        · replace h := Sh.if_f h hb84
          refine awp_exit ?_
          replace h := Sh.exit_eq h hx1
          exact hK4 (e78, g77) _ h (Weak.re (fr' := [(4, .ref 0 0 0), (6, .ref 1 0 0), (7, i64 e78)]) (H' := ⟨2, [(0, (2, [.agg [i64 0, nilS]])), (1, (2, [G.graph_Graph.av g77]))]⟩) [(0, 0), (1, 1)] [] rfl rfl rfl (.cons rfl rfl (.one (.same _ (by simp)) rfl) (of_decide_eq_true rfl) (.cons rfl rfl (.one (.same _ (by simp)) rfl) (of_decide_eq_true rfl) (trivial))) ⟨⟨_, rfl, .ref rfl⟩, ⟨_, rfl, .ref rfl⟩, ⟨_, rfl, .same _ (by simp)⟩, trivial⟩)
      · intro K8 hK8
        refine awp_reg rfl ?_
        refine AR.op (r := i64 i79) rfl (aop_move (.inl rfl) rfl) ?_
        refine AR.op (r := .sl (List.map G.graph_Edge.av l_1)) rfl (aop_move (.inl rfl) rfl) ?_
        refine AR.op (r := i64 (Sh.len l_1)) rfl (t_len_sl G.graph_Edge.av l_1 rfl rfl el36) ?_
        refine AR.drop (frx := [(1, _), (4, _), (6, _), (7, _), (8, _), (14, _), (16, _)]) ⟨rfl, rfl, rfl, rfl, rfl, rfl, rfl, trivial⟩ ?_
        refine AR.op (r := bl (decide (i79 < (Sh.len l_1)))) rfl (aop_lss rfl rfl rfl) ?_
        refine AR.op (r := bl (decide (i79 < (Sh.len l_1)))) rfl (aop_move (.inl rfl) rfl) ?_
        rcases Bool.eq_false_or_eq_true (decide (i79 < (Sh.len l_1))) with hb95 | hb95
        · rw [hb95]
          replace h := Sh.if_t h hb95
          refine AR.op (r := i64 e78) rfl (aop_move (.inl rfl) rfl) ?_
          refine AR.drop (frx := [(1, _), (4, _), (6, _), (7, _), (8, _), (18, _), (19, _)]) ⟨rfl, rfl, rfl, rfl, rfl, rfl, rfl, trivial⟩ ?_
          refine AR.op (r := bl (decide (e78 = 0))) rfl (aop_eql rfl rfl rfl) ?_
          refine AR.op (r := bl (decide (e78 = 0))) rfl (aop_pick rfl rfl rfl) ?_
          refine AR.nil ?_
          exact hK8 (decide (e78 = 0)) _ h (Weak.re (fr' := [(1, .sl (List.map G.graph_Edge.av l_1)), (4, .ref 0 0 0), (6, .ref 1 0 0), (7, i64 e78), (8, i64 i79), (19, .any), (20, .any), (21, bl (decide (e78 = 0)))]) (H' := ⟨2, [(0, (2, [.agg [i64 0, nilS]])), (1, (2, [G.graph_Graph.av g77]))]⟩) [(0, 0), (1, 1)] [] rfl rfl rfl (.cons rfl rfl (.one (.same _ (by simp)) rfl) (of_decide_eq_true rfl) (.cons rfl rfl (.one (.same _ (by simp)) rfl) (of_decide_eq_true rfl) (trivial))) ⟨⟨.sl (List.map G.graph_Edge.av l_1), rfl, .same _ (by simp)⟩, ⟨_, rfl, .ref rfl⟩, ⟨_, rfl, .ref rfl⟩, ⟨_, rfl, .same _ (by simp)⟩, ⟨_, rfl, .same _ (by simp)⟩, ⟨_, rfl, .any _⟩, ⟨_, rfl, .any _⟩, ⟨_, rfl, .same _ (by simp)⟩, trivial⟩)
        · rw [hb95]
          replace h := Sh.if_f h hb95
          refine AR.skip rfl ?_
          refine AR.drop (frx := [(1, _), (4, _), (6, _), (7, _), (8, _), (18, _), (19, _)]) ⟨rfl, rfl, rfl, rfl, rfl, rfl, rfl, trivial⟩ ?_
          refine AR.skip rfl ?_
          refine AR.op (r := bl false) rfl (aop_pick rfl rfl rfl) ?_
          refine AR.nil ?_
          exact hK8 false _ h (Weak.re (fr' := [(1, .sl (List.map G.graph_Edge.av l_1)), (4, .ref 0 0 0), (6, .ref 1 0 0), (7, i64 e78), (8, i64 i79), (19, .any), (20, .any), (21, bl false)]) (H' := ⟨2, [(0, (2, [.agg [i64 0, nilS]])), (1, (2, [G.graph_Graph.av g77]))]⟩) [(0, 0), (1, 1)] [] rfl rfl rfl (.cons rfl rfl (.one (.same _ (by simp)) rfl) (of_decide_eq_true rfl) (.cons rfl rfl (.one (.same _ (by simp)) rfl) (of_decide_eq_true rfl) (trivial))) ⟨⟨.sl (List.map G.graph_Edge.av l_1), rfl, .same _ (by simp)⟩, ⟨_, rfl, .ref rfl⟩, ⟨_, rfl, .ref rfl⟩, ⟨_, rfl, .same _ (by simp)⟩, ⟨_, rfl, .same _ (by simp)⟩, ⟨_, rfl, .any _⟩, ⟨_, rfl, .any _⟩, ⟨_, rfl, .same _ (by simp)⟩, trivial⟩)
theorem inquestlaw12_made_ok {W0 : World} (hT : Tab W0) {n_0 : Int} {l_1 : List G.graph_Edge} {r : G.graph_Graph × Int} (h : G.inquestlaw12_made n_0 l_1 = some r) : Fun1 Tryd.prog W0 28 [i64 n_0, .sl (List.map G.graph_Edge.av l_1)] (.tuple [G.graph_Graph.av r.1, i64 r.2]) := Fun1.two (inquestlaw12_made_ok0 hT h) (by simp)


set_option maxHeartbeats 8000000 in
theorem inquestlaw12_awake_ok0 {W0 : World} (hT : Tab W0) {r : Bool} (h : G.inquestlaw12_awake = some r) : Fun2 Tryd.prog W0 15 [] (bl r) .empty := by
  refine fun2_of_awp Tryd.func15 rfl (by kernel_rfl) Tryd.ntmps15 (by simp) ?_
  unfold G.inquestlaw12_awake at h
  show AWP _ _ _ _ ⟨[], .empty⟩ _
  refine awp_seqK fun K1 hK1 => ?_
  refine awp_reg rfl ?_
  refine AR.op (r := bl false) rfl (aop_move (.inr rfl) rfl) ?_
  refine AR.nil ?_
  refine hK1 _ (AWP.weak (Weak.kp (fr' := []) trivial) ?_)
  clear hK1 K1
  refine awp_seqK fun K2 hK2 => ?_
  refine awp_reg rfl ?_
  refine AR.op (r := .agg [i64 0, i64 1]) rfl (aop_build rfl bd43 rfl rfl rfl) ?_
  refine AR.op (r := .agg [i64 1, i64 2]) rfl (aop_build rfl bd43 rfl rfl rfl) ?_
  refine AR.op (r := .clip (List.map G.graph_Edge.av ([(G.graph_Edge.mk 0 1), (G.graph_Edge.mk 1 2)] : List G.graph_Edge))) rfl (aop_buildSlice rfl (xo := [.tmp 9, .tmp 10]) rfl rfl rfl (by simp) (by simp) el36 ze36 (by decide)) ?_
  refine AR.drop (frx := [(11, _)]) ⟨rfl, trivial⟩ ?_
  obtain ⟨r21, hr21, h⟩ := Sh.bind_some' h
  refine AR.op (r := .tuple [G.graph_Graph.av r21.1, i64 r21.2]) rfl (aop_callN rfl (ys := [i64 3, .clip (List.map G.graph_Edge.av ([(G.graph_Edge.mk 0 1), (G.graph_Edge.mk 1 2)] : List G.graph_Edge))]) (xs := [i64 3, .sl (List.map G.graph_Edge.av ([(G.graph_Edge.mk 0 1), (G.graph_Edge.mk 1 2)] : List G.graph_Edge))]) rfl (Weak.re (fr' := argsFr 0 [i64 3, .sl (List.map G.graph_Edge.av ([(G.graph_Edge.mk 0 1), (G.graph_Edge.mk 1 2)] : List G.graph_Edge))]) (H' := .empty) [] [] rfl rfl rfl trivial ⟨⟨_, rfl, .same _ (by simp)⟩, ⟨.clip (List.map G.graph_Edge.av ([(G.graph_Edge.mk 0 1), (G.graph_Edge.mk 1 2)] : List G.graph_Edge)), rfl, .wide _ (by simp)⟩, trivial⟩) rfl (by simp) (inquestlaw12_made_ok hT hr21)) ?_
  refine AR.op (r := .tuple [G.graph_Graph.av r21.1, i64 r21.2]) rfl (aop_move (.inl rfl) rfl) ?_
  refine AR.op (r := G.graph_Graph.av r21.1) rfl (aop_extract rfl rfl rfl) ?_
  refine AR.drop (frx := [(8, _), (13, _)]) ⟨rfl, rfl, trivial⟩ ?_
  refine AR.op (r := i64 r21.2) rfl (aop_extract rfl rfl rfl) ?_
  refine AR.op (r := .ref 0 0 0) rfl (aop_alloc 2 [.agg [i64 0, nilS]] rfl zr24 (by kernel_rfl) (.inl ⟨rfl, rfl⟩)) ?_
  refine AR.op rfl (aop_store (e' := G.graph_Graph.av r21.1) rfl rfl rfl rfl rfl rfl sz24 rfl (of_decide_eq_true rfl) rfl) ?_
  refine AR.drop (frx := [(14, _), (1, _)]) ⟨rfl, rfl, trivial⟩ ?_
  refine AR.op (r := i64 r21.2) rfl (aop_move (.inr rfl) rfl) ?_
  refine AR.nil ?_
  refine hK2 _ (AWP.weak (Weak.re (fr' := [(1, .ref 0 0 0), (2, i64 r21.2)]) (H' := ⟨1, [(0, (2, [G.graph_Graph.av r21.1]))]⟩) [(0, 0)] [] rfl rfl rfl (.cons rfl rfl (.one (.same _ (by simp)) rfl) (of_decide_eq_true rfl) (trivial)) ⟨⟨_, rfl, .ref rfl⟩, ⟨_, rfl, .same _ (by simp)⟩, trivial⟩) ?_)
  clear hK2 K2
  refine awp_seqK fun K3 hK3 => ?_
  refine awp_reg rfl ?_
  refine AR.op (r := G.graph_Graph.av r21.1) rfl (aop_load_ref rfl rfl rfl rfl sz24 rfl) ?_
  refine AR.op (r := G.graph_Graph.av r21.1) rfl (aop_load_ref rfl rfl rfl rfl sz24 rfl) ?_
  obtain ⟨r23, hr23, h⟩ := Sh.bind_some' h
  refine AR.op (r := .tuple [G.graph_Graph.av r23.1, i64 r23.2]) rfl (aop_call1 rfl rfl (by simp) (graph_Compose_ok hT hr23)) ?_
  refine AR.drop (frx := [(1, _), (2, _), (18, _)]) ⟨rfl, rfl, rfl, trivial⟩ ?_
  refine AR.op (r := .tuple [G.graph_Graph.av r23.1, i64 r23.2]) rfl (aop_move (.inl rfl) rfl) ?_
  refine AR.op (r := G.graph_Graph.av r23.1) rfl (aop_extract rfl rfl rfl) ?_
  refine AR.op (r := i64 r23.2) rfl (aop_extract rfl rfl rfl) ?_
  refine AR.drop (frx := [(1, _), (2, _), (19, _), (20, _)]) ⟨rfl, rfl, rfl, rfl, trivial⟩ ?_
  refine AR.op (r := .ref 1 0 0) rfl (aop_alloc 2 [.agg [i64 0, nilS]] rfl zr24 (by kernel_rfl) (.inl ⟨rfl, rfl⟩)) ?_
  refine AR.op rfl (aop_store (e' := G.graph_Graph.av r23.1) rfl rfl rfl rfl rfl rfl sz24 rfl (of_decide_eq_true rfl) rfl) ?_
  refine AR.op (r := i64 r23.2) rfl (aop_move (.inr rfl) rfl) ?_
  refine AR.nil ?_
  refine hK3 _ (AWP.weak (Weak.re (fr' := [(1, .ref 0 0 0), (2, i64 r21.2), (3, .ref 1 0 0), (4, i64 r23.2)]) (H' := ⟨2, [(0, (2, [G.graph_Graph.av r21.1])), (1, (2, [G.graph_Graph.av r23.1]))]⟩) [(0, 0), (1, 1)] [] rfl rfl rfl (.cons rfl rfl (.one (.same _ (by simp)) rfl) (of_decide_eq_true rfl) (.cons rfl rfl (.one (.same _ (by simp)) rfl) (of_decide_eq_true rfl) (trivial))) ⟨⟨_, rfl, .ref rfl⟩, ⟨_, rfl, .same _ (by simp)⟩, ⟨_, rfl, .ref rfl⟩, ⟨_, rfl, .same _ (by simp)⟩, trivial⟩) ?_)
  clear hK3 K3
  refine awp_seqK fun K4 hK4 => ?_
  refine awp_reg rfl ?_
  refine AR.op (r := G.graph_Graph.av r23.1) rfl (aop_load_ref rfl rfl rfl rfl sz24 rfl) ?_
  obtain ⟨r25, hr25, h⟩ := Sh.bind_some' h
  refine AR.op (r := .tuple [G.graph_Graph.av r25.1, i64 r25.2]) rfl (aop_call1 rfl rfl (by simp) (graph_Turn_ok hT hr25)) ?_
  refine AR.op (r := .tuple [G.graph_Graph.av r25.1, i64 r25.2]) rfl (aop_move (.inl rfl) rfl) ?_
  refine AR.drop (frx := [(1, _), (2, _), (3, _), (4, _), (21, _)]) ⟨rfl, rfl, rfl, rfl, rfl, trivial⟩ ?_
  refine AR.op (r := G.graph_Graph.av r25.1) rfl (aop_extract rfl rfl rfl) ?_
  refine AR.op (r := i64 r25.2) rfl (aop_extract rfl rfl rfl) ?_
  refine AR.op (r := .ref 2 0 0) rfl (aop_alloc 2 [.agg [i64 0, nilS]] rfl zr24 (by kernel_rfl) (.inl ⟨rfl, rfl⟩)) ?_
  refine AR.drop (frx := [(1, _), (2, _), (3, _), (4, _), (24, _), (25, _), (5, _)]) ⟨rfl, rfl, rfl, rfl, rfl, rfl, rfl, trivial⟩ ?_
  refine AR.op rfl (aop_store (e' := G.graph_Graph.av r25.1) rfl rfl rfl rfl rfl rfl sz24 rfl (of_decide_eq_true rfl) rfl) ?_
  refine AR.op (r := i64 r25.2) rfl (aop_move (.inr rfl) rfl) ?_
  refine AR.nil ?_
  refine hK4 _ (AWP.weak (Weak.re (fr' := [(1, .ref 0 0 0), (2, i64 r21.2), (3, .ref 1 0 0), (4, i64 r23.2), (5, .ref 2 0 0), (6, i64 r25.2)]) (H' := ⟨3, [(0, (2, [G.graph_Graph.av r21.1])), (1, (2, [G.graph_Graph.av r23.1])), (2, (2, [G.graph_Graph.av r25.1]))]⟩) [(0, 0), (1, 1), (2, 2)] [] rfl rfl rfl (.cons rfl rfl (.one (.same _ (by simp)) rfl) (of_decide_eq_true rfl) (.cons rfl rfl (.one (.same _ (by simp)) rfl) (of_decide_eq_true rfl) (.cons rfl rfl (.one (.same _ (by simp)) rfl) (of_decide_eq_true rfl) (trivial)))) ⟨⟨_, rfl, .ref rfl⟩, ⟨_, rfl, .same _ (by simp)⟩, ⟨_, rfl, .ref rfl⟩, ⟨_, rfl, .same _ (by simp)⟩, ⟨_, rfl, .ref rfl⟩, ⟨_, rfl, .same _ (by simp)⟩, trivial⟩) ?_)
  clear hK4 K4
  refine awp_seqK fun K5 hK5 => ?_
  refine awp_reg rfl ?_
  refine AR.op (r := G.graph_Graph.av r25.1) rfl (aop_load_ref rfl rfl rfl rfl sz24 rfl) ?_
  obtain ⟨r27, hr27, h⟩ := Sh.bind_some' h
  refine AR.op (r := .sl (List.map G.graph_Edge.av r27)) rfl (aop_call1 rfl rfl (by simp) (graph_Edges_ok hT hr27)) ?_
  refine AR.op (r := .sl (List.map G.graph_Edge.av r27)) rfl (aop_move (.inr rfl) rfl) ?_
  refine AR.nil ?_
  refine hK5 _ (AWP.weak (Weak.re (fr' := [(1, .ref 0 0 0), (2, i64 r21.2), (3, .ref 1 0 0), (4, i64 r23.2), (6, i64 r25.2), (7, .sl (List.map G.graph_Edge.av r27))]) (H' := ⟨2, [(0, (2, [G.graph_Graph.av r21.1])), (1, (2, [G.graph_Graph.av r23.1]))]⟩) [(0, 0), (1, 1)] [] rfl rfl rfl (.cons rfl rfl (.one (.same _ (by simp)) rfl) (of_decide_eq_true rfl) (.cons rfl rfl (.one (.same _ (by simp)) rfl) (of_decide_eq_true rfl) (trivial))) ⟨⟨_, rfl, .ref rfl⟩, ⟨_, rfl, .same _ (by simp)⟩, ⟨_, rfl, .ref rfl⟩, ⟨_, rfl, .same _ (by simp)⟩, ⟨_, rfl, .same _ (by simp)⟩, ⟨.sl (List.map G.graph_Edge.av r27), rfl, .same _ (by simp)⟩, trivial⟩) ?_)
  clear hK5 K5
  refine awp_seqK fun K6 hK6 => ?_
  refine awp_reg rfl ?_
  refine AR.op (r := i64 r21.2) rfl (aop_move (.inl rfl) rfl) ?_
  refine AR.op (r := bl (decide (r21.2 = 0))) rfl (aop_eql rfl rfl rfl) ?_
  refine AR.op (r := bl (decide (r21.2 = 0))) rfl (aop_move (.inl rfl) rfl) ?_
  refine AR.drop (frx := [(1, _), (3, _), (4, _), (6, _), (7, _), (30, _)]) ⟨rfl, rfl, rfl, rfl, rfl, rfl, trivial⟩ ?_
  rcases Bool.eq_false_or_eq_true (decide (r21.2 = 0)) with hb42 | hb42
  · rw [hb42]
    replace h := Sh.if_t h hb42
    refine AR.op (r := i64 r23.2) rfl (aop_move (.inl rfl) rfl) ?_
    refine AR.op (r := bl (decide (r23.2 = 0))) rfl (aop_eql rfl rfl rfl) ?_
    refine AR.op (r := bl (decide (r23.2 = 0))) rfl (aop_pick rfl rfl rfl) ?_
    refine AR.drop (frx := [(1, _), (3, _), (6, _), (7, _), (33, _)]) ⟨rfl, rfl, rfl, rfl, rfl, trivial⟩ ?_
    refine AR.op (r := bl (decide (r23.2 = 0))) rfl (aop_move (.inl rfl) rfl) ?_
    rcases Bool.eq_false_or_eq_true (decide (r23.2 = 0)) with hb43 | hb43
    · rw [hb43]
      replace h := Sh.if_t h hb43
      refine AR.op (r := i64 r25.2) rfl (aop_move (.inl rfl) rfl) ?_
      refine AR.op (r := bl (decide (r25.2 = 0))) rfl (aop_eql rfl rfl rfl) ?_
      refine AR.drop (frx := [(1, _), (3, _), (7, _), (34, _), (36, _)]) ⟨rfl, rfl, rfl, rfl, rfl, trivial⟩ ?_
      refine AR.op (r := bl (decide (r25.2 = 0))) rfl (aop_pick rfl rfl rfl) ?_
      refine AR.op (r := bl (decide (r25.2 = 0))) rfl (aop_move (.inl rfl) rfl) ?_
      rcases Bool.eq_false_or_eq_true (decide (r25.2 = 0)) with hb44 | hb44
      · rw [hb44]
        replace h := Sh.if_t h hb44
        refine AR.op (r := G.graph_Graph.av r23.1) rfl (aop_load_ref rfl rfl rfl rfl sz24 rfl) ?_
        refine AR.drop (frx := [(1, _), (3, _), (7, _), (38, _), (39, _)]) ⟨rfl, rfl, rfl, rfl, rfl, trivial⟩ ?_
        obtain ⟨r45, hr45, h⟩ := Sh.bind_some' h
        refine AR.op (r := bl r45) rfl (aop_call1 rfl rfl (by simp) (graph_Has_ok hT hr45)) ?_
        refine AR.op (r := bl r45) rfl (aop_pick rfl rfl rfl) ?_
        refine AR.op (r := bl r45) rfl (aop_move (.inl rfl) rfl) ?_
        refine AR.drop (frx := [(1, _), (3, _), (7, _), (42, _)]) ⟨rfl, rfl, rfl, rfl, trivial⟩ ?_
        rcases Bool.eq_false_or_eq_true (r45) with hb46 | hb46
        · rw [hb46]
          replace h := Sh.if_t h hb46
          refine AR.op (r := G.graph_Graph.av r23.1) rfl (aop_load_ref rfl rfl rfl rfl sz24 rfl) ?_
          obtain ⟨r47, hr47, h⟩ := Sh.bind_some' h
          refine AR.op (r := bl r47) rfl (aop_call1 rfl rfl (by simp) (graph_Has_ok hT hr47)) ?_
          refine AR.op (r := bl (!r47)) rfl (aop_not rfl rfl) ?_
          refine AR.drop (frx := [(1, _), (7, _), (42, _), (45, _)]) ⟨rfl, rfl, rfl, rfl, trivial⟩ ?_
          refine AR.op (r := bl (!r47)) rfl (aop_pick rfl rfl rfl) ?_
          refine AR.op (r := bl (!r47)) rfl (aop_move (.inl rfl) rfl) ?_
          rcases Bool.eq_false_or_eq_true (!r47) with hb48 | hb48
          · rw [hb48]
            replace h := Sh.if_t h hb48
            refine AR.op (r := .sl (List.map G.graph_Edge.av r27)) rfl (aop_move (.inl rfl) rfl) ?_
            refine AR.drop (frx := [(1, _), (7, _), (47, _), (48, _)]) ⟨rfl, rfl, rfl, rfl, trivial⟩ ?_
            refine AR.op (r := i64 (Sh.len r27)) rfl (t_len_sl G.graph_Edge.av r27 rfl rfl el36) ?_
            refine AR.op (r := bl (decide ((Sh.len r27) = 1))) rfl (aop_eql rfl rfl rfl) ?_
            refine AR.op (r := bl (decide ((Sh.len r27) = 1))) rfl (aop_pick rfl rfl rfl) ?_
            refine AR.drop (frx := [(1, _), (7, _), (51, _)]) ⟨rfl, rfl, rfl, trivial⟩ ?_
            refine AR.op (r := bl (decide ((Sh.len r27) = 1))) rfl (aop_move (.inl rfl) rfl) ?_
            rcases Bool.eq_false_or_eq_true (decide ((Sh.len r27) = 1)) with hb49 | hb49
            · rw [hb49]
              replace h := Sh.if_t h hb49
              refine AR.op (r := .sl (List.map G.graph_Edge.av r27)) rfl (aop_move (.inl rfl) rfl) ?_
              obtain ⟨x50, hx50, h⟩ := Sh.bind_some' h
              obtain ⟨k51, hi51, hl51⟩ := Sh.idx_some hx50
              refine AR.op rfl (t_index_sl G.graph_Edge.av r27 hi51 hl51 rfl rfl rfl el36 rfl) ?_
              refine AR.drop (frx := [(1, _), (52, _), (54, _)]) ⟨rfl, rfl, rfl, trivial⟩ ?_
              refine AR.op (r := G.graph_Edge.av x50) rfl (aop_load_pp rfl rfl sz43 rfl) ?_
              refine AR.op (r := .agg [i64 2, i64 0]) rfl (aop_build rfl bd43 rfl rfl rfl) ?_
              refine AR.op (r := bl (decide (x50 = (G.graph_Edge.mk 2 0)))) rfl (t_eq_graph_Edge (a := x50) (b := (G.graph_Edge.mk 2 0)) rfl rfl rfl) ?_
              refine AR.drop (frx := [(1, _), (52, _), (57, _)]) ⟨rfl, rfl, rfl, trivial⟩ ?_
              refine AR.op (r := bl (decide (x50 = (G.graph_Edge.mk 2 0)))) rfl (aop_pick rfl rfl rfl) ?_
              refine AR.op (r := bl (decide (x50 = (G.graph_Edge.mk 2 0)))) rfl (aop_move (.inl rfl) rfl) ?_
              rcases Bool.eq_false_or_eq_true (decide (x50 = (G.graph_Edge.mk 2 0))) with hb52 | hb52
              · rw [hb52]
                replace h := Sh.if_t h hb52
                refine AR.op (r := G.graph_Graph.av r21.1) rfl (aop_load_ref rfl rfl rfl rfl sz24 rfl) ?_
                refine AR.drop (frx := [(59, _), (60, _)]) ⟨rfl, rfl, trivial⟩ ?_
                obtain ⟨r53, hr53, h⟩ := Sh.bind_some' h
                refine AR.op (r := bl r53) rfl (aop_call1 rfl rfl (by simp) (graph_Right_ok hT hr53)) ?_
                refine AR.op (r := bl r53) rfl (aop_pick rfl rfl rfl) ?_
                refine AR.op (r := bl r53) rfl (aop_move (.inl rfl) rfl) ?_
                refine AR.drop (frx := [(63, _)]) ⟨rfl, trivial⟩ ?_
                rcases Bool.eq_false_or_eq_true (r53) with hb54 | hb54
                · rw [hb54]
                  replace h := Sh.if_t h hb54
                  refine AR.op (r := .agg [i64 1, nilS]) rfl (aop_build rfl bd24 rfl rfl rfl) ?_
                  obtain ⟨r55, hr55, h⟩ := Sh.bind_some' h
                  refine AR.op (r := bl r55) rfl (aop_callN rfl (ys := [.agg [i64 1, nilS]]) (xs := [G.graph_Graph.av (G.graph_Graph.mk 1 [])]) rfl (Weak.re (fr' := argsFr 0 [G.graph_Graph.av (G.graph_Graph.mk 1 [])]) (H' := .empty) [] [] rfl rfl rfl trivial ⟨⟨.agg [i64 1, nilS], rfl, .ag ⟨.same _ (by simp), .nilsl, trivial⟩⟩, trivial⟩) rfl (by simp) (graph_Right_ok hT hr55)) ?_
                  refine AR.op (r := bl (!r55)) rfl (aop_not rfl rfl) ?_
                  refine AR.drop (frx := [(63, _), (66, _)]) ⟨rfl, rfl, trivial⟩ ?_
                  refine AR.op (r := bl (!r55)) rfl (aop_pick rfl rfl rfl) ?_
                  refine AR.op (r := bl (!r55)) rfl (aop_move (.inr rfl) rfl) ?_
                  refine AR.nil ?_
                  refine hK6 _ (AWP.weak (Weak.re (fr' := [(0, bl (!r55))]) (H' := .empty) [] [] rfl rfl rfl (trivial) ⟨⟨_, rfl, .same _ (by simp)⟩, trivial⟩) ?_)
                  clear hK6 K6
                  refine awp_ret ?_
                  obtain rfl := Option.some.inj h
                  refine ⟨.inr rfl, bl (!r55), rfl, ?_⟩
                  exact Weak.re [] [] rfl rfl rfl (trivial) ⟨⟨_, rfl, .same _ (by simp)⟩, trivial⟩
                · rw [hb54]
                  replace h := Sh.if_f h hb54
                  refine AR.skip rfl ?_
                  refine AR.skip rfl ?_
                  refine AR.skip rfl ?_
                  refine AR.drop (frx := [(63, _), (66, _)]) ⟨rfl, rfl, trivial⟩ ?_
                  refine AR.op (r := bl false) rfl (aop_pick rfl rfl rfl) ?_
                  refine AR.op (r := bl false) rfl (aop_move (.inr rfl) rfl) ?_
                  refine AR.nil ?_
                  refine hK6 _ (AWP.weak (Weak.re (fr' := [(0, bl false)]) (H' := .empty) [] [] rfl rfl rfl (trivial) ⟨⟨_, rfl, .same _ (by simp)⟩, trivial⟩) ?_)
                  clear hK6 K6
                  refine awp_ret ?_
                  obtain rfl := Option.some.inj h
                  refine ⟨.inr rfl, bl false, rfl, ?_⟩
                  exact Weak.re [] [] rfl rfl rfl (trivial) ⟨⟨_, rfl, .same _ (by simp)⟩, trivial⟩
              · rw [hb52]
                replace h := Sh.if_f h hb52
                refine AR.skip rfl ?_
                refine AR.drop (frx := [(59, _), (60, _)]) ⟨rfl, rfl, trivial⟩ ?_
                refine AR.skip rfl ?_
                refine AR.op (r := bl false) rfl (aop_pick rfl rfl rfl) ?_
                refine AR.op (r := bl false) rfl (aop_move (.inl rfl) rfl) ?_
                refine AR.drop (frx := [(63, _)]) ⟨rfl, trivial⟩ ?_
                refine AR.skip rfl ?_
                refine AR.skip rfl ?_
                refine AR.skip rfl ?_
                refine AR.drop (frx := [(63, _), (66, _)]) ⟨rfl, rfl, trivial⟩ ?_
                refine AR.op (r := bl false) rfl (aop_pick rfl rfl rfl) ?_
                refine AR.op (r := bl false) rfl (aop_move (.inr rfl) rfl) ?_
                refine AR.nil ?_
                refine hK6 _ (AWP.weak (Weak.re (fr' := [(0, bl false)]) (H' := .empty) [] [] rfl rfl rfl (trivial) ⟨⟨_, rfl, .same _ (by simp)⟩, trivial⟩) ?_)
                clear hK6 K6
                refine awp_ret ?_
                obtain rfl := Option.some.inj h
                refine ⟨.inr rfl, bl false, rfl, ?_⟩
                exact Weak.re [] [] rfl rfl rfl (trivial) ⟨⟨_, rfl, .same _ (by simp)⟩, trivial⟩
            · rw [hb49]
              replace h := Sh.if_f h hb49
              refine AR.skip rfl ?_
              refine AR.skip rfl ?_
              refine AR.drop (frx := [(1, _), (52, _), (54, _)]) ⟨rfl, rfl, rfl, trivial⟩ ?_
              refine AR.skip rfl ?_
              refine AR.skip rfl ?_
              refine AR.skip rfl ?_
              refine AR.drop (frx := [(1, _), (52, _), (57, _)]) ⟨rfl, rfl, rfl, trivial⟩ ?_
              refine AR.op (r := bl false) rfl (aop_pick rfl rfl rfl) ?_
              refine AR.op (r := bl false) rfl (aop_move (.inl rfl) rfl) ?_
              refine AR.skip rfl ?_
              refine AR.drop (frx := [(59, _), (60, _)]) ⟨rfl, rfl, trivial⟩ ?_
              refine AR.skip rfl ?_
              refine AR.op (r := bl false) rfl (aop_pick rfl rfl rfl) ?_
              refine AR.op (r := bl false) rfl (aop_move (.inl rfl) rfl) ?_
              refine AR.drop (frx := [(63, _)]) ⟨rfl, trivial⟩ ?_
              refine AR.skip rfl ?_
              refine AR.skip rfl ?_
              refine AR.skip rfl ?_
              refine AR.drop (frx := [(63, _), (66, _)]) ⟨rfl, rfl, trivial⟩ ?_
              refine AR.op (r := bl false) rfl (aop_pick rfl rfl rfl) ?_
              refine AR.op (r := bl false) rfl (aop_move (.inr rfl) rfl) ?_
              refine AR.nil ?_
              refine hK6 _ (AWP.weak (Weak.re (fr' := [(0, bl false)]) (H' := .empty) [] [] rfl rfl rfl (trivial) ⟨⟨_, rfl, .same _ (by simp)⟩, trivial⟩) ?_)
              clear hK6 K6
              refine awp_ret ?_
              obtain rfl := Option.some.inj h
              refine ⟨.inr rfl, bl false, rfl, ?_⟩
              exact Weak.re [] [] rfl rfl rfl (trivial) ⟨⟨_, rfl, .same _ (by simp)⟩, trivial⟩
          · rw [hb48]
            replace h := Sh.if_f h hb48
            refine AR.skip rfl ?_
            refine AR.drop (frx := [(1, _), (7, _), (47, _), (48, _)]) ⟨rfl, rfl, rfl, rfl, trivial⟩ ?_
            refine AR.skip rfl ?_
            refine AR.skip rfl ?_
            refine AR.op (r := bl false) rfl (aop_pick rfl rfl rfl) ?_
            refine AR.drop (frx := [(1, _), (7, _), (51, _)]) ⟨rfl, rfl, rfl, trivial⟩ ?_
            refine AR.op (r := bl false) rfl (aop_move (.inl rfl) rfl) ?_
            refine AR.skip rfl ?_
            refine AR.skip rfl ?_
            refine AR.drop (frx := [(1, _), (52, _), (54, _)]) ⟨rfl, rfl, rfl, trivial⟩ ?_
            refine AR.skip rfl ?_
            refine AR.skip rfl ?_
            refine AR.skip rfl ?_
            refine AR.drop (frx := [(1, _), (52, _), (57, _)]) ⟨rfl, rfl, rfl, trivial⟩ ?_
            refine AR.op (r := bl false) rfl (aop_pick rfl rfl rfl) ?_
            refine AR.op (r := bl false) rfl (aop_move (.inl rfl) rfl) ?_
            refine AR.skip rfl ?_
            refine AR.drop (frx := [(59, _), (60, _)]) ⟨rfl, rfl, trivial⟩ ?_
            refine AR.skip rfl ?_
            refine AR.op (r := bl false) rfl (aop_pick rfl rfl rfl) ?_
            refine AR.op (r := bl false) rfl (aop_move (.inl rfl) rfl) ?_
            refine AR.drop (frx := [(63, _)]) ⟨rfl, trivial⟩ ?_
            refine AR.skip rfl ?_
            refine AR.skip rfl ?_
            refine AR.skip rfl ?_
            refine AR.drop (frx := [(63, _), (66, _)]) ⟨rfl, rfl, trivial⟩ ?_
            refine AR.op (r := bl false) rfl (aop_pick rfl rfl rfl) ?_
            refine AR.op (r := bl false) rfl (aop_move (.inr rfl) rfl) ?_
            refine AR.nil ?_
            refine hK6 _ (AWP.weak (Weak.re (fr' := [(0, bl false)]) (H' := .empty) [] [] rfl rfl rfl (trivial) ⟨⟨_, rfl, .same _ (by simp)⟩, trivial⟩) ?_)
            clear hK6 K6
            refine awp_ret ?_
            obtain rfl := Option.some.inj h
            refine ⟨.inr rfl, bl false, rfl, ?_⟩
            exact Weak.re [] [] rfl rfl rfl (trivial) ⟨⟨_, rfl, .same _ (by simp)⟩, trivial⟩
        · rw [hb46]
          replace h := Sh.if_f h hb46
          refine AR.skip rfl ?_
          refine AR.skip rfl ?_
          refine AR.skip rfl ?_
          refine AR.drop (frx := [(1, _), (7, _), (42, _), (45, _)]) ⟨rfl, rfl, rfl, rfl, trivial⟩ ?_
          refine AR.op (r := bl false) rfl (aop_pick rfl rfl rfl) ?_
          refine AR.op (r := bl false) rfl (aop_move (.inl rfl) rfl) ?_
          refine AR.skip rfl ?_
          refine AR.drop (frx := [(1, _), (7, _), (47, _), (48, _)]) ⟨rfl, rfl, rfl, rfl, trivial⟩ ?_
          refine AR.skip rfl ?_
          refine AR.skip rfl ?_
          refine AR.op (r := bl false) rfl (aop_pick rfl rfl rfl) ?_
          refine AR.drop (frx := [(1, _), (7, _), (51, _)]) ⟨rfl, rfl, rfl, trivial⟩ ?_
          refine AR.op (r := bl false) rfl (aop_move (.inl rfl) rfl) ?_
          refine AR.skip rfl ?_
          refine AR.skip rfl ?_
          refine AR.drop (frx := [(1, _), (52, _), (54, _)]) ⟨rfl, rfl, rfl, trivial⟩ ?_
          refine AR.skip rfl ?_
          refine AR.skip rfl ?_
          refine AR.skip rfl ?_
          refine AR.drop (frx := [(1, _), (52, _), (57, _)]) ⟨rfl, rfl, rfl, trivial⟩ ?_
          refine AR.op (r := bl false) rfl (aop_pick rfl rfl rfl) ?_
          refine AR.op (r := bl false) rfl (aop_move (.inl rfl) rfl) ?_
          refine AR.skip rfl ?_
          refine AR.drop (frx := [(59, _), (60, _)]) ⟨rfl, rfl, trivial⟩ ?_
          refine AR.skip rfl ?_
          refine AR.op (r := bl false) rfl (aop_pick rfl rfl rfl) ?_
          refine AR.op (r := bl false) rfl (aop_move (.inl rfl) rfl) ?_
          refine AR.drop (frx := [(63, _)]) ⟨rfl, trivial⟩ ?_
          refine AR.skip rfl ?_
          refine AR.skip rfl ?_
          refine AR.skip rfl ?_
          refine AR.drop (frx := [(63, _), (66, _)]) ⟨rfl, rfl, trivial⟩ ?_
          refine AR.op (r := bl false) rfl (aop_pick rfl rfl rfl) ?_
          refine AR.op (r := bl false) rfl (aop_move (.inr rfl) rfl) ?_
          refine AR.nil ?_
          refine hK6 _ (AWP.weak (Weak.re (fr' := [(0, bl false)]) (H' := .empty) [] [] rfl rfl rfl (trivial) ⟨⟨_, rfl, .same _ (by simp)⟩, trivial⟩) ?_)
          clear hK6 K6
          refine awp_ret ?_
          obtain rfl := Option.some.inj h
          refine ⟨.inr rfl, bl false, rfl, ?_⟩
          exact Weak.re [] [] rfl rfl rfl (trivial) ⟨⟨_, rfl, .same _ (by simp)⟩, trivial⟩
      · rw [hb44]
        replace h := Sh.if_f h hb44
        refine AR.skip rfl ?_
        refine AR.drop (frx := [(1, _), (3, _), (7, _), (38, _), (39, _)]) ⟨rfl, rfl, rfl, rfl, rfl, trivial⟩ ?_
        refine AR.skip rfl ?_
        refine AR.op (r := bl false) rfl (aop_pick rfl rfl rfl) ?_
        refine AR.op (r := bl false) rfl (aop_move (.inl rfl) rfl) ?_
        refine AR.drop (frx := [(1, _), (3, _), (7, _), (42, _)]) ⟨rfl, rfl, rfl, rfl, trivial⟩ ?_
        refine AR.skip rfl ?_
        refine AR.skip rfl ?_
        refine AR.skip rfl ?_
        refine AR.drop (frx := [(1, _), (7, _), (42, _), (45, _)]) ⟨rfl, rfl, rfl, rfl, trivial⟩ ?_
        refine AR.op (r := bl false) rfl (aop_pick rfl rfl rfl) ?_
        refine AR.op (r := bl false) rfl (aop_move (.inl rfl) rfl) ?_
        refine AR.skip rfl ?_
        refine AR.drop (frx := [(1, _), (7, _), (47, _), (48, _)]) ⟨rfl, rfl, rfl, rfl, trivial⟩ ?_
        refine AR.skip rfl ?_
        refine AR.skip rfl ?_
        refine AR.op (r := bl false) rfl (aop_pick rfl rfl rfl) ?_
        refine AR.drop (frx := [(1, _), (7, _), (51, _)]) ⟨rfl, rfl, rfl, trivial⟩ ?_
        refine AR.op (r := bl false) rfl (aop_move (.inl rfl) rfl) ?_
        refine AR.skip rfl ?_
        refine AR.skip rfl ?_
        refine AR.drop (frx := [(1, _), (52, _), (54, _)]) ⟨rfl, rfl, rfl, trivial⟩ ?_
        refine AR.skip rfl ?_
        refine AR.skip rfl ?_
        refine AR.skip rfl ?_
        refine AR.drop (frx := [(1, _), (52, _), (57, _)]) ⟨rfl, rfl, rfl, trivial⟩ ?_
        refine AR.op (r := bl false) rfl (aop_pick rfl rfl rfl) ?_
        refine AR.op (r := bl false) rfl (aop_move (.inl rfl) rfl) ?_
        refine AR.skip rfl ?_
        refine AR.drop (frx := [(59, _), (60, _)]) ⟨rfl, rfl, trivial⟩ ?_
        refine AR.skip rfl ?_
        refine AR.op (r := bl false) rfl (aop_pick rfl rfl rfl) ?_
        refine AR.op (r := bl false) rfl (aop_move (.inl rfl) rfl) ?_
        refine AR.drop (frx := [(63, _)]) ⟨rfl, trivial⟩ ?_
        refine AR.skip rfl ?_
        refine AR.skip rfl ?_
        refine AR.skip rfl ?_
        refine AR.drop (frx := [(63, _), (66, _)]) ⟨rfl, rfl, trivial⟩ ?_
        refine AR.op (r := bl false) rfl (aop_pick rfl rfl rfl) ?_
        refine AR.op (r := bl false) rfl (aop_move (.inr rfl) rfl) ?_
        refine AR.nil ?_
        refine hK6 _ (AWP.weak (Weak.re (fr' := [(0, bl false)]) (H' := .empty) [] [] rfl rfl rfl (trivial) ⟨⟨_, rfl, .same _ (by simp)⟩, trivial⟩) ?_)
        clear hK6 K6
        refine awp_ret ?_
        obtain rfl := Option.some.inj h
        refine ⟨.inr rfl, bl false, rfl, ?_⟩
        exact Weak.re [] [] rfl rfl rfl (trivial) ⟨⟨_, rfl, .same _ (by simp)⟩, trivial⟩
    · rw [hb43]
      replace h := Sh.if_f h hb43
      refine AR.skip rfl ?_
      refine AR.skip rfl ?_
      refine AR.drop (frx := [(1, _), (3, _), (7, _), (34, _), (36, _)]) ⟨rfl, rfl, rfl, rfl, rfl, trivial⟩ ?_
      refine AR.op (r := bl false) rfl (aop_pick rfl rfl rfl) ?_
      refine AR.op (r := bl false) rfl (aop_move (.inl rfl) rfl) ?_
      refine AR.skip rfl ?_
      refine AR.drop (frx := [(1, _), (3, _), (7, _), (38, _), (39, _)]) ⟨rfl, rfl, rfl, rfl, rfl, trivial⟩ ?_
      refine AR.skip rfl ?_
      refine AR.op (r := bl false) rfl (aop_pick rfl rfl rfl) ?_
      refine AR.op (r := bl false) rfl (aop_move (.inl rfl) rfl) ?_
      refine AR.drop (frx := [(1, _), (3, _), (7, _), (42, _)]) ⟨rfl, rfl, rfl, rfl, trivial⟩ ?_
      refine AR.skip rfl ?_
      refine AR.skip rfl ?_
      refine AR.skip rfl ?_
      refine AR.drop (frx := [(1, _), (7, _), (42, _), (45, _)]) ⟨rfl, rfl, rfl, rfl, trivial⟩ ?_
      refine AR.op (r := bl false) rfl (aop_pick rfl rfl rfl) ?_
      refine AR.op (r := bl false) rfl (aop_move (.inl rfl) rfl) ?_
      refine AR.skip rfl ?_
      refine AR.drop (frx := [(1, _), (7, _), (47, _), (48, _)]) ⟨rfl, rfl, rfl, rfl, trivial⟩ ?_
      refine AR.skip rfl ?_
      refine AR.skip rfl ?_
      refine AR.op (r := bl false) rfl (aop_pick rfl rfl rfl) ?_
      refine AR.drop (frx := [(1, _), (7, _), (51, _)]) ⟨rfl, rfl, rfl, trivial⟩ ?_
      refine AR.op (r := bl false) rfl (aop_move (.inl rfl) rfl) ?_
      refine AR.skip rfl ?_
      refine AR.skip rfl ?_
      refine AR.drop (frx := [(1, _), (52, _), (54, _)]) ⟨rfl, rfl, rfl, trivial⟩ ?_
      refine AR.skip rfl ?_
      refine AR.skip rfl ?_
      refine AR.skip rfl ?_
      refine AR.drop (frx := [(1, _), (52, _), (57, _)]) ⟨rfl, rfl, rfl, trivial⟩ ?_
      refine AR.op (r := bl false) rfl (aop_pick rfl rfl rfl) ?_
      refine AR.op (r := bl false) rfl (aop_move (.inl rfl) rfl) ?_
      refine AR.skip rfl ?_
      refine AR.drop (frx := [(59, _), (60, _)]) ⟨rfl, rfl, trivial⟩ ?_
      refine AR.skip rfl ?_
      refine AR.op (r := bl false) rfl (aop_pick rfl rfl rfl) ?_
      refine AR.op (r := bl false) rfl (aop_move (.inl rfl) rfl) ?_
      refine AR.drop (frx := [(63, _)]) ⟨rfl, trivial⟩ ?_
      refine AR.skip rfl ?_
      refine AR.skip rfl ?_
      refine AR.skip rfl ?_
      refine AR.drop (frx := [(63, _), (66, _)]) ⟨rfl, rfl, trivial⟩ ?_
      refine AR.op (r := bl false) rfl (aop_pick rfl rfl rfl) ?_
      refine AR.op (r := bl false) rfl (aop_move (.inr rfl) rfl) ?_
      refine AR.nil ?_
      refine hK6 _ (AWP.weak (Weak.re (fr' := [(0, bl false)]) (H' := .empty) [] [] rfl rfl rfl (trivial) ⟨⟨_, rfl, .same _ (by simp)⟩, trivial⟩) ?_)
      clear hK6 K6
      refine awp_ret ?_
      obtain rfl := Option.some.inj h
      refine ⟨.inr rfl, bl false, rfl, ?_⟩
      exact Weak.re [] [] rfl rfl rfl (trivial) ⟨⟨_, rfl, .same _ (by simp)⟩, trivial⟩
  · rw [hb42]
    replace h := Sh.if_f h hb42
    refine AR.skip rfl ?_
    refine AR.skip rfl ?_
    refine AR.op (r := bl false) rfl (aop_pick rfl rfl rfl) ?_
    refine AR.drop (frx := [(1, _), (3, _), (6, _), (7, _), (33, _)]) ⟨rfl, rfl, rfl, rfl, rfl, trivial⟩ ?_
    refine AR.op (r := bl false) rfl (aop_move (.inl rfl) rfl) ?_
    refine AR.skip rfl ?_
    refine AR.skip rfl ?_
    refine AR.drop (frx := [(1, _), (3, _), (7, _), (34, _), (36, _)]) ⟨rfl, rfl, rfl, rfl, rfl, trivial⟩ ?_
    refine AR.op (r := bl false) rfl (aop_pick rfl rfl rfl) ?_
    refine AR.op (r := bl false) rfl (aop_move (.inl rfl) rfl) ?_
    refine AR.skip rfl ?_
    refine AR.drop (frx := [(1, _), (3, _), (7, _), (38, _), (39, _)]) ⟨rfl, rfl, rfl, rfl, rfl, trivial⟩ ?_
    refine AR.skip rfl ?_
    refine AR.op (r := bl false) rfl (aop_pick rfl rfl rfl) ?_
    refine AR.op (r := bl false) rfl (aop_move (.inl rfl) rfl) ?_
    refine AR.drop (frx := [(1, _), (3, _), (7, _), (42, _)]) ⟨rfl, rfl, rfl, rfl, trivial⟩ ?_
    refine AR.skip rfl ?_
    refine AR.skip rfl ?_
    refine AR.skip rfl ?_
    refine AR.drop (frx := [(1, _), (7, _), (42, _), (45, _)]) ⟨rfl, rfl, rfl, rfl, trivial⟩ ?_
    refine AR.op (r := bl false) rfl (aop_pick rfl rfl rfl) ?_
    refine AR.op (r := bl false) rfl (aop_move (.inl rfl) rfl) ?_
    refine AR.skip rfl ?_
    refine AR.drop (frx := [(1, _), (7, _), (47, _), (48, _)]) ⟨rfl, rfl, rfl, rfl, trivial⟩ ?_
    refine AR.skip rfl ?_
    refine AR.skip rfl ?_
    refine AR.op (r := bl false) rfl (aop_pick rfl rfl rfl) ?_
    refine AR.drop (frx := [(1, _), (7, _), (51, _)]) ⟨rfl, rfl, rfl, trivial⟩ ?_
    refine AR.op (r := bl false) rfl (aop_move (.inl rfl) rfl) ?_
    refine AR.skip rfl ?_
    refine AR.skip rfl ?_
    refine AR.drop (frx := [(1, _), (52, _), (54, _)]) ⟨rfl, rfl, rfl, trivial⟩ ?_
    refine AR.skip rfl ?_
    refine AR.skip rfl ?_
    refine AR.skip rfl ?_
    refine AR.drop (frx := [(1, _), (52, _), (57, _)]) ⟨rfl, rfl, rfl, trivial⟩ ?_
    refine AR.op (r := bl false) rfl (aop_pick rfl rfl rfl) ?_
    refine AR.op (r := bl false) rfl (aop_move (.inl rfl) rfl) ?_
    refine AR.skip rfl ?_
    refine AR.drop (frx := [(59, _), (60, _)]) ⟨rfl, rfl, trivial⟩ ?_
    refine AR.skip rfl ?_
    refine AR.op (r := bl false) rfl (aop_pick rfl rfl rfl) ?_
    refine AR.op (r := bl false) rfl (aop_move (.inl rfl) rfl) ?_
    refine AR.drop (frx := [(63, _)]) ⟨rfl, trivial⟩ ?_
    refine AR.skip rfl ?_
    refine AR.skip rfl ?_
    refine AR.skip rfl ?_
    refine AR.drop (frx := [(63, _), (66, _)]) ⟨rfl, rfl, trivial⟩ ?_
    refine AR.op (r := bl false) rfl (aop_pick rfl rfl rfl) ?_
    refine AR.op (r := bl false) rfl (aop_move (.inr rfl) rfl) ?_
    refine AR.nil ?_
    refine hK6 _ (AWP.weak (Weak.re (fr' := [(0, bl false)]) (H' := .empty) [] [] rfl rfl rfl (trivial) ⟨⟨_, rfl, .same _ (by simp)⟩, trivial⟩) ?_)
    clear hK6 K6
    refine awp_ret ?_
    obtain rfl := Option.some.inj h
    refine ⟨.inr rfl, bl false, rfl, ?_⟩
    exact Weak.re [] [] rfl rfl rfl (trivial) ⟨⟨_, rfl, .same _ (by simp)⟩, trivial⟩
theorem inquestlaw12_awake_ok {W0 : World} (hT : Tab W0) {r : Bool} (h : G.inquestlaw12_awake = some r) : Fun1 Tryd.prog W0 15 [] (bl r) := Fun1.two (inquestlaw12_awake_ok0 hT h) (by simp)


set_option maxHeartbeats 8000000 in
theorem inquestlaw12_Plain_ok0 {W0 : World} (hT : Tab W0) {g_0 : G.graph_Graph} {r : G.inquestref12_G} (h : G.inquestlaw12_Plain g_0 = some r) : Fun2 Tryd.prog W0 16 [G.graph_Graph.av g_0] (G.inquestref12_G.av r) .empty := by
  refine fun2_of_awp Tryd.func16 rfl (by kernel_rfl) Tryd.ntmps16 (by simp) ?_
  unfold G.inquestlaw12_Plain at h
  show AWP _ _ _ _ ⟨[(0, G.graph_Graph.av g_0)], .empty⟩ _
  refine awp_seqK fun K1 hK1 => ?_
  refine awp_reg rfl ?_
  refine AR.op (r := .ref 0 0 0) rfl (aop_box 2 [G.graph_Graph.av g_0] rfl rfl rfl (.inl ⟨rfl, rfl⟩)) ?_
  refine AR.op (r := .ref 1 0 0) rfl (aop_alloc 2 [.agg [i64 0, nilS]] rfl zr26 (by kernel_rfl) (.inl ⟨rfl, rfl⟩)) ?_
  refine AR.nil ?_
  refine hK1 _ (AWP.weak (Weak.re (fr' := [(1, .ref 0 0 0), (2, .ref 1 0 0)]) (H' := ⟨2, [(0, (2, [G.graph_Graph.av g_0])), (1, (2, [.agg [i64 0, nilS]]))]⟩) [(0, 0), (1, 1)] [] rfl rfl rfl (.cons rfl rfl (.one (.same _ (by simp)) rfl) (of_decide_eq_true rfl) (.cons rfl rfl (.one (.same _ (by simp)) rfl) (of_decide_eq_true rfl) (trivial))) ⟨⟨_, rfl, .ref rfl⟩, ⟨_, rfl, .ref rfl⟩, trivial⟩) ?_)
  clear hK1 K1
  refine awp_seqK fun K2 hK2 => ?_
  refine awp_reg rfl ?_
  refine AR.op rfl (aop_field_ref rfl rfl rfl fd24_0 (by decide)) ?_
  refine AR.op (r := i64 g_0.N) rfl (aop_load_ref rfl rfl rfl rfl sz3 rfl) ?_
  refine AR.op rfl (aop_field_ref rfl rfl rfl fd24_1 (by decide)) ?_
  refine AR.drop (frx := [(2, _), (4, _), (5, _)]) ⟨rfl, rfl, rfl, trivial⟩ ?_
  refine AR.op (r := .sl (List.map u64 g_0.Rows)) rfl (aop_load_ref rfl rfl rfl rfl sz22 rfl) ?_
  refine AR.op (r := .agg [i64 g_0.N, .sl (List.map u64 g_0.Rows)]) rfl (aop_build rfl bd26 rfl rfl rfl) ?_
  refine AR.op rfl (aop_store (e' := .agg [i64 g_0.N, .sl (List.map u64 g_0.Rows)]) rfl rfl rfl rfl rfl rfl sz26 rfl (of_decide_eq_true rfl) rfl) ?_
  refine AR.nil ?_
  refine hK2 _ (AWP.weak (Weak.re (fr' := [(2, .ref 0 0 0)]) (H' := ⟨1, [(0, (2, [.agg [i64 g_0.N, .sl (List.map u64 g_0.Rows)]]))]⟩) [(0, 1)] [] rfl rfl rfl (.cons rfl rfl (.one (.same _ (by simp)) rfl) (of_decide_eq_true rfl) (trivial)) ⟨⟨_, rfl, .ref rfl⟩, trivial⟩) ?_)
  clear hK2 K2
  refine awp_ret ?_
  obtain rfl := Option.some.inj h
  refine ⟨.inr rfl, .agg [i64 g_0.N, .sl (List.map u64 g_0.Rows)], rfl, ?_⟩
  exact Weak.re [] [] rfl rfl rfl (trivial) ⟨⟨.agg [i64 g_0.N, .sl (List.map u64 g_0.Rows)], rfl, .same _ (by simp)⟩, trivial⟩
theorem inquestlaw12_Plain_ok {W0 : World} (hT : Tab W0) {g_0 : G.graph_Graph} {r : G.inquestref12_G} (h : G.inquestlaw12_Plain g_0 = some r) : Fun1 Tryd.prog W0 16 [G.graph_Graph.av g_0] (G.inquestref12_G.av r) := Fun1.two (inquestlaw12_Plain_ok0 hT h) (by simp)

end Wk
