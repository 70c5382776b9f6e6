/- That the functions of a package do what their plain functions say. -/
import Derived.Test.YtmmeihaoldinnaaDoorSh
import Derived.Test.YtmmeihaoldinnaaDoorWkGFacts
import Derived.Test.YtmmeihaoldinnaaDoorWkGbits
import Derived.Test.YtmmeihaoldinnaaDoorWkGgraph
open Go Go.Av Go.Proofs
set_option linter.unusedVariables false
namespace Wk
set_option maxHeartbeats 8000000 in
theorem topo_Order_own {W0 : World} (hT : Tab W0) {g_0 : G.graph_Graph} {r : (List Int) × Bool} (h : G.topo_Order g_0 = some r) : Fun2 Tryd.prog W0 44 [G.graph_Graph.av g_0] (.tuple [.view 0 0 (List.map i64 r.1).length, bl r.2]) ⟨1, [(0, (1, List.map i64 r.1))]⟩ := by
  refine fun2_of_awp Tryd.func44 rfl (by kernel_rfl) Tryd.ntmps44 (by simp) ?_
  unfold G.topo_Order at h
  show AWP _ _ _ _ ⟨[(0, G.graph_Graph.av g_0)], .empty⟩ _
  refine awp_seqK fun K1 hK1 => ?_
  refine awp_reg rfl ?_
  refine AR.op (r := .ref 0 0 0) rfl (aop_box 2 [G.graph_Graph.av g_0] rfl rfl rfl (.inl ⟨rfl, rfl⟩)) ?_
  refine AR.op (r := nilS) rfl (aop_move (.inr rfl) rfl) ?_
  refine AR.op (r := bl false) rfl (aop_move (.inr rfl) rfl) ?_
  refine AR.nil ?_
  refine hK1 _ (AWP.weak (Weak.re (fr' := [(1, .ref 0 0 0)]) (H' := ⟨1, [(0, (2, [G.graph_Graph.av g_0]))]⟩) [(0, 0)] [] rfl rfl rfl (.cons rfl rfl (.one (.same _ (by simp)) rfl) (of_decide_eq_true rfl) (trivial)) ⟨⟨_, rfl, .ref rfl⟩, trivial⟩) ?_)
  clear hK1 K1
  refine awp_seqK fun K2 hK2 => ?_
  refine awp_reg rfl ?_
  refine AR.op (r := G.graph_Graph.av g_0) rfl (aop_load_ref rfl rfl rfl rfl sz24 rfl) ?_
  obtain ⟨r91, hr91, h⟩ := Sh.bind_some' h
  refine AR.op (r := .tuple [G.graph_Graph.av r91.1, i64 r91.2]) rfl (aop_call1 rfl rfl (by simp) (graph_Turn_ok hT hr91)) ?_
  refine AR.op (r := .tuple [G.graph_Graph.av r91.1, i64 r91.2]) rfl (aop_move (.inl rfl) rfl) ?_
  refine AR.drop (frx := [(1, _), (10, _)]) ⟨rfl, rfl, trivial⟩ ?_
  refine AR.op (r := G.graph_Graph.av r91.1) rfl (aop_extract rfl rfl rfl) ?_
  refine AR.op (r := i64 r91.2) rfl (aop_extract rfl rfl rfl) ?_
  refine AR.op (r := .ref 1 0 0) rfl (aop_alloc 2 [.agg [i64 0, nilS]] rfl zr24 (by kernel_rfl) (.inl ⟨rfl, rfl⟩)) ?_
  refine AR.drop (frx := [(1, _), (13, _), (14, _), (4, _)]) ⟨rfl, rfl, rfl, rfl, trivial⟩ ?_
  refine AR.op rfl (aop_store (e' := G.graph_Graph.av r91.1) rfl rfl rfl rfl rfl rfl sz24 rfl (of_decide_eq_true rfl) rfl) ?_
  refine AR.op (r := i64 r91.2) rfl (aop_move (.inr rfl) rfl) ?_
  refine AR.nil ?_
  refine hK2 _ (AWP.weak (Weak.re (fr' := [(1, .ref 0 0 0), (4, .ref 1 0 0), (5, i64 r91.2)]) (H' := ⟨2, [(0, (2, [G.graph_Graph.av g_0])), (1, (2, [G.graph_Graph.av r91.1]))]⟩) [(0, 0), (1, 1)] [] rfl rfl rfl (.cons rfl rfl (.one (.same _ (by simp)) rfl) (of_decide_eq_true rfl) (.cons rfl rfl (.one (.same _ (by simp)) rfl) (of_decide_eq_true rfl) (trivial))) ⟨⟨_, rfl, .ref rfl⟩, ⟨_, rfl, .ref rfl⟩, ⟨_, rfl, .same _ (by simp)⟩, trivial⟩) ?_)
  clear hK2 K2
  refine awp_seqK fun K3 hK3 => ?_
  refine awp_seqK fun K4 hK4 => ?_
  refine awp_reg rfl ?_
  refine AR.op (r := i64 r91.2) rfl (aop_move (.inl rfl) rfl) ?_
  refine AR.op (r := bl (decide (r91.2 ≠ 0))) rfl (aop_neq rfl rfl rfl) ?_
  refine AR.nil ?_
  refine hK4 _ (AWP.weak (Weak.re (fr' := [(1, .ref 0 0 0), (4, .ref 1 0 0), (16, bl (decide (r91.2 ≠ 0)))]) (H' := ⟨2, [(0, (2, [G.graph_Graph.av g_0])), (1, (2, [G.graph_Graph.av r91.1]))]⟩) [(0, 0), (1, 1)] [] rfl rfl rfl (.cons rfl rfl (.one (.same _ (by simp)) rfl) (of_decide_eq_true rfl) (.cons rfl rfl (.one (.same _ (by simp)) rfl) (of_decide_eq_true rfl) (trivial))) ⟨⟨_, rfl, .ref rfl⟩, ⟨_, rfl, .ref rfl⟩, ⟨_, rfl, .same _ (by simp)⟩, trivial⟩) ?_)
  clear hK4 K4
  refine awp_cond rfl (fun hb92 => ?_) (fun hb92 => ?_)
  · replace h := Sh.if_t h hb92
    refine awp_seqK fun K5 hK5 => ?_
    refine awp_reg rfl ?_
    refine AR.op (r := nilS) rfl (aop_move (.inr rfl) rfl) ?_
    refine AR.op (r := bl false) rfl (aop_move (.inr rfl) rfl) ?_
    refine AR.nil ?_
    refine hK5 _ (AWP.weak (Weak.re (fr' := [(2, nilS), (3, bl false)]) (H' := .empty) [] [] rfl rfl rfl (trivial) ⟨⟨_, rfl, .same _ (by simp)⟩, ⟨_, rfl, .same _ (by simp)⟩, trivial⟩) ?_)
    clear hK5 K5
    refine awp_ret ?_
    obtain rfl := Option.some.inj h
    refine ⟨.inr rfl, .tuple [nilS, bl false], rfl, ?_⟩
    exact Weak.re [] [0] rfl rfl rfl (.fresh (by simp) (of_decide_eq_true rfl) (trivial)) ⟨⟨.tuple [nilS, bl false], rfl, .tp ⟨.nil (by simp), .same _ (by simp), trivial⟩⟩, trivial⟩
  · replace h := Sh.if_f h hb92
    refine awp_skip ?_
    refine hK3 _ (AWP.weak (Weak.re (fr' := [(1, .ref 0 0 0), (4, .ref 1 0 0)]) (H' := ⟨2, [(0, (2, [G.graph_Graph.av g_0])), (1, (2, [G.graph_Graph.av r91.1]))]⟩) [(0, 0), (1, 1)] [] rfl rfl rfl (.cons rfl rfl (.one (.same _ (by simp)) rfl) (of_decide_eq_true rfl) (.cons rfl rfl (.one (.same _ (by simp)) rfl) (of_decide_eq_true rfl) (trivial))) ⟨⟨_, rfl, .ref rfl⟩, ⟨_, rfl, .ref rfl⟩, trivial⟩) ?_)
    clear hK3 K3
    refine awp_seqK fun K6 hK6 => ?_
    refine awp_reg rfl ?_
    refine AR.op rfl (aop_field_ref rfl rfl rfl fd24_0 (by decide)) ?_
    refine AR.op (r := i64 g_0.N) rfl (aop_load_ref rfl rfl rfl rfl sz3 rfl) ?_
    obtain ⟨made94, hmade94, h⟩ := Sh.bind_some' h
    refine AR.op (r := .view 2 0 (List.map i64 made94).length) rfl (t_make i64 0 made94 hmade94 rfl rfl rfl el50 zv50 rfl rfl rfl) ?_
    refine AR.drop (frx := [(1, _), (4, _), (19, _)]) ⟨rfl, rfl, rfl, trivial⟩ ?_
    refine AR.op (r := .view 2 0 (List.map i64 made94).length) rfl (aop_move (.inr rfl) rfl) ?_
    refine AR.nil ?_
    refine hK6 _ (AWP.weak (Weak.re (fr' := [(1, .ref 0 0 0), (4, .ref 1 0 0), (6, .view 2 0 (List.map i64 made94).length)]) (H' := ⟨3, [(0, (2, [G.graph_Graph.av g_0])), (1, (2, [G.graph_Graph.av r91.1])), (2, (1, List.map i64 made94))]⟩) [(0, 0), (1, 1), (2, 2)] [] rfl rfl rfl (.cons rfl rfl (.one (.same _ (by simp)) rfl) (of_decide_eq_true rfl) (.cons rfl rfl (.one (.same _ (by simp)) rfl) (of_decide_eq_true rfl) (.cons rfl rfl (.same (by simp)) (of_decide_eq_true rfl) (trivial)))) ⟨⟨_, rfl, .ref rfl⟩, ⟨_, rfl, .ref rfl⟩, ⟨_, rfl, .view rfl⟩, trivial⟩) ?_)
    clear hK6 K6
    refine awp_seqK fun K7 hK7 => ?_
    refine awp_reg rfl ?_
    refine AR.op (r := u64 0#64) rfl (aop_move (.inr rfl) rfl) ?_
    refine AR.nil ?_
    refine hK7 _ ?_
    clear hK7 K7
    refine awp_seqJ (fun (p : (List Int)) => (⟨[(6, .view 0 0 (List.map i64 p).length)], ⟨1, [(0, (1, List.map i64 p))]⟩⟩ : St)) (fun (p : (List Int)) => G.topo_Order_j1 p = some r) ?_ ?_
    · rintro out182 h
      replace h : G.topo_Order_j1 out182 = some r := h
      unfold G.topo_Order_j1 at h
      show AWP _ _ _ _ ⟨[(6, .view 0 0 (List.map i64 out182).length)], ⟨1, [(0, (1, List.map i64 out182))]⟩⟩ _
      refine awp_seqK fun K8 hK8 => ?_
      refine awp_reg rfl ?_
      refine AR.op (r := .view 0 0 (List.map i64 out182).length) rfl (aop_move (.inl rfl) rfl) ?_
      refine AR.op (r := .view 0 0 (List.map i64 out182).length) rfl (aop_move (.inr rfl) rfl) ?_
      refine AR.op (r := bl true) rfl (aop_move (.inr rfl) rfl) ?_
      refine AR.nil ?_
      refine hK8 _ (AWP.weak (Weak.re (fr' := [(2, .view 0 0 (List.map i64 out182).length), (3, bl true)]) (H' := ⟨1, [(0, (1, List.map i64 out182))]⟩) [(0, 0)] [] rfl rfl rfl (.cons rfl rfl (.same (by simp)) (of_decide_eq_true rfl) (trivial)) ⟨⟨_, rfl, .view rfl⟩, ⟨_, rfl, .same _ (by simp)⟩, trivial⟩) ?_)
      clear hK8 K8
      refine awp_ret ?_
      obtain rfl := Option.some.inj h
      refine ⟨.inr rfl, .tuple [.view 0 0 (List.map i64 out182).length, bl true], rfl, ?_⟩
      exact Weak.re [(0, 0)] [] rfl rfl rfl (.cons rfl rfl (.same (by simp)) (of_decide_eq_true rfl) (trivial)) ⟨⟨.tuple [.view 0 0 (List.map i64 out182).length, bl true], rfl, .tp ⟨.view rfl, .same _ (by simp), trivial⟩⟩, trivial⟩
    · intro K9 hK9
      refine awp_seqK fun K10 hK10 => ?_
      refine awp_reg rfl ?_
      refine AR.op rfl (aop_field_ref rfl rfl rfl fd24_0 (by decide)) ?_
      refine AR.op (r := i64 g_0.N) rfl (aop_load_ref rfl rfl rfl rfl sz3 rfl) ?_
      refine AR.op (r := i64 0) rfl (aop_move (.inl rfl) rfl) ?_
      refine AR.nil ?_
      refine hK10 _ (AWP.weak (Weak.re (fr' := [(1, .ref 0 0 0), (4, .ref 1 0 0), (6, .view 2 0 (List.map i64 made94).length), (7, u64 0#64), (21, i64 g_0.N), (22, i64 0)]) (H' := ⟨3, [(0, (2, [G.graph_Graph.av g_0])), (1, (2, [G.graph_Graph.av r91.1])), (2, (1, List.map i64 made94))]⟩) [(0, 0), (1, 1), (2, 2)] [] rfl rfl rfl (.cons rfl rfl (.one (.same _ (by simp)) rfl) (of_decide_eq_true rfl) (.cons rfl rfl (.one (.same _ (by simp)) rfl) (of_decide_eq_true rfl) (.cons rfl rfl (.same (by simp)) (of_decide_eq_true rfl) (trivial)))) ⟨⟨_, rfl, .ref rfl⟩, ⟨_, rfl, .ref rfl⟩, ⟨_, rfl, .view rfl⟩, ⟨_, rfl, .same _ (by simp)⟩, ⟨_, rfl, .same _ (by simp)⟩, ⟨_, rfl, .same _ (by simp)⟩, trivial⟩) ?_)
      clear hK10 K10
      refine awp_block ?_
      refine awp_iter (fun (p : (List Int) × (BitVec 64) × Int) => G.topo_Order_b1 g_0 r91 p.1 p.2.1 p.2.2) (fun (p : (List Int) × (BitVec 64) × Int) => (⟨[(1, .ref 0 0 0), (4, .ref 1 0 0), (6, .view 2 0 (List.map i64 p.1).length), (7, u64 p.2.1), (21, i64 g_0.N), (22, i64 p.2.2)], ⟨3, [(0, (2, [G.graph_Graph.av g_0])), (1, (2, [G.graph_Graph.av r91.1])), (2, (1, List.map i64 p.1))]⟩⟩ : St)) h (Weak.re (fr' := [(1, .ref 0 0 0), (4, .ref 1 0 0), (6, .view 2 0 (List.map i64 made94).length), (7, u64 0#64), (21, i64 g_0.N), (22, i64 0)]) (H' := ⟨3, [(0, (2, [G.graph_Graph.av g_0])), (1, (2, [G.graph_Graph.av r91.1])), (2, (1, List.map i64 made94))]⟩) [(0, 0), (1, 1), (2, 2)] [] rfl rfl rfl (.cons rfl rfl (.one (.same _ (by simp)) rfl) (of_decide_eq_true rfl) (.cons rfl rfl (.one (.same _ (by simp)) rfl) (of_decide_eq_true rfl) (.cons rfl rfl (.same (by simp)) (of_decide_eq_true rfl) (trivial)))) ⟨⟨_, rfl, .ref rfl⟩, ⟨_, rfl, .ref rfl⟩, ⟨_, rfl, .view rfl⟩, ⟨_, rfl, .same _ (by simp)⟩, ⟨_, rfl, .same _ (by simp)⟩, ⟨_, rfl, .same _ (by simp)⟩, trivial⟩) ?_
      · skip
        rintro ⟨out240, seen241, v242⟩ o1 h hx1
        replace h : G.topo_Order_b1 g_0 r91 out240 seen241 v242 = some o1 := h
        unfold G.topo_Order_b1 at h
        show AWP _ _ _ _ ⟨[(1, .ref 0 0 0), (4, .ref 1 0 0), (6, .view 2 0 (List.map i64 out240).length), (7, u64 seen241), (21, i64 g_0.N), (22, i64 v242)], ⟨3, [(0, (2, [G.graph_Graph.av g_0])), (1, (2, [G.graph_Graph.av r91.1])), (2, (1, List.map i64 out240))]⟩⟩ _
        refine awp_seqK fun K11 hK11 => ?_
        refine awp_reg rfl ?_
        refine AR.op (r := bl (decide (v242 < g_0.N))) rfl (aop_lss rfl rfl rfl) ?_
        refine AR.nil ?_
        refine hK11 _ ?_
        clear hK11 K11
        refine awp_seqK fun K12 hK12 => ?_
        refine awp_cond rfl (fun hb243 => ?_) (fun hb243 => ?_)
        · replace h := Sh.if_t h hb243
          refine awp_skip ?_
          refine hK12 _ (AWP.weak (Weak.re (fr' := [(1, .ref 0 0 0), (4, .ref 1 0 0), (6, .view 2 0 (List.map i64 out240).length), (7, u64 seen241), (21, i64 g_0.N), (22, i64 v242)]) (H' := ⟨3, [(0, (2, [G.graph_Graph.av g_0])), (1, (2, [G.graph_Graph.av r91.1])), (2, (1, List.map i64 out240))]⟩) [(0, 0), (1, 1), (2, 2)] [] rfl rfl rfl (.cons rfl rfl (.one (.same _ (by simp)) rfl) (of_decide_eq_true rfl) (.cons rfl rfl (.one (.same _ (by simp)) rfl) (of_decide_eq_true rfl) (.cons rfl rfl (.same (by simp)) (of_decide_eq_true rfl) (trivial)))) ⟨⟨_, rfl, .ref rfl⟩, ⟨_, rfl, .ref rfl⟩, ⟨_, rfl, .view rfl⟩, ⟨_, rfl, .same _ (by simp)⟩, ⟨_, rfl, .same _ (by simp)⟩, ⟨_, rfl, .same _ (by simp)⟩, trivial⟩) ?_)
          clear hK12 K12
          refine awp_seqJ (fun (p : (List Int) × (BitVec 64)) => (⟨[(1, .ref 0 0 0), (4, .ref 1 0 0), (21, i64 g_0.N), (22, i64 v242), (6, .view 2 0 (List.map i64 p.1).length), (7, u64 p.2)], ⟨3, [(0, (2, [G.graph_Graph.av g_0])), (1, (2, [G.graph_Graph.av r91.1])), (2, (1, List.map i64 p.1))]⟩⟩ : St)) (fun (p : (List Int) × (BitVec 64)) => G.topo_Order_j2 v242 p.1 p.2 = some o1) ?_ ?_
          · rintro ⟨out271, seen272⟩ h
            replace h : G.topo_Order_j2 v242 out271 seen272 = some o1 := h
            unfold G.topo_Order_j2 at h
            show AWP _ _ _ _ ⟨[(1, .ref 0 0 0), (4, .ref 1 0 0), (21, i64 g_0.N), (22, i64 v242), (6, .view 2 0 (List.map i64 out271).length), (7, u64 seen272)], ⟨3, [(0, (2, [G.graph_Graph.av g_0])), (1, (2, [G.graph_Graph.av r91.1])), (2, (1, List.map i64 out271))]⟩⟩ _
            refine awp_reg rfl ?_
            refine AR.op (r := i64 (w64 (v242 + 1))) rfl (aop_add rfl rfl rfl rfl) ?_
            refine AR.op (r := i64 (w64 (v242 + 1))) rfl (aop_move (.inl rfl) rfl) ?_
            refine AR.nil ?_
            replace h := Sh.next_eq h
            exact ⟨_, h, Weak.re (fr' := [(1, .ref 0 0 0), (4, .ref 1 0 0), (6, .view 2 0 (List.map i64 out271).length), (7, u64 seen272), (21, i64 g_0.N), (22, i64 (w64 (v242 + 1)))]) (H' := ⟨3, [(0, (2, [G.graph_Graph.av g_0])), (1, (2, [G.graph_Graph.av r91.1])), (2, (1, List.map i64 out271))]⟩) [(0, 0), (1, 1), (2, 2)] [] rfl rfl rfl (.cons rfl rfl (.one (.same _ (by simp)) rfl) (of_decide_eq_true rfl) (.cons rfl rfl (.one (.same _ (by simp)) rfl) (of_decide_eq_true rfl) (.cons rfl rfl (.same (by simp)) (of_decide_eq_true rfl) (trivial)))) ⟨⟨_, rfl, .ref rfl⟩, ⟨_, rfl, .ref rfl⟩, ⟨_, rfl, .view rfl⟩, ⟨_, rfl, .same _ (by simp)⟩, ⟨_, rfl, .same _ (by simp)⟩, ⟨_, rfl, .same _ (by simp)⟩, trivial⟩⟩
          · intro K13 hK13
            refine awp_block ?_
            refine awp_seqK fun K14 hK14 => ?_
            refine awp_reg rfl ?_
            refine AR.op (r := i64 (-1)) rfl (aop_move (.inr rfl) rfl) ?_
            refine AR.nil ?_
            refine hK14 _ ?_
            clear hK14 K14
            refine awp_seqJ (fun (p : Int) => (⟨[(1, .ref 0 0 0), (4, .ref 1 0 0), (6, .view 2 0 (List.map i64 out240).length), (7, u64 seen241), (21, i64 g_0.N), (22, i64 v242), (8, i64 p)], ⟨3, [(0, (2, [G.graph_Graph.av g_0])), (1, (2, [G.graph_Graph.av r91.1])), (2, (1, List.map i64 out240))]⟩⟩ : St)) (fun (p : Int) => G.topo_Order_j3 out240 seen241 v242 p = some o1) ?_ ?_
            · rintro next298 h
              replace h : G.topo_Order_j3 out240 seen241 v242 next298 = some o1 := h
              unfold G.topo_Order_j3 at h
              show AWP _ _ _ _ ⟨[(1, .ref 0 0 0), (4, .ref 1 0 0), (6, .view 2 0 (List.map i64 out240).length), (7, u64 seen241), (21, i64 g_0.N), (22, i64 v242), (8, i64 next298)], ⟨3, [(0, (2, [G.graph_Graph.av g_0])), (1, (2, [G.graph_Graph.av r91.1])), (2, (1, List.map i64 out240))]⟩⟩ _
              refine awp_seqK fun K15 hK15 => ?_
              refine awp_seqK fun K16 hK16 => ?_
              refine awp_reg rfl ?_
              refine AR.op (r := i64 next298) rfl (aop_move (.inl rfl) rfl) ?_
              refine AR.op (r := bl (decide (next298 < 0))) rfl (aop_lss rfl rfl rfl) ?_
              refine AR.nil ?_
              refine hK16 _ (AWP.weak (Weak.re (fr' := [(1, .ref 0 0 0), (4, .ref 1 0 0), (6, .view 2 0 (List.map i64 out240).length), (7, u64 seen241), (21, i64 g_0.N), (22, i64 v242), (8, i64 next298), (46, bl (decide (next298 < 0)))]) (H' := ⟨3, [(0, (2, [G.graph_Graph.av g_0])), (1, (2, [G.graph_Graph.av r91.1])), (2, (1, List.map i64 out240))]⟩) [(0, 0), (1, 1), (2, 2)] [] rfl rfl rfl (.cons rfl rfl (.one (.same _ (by simp)) rfl) (of_decide_eq_true rfl) (.cons rfl rfl (.one (.same _ (by simp)) rfl) (of_decide_eq_true rfl) (.cons rfl rfl (.same (by simp)) (of_decide_eq_true rfl) (trivial)))) ⟨⟨_, rfl, .ref rfl⟩, ⟨_, rfl, .ref rfl⟩, ⟨_, rfl, .view rfl⟩, ⟨_, rfl, .same _ (by simp)⟩, ⟨_, rfl, .same _ (by simp)⟩, ⟨_, rfl, .same _ (by simp)⟩, ⟨_, rfl, .same _ (by simp)⟩, ⟨_, rfl, .same _ (by simp)⟩, trivial⟩) ?_)
              clear hK16 K16
              refine awp_cond rfl (fun hb299 => ?_) (fun hb299 => ?_)
              · replace h := Sh.if_t h hb299
                refine awp_seqK fun K17 hK17 => ?_
                refine awp_reg rfl ?_
                refine AR.op (r := nilS) rfl (aop_move (.inr rfl) rfl) ?_
                refine AR.op (r := bl false) rfl (aop_move (.inr rfl) rfl) ?_
                refine AR.nil ?_
                refine hK17 _ (AWP.weak (Weak.re (fr' := [(2, nilS), (3, bl false)]) (H' := .empty) [] [] rfl rfl rfl (trivial) ⟨⟨_, rfl, .same _ (by simp)⟩, ⟨_, rfl, .same _ (by simp)⟩, trivial⟩) ?_)
                clear hK17 K17
                refine awp_ret ?_
                replace h := Sh.exit_eq h hx1
                obtain rfl := Option.some.inj h
                refine ⟨.inr rfl, .tuple [nilS, bl false], rfl, ?_⟩
                exact Weak.re [] [0] rfl rfl rfl (.fresh (by simp) (of_decide_eq_true rfl) (trivial)) ⟨⟨.tuple [nilS, bl false], rfl, .tp ⟨.nil (by simp), .same _ (by simp), trivial⟩⟩, trivial⟩
              · replace h := Sh.if_f h hb299
                refine awp_skip ?_
                refine hK15 _ (AWP.weak (Weak.re (fr' := [(1, .ref 0 0 0), (4, .ref 1 0 0), (6, .view 2 0 (List.map i64 out240).length), (7, u64 seen241), (21, i64 g_0.N), (22, i64 v242), (8, i64 next298)]) (H' := ⟨3, [(0, (2, [G.graph_Graph.av g_0])), (1, (2, [G.graph_Graph.av r91.1])), (2, (1, List.map i64 out240))]⟩) [(0, 0), (1, 1), (2, 2)] [] rfl rfl rfl (.cons rfl rfl (.one (.same _ (by simp)) rfl) (of_decide_eq_true rfl) (.cons rfl rfl (.one (.same _ (by simp)) rfl) (of_decide_eq_true rfl) (.cons rfl rfl (.same (by simp)) (of_decide_eq_true rfl) (trivial)))) ⟨⟨_, rfl, .ref rfl⟩, ⟨_, rfl, .ref rfl⟩, ⟨_, rfl, .view rfl⟩, ⟨_, rfl, .same _ (by simp)⟩, ⟨_, rfl, .same _ (by simp)⟩, ⟨_, rfl, .same _ (by simp)⟩, ⟨_, rfl, .same _ (by simp)⟩, trivial⟩) ?_)
                clear hK15 K15
                refine awp_seqK fun K18 hK18 => ?_
                refine awp_reg rfl ?_
                refine AR.op (r := .view 2 0 (List.map i64 out240).length) rfl (aop_move (.inl rfl) rfl) ?_
                refine AR.op (r := i64 next298) rfl (aop_move (.inl rfl) rfl) ?_
                refine AR.op (r := .clip (List.map i64 [next298])) rfl (aop_buildSlice rfl (xo := [.tmp 48]) rfl rfl rfl (by simp [AV.solid]) (by simp [AV.flat]) el50 ze50 (by decide)) ?_
                refine AR.drop (frx := [(1, _), (4, _), (7, _), (21, _), (22, _), (8, _), (47, _), (49, _)]) ⟨rfl, rfl, rfl, rfl, rfl, rfl, rfl, rfl, trivial⟩ ?_
                obtain ⟨out301, hout301, h⟩ := Sh.bind_some' h
                refine AR.op (r := .view 3 0 (List.map i64 out301).length) rfl (t_app_view i64 out240 [next298] out301 hout301 rfl et50 (fun _ => rfl) rfl rfl rfl rfl rfl rfl rfl) ?_
                refine AR.op (r := .view 3 0 (List.map i64 out301).length) rfl (aop_move (.inr rfl) rfl) ?_
                refine AR.nil ?_
                refine hK18 _ (AWP.weak (Weak.re (fr' := [(1, .ref 0 0 0), (4, .ref 1 0 0), (7, u64 seen241), (21, i64 g_0.N), (22, i64 v242), (8, i64 next298), (6, .view 2 0 (List.map i64 out301).length)]) (H' := ⟨3, [(0, (2, [G.graph_Graph.av g_0])), (1, (2, [G.graph_Graph.av r91.1])), (2, (1, List.map i64 out301))]⟩) [(0, 0), (1, 1), (2, 3)] [] rfl rfl rfl (.cons rfl rfl (.one (.same _ (by simp)) rfl) (of_decide_eq_true rfl) (.cons rfl rfl (.one (.same _ (by simp)) rfl) (of_decide_eq_true rfl) (.cons rfl rfl (.same (by simp)) (of_decide_eq_true rfl) (trivial)))) ⟨⟨_, rfl, .ref rfl⟩, ⟨_, rfl, .ref rfl⟩, ⟨_, rfl, .same _ (by simp)⟩, ⟨_, rfl, .same _ (by simp)⟩, ⟨_, rfl, .same _ (by simp)⟩, ⟨_, rfl, .same _ (by simp)⟩, ⟨_, rfl, .view rfl⟩, trivial⟩) ?_)
                clear hK18 K18
                refine awp_reg rfl ?_
                refine AR.op (r := u64 seen241) rfl (aop_move (.inl rfl) rfl) ?_
                refine AR.op (r := i64 next298) rfl (aop_move (.inl rfl) rfl) ?_
                obtain ⟨r302, hr302, h⟩ := Sh.bind_some' h
                refine AR.op (r := u64 r302) rfl (aop_call1 rfl rfl (by simp) (bits_With_ok hT hr302)) ?_
                refine AR.drop (frx := [(1, _), (4, _), (21, _), (22, _), (6, _), (53, _)]) ⟨rfl, rfl, rfl, rfl, rfl, rfl, trivial⟩ ?_
                refine AR.op (r := u64 r302) rfl (aop_move (.inr rfl) rfl) ?_
                refine AR.nil ?_
                exact hK13 (out301, r302) _ h (Weak.re (fr' := [(1, .ref 0 0 0), (4, .ref 1 0 0), (21, i64 g_0.N), (22, i64 v242), (6, .view 2 0 (List.map i64 out301).length), (7, u64 r302)]) (H' := ⟨3, [(0, (2, [G.graph_Graph.av g_0])), (1, (2, [G.graph_Graph.av r91.1])), (2, (1, List.map i64 out301))]⟩) [(0, 0), (1, 1), (2, 2)] [] rfl rfl rfl (.cons rfl rfl (.one (.same _ (by simp)) rfl) (of_decide_eq_true rfl) (.cons rfl rfl (.one (.same _ (by simp)) rfl) (of_decide_eq_true rfl) (.cons rfl rfl (.same (by simp)) (of_decide_eq_true rfl) (trivial)))) ⟨⟨_, rfl, .ref rfl⟩, ⟨_, rfl, .ref rfl⟩, ⟨_, rfl, .same _ (by simp)⟩, ⟨_, rfl, .same _ (by simp)⟩, ⟨_, rfl, .view rfl⟩, ⟨_, rfl, .same _ (by simp)⟩, trivial⟩)
            · intro K19 hK19
              refine awp_seqK fun K20 hK20 => ?_
              refine awp_reg rfl ?_
              refine AR.op rfl (aop_field_ref rfl rfl rfl fd24_0 (by decide)) ?_
              refine AR.op (r := i64 g_0.N) rfl (aop_load_ref rfl rfl rfl rfl sz3 rfl) ?_
              refine AR.op (r := i64 (w64 (g_0.N - 1))) rfl (aop_sub rfl rfl rfl rfl) ?_
              refine AR.drop (frx := [(1, _), (4, _), (6, _), (7, _), (21, _), (22, _), (8, _), (26, _)]) ⟨rfl, rfl, rfl, rfl, rfl, rfl, rfl, rfl, trivial⟩ ?_
              refine AR.op (r := i64 (w64 (g_0.N - 1))) rfl (aop_move (.inr rfl) rfl) ?_
              refine AR.nil ?_
              refine hK20 _ (AWP.weak (Weak.re (fr' := [(1, .ref 0 0 0), (4, .ref 1 0 0), (6, .view 2 0 (List.map i64 out240).length), (7, u64 seen241), (21, i64 g_0.N), (22, i64 v242), (8, i64 (-1)), (9, i64 (w64 (g_0.N - 1)))]) (H' := ⟨3, [(0, (2, [G.graph_Graph.av g_0])), (1, (2, [G.graph_Graph.av r91.1])), (2, (1, List.map i64 out240))]⟩) [(0, 0), (1, 1), (2, 2)] [] rfl rfl rfl (.cons rfl rfl (.one (.same _ (by simp)) rfl) (of_decide_eq_true rfl) (.cons rfl rfl (.one (.same _ (by simp)) rfl) (of_decide_eq_true rfl) (.cons rfl rfl (.same (by simp)) (of_decide_eq_true rfl) (trivial)))) ⟨⟨_, rfl, .ref rfl⟩, ⟨_, rfl, .ref rfl⟩, ⟨_, rfl, .view rfl⟩, ⟨_, rfl, .same _ (by simp)⟩, ⟨_, rfl, .same _ (by simp)⟩, ⟨_, rfl, .same _ (by simp)⟩, ⟨_, rfl, .same _ (by simp)⟩, ⟨_, rfl, .same _ (by simp)⟩, trivial⟩) ?_)
              clear hK20 K20
              refine awp_block ?_
              refine awp_iter (fun (p : Int × Int) => G.topo_Order_b2 r91 out240 seen241 v242 p.1 p.2) (fun (p : Int × Int) => (⟨[(1, .ref 0 0 0), (4, .ref 1 0 0), (6, .view 2 0 (List.map i64 out240).length), (7, u64 seen241), (21, i64 g_0.N), (22, i64 v242), (8, i64 p.1), (9, i64 p.2)], ⟨3, [(0, (2, [G.graph_Graph.av g_0])), (1, (2, [G.graph_Graph.av r91.1])), (2, (1, List.map i64 out240))]⟩⟩ : St)) h (Weak.re (fr' := [(1, .ref 0 0 0), (4, .ref 1 0 0), (6, .view 2 0 (List.map i64 out240).length), (7, u64 seen241), (21, i64 g_0.N), (22, i64 v242), (8, i64 (-1)), (9, i64 (w64 (g_0.N - 1)))]) (H' := ⟨3, [(0, (2, [G.graph_Graph.av g_0])), (1, (2, [G.graph_Graph.av r91.1])), (2, (1, List.map i64 out240))]⟩) [(0, 0), (1, 1), (2, 2)] [] rfl rfl rfl (.cons rfl rfl (.one (.same _ (by simp)) rfl) (of_decide_eq_true rfl) (.cons rfl rfl (.one (.same _ (by simp)) rfl) (of_decide_eq_true rfl) (.cons rfl rfl (.same (by simp)) (of_decide_eq_true rfl) (trivial)))) ⟨⟨_, rfl, .ref rfl⟩, ⟨_, rfl, .ref rfl⟩, ⟨_, rfl, .view rfl⟩, ⟨_, rfl, .same _ (by simp)⟩, ⟨_, rfl, .same _ (by simp)⟩, ⟨_, rfl, .same _ (by simp)⟩, ⟨_, rfl, .same _ (by simp)⟩, ⟨_, rfl, .same _ (by simp)⟩, trivial⟩) ?_
              · skip
                rintro ⟨next319, n320⟩ o2 h hx2
                replace h : G.topo_Order_b2 r91 out240 seen241 v242 next319 n320 = some o2 := h
                unfold G.topo_Order_b2 at h
                show AWP _ _ _ _ ⟨[(1, .ref 0 0 0), (4, .ref 1 0 0), (6, .view 2 0 (List.map i64 out240).length), (7, u64 seen241), (21, i64 g_0.N), (22, i64 v242), (8, i64 next319), (9, i64 n320)], ⟨3, [(0, (2, [G.graph_Graph.av g_0])), (1, (2, [G.graph_Graph.av r91.1])), (2, (1, List.map i64 out240))]⟩⟩ _
                refine awp_seqK fun K21 hK21 => ?_
                refine awp_seqK fun K22 hK22 => ?_
                refine awp_reg rfl ?_
                refine AR.op (r := i64 n320) rfl (aop_move (.inl rfl) rfl) ?_
                refine AR.op (r := bl (decide ((0 : Int) ≤ n320))) rfl (aop_geq rfl rfl rfl) ?_
                refine AR.nil ?_
                refine hK22 _ (AWP.weak (Weak.re (fr' := [(1, .ref 0 0 0), (4, .ref 1 0 0), (6, .view 2 0 (List.map i64 out240).length), (7, u64 seen241), (21, i64 g_0.N), (22, i64 v242), (8, i64 next319), (9, i64 n320), (28, bl (decide ((0 : Int) ≤ n320)))]) (H' := ⟨3, [(0, (2, [G.graph_Graph.av g_0])), (1, (2, [G.graph_Graph.av r91.1])), (2, (1, List.map i64 out240))]⟩) [(0, 0), (1, 1), (2, 2)] [] rfl rfl rfl (.cons rfl rfl (.one (.same _ (by simp)) rfl) (of_decide_eq_true rfl) (.cons rfl rfl (.one (.same _ (by simp)) rfl) (of_decide_eq_true rfl) (.cons rfl rfl (.same (by simp)) (of_decide_eq_true rfl) (trivial)))) ⟨⟨_, rfl, .ref rfl⟩, ⟨_, rfl, .ref rfl⟩, ⟨_, rfl, .view rfl⟩, ⟨_, rfl, .same _ (by simp)⟩, ⟨_, rfl, .same _ (by simp)⟩, ⟨_, rfl, .same _ (by simp)⟩, ⟨_, rfl, .same _ (by simp)⟩, ⟨_, rfl, .same _ (by simp)⟩, ⟨_, rfl, .same _ (by simp)⟩, trivial⟩) ?_)
                clear hK22 K22
                refine awp_cond rfl (fun hb321 => ?_) (fun hb321 => ?_)
                · replace h := Sh.if_t h hb321
                  refine awp_skip ?_
                  refine hK21 _ (AWP.weak (Weak.re (fr' := [(1, .ref 0 0 0), (4, .ref 1 0 0), (6, .view 2 0 (List.map i64 out240).length), (7, u64 seen241), (21, i64 g_0.N), (22, i64 v242), (8, i64 next319), (9, i64 n320)]) (H' := ⟨3, [(0, (2, [G.graph_Graph.av g_0])), (1, (2, [G.graph_Graph.av r91.1])), (2, (1, List.map i64 out240))]⟩) [(0, 0), (1, 1), (2, 2)] [] rfl rfl rfl (.cons rfl rfl (.one (.same _ (by simp)) rfl) (of_decide_eq_true rfl) (.cons rfl rfl (.one (.same _ (by simp)) rfl) (of_decide_eq_true rfl) (.cons rfl rfl (.same (by simp)) (of_decide_eq_true rfl) (trivial)))) ⟨⟨_, rfl, .ref rfl⟩, ⟨_, rfl, .ref rfl⟩, ⟨_, rfl, .view rfl⟩, ⟨_, rfl, .same _ (by simp)⟩, ⟨_, rfl, .same _ (by simp)⟩, ⟨_, rfl, .same _ (by simp)⟩, ⟨_, rfl, .same _ (by simp)⟩, ⟨_, rfl, .same _ (by simp)⟩, trivial⟩) ?_)
                  clear hK21 K21
                  refine awp_seqJ (fun (p : Int) => (⟨[(1, .ref 0 0 0), (4, .ref 1 0 0), (6, .view 2 0 (List.map i64 out240).length), (7, u64 seen241), (21, i64 g_0.N), (22, i64 v242), (8, i64 p), (9, i64 n320), (36, .any), (37, .any), (38, .any), (39, .any), (40, .any), (41, .any), (42, .any)], ⟨3, [(0, (2, [G.graph_Graph.av g_0])), (1, (2, [G.graph_Graph.av r91.1])), (2, (1, List.map i64 out240))]⟩⟩ : St)) (fun (p : Int) => G.topo_Order_j4 n320 p = some o2) ?_ ?_
                  · rintro next328 h
                    replace h : G.topo_Order_j4 n320 next328 = some o2 := h
                    unfold G.topo_Order_j4 at h
                    show AWP _ _ _ _ ⟨[(1, .ref 0 0 0), (4, .ref 1 0 0), (6, .view 2 0 (List.map i64 out240).length), (7, u64 seen241), (21, i64 g_0.N), (22, i64 v242), (8, i64 next328), (9, i64 n320), (36, .any), (37, .any), (38, .any), (39, .any), (40, .any), (41, .any), (42, .any)], ⟨3, [(0, (2, [G.graph_Graph.av g_0])), (1, (2, [G.graph_Graph.av r91.1])), (2, (1, List.map i64 out240))]⟩⟩ _
                    refine awp_reg rfl ?_
                    refine AR.op (r := i64 n320) rfl (aop_move (.inl rfl) rfl) ?_
                    refine AR.op (r := i64 (w64 (n320 - 1))) rfl (aop_sub rfl rfl rfl rfl) ?_
                    refine AR.op (r := i64 (w64 (n320 - 1))) rfl (aop_move (.inr rfl) rfl) ?_
                    refine AR.nil ?_
                    replace h := Sh.next_eq h
                    exact ⟨_, h, Weak.re (fr' := [(1, .ref 0 0 0), (4, .ref 1 0 0), (6, .view 2 0 (List.map i64 out240).length), (7, u64 seen241), (21, i64 g_0.N), (22, i64 v242), (8, i64 next328), (9, i64 (w64 (n320 - 1)))]) (H' := ⟨3, [(0, (2, [G.graph_Graph.av g_0])), (1, (2, [G.graph_Graph.av r91.1])), (2, (1, List.map i64 out240))]⟩) [(0, 0), (1, 1), (2, 2)] [] rfl rfl rfl (.cons rfl rfl (.one (.same _ (by simp)) rfl) (of_decide_eq_true rfl) (.cons rfl rfl (.one (.same _ (by simp)) rfl) (of_decide_eq_true rfl) (.cons rfl rfl (.same (by simp)) (of_decide_eq_true rfl) (trivial)))) ⟨⟨_, rfl, .ref rfl⟩, ⟨_, rfl, .ref rfl⟩, ⟨_, rfl, .view rfl⟩, ⟨_, rfl, .same _ (by simp)⟩, ⟨_, rfl, .same _ (by simp)⟩, ⟨_, rfl, .same _ (by simp)⟩, ⟨_, rfl, .same _ (by simp)⟩, ⟨_, rfl, .same _ (by simp)⟩, trivial⟩⟩
                  · intro K23 hK23
                    refine awp_block ?_
                    refine awp_seqJ (fun (p : Bool) => (⟨[(1, .ref 0 0 0), (4, .ref 1 0 0), (6, .view 2 0 (List.map i64 out240).length), (7, u64 seen241), (21, i64 g_0.N), (22, i64 v242), (8, i64 next319), (9, i64 n320), (36, .any), (37, .any), (38, .any), (39, .any), (40, .any), (41, .any), (42, .any), (43, bl p)], ⟨3, [(0, (2, [G.graph_Graph.av g_0])), (1, (2, [G.graph_Graph.av r91.1])), (2, (1, List.map i64 out240))]⟩⟩ : St)) (fun (p : Bool) => G.topo_Order_j5 next319 n320 p = some o2) ?_ ?_
                    · rintro v334 h
                      replace h : G.topo_Order_j5 next319 n320 v334 = some o2 := h
                      unfold G.topo_Order_j5 at h
                      show AWP _ _ _ _ ⟨[(1, .ref 0 0 0), (4, .ref 1 0 0), (6, .view 2 0 (List.map i64 out240).length), (7, u64 seen241), (21, i64 g_0.N), (22, i64 v242), (8, i64 next319), (9, i64 n320), (36, .any), (37, .any), (38, .any), (39, .any), (40, .any), (41, .any), (42, .any), (43, bl v334)], ⟨3, [(0, (2, [G.graph_Graph.av g_0])), (1, (2, [G.graph_Graph.av r91.1])), (2, (1, List.map i64 out240))]⟩⟩ _
                      refine awp_cond rfl (fun hb335 => ?_) (fun hb335 => ?_)
                      · replace h := Sh.if_t h hb335
                        refine awp_reg rfl ?_
                        refine AR.op (r := i64 n320) rfl (aop_move (.inl rfl) rfl) ?_
                        refine AR.op (r := i64 n320) rfl (aop_move (.inr rfl) rfl) ?_
                        refine AR.nil ?_
                        exact hK23 n320 _ h (Weak.re (fr' := [(1, .ref 0 0 0), (4, .ref 1 0 0), (6, .view 2 0 (List.map i64 out240).length), (7, u64 seen241), (21, i64 g_0.N), (22, i64 v242), (8, i64 n320), (9, i64 n320), (36, .any), (37, .any), (38, .any), (39, .any), (40, .any), (41, .any), (42, .any)]) (H' := ⟨3, [(0, (2, [G.graph_Graph.av g_0])), (1, (2, [G.graph_Graph.av r91.1])), (2, (1, List.map i64 out240))]⟩) [(0, 0), (1, 1), (2, 2)] [] rfl rfl rfl (.cons rfl rfl (.one (.same _ (by simp)) rfl) (of_decide_eq_true rfl) (.cons rfl rfl (.one (.same _ (by simp)) rfl) (of_decide_eq_true rfl) (.cons rfl rfl (.same (by simp)) (of_decide_eq_true rfl) (trivial)))) ⟨⟨_, rfl, .ref rfl⟩, ⟨_, rfl, .ref rfl⟩, ⟨_, rfl, .view rfl⟩, ⟨_, rfl, .same _ (by simp)⟩, ⟨_, rfl, .same _ (by simp)⟩, ⟨_, rfl, .same _ (by simp)⟩, ⟨_, rfl, .same _ (by simp)⟩, ⟨_, rfl, .same _ (by simp)⟩, ⟨_, rfl, .any _⟩, ⟨_, rfl, .any _⟩, ⟨_, rfl, .any _⟩, ⟨_, rfl, .any _⟩, ⟨_, rfl, .any _⟩, ⟨_, rfl, .any _⟩, ⟨_, rfl, .any _⟩, trivial⟩)
                      · replace h := Sh.if_f h hb335
                        refine awp_skip ?_
                        exact hK23 next319 _ h (Weak.re (fr' := [(1, .ref 0 0 0), (4, .ref 1 0 0), (6, .view 2 0 (List.map i64 out240).length), (7, u64 seen241), (21, i64 g_0.N), (22, i64 v242), (8, i64 next319), (9, i64 n320), (36, .any), (37, .any), (38, .any), (39, .any), (40, .any), (41, .any), (42, .any)]) (H' := ⟨3, [(0, (2, [G.graph_Graph.av g_0])), (1, (2, [G.graph_Graph.av r91.1])), (2, (1, List.map i64 out240))]⟩) [(0, 0), (1, 1), (2, 2)] [] rfl rfl rfl (.cons rfl rfl (.one (.same _ (by simp)) rfl) (of_decide_eq_true rfl) (.cons rfl rfl (.one (.same _ (by simp)) rfl) (of_decide_eq_true rfl) (.cons rfl rfl (.same (by simp)) (of_decide_eq_true rfl) (trivial)))) ⟨⟨_, rfl, .ref rfl⟩, ⟨_, rfl, .ref rfl⟩, ⟨_, rfl, .view rfl⟩, ⟨_, rfl, .same _ (by simp)⟩, ⟨_, rfl, .same _ (by simp)⟩, ⟨_, rfl, .same _ (by simp)⟩, ⟨_, rfl, .same _ (by simp)⟩, ⟨_, rfl, .same _ (by simp)⟩, ⟨_, rfl, .any _⟩, ⟨_, rfl, .any _⟩, ⟨_, rfl, .any _⟩, ⟨_, rfl, .any _⟩, ⟨_, rfl, .any _⟩, ⟨_, rfl, .any _⟩, ⟨_, rfl, .any _⟩, trivial⟩)
                    · intro K24 hK24
                      refine awp_reg rfl ?_
                      refine AR.op (r := u64 seen241) rfl (aop_move (.inl rfl) rfl) ?_
                      refine AR.op (r := i64 n320) rfl (aop_move (.inl rfl) rfl) ?_
                      obtain ⟨r336, hr336, h⟩ := Sh.bind_some' h
                      refine AR.op (r := bl r336) rfl (aop_call1 rfl rfl (by simp) (bits_Has_ok hT hr336)) ?_
                      refine AR.drop (frx := [(1, _), (4, _), (6, _), (7, _), (21, _), (22, _), (8, _), (9, _), (33, _)]) ⟨rfl, rfl, rfl, rfl, rfl, rfl, rfl, rfl, rfl, trivial⟩ ?_
                      refine AR.op (r := bl (!r336)) rfl (aop_not rfl rfl) ?_
                      refine AR.op (r := bl (!r336)) rfl (aop_move (.inl rfl) rfl) ?_
                      rcases Bool.eq_false_or_eq_true (!r336) with hb337 | hb337
                      · rw [hb337]
                        replace h := Sh.if_t h hb337
                        refine AR.op rfl (aop_field_ref rfl rfl rfl fd24_1 (by decide)) ?_
                        refine AR.drop (frx := [(1, _), (4, _), (6, _), (7, _), (21, _), (22, _), (8, _), (9, _), (35, _), (36, _)]) ⟨rfl, rfl, rfl, rfl, rfl, rfl, rfl, rfl, rfl, rfl, trivial⟩ ?_
                        refine AR.op (r := .sl (List.map u64 r91.1.Rows)) rfl (aop_load_ref rfl rfl rfl rfl sz22 rfl) ?_
                        refine AR.op (r := i64 n320) rfl (aop_move (.inl rfl) rfl) ?_
                        obtain ⟨x338, hx338, h⟩ := Sh.bind_some' h
                        obtain ⟨k339, hi339, hl339⟩ := Sh.idx_some hx338
                        refine AR.op rfl (t_index_sl u64 r91.1.Rows hi339 hl339 rfl rfl rfl el22 rfl) ?_
                        refine AR.drop (frx := [(1, _), (4, _), (6, _), (7, _), (21, _), (22, _), (8, _), (9, _), (35, _), (36, _), (37, _), (38, _), (39, _)]) ⟨rfl, rfl, rfl, rfl, rfl, rfl, rfl, rfl, rfl, rfl, rfl, rfl, rfl, trivial⟩ ?_
                        refine AR.op (r := u64 x338) rfl (aop_load_pp rfl rfl sz45 rfl) ?_
                        refine AR.op (r := u64 seen241) rfl (aop_move (.inl rfl) rfl) ?_
                        obtain ⟨r340, hr340, h⟩ := Sh.bind_some' h
                        refine AR.op (r := bl r340) rfl (aop_call1 rfl rfl (by simp) (bits_Sub_ok hT hr340)) ?_
                        refine AR.drop (frx := [(1, _), (4, _), (6, _), (7, _), (21, _), (22, _), (8, _), (9, _), (35, _), (36, _), (37, _), (38, _), (39, _), (40, _), (41, _), (42, _)]) ⟨rfl, rfl, rfl, rfl, rfl, rfl, rfl, rfl, rfl, rfl, rfl, rfl, rfl, rfl, rfl, rfl, trivial⟩ ?_
                        refine AR.op (r := bl r340) rfl (aop_pick rfl rfl rfl) ?_
                        refine AR.nil ?_
                        exact hK24 r340 _ h (Weak.re (fr' := [(1, .ref 0 0 0), (4, .ref 1 0 0), (6, .view 2 0 (List.map i64 out240).length), (7, u64 seen241), (21, i64 g_0.N), (22, i64 v242), (8, i64 next319), (9, i64 n320), (36, .any), (37, .any), (38, .any), (39, .any), (40, .any), (41, .any), (42, .any), (43, bl r340)]) (H' := ⟨3, [(0, (2, [G.graph_Graph.av g_0])), (1, (2, [G.graph_Graph.av r91.1])), (2, (1, List.map i64 out240))]⟩) [(0, 0), (1, 1), (2, 2)] [] rfl rfl rfl (.cons rfl rfl (.one (.same _ (by simp)) rfl) (of_decide_eq_true rfl) (.cons rfl rfl (.one (.same _ (by simp)) rfl) (of_decide_eq_true rfl) (.cons rfl rfl (.same (by simp)) (of_decide_eq_true rfl) (trivial)))) ⟨⟨_, rfl, .ref rfl⟩, ⟨_, rfl, .ref rfl⟩, ⟨_, rfl, .view rfl⟩, ⟨_, rfl, .same _ (by simp)⟩, ⟨_, rfl, .same _ (by simp)⟩, ⟨_, rfl, .same _ (by simp)⟩, ⟨_, rfl, .same _ (by simp)⟩, ⟨_, rfl, .same _ (by simp)⟩, ⟨_, rfl, .any _⟩, ⟨.sl (List.map u64 r91.1.Rows), rfl, .any _⟩, ⟨_, rfl, .any _⟩, ⟨_, rfl, .any _⟩, ⟨_, rfl, .any _⟩, ⟨_, rfl, .any _⟩, ⟨_, rfl, .any _⟩, ⟨_, rfl, .same _ (by simp)⟩, trivial⟩)
                      · rw [hb337]
                        replace h := Sh.if_f h hb337
                        refine AR.skip rfl ?_
                        refine AR.drop (frx := [(1, _), (4, _), (6, _), (7, _), (21, _), (22, _), (8, _), (9, _), (35, _), (36, _)]) ⟨rfl, rfl, rfl, rfl, rfl, rfl, rfl, rfl, rfl, rfl, trivial⟩ ?_
                        refine AR.skip rfl ?_
                        refine AR.skip rfl ?_
                        refine AR.skip rfl ?_
                        refine AR.drop (frx := [(1, _), (4, _), (6, _), (7, _), (21, _), (22, _), (8, _), (9, _), (35, _), (36, _), (37, _), (38, _), (39, _)]) ⟨rfl, rfl, rfl, rfl, rfl, rfl, rfl, rfl, rfl, rfl, rfl, rfl, rfl, trivial⟩ ?_
                        refine AR.skip rfl ?_
                        refine AR.skip rfl ?_
                        refine AR.skip rfl ?_
                        refine AR.drop (frx := [(1, _), (4, _), (6, _), (7, _), (21, _), (22, _), (8, _), (9, _), (35, _), (36, _), (37, _), (38, _), (39, _), (40, _), (41, _), (42, _)]) ⟨rfl, rfl, rfl, rfl, rfl, rfl, rfl, rfl, rfl, rfl, rfl, rfl, rfl, rfl, rfl, rfl, trivial⟩ ?_
                        refine AR.op (r := bl false) rfl (aop_pick rfl rfl rfl) ?_
                        refine AR.nil ?_
                        exact hK24 false _ h (Weak.re (fr' := [(1, .ref 0 0 0), (4, .ref 1 0 0), (6, .view 2 0 (List.map i64 out240).length), (7, u64 seen241), (21, i64 g_0.N), (22, i64 v242), (8, i64 next319), (9, i64 n320), (36, .any), (37, .any), (38, .any), (39, .any), (40, .any), (41, .any), (42, .any), (43, bl false)]) (H' := ⟨3, [(0, (2, [G.graph_Graph.av g_0])), (1, (2, [G.graph_Graph.av r91.1])), (2, (1, List.map i64 out240))]⟩) [(0, 0), (1, 1), (2, 2)] [] rfl rfl rfl (.cons rfl rfl (.one (.same _ (by simp)) rfl) (of_decide_eq_true rfl) (.cons rfl rfl (.one (.same _ (by simp)) rfl) (of_decide_eq_true rfl) (.cons rfl rfl (.same (by simp)) (of_decide_eq_true rfl) (trivial)))) ⟨⟨_, rfl, .ref rfl⟩, ⟨_, rfl, .ref rfl⟩, ⟨_, rfl, .view rfl⟩, ⟨_, rfl, .same _ (by simp)⟩, ⟨_, rfl, .same _ (by simp)⟩, ⟨_, rfl, .same _ (by simp)⟩, ⟨_, rfl, .same _ (by simp)⟩, ⟨_, rfl, .same _ (by simp)⟩, ⟨_, rfl, .any _⟩, ⟨_, rfl, .any _⟩, ⟨_, rfl, .any _⟩, ⟨_, rfl, .any _⟩, ⟨_, rfl, .any _⟩, ⟨_, rfl, .any _⟩, ⟨_, rfl, .any _⟩, ⟨_, rfl, .same _ (by simp)⟩, trivial⟩)
                · replace h := Sh.if_f h hb321
                  refine awp_exit ?_
                  replace h := Sh.exit_eq h hx2
                  exact hK19 next319 _ h (Weak.re (fr' := [(1, .ref 0 0 0), (4, .ref 1 0 0), (6, .view 2 0 (List.map i64 out240).length), (7, u64 seen241), (21, i64 g_0.N), (22, i64 v242), (8, i64 next319)]) (H' := ⟨3, [(0, (2, [G.graph_Graph.av g_0])), (1, (2, [G.graph_Graph.av r91.1])), (2, (1, List.map i64 out240))]⟩) [(0, 0), (1, 1), (2, 2)] [] rfl rfl rfl (.cons rfl rfl (.one (.same _ (by simp)) rfl) (of_decide_eq_true rfl) (.cons rfl rfl (.one (.same _ (by simp)) rfl) (of_decide_eq_true rfl) (.cons rfl rfl (.same (by simp)) (of_decide_eq_true rfl) (trivial)))) ⟨⟨_, rfl, .ref rfl⟩, ⟨_, rfl, .ref rfl⟩, ⟨_, rfl, .view rfl⟩, ⟨_, rfl, .same _ (by simp)⟩, ⟨_, rfl, .same _ (by simp)⟩, ⟨_, rfl, .same _ (by simp)⟩, ⟨_, rfl, .same _ (by simp)⟩, trivial⟩)
        · replace h := Sh.if_f h hb243
          refine awp_exit ?_
          replace h := Sh.exit_eq h hx1
          exact hK9 out240 _ h (Weak.re (fr' := [(6, .view 0 0 (List.map i64 out240).length)]) (H' := ⟨1, [(0, (1, List.map i64 out240))]⟩) [(0, 2)] [] rfl rfl rfl (.cons rfl rfl (.same (by simp)) (of_decide_eq_true rfl) (trivial)) ⟨⟨_, rfl, .view rfl⟩, trivial⟩)
theorem topo_Order_ok {W0 : World} (hT : Tab W0) {g_0 : G.graph_Graph} {r : (List Int) × Bool} (h : G.topo_Order g_0 = some r) : Fun1 Tryd.prog W0 44 [G.graph_Graph.av g_0] (.tuple [.sl (List.map i64 r.1), bl r.2]) :=
  (topo_Order_own hT h).give (Weak.re [] [] rfl rfl rfl trivial ⟨⟨_, rfl, .tp ⟨.lendAll rfl rfl (by simp), .same _ (by simp), trivial⟩⟩, trivial⟩) (by simp)


set_option maxHeartbeats 8000000 in
theorem topo_Is_ok0 {W0 : World} (hT : Tab W0) {g_0 : G.graph_Graph} {l_1 : List Int} {r : Bool} (h : G.topo_Is g_0 l_1 = some r) : Fun2 Tryd.prog W0 47 [G.graph_Graph.av g_0, .sl (List.map i64 l_1)] (bl r) .empty := by
  refine fun2_of_awp Tryd.func47 rfl (by kernel_rfl) Tryd.ntmps47 (by simp) ?_
  unfold G.topo_Is at h
  show AWP _ _ _ _ ⟨[(0, G.graph_Graph.av g_0), (1, .sl (List.map i64 l_1))], .empty⟩ _
  refine awp_seqK fun K1 hK1 => ?_
  refine awp_reg rfl ?_
  refine AR.op (r := .ref 0 0 0) rfl (aop_box 2 [G.graph_Graph.av g_0] rfl rfl rfl (.inl ⟨rfl, rfl⟩)) ?_
  refine AR.op (r := bl false) rfl (aop_move (.inr rfl) rfl) ?_
  refine AR.nil ?_
  refine hK1 _ (AWP.weak (Weak.re (fr' := [(1, .sl (List.map i64 l_1)), (2, .ref 0 0 0)]) (H' := ⟨1, [(0, (2, [G.graph_Graph.av g_0]))]⟩) [(0, 0)] [] rfl rfl rfl (.cons rfl rfl (.one (.same _ (by simp)) rfl) (of_decide_eq_true rfl) (trivial)) ⟨⟨.sl (List.map i64 l_1), rfl, .same _ (by simp)⟩, ⟨_, rfl, .ref rfl⟩, trivial⟩) ?_)
  clear hK1 K1
  refine awp_seqK fun K2 hK2 => ?_
  refine awp_seqJ (fun (p : Bool) => (⟨[(1, .sl (List.map i64 l_1)), (2, .ref 0 0 0), (17, bl p)], ⟨1, [(0, (2, [G.graph_Graph.av g_0]))]⟩⟩ : St)) (fun (p : Bool) => G.topo_Is_j1 g_0 l_1 p = some r) ?_ ?_
  · rintro v40 h
    replace h : G.topo_Is_j1 g_0 l_1 v40 = some r := h
    unfold G.topo_Is_j1 at h
    show AWP _ _ _ _ ⟨[(1, .sl (List.map i64 l_1)), (2, .ref 0 0 0), (17, bl v40)], ⟨1, [(0, (2, [G.graph_Graph.av g_0]))]⟩⟩ _
    refine awp_cond rfl (fun hb41 => ?_) (fun hb41 => ?_)
    · replace h := Sh.if_t h hb41
      refine awp_seqK fun K3 hK3 => ?_
      refine awp_reg rfl ?_
      refine AR.op (r := bl false) rfl (aop_move (.inr rfl) rfl) ?_
      refine AR.nil ?_
      refine hK3 _ (AWP.weak (Weak.re (fr' := [(4, bl false)]) (H' := .empty) [] [] rfl rfl rfl (trivial) ⟨⟨_, rfl, .same _ (by simp)⟩, trivial⟩) ?_)
      clear hK3 K3
      refine awp_ret ?_
      obtain rfl := Option.some.inj h
      refine ⟨.inr rfl, bl false, rfl, ?_⟩
      exact Weak.re [] [] rfl rfl rfl (trivial) ⟨⟨_, rfl, .same _ (by simp)⟩, trivial⟩
    · replace h := Sh.if_f h hb41
      refine awp_skip ?_
      refine hK2 _ (AWP.weak (Weak.re (fr' := [(1, .sl (List.map i64 l_1)), (2, .ref 0 0 0)]) (H' := ⟨1, [(0, (2, [G.graph_Graph.av g_0]))]⟩) [(0, 0)] [] rfl rfl rfl (.cons rfl rfl (.one (.same _ (by simp)) rfl) (of_decide_eq_true rfl) (trivial)) ⟨⟨.sl (List.map i64 l_1), rfl, .same _ (by simp)⟩, ⟨_, rfl, .ref rfl⟩, trivial⟩) ?_)
      clear hK2 K2
      refine awp_seqK fun K4 hK4 => ?_
      refine awp_reg rfl ?_
      refine AR.op (r := u64 0#64) rfl (aop_move (.inr rfl) rfl) ?_
      refine AR.nil ?_
      refine hK4 _ ?_
      clear hK4 K4
      refine awp_seqJ (fun (p : Unit) => (⟨[], .empty⟩ : St)) (fun (p : Unit) => G.topo_Is_j2 = some r) ?_ ?_
      · rintro ⟨⟩ h
        replace h : G.topo_Is_j2 = some r := h
        unfold G.topo_Is_j2 at h
        show AWP _ _ _ _ ⟨[], .empty⟩ _
        refine awp_seqK fun K5 hK5 => ?_
        refine awp_reg rfl ?_
        refine AR.op (r := bl true) rfl (aop_move (.inr rfl) rfl) ?_
        refine AR.nil ?_
        refine hK5 _ ?_
        clear hK5 K5
        refine awp_ret ?_
        obtain rfl := Option.some.inj h
        refine ⟨.inr rfl, bl true, rfl, ?_⟩
        exact Weak.re [] [] rfl rfl rfl (trivial) ⟨⟨_, rfl, .same _ (by simp)⟩, trivial⟩
      · intro K6 hK6
        refine awp_seqK fun K7 hK7 => ?_
        refine awp_reg rfl ?_
        refine AR.op (r := .sl (List.map i64 l_1)) rfl (aop_move (.inl rfl) rfl) ?_
        refine AR.op (r := i64 (Sh.len l_1)) rfl (t_len_sl i64 l_1 rfl rfl el50) ?_
        refine AR.op (r := i64 0) rfl (aop_move (.inl rfl) rfl) ?_
        refine AR.nil ?_
        refine hK7 _ (AWP.weak (Weak.re (fr' := [(2, .ref 0 0 0), (5, u64 0#64), (18, .sl (List.map i64 l_1)), (19, i64 (Sh.len l_1)), (20, i64 0)]) (H' := ⟨1, [(0, (2, [G.graph_Graph.av g_0]))]⟩) [(0, 0)] [] rfl rfl rfl (.cons rfl rfl (.one (.same _ (by simp)) rfl) (of_decide_eq_true rfl) (trivial)) ⟨⟨_, rfl, .ref rfl⟩, ⟨_, rfl, .same _ (by simp)⟩, ⟨.sl (List.map i64 l_1), rfl, .same _ (by simp)⟩, ⟨_, rfl, .same _ (by simp)⟩, ⟨_, rfl, .same _ (by simp)⟩, trivial⟩) ?_)
        clear hK7 K7
        refine awp_block ?_
        refine awp_iter (fun (p : (BitVec 64) × Int) => G.topo_Is_b1 g_0 l_1 p.1 p.2) (fun (p : (BitVec 64) × Int) => (⟨[(2, .ref 0 0 0), (5, u64 p.1), (18, .sl (List.map i64 l_1)), (19, i64 (Sh.len l_1)), (20, i64 p.2)], ⟨1, [(0, (2, [G.graph_Graph.av g_0]))]⟩⟩ : St)) h (Weak.re (fr' := [(2, .ref 0 0 0), (5, u64 0#64), (18, .sl (List.map i64 l_1)), (19, i64 (Sh.len l_1)), (20, i64 0)]) (H' := ⟨1, [(0, (2, [G.graph_Graph.av g_0]))]⟩) [(0, 0)] [] rfl rfl rfl (.cons rfl rfl (.one (.same _ (by simp)) rfl) (of_decide_eq_true rfl) (trivial)) ⟨⟨_, rfl, .ref rfl⟩, ⟨_, rfl, .same _ (by simp)⟩, ⟨.sl (List.map i64 l_1), rfl, .same _ (by simp)⟩, ⟨_, rfl, .same _ (by simp)⟩, ⟨_, rfl, .same _ (by simp)⟩, trivial⟩) ?_
        · skip
          rintro ⟨seen93, v94⟩ o1 h hx1
          replace h : G.topo_Is_b1 g_0 l_1 seen93 v94 = some o1 := h
          unfold G.topo_Is_b1 at h
          show AWP _ _ _ _ ⟨[(2, .ref 0 0 0), (5, u64 seen93), (18, .sl (List.map i64 l_1)), (19, i64 (Sh.len l_1)), (20, i64 v94)], ⟨1, [(0, (2, [G.graph_Graph.av g_0]))]⟩⟩ _
          refine awp_seqK fun K8 hK8 => ?_
          refine awp_reg rfl ?_
          refine AR.op (r := bl (decide (v94 < (Sh.len l_1)))) rfl (aop_lss rfl rfl rfl) ?_
          refine AR.nil ?_
          refine hK8 _ ?_
          clear hK8 K8
          refine awp_seqK fun K9 hK9 => ?_
          refine awp_cond rfl (fun hb95 => ?_) (fun hb95 => ?_)
          · replace h := Sh.if_t h hb95
            refine awp_skip ?_
            refine hK9 _ (AWP.weak (Weak.re (fr' := [(2, .ref 0 0 0), (5, u64 seen93), (18, .sl (List.map i64 l_1)), (19, i64 (Sh.len l_1)), (20, i64 v94)]) (H' := ⟨1, [(0, (2, [G.graph_Graph.av g_0]))]⟩) [(0, 0)] [] rfl rfl rfl (.cons rfl rfl (.one (.same _ (by simp)) rfl) (of_decide_eq_true rfl) (trivial)) ⟨⟨_, rfl, .ref rfl⟩, ⟨_, rfl, .same _ (by simp)⟩, ⟨.sl (List.map i64 l_1), rfl, .same _ (by simp)⟩, ⟨_, rfl, .same _ (by simp)⟩, ⟨_, rfl, .same _ (by simp)⟩, trivial⟩) ?_)
            clear hK9 K9
            refine awp_seqK fun K10 hK10 => ?_
            refine awp_block ?_
            refine awp_seqK fun K11 hK11 => ?_
            refine awp_reg rfl ?_
            obtain ⟨x107, hx107, h⟩ := Sh.bind_some' h
            obtain ⟨k108, hi108, hl108⟩ := Sh.idx_some hx107
            refine AR.op rfl (t_index_sl i64 l_1 hi108 hl108 rfl rfl rfl el50 rfl) ?_
            refine AR.op (r := i64 x107) rfl (aop_load_pp rfl rfl sz3 rfl) ?_
            refine AR.op (r := i64 x107) rfl (aop_move (.inr rfl) rfl) ?_
            refine AR.nil ?_
            refine hK11 _ (AWP.weak (Weak.re (fr' := [(2, .ref 0 0 0), (5, u64 seen93), (18, .sl (List.map i64 l_1)), (19, i64 (Sh.len l_1)), (20, i64 v94), (7, i64 x107)]) (H' := ⟨1, [(0, (2, [G.graph_Graph.av g_0]))]⟩) [(0, 0)] [] rfl rfl rfl (.cons rfl rfl (.one (.same _ (by simp)) rfl) (of_decide_eq_true rfl) (trivial)) ⟨⟨_, rfl, .ref rfl⟩, ⟨_, rfl, .same _ (by simp)⟩, ⟨.sl (List.map i64 l_1), rfl, .same _ (by simp)⟩, ⟨_, rfl, .same _ (by simp)⟩, ⟨_, rfl, .same _ (by simp)⟩, ⟨_, rfl, .same _ (by simp)⟩, trivial⟩) ?_)
            clear hK11 K11
            refine awp_seqK fun K12 hK12 => ?_
            refine awp_seqJ (fun (p : Bool) => (⟨[(2, .ref 0 0 0), (5, u64 seen93), (18, .sl (List.map i64 l_1)), (19, i64 (Sh.len l_1)), (20, i64 v94), (7, i64 x107), (27, .any), (28, .any), (29, .any), (30, .any), (33, .any), (34, .any), (35, .any), (36, bl p)], ⟨1, [(0, (2, [G.graph_Graph.av g_0]))]⟩⟩ : St)) (fun (p : Bool) => G.topo_Is_j3 g_0 seen93 v94 x107 p = some o1) ?_ ?_
            · rintro v116 h
              replace h : G.topo_Is_j3 g_0 seen93 v94 x107 v116 = some o1 := h
              unfold G.topo_Is_j3 at h
              show AWP _ _ _ _ ⟨[(2, .ref 0 0 0), (5, u64 seen93), (18, .sl (List.map i64 l_1)), (19, i64 (Sh.len l_1)), (20, i64 v94), (7, i64 x107), (27, .any), (28, .any), (29, .any), (30, .any), (33, .any), (34, .any), (35, .any), (36, bl v116)], ⟨1, [(0, (2, [G.graph_Graph.av g_0]))]⟩⟩ _
              refine awp_cond rfl (fun hb117 => ?_) (fun hb117 => ?_)
              · replace h := Sh.if_t h hb117
                refine awp_seqK fun K13 hK13 => ?_
                refine awp_reg rfl ?_
                refine AR.op (r := bl false) rfl (aop_move (.inr rfl) rfl) ?_
                refine AR.nil ?_
                refine hK13 _ (AWP.weak (Weak.re (fr' := [(4, bl false)]) (H' := .empty) [] [] rfl rfl rfl (trivial) ⟨⟨_, rfl, .same _ (by simp)⟩, trivial⟩) ?_)
                clear hK13 K13
                refine awp_ret ?_
                replace h := Sh.exit_eq h hx1
                obtain rfl := Option.some.inj h
                refine ⟨.inr rfl, bl false, rfl, ?_⟩
                exact Weak.re [] [] rfl rfl rfl (trivial) ⟨⟨_, rfl, .same _ (by simp)⟩, trivial⟩
              · replace h := Sh.if_f h hb117
                refine awp_skip ?_
                refine hK12 _ (AWP.weak (Weak.re (fr' := [(2, .ref 0 0 0), (5, u64 seen93), (18, .sl (List.map i64 l_1)), (19, i64 (Sh.len l_1)), (20, i64 v94), (7, i64 x107), (27, .any), (28, .any), (29, .any), (30, .any), (33, .any), (34, .any), (35, .any)]) (H' := ⟨1, [(0, (2, [G.graph_Graph.av g_0]))]⟩) [(0, 0)] [] rfl rfl rfl (.cons rfl rfl (.one (.same _ (by simp)) rfl) (of_decide_eq_true rfl) (trivial)) ⟨⟨_, rfl, .ref rfl⟩, ⟨_, rfl, .same _ (by simp)⟩, ⟨.sl (List.map i64 l_1), rfl, .same _ (by simp)⟩, ⟨_, rfl, .same _ (by simp)⟩, ⟨_, rfl, .same _ (by simp)⟩, ⟨_, rfl, .same _ (by simp)⟩, ⟨_, rfl, .any _⟩, ⟨_, rfl, .any _⟩, ⟨_, rfl, .any _⟩, ⟨_, rfl, .any _⟩, ⟨_, rfl, .any _⟩, ⟨_, rfl, .any _⟩, ⟨_, rfl, .any _⟩, trivial⟩) ?_)
                clear hK12 K12
                refine awp_seqK fun K14 hK14 => ?_
                refine awp_reg rfl ?_
                refine AR.op (r := u64 seen93) rfl (aop_move (.inl rfl) rfl) ?_
                refine AR.op (r := i64 x107) rfl (aop_move (.inl rfl) rfl) ?_
                obtain ⟨r119, hr119, h⟩ := Sh.bind_some' h
                refine AR.op (r := u64 r119) rfl (aop_call1 rfl rfl (by simp) (bits_With_ok hT hr119)) ?_
                refine AR.drop (frx := [(2, _), (18, _), (19, _), (20, _), (7, _), (27, _), (28, _), (29, _), (30, _), (33, _), (34, _), (35, _), (39, _)]) ⟨rfl, rfl, rfl, rfl, rfl, rfl, rfl, rfl, rfl, rfl, rfl, rfl, rfl, trivial⟩ ?_
                refine AR.op (r := u64 r119) rfl (aop_move (.inr rfl) rfl) ?_
                refine AR.nil ?_
                refine hK14 _ (AWP.weak (Weak.re (fr' := [(2, .ref 0 0 0), (18, .sl (List.map i64 l_1)), (19, i64 (Sh.len l_1)), (20, i64 v94), (7, i64 x107), (27, .any), (28, .any), (29, .any), (30, .any), (33, .any), (34, .any), (35, .any), (5, u64 r119)]) (H' := ⟨1, [(0, (2, [G.graph_Graph.av g_0]))]⟩) [(0, 0)] [] rfl rfl rfl (.cons rfl rfl (.one (.same _ (by simp)) rfl) (of_decide_eq_true rfl) (trivial)) ⟨⟨_, rfl, .ref rfl⟩, ⟨.sl (List.map i64 l_1), rfl, .same _ (by simp)⟩, ⟨_, rfl, .same _ (by simp)⟩, ⟨_, rfl, .same _ (by simp)⟩, ⟨_, rfl, .same _ (by simp)⟩, ⟨_, rfl, .any _⟩, ⟨_, rfl, .any _⟩, ⟨_, rfl, .any _⟩, ⟨_, rfl, .any _⟩, ⟨_, rfl, .any _⟩, ⟨_, rfl, .any _⟩, ⟨_, rfl, .any _⟩, ⟨_, rfl, .same _ (by simp)⟩, trivial⟩) ?_)
                clear hK14 K14
                refine awp_seqK fun K15 hK15 => ?_
                refine awp_reg rfl ?_
                refine AR.op rfl (aop_field_ref rfl rfl rfl fd24_1 (by decide)) ?_
                refine AR.op (r := .sl (List.map u64 g_0.Rows)) rfl (aop_load_ref rfl rfl rfl rfl sz22 rfl) ?_
                refine AR.op (r := i64 x107) rfl (aop_move (.inl rfl) rfl) ?_
                refine AR.drop (frx := [(2, _), (18, _), (19, _), (20, _), (27, _), (28, _), (29, _), (30, _), (33, _), (34, _), (35, _), (5, _), (41, _), (42, _)]) ⟨rfl, rfl, rfl, rfl, rfl, rfl, rfl, rfl, rfl, rfl, rfl, rfl, rfl, rfl, trivial⟩ ?_
                obtain ⟨x122, hx122, h⟩ := Sh.bind_some' h
                obtain ⟨k123, hi123, hl123⟩ := Sh.idx_some hx122
                refine AR.op rfl (t_index_sl u64 g_0.Rows hi123 hl123 rfl rfl rfl el22 rfl) ?_
                refine AR.op (r := u64 x122) rfl (aop_load_pp rfl rfl sz45 rfl) ?_
                refine AR.op (r := u64 r119) rfl (aop_move (.inl rfl) rfl) ?_
                refine AR.drop (frx := [(2, _), (18, _), (19, _), (20, _), (27, _), (28, _), (29, _), (30, _), (33, _), (34, _), (35, _), (5, _), (44, _), (45, _)]) ⟨rfl, rfl, rfl, rfl, rfl, rfl, rfl, rfl, rfl, rfl, rfl, rfl, rfl, rfl, trivial⟩ ?_
                refine AR.op (r := u64 (x122 &&& r119)) rfl (aop_and (a := x122) (b := r119) rfl rfl rfl) ?_
                refine AR.op (r := bl (decide ((x122 &&& r119) ≠ 0#64))) rfl (aop_neq64 (a := x122 &&& r119) (b := 0#64) rfl rfl rfl) ?_
                refine AR.nil ?_
                refine hK15 _ (AWP.weak (Weak.re (fr' := [(2, .ref 0 0 0), (18, .sl (List.map i64 l_1)), (19, i64 (Sh.len l_1)), (20, i64 v94), (27, .any), (28, .any), (29, .any), (30, .any), (33, .any), (34, .any), (35, .any), (5, u64 r119), (47, bl (decide ((x122 &&& r119) ≠ 0#64)))]) (H' := ⟨1, [(0, (2, [G.graph_Graph.av g_0]))]⟩) [(0, 0)] [] rfl rfl rfl (.cons rfl rfl (.one (.same _ (by simp)) rfl) (of_decide_eq_true rfl) (trivial)) ⟨⟨_, rfl, .ref rfl⟩, ⟨.sl (List.map i64 l_1), rfl, .same _ (by simp)⟩, ⟨_, rfl, .same _ (by simp)⟩, ⟨_, rfl, .same _ (by simp)⟩, ⟨_, rfl, .any _⟩, ⟨_, rfl, .any _⟩, ⟨_, rfl, .any _⟩, ⟨_, rfl, .any _⟩, ⟨_, rfl, .any _⟩, ⟨_, rfl, .any _⟩, ⟨_, rfl, .any _⟩, ⟨_, rfl, .same _ (by simp)⟩, ⟨_, rfl, .same _ (by simp)⟩, trivial⟩) ?_)
                clear hK15 K15
                refine awp_cond rfl (fun hb124 => ?_) (fun hb124 => ?_)
                · replace h := Sh.if_t h hb124
                  refine awp_seqK fun K16 hK16 => ?_
                  refine awp_reg rfl ?_
                  refine AR.op (r := bl false) rfl (aop_move (.inr rfl) rfl) ?_
                  refine AR.nil ?_
                  refine hK16 _ (AWP.weak (Weak.re (fr' := [(4, bl false)]) (H' := .empty) [] [] rfl rfl rfl (trivial) ⟨⟨_, rfl, .same _ (by simp)⟩, trivial⟩) ?_)
                  clear hK16 K16
                  refine awp_ret ?_
                  replace h := Sh.exit_eq h hx1
                  obtain rfl := Option.some.inj h
                  refine ⟨.inr rfl, bl false, rfl, ?_⟩
                  exact Weak.re [] [] rfl rfl rfl (trivial) ⟨⟨_, rfl, .same _ (by simp)⟩, trivial⟩
                · replace h := Sh.if_f h hb124
                  refine awp_skip ?_
                  refine hK10 _ (AWP.weak (Weak.re (fr' := [(2, .ref 0 0 0), (18, .sl (List.map i64 l_1)), (19, i64 (Sh.len l_1)), (20, i64 v94), (27, .any), (28, .any), (29, .any), (30, .any), (33, .any), (34, .any), (35, .any), (5, u64 r119)]) (H' := ⟨1, [(0, (2, [G.graph_Graph.av g_0]))]⟩) [(0, 0)] [] rfl rfl rfl (.cons rfl rfl (.one (.same _ (by simp)) rfl) (of_decide_eq_true rfl) (trivial)) ⟨⟨_, rfl, .ref rfl⟩, ⟨.sl (List.map i64 l_1), rfl, .same _ (by simp)⟩, ⟨_, rfl, .same _ (by simp)⟩, ⟨_, rfl, .same _ (by simp)⟩, ⟨_, rfl, .any _⟩, ⟨_, rfl, .any _⟩, ⟨_, rfl, .any _⟩, ⟨_, rfl, .any _⟩, ⟨_, rfl, .any _⟩, ⟨_, rfl, .any _⟩, ⟨_, rfl, .any _⟩, ⟨_, rfl, .same _ (by simp)⟩, trivial⟩) ?_)
                  clear hK10 K10
                  refine awp_reg rfl ?_
                  refine AR.op (r := i64 (w64 (v94 + 1))) rfl (aop_add rfl rfl rfl rfl) ?_
                  refine AR.op (r := i64 (w64 (v94 + 1))) rfl (aop_move (.inl rfl) rfl) ?_
                  refine AR.nil ?_
                  replace h := Sh.next_eq h
                  exact ⟨_, h, Weak.re (fr' := [(2, .ref 0 0 0), (5, u64 r119), (18, .sl (List.map i64 l_1)), (19, i64 (Sh.len l_1)), (20, i64 (w64 (v94 + 1)))]) (H' := ⟨1, [(0, (2, [G.graph_Graph.av g_0]))]⟩) [(0, 0)] [] rfl rfl rfl (.cons rfl rfl (.one (.same _ (by simp)) rfl) (of_decide_eq_true rfl) (trivial)) ⟨⟨_, rfl, .ref rfl⟩, ⟨_, rfl, .same _ (by simp)⟩, ⟨.sl (List.map i64 l_1), rfl, .same _ (by simp)⟩, ⟨_, rfl, .same _ (by simp)⟩, ⟨_, rfl, .same _ (by simp)⟩, trivial⟩⟩
            · intro K17 hK17
              refine awp_reg rfl ?_
              refine AR.op (r := i64 x107) rfl (aop_move (.inl rfl) rfl) ?_
              refine AR.op (r := bl (decide (x107 < 0))) rfl (aop_lss rfl rfl rfl) ?_
              refine AR.op (r := bl (decide (x107 < 0))) rfl (aop_move (.inl rfl) rfl) ?_
              refine AR.drop (frx := [(2, _), (5, _), (18, _), (19, _), (20, _), (7, _), (26, _)]) ⟨rfl, rfl, rfl, rfl, rfl, rfl, rfl, trivial⟩ ?_
              rcases Bool.eq_false_or_eq_true (decide (x107 < 0)) with hb125 | hb125
              · rw [hb125]
                replace h := Sh.if_t h hb125
                refine AR.skip rfl ?_
                refine AR.skip rfl ?_
                refine AR.skip rfl ?_
                refine AR.drop (frx := [(2, _), (5, _), (18, _), (19, _), (20, _), (7, _), (26, _), (27, _), (28, _), (29, _)]) ⟨rfl, rfl, rfl, rfl, rfl, rfl, rfl, rfl, rfl, rfl, trivial⟩ ?_
                refine AR.skip rfl ?_
                refine AR.op (r := bl true) rfl (aop_pick rfl rfl rfl) ?_
                refine AR.op (r := bl true) rfl (aop_move (.inl rfl) rfl) ?_
                refine AR.drop (frx := [(2, _), (5, _), (18, _), (19, _), (20, _), (7, _), (27, _), (28, _), (29, _), (30, _), (32, _)]) ⟨rfl, rfl, rfl, rfl, rfl, rfl, rfl, rfl, rfl, rfl, rfl, trivial⟩ ?_
                refine AR.skip rfl ?_
                refine AR.skip rfl ?_
                refine AR.skip rfl ?_
                refine AR.drop (frx := [(2, _), (5, _), (18, _), (19, _), (20, _), (7, _), (27, _), (28, _), (29, _), (30, _), (32, _), (33, _), (34, _), (35, _)]) ⟨rfl, rfl, rfl, rfl, rfl, rfl, rfl, rfl, rfl, rfl, rfl, rfl, rfl, rfl, trivial⟩ ?_
                refine AR.op (r := bl true) rfl (aop_pick rfl rfl rfl) ?_
                refine AR.nil ?_
                exact hK17 true _ h (Weak.re (fr' := [(2, .ref 0 0 0), (5, u64 seen93), (18, .sl (List.map i64 l_1)), (19, i64 (Sh.len l_1)), (20, i64 v94), (7, i64 x107), (27, .any), (28, .any), (29, .any), (30, .any), (33, .any), (34, .any), (35, .any), (36, bl true)]) (H' := ⟨1, [(0, (2, [G.graph_Graph.av g_0]))]⟩) [(0, 0)] [] rfl rfl rfl (.cons rfl rfl (.one (.same _ (by simp)) rfl) (of_decide_eq_true rfl) (trivial)) ⟨⟨_, rfl, .ref rfl⟩, ⟨_, rfl, .same _ (by simp)⟩, ⟨.sl (List.map i64 l_1), rfl, .same _ (by simp)⟩, ⟨_, rfl, .same _ (by simp)⟩, ⟨_, rfl, .same _ (by simp)⟩, ⟨_, rfl, .same _ (by simp)⟩, ⟨_, rfl, .any _⟩, ⟨_, rfl, .any _⟩, ⟨_, rfl, .any _⟩, ⟨_, rfl, .any _⟩, ⟨_, rfl, .any _⟩, ⟨_, rfl, .any _⟩, ⟨_, rfl, .any _⟩, ⟨_, rfl, .same _ (by simp)⟩, trivial⟩)
              · rw [hb125]
                replace h := Sh.if_f h hb125
                refine AR.op (r := i64 x107) rfl (aop_move (.inl rfl) rfl) ?_
                refine AR.op rfl (aop_field_ref rfl rfl rfl fd24_0 (by decide)) ?_
                refine AR.op (r := i64 g_0.N) rfl (aop_load_ref rfl rfl rfl rfl sz3 rfl) ?_
                refine AR.drop (frx := [(2, _), (5, _), (18, _), (19, _), (20, _), (7, _), (26, _), (27, _), (28, _), (29, _)]) ⟨rfl, rfl, rfl, rfl, rfl, rfl, rfl, rfl, rfl, rfl, trivial⟩ ?_
                refine AR.op (r := bl (decide (g_0.N ≤ x107))) rfl (aop_geq rfl rfl rfl) ?_
                refine AR.op (r := bl (decide (g_0.N ≤ x107))) rfl (aop_pick rfl rfl rfl) ?_
                refine AR.op (r := bl (decide (g_0.N ≤ x107))) rfl (aop_move (.inl rfl) rfl) ?_
                refine AR.drop (frx := [(2, _), (5, _), (18, _), (19, _), (20, _), (7, _), (27, _), (28, _), (29, _), (30, _), (32, _)]) ⟨rfl, rfl, rfl, rfl, rfl, rfl, rfl, rfl, rfl, rfl, rfl, trivial⟩ ?_
                rcases Bool.eq_false_or_eq_true (decide (g_0.N ≤ x107)) with hb126 | hb126
                · rw [hb126]
                  replace h := Sh.if_t h hb126
                  refine AR.skip rfl ?_
                  refine AR.skip rfl ?_
                  refine AR.skip rfl ?_
                  refine AR.drop (frx := [(2, _), (5, _), (18, _), (19, _), (20, _), (7, _), (27, _), (28, _), (29, _), (30, _), (32, _), (33, _), (34, _), (35, _)]) ⟨rfl, rfl, rfl, rfl, rfl, rfl, rfl, rfl, rfl, rfl, rfl, rfl, rfl, rfl, trivial⟩ ?_
                  refine AR.op (r := bl true) rfl (aop_pick rfl rfl rfl) ?_
                  refine AR.nil ?_
                  exact hK17 true _ h (Weak.re (fr' := [(2, .ref 0 0 0), (5, u64 seen93), (18, .sl (List.map i64 l_1)), (19, i64 (Sh.len l_1)), (20, i64 v94), (7, i64 x107), (27, .any), (28, .any), (29, .any), (30, .any), (33, .any), (34, .any), (35, .any), (36, bl true)]) (H' := ⟨1, [(0, (2, [G.graph_Graph.av g_0]))]⟩) [(0, 0)] [] rfl rfl rfl (.cons rfl rfl (.one (.same _ (by simp)) rfl) (of_decide_eq_true rfl) (trivial)) ⟨⟨_, rfl, .ref rfl⟩, ⟨_, rfl, .same _ (by simp)⟩, ⟨.sl (List.map i64 l_1), rfl, .same _ (by simp)⟩, ⟨_, rfl, .same _ (by simp)⟩, ⟨_, rfl, .same _ (by simp)⟩, ⟨_, rfl, .same _ (by simp)⟩, ⟨_, rfl, .any _⟩, ⟨_, rfl, .any _⟩, ⟨_, rfl, .any _⟩, ⟨_, rfl, .any _⟩, ⟨_, rfl, .any _⟩, ⟨_, rfl, .any _⟩, ⟨_, rfl, .any _⟩, ⟨_, rfl, .same _ (by simp)⟩, trivial⟩)
                · rw [hb126]
                  replace h := Sh.if_f h hb126
                  refine AR.op (r := u64 seen93) rfl (aop_move (.inl rfl) rfl) ?_
                  refine AR.op (r := i64 x107) rfl (aop_move (.inl rfl) rfl) ?_
                  obtain ⟨r127, hr127, h⟩ := Sh.bind_some' h
                  refine AR.op (r := bl r127) rfl (aop_call1 rfl rfl (by simp) (bits_Has_ok hT hr127)) ?_
                  refine AR.drop (frx := [(2, _), (5, _), (18, _), (19, _), (20, _), (7, _), (27, _), (28, _), (29, _), (30, _), (32, _), (33, _), (34, _), (35, _)]) ⟨rfl, rfl, rfl, rfl, rfl, rfl, rfl, rfl, rfl, rfl, rfl, rfl, rfl, rfl, trivial⟩ ?_
                  refine AR.op (r := bl r127) rfl (aop_pick rfl rfl rfl) ?_
                  refine AR.nil ?_
                  exact hK17 r127 _ h (Weak.re (fr' := [(2, .ref 0 0 0), (5, u64 seen93), (18, .sl (List.map i64 l_1)), (19, i64 (Sh.len l_1)), (20, i64 v94), (7, i64 x107), (27, .any), (28, .any), (29, .any), (30, .any), (33, .any), (34, .any), (35, .any), (36, bl r127)]) (H' := ⟨1, [(0, (2, [G.graph_Graph.av g_0]))]⟩) [(0, 0)] [] rfl rfl rfl (.cons rfl rfl (.one (.same _ (by simp)) rfl) (of_decide_eq_true rfl) (trivial)) ⟨⟨_, rfl, .ref rfl⟩, ⟨_, rfl, .same _ (by simp)⟩, ⟨.sl (List.map i64 l_1), rfl, .same _ (by simp)⟩, ⟨_, rfl, .same _ (by simp)⟩, ⟨_, rfl, .same _ (by simp)⟩, ⟨_, rfl, .same _ (by simp)⟩, ⟨_, rfl, .any _⟩, ⟨_, rfl, .any _⟩, ⟨_, rfl, .any _⟩, ⟨_, rfl, .any _⟩, ⟨_, rfl, .any _⟩, ⟨_, rfl, .any _⟩, ⟨_, rfl, .any _⟩, ⟨_, rfl, .same _ (by simp)⟩, trivial⟩)
          · replace h := Sh.if_f h hb95
            refine awp_exit ?_
            replace h := Sh.exit_eq h hx1
            exact hK6 () _ h (Weak.re (fr' := []) (H' := .empty) [] [] rfl rfl rfl (trivial) trivial)
  · intro K18 hK18
    refine awp_reg rfl ?_
    refine AR.op (r := G.graph_Graph.av g_0) rfl (aop_load_ref rfl rfl rfl rfl sz24 rfl) ?_
    obtain ⟨r128, hr128, h⟩ := Sh.bind_some' h
    refine AR.op (r := bl r128) rfl (aop_call1 rfl rfl (by simp) (graph_Right_ok hT hr128)) ?_
    refine AR.op (r := bl (!r128)) rfl (aop_not rfl rfl) ?_
    refine AR.drop (frx := [(1, _), (2, _), (10, _)]) ⟨rfl, rfl, rfl, trivial⟩ ?_
    refine AR.op (r := bl (!r128)) rfl (aop_move (.inl rfl) rfl) ?_
    rcases Bool.eq_false_or_eq_true (!r128) with hb129 | hb129
    · rw [hb129]
      replace h := Sh.if_t h hb129
      refine AR.skip rfl ?_
      refine AR.skip rfl ?_
      refine AR.drop (frx := [(1, _), (2, _), (11, _), (13, _)]) ⟨rfl, rfl, rfl, rfl, trivial⟩ ?_
      refine AR.skip rfl ?_
      refine AR.skip rfl ?_
      refine AR.skip rfl ?_
      refine AR.drop (frx := [(1, _), (2, _), (11, _), (16, _)]) ⟨rfl, rfl, rfl, rfl, trivial⟩ ?_
      refine AR.op (r := bl true) rfl (aop_pick rfl rfl rfl) ?_
      refine AR.nil ?_
      exact hK18 true _ h (Weak.re (fr' := [(1, .sl (List.map i64 l_1)), (2, .ref 0 0 0), (17, bl true)]) (H' := ⟨1, [(0, (2, [G.graph_Graph.av g_0]))]⟩) [(0, 0)] [] rfl rfl rfl (.cons rfl rfl (.one (.same _ (by simp)) rfl) (of_decide_eq_true rfl) (trivial)) ⟨⟨.sl (List.map i64 l_1), rfl, .same _ (by simp)⟩, ⟨_, rfl, .ref rfl⟩, ⟨_, rfl, .same _ (by simp)⟩, trivial⟩)
    · rw [hb129]
      replace h := Sh.if_f h hb129
      refine AR.op (r := .sl (List.map i64 l_1)) rfl (aop_move (.inl rfl) rfl) ?_
      refine AR.op (r := i64 (Sh.len l_1)) rfl (t_len_sl i64 l_1 rfl rfl el50) ?_
      refine AR.drop (frx := [(1, _), (2, _), (11, _), (13, _)]) ⟨rfl, rfl, rfl, rfl, trivial⟩ ?_
      refine AR.op rfl (aop_field_ref rfl rfl rfl fd24_0 (by decide)) ?_
      refine AR.op (r := i64 g_0.N) rfl (aop_load_ref rfl rfl rfl rfl sz3 rfl) ?_
      refine AR.op (r := bl (decide ((Sh.len l_1) ≠ g_0.N))) rfl (aop_neq rfl rfl rfl) ?_
      refine AR.drop (frx := [(1, _), (2, _), (11, _), (16, _)]) ⟨rfl, rfl, rfl, rfl, trivial⟩ ?_
      refine AR.op (r := bl (decide ((Sh.len l_1) ≠ g_0.N))) rfl (aop_pick rfl rfl rfl) ?_
      refine AR.nil ?_
      exact hK18 (decide ((Sh.len l_1) ≠ g_0.N)) _ h (Weak.re (fr' := [(1, .sl (List.map i64 l_1)), (2, .ref 0 0 0), (17, bl (decide ((Sh.len l_1) ≠ g_0.N)))]) (H' := ⟨1, [(0, (2, [G.graph_Graph.av g_0]))]⟩) [(0, 0)] [] rfl rfl rfl (.cons rfl rfl (.one (.same _ (by simp)) rfl) (of_decide_eq_true rfl) (trivial)) ⟨⟨.sl (List.map i64 l_1), rfl, .same _ (by simp)⟩, ⟨_, rfl, .ref rfl⟩, ⟨_, rfl, .same _ (by simp)⟩, trivial⟩)
theorem topo_Is_ok {W0 : World} (hT : Tab W0) {g_0 : G.graph_Graph} {l_1 : List Int} {r : Bool} (h : G.topo_Is g_0 l_1 = some r) : Fun1 Tryd.prog W0 47 [G.graph_Graph.av g_0, .sl (List.map i64 l_1)] (bl r) := Fun1.two (topo_Is_ok0 hT h) (by simp)

end Wk
