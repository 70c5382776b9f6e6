/- That a statement does what its plain function says. -/
import Derived.Test.YtmmeihaoldinnaaDoorWkGinquestlaw13
open Go Go.Av Go.Proofs
set_option linter.unusedVariables false
namespace Wk
set_option maxHeartbeats 8000000 in
theorem inquestlaw13_ReachWays_ok0 {W0 : World} (hT : Tab W0) {g_0 : G.graph_Graph} {more_1 : G.graph_Graph} {r : Bool} (h : G.inquestlaw13_ReachWays g_0 more_1 = some r) : Fun2 Tryd.prog W0 11 [G.graph_Graph.av g_0, G.graph_Graph.av more_1] (bl r) .empty := by
  refine fun2_of_awp Tryd.func11 rfl (by kernel_rfl) Tryd.ntmps11 (by simp) ?_
  unfold G.inquestlaw13_ReachWays at h
  show AWP _ _ _ _ ⟨[(0, G.graph_Graph.av g_0), (1, G.graph_Graph.av more_1)], .empty⟩ _
  refine awp_seqK fun K1 hK1 => ?_
  refine awp_reg rfl ?_
  refine AR.op (r := .ref 0 0 0) rfl (aop_box 2 [G.graph_Graph.av g_0] rfl rfl rfl (.inl ⟨rfl, rfl⟩)) ?_
  refine AR.op (r := .ref 1 0 0) rfl (aop_box 2 [G.graph_Graph.av more_1] rfl rfl rfl (.inl ⟨rfl, rfl⟩)) ?_
  refine AR.op (r := bl false) rfl (aop_move (.inr rfl) rfl) ?_
  refine AR.nil ?_
  refine hK1 _ (AWP.weak (Weak.re (fr' := [(2, .ref 0 0 0), (3, .ref 1 0 0)]) (H' := ⟨2, [(0, (2, [G.graph_Graph.av g_0])), (1, (2, [G.graph_Graph.av more_1]))]⟩) [(0, 0), (1, 1)] [] rfl rfl rfl (.cons rfl rfl (.one (.same _ (by simp)) rfl) (of_decide_eq_true rfl) (.cons rfl rfl (.one (.same _ (by simp)) rfl) (of_decide_eq_true rfl) (trivial))) ⟨⟨_, rfl, .ref rfl⟩, ⟨_, rfl, .ref rfl⟩, trivial⟩) ?_)
  clear hK1 K1
  refine awp_seqK fun K2 hK2 => ?_
  refine awp_reg rfl ?_
  obtain ⟨r47, hr47, h⟩ := Sh.bind_some' h
  refine AR.op (r := bl r47) rfl (aop_call1 rfl rfl (by simp) (inquestlaw13_awake_ok hT hr47)) ?_
  refine AR.op (r := bl r47) rfl (aop_move (.inr rfl) rfl) ?_
  refine AR.nil ?_
  refine hK2 _ (AWP.weak (Weak.re (fr' := [(2, .ref 0 0 0), (3, .ref 1 0 0), (5, bl r47)]) (H' := ⟨2, [(0, (2, [G.graph_Graph.av g_0])), (1, (2, [G.graph_Graph.av more_1]))]⟩) [(0, 0), (1, 1)] [] rfl rfl rfl (.cons rfl rfl (.one (.same _ (by simp)) rfl) (of_decide_eq_true rfl) (.cons rfl rfl (.one (.same _ (by simp)) rfl) (of_decide_eq_true rfl) (trivial))) ⟨⟨_, rfl, .ref rfl⟩, ⟨_, rfl, .ref rfl⟩, ⟨_, rfl, .same _ (by simp)⟩, trivial⟩) ?_)
  clear hK2 K2
  refine awp_seqK fun K3 hK3 => ?_
  refine awp_seqK fun K4 hK4 => ?_
  refine awp_reg rfl ?_
  refine AR.op (r := bl r47) rfl (aop_move (.inl rfl) rfl) ?_
  refine AR.op (r := bl (!r47)) rfl (aop_not rfl rfl) ?_
  refine AR.nil ?_
  refine hK4 _ (AWP.weak (Weak.re (fr' := [(2, .ref 0 0 0), (3, .ref 1 0 0), (22, bl (!r47))]) (H' := ⟨2, [(0, (2, [G.graph_Graph.av g_0])), (1, (2, [G.graph_Graph.av more_1]))]⟩) [(0, 0), (1, 1)] [] rfl rfl rfl (.cons rfl rfl (.one (.same _ (by simp)) rfl) (of_decide_eq_true rfl) (.cons rfl rfl (.one (.same _ (by simp)) rfl) (of_decide_eq_true rfl) (trivial))) ⟨⟨_, rfl, .ref rfl⟩, ⟨_, rfl, .ref rfl⟩, ⟨_, rfl, .same _ (by simp)⟩, trivial⟩) ?_)
  clear hK4 K4
  refine awp_cond rfl (fun hb48 => ?_) (fun hb48 => ?_)
  · replace h := Sh.if_t h hb48
    refine awp_seqK fun K5 hK5 => ?_
    refine awp_reg rfl ?_
    refine AR.op (r := bl false) rfl (aop_move (.inr rfl) rfl) ?_
    refine AR.nil ?_
    refine hK5 _ (AWP.weak (Weak.re (fr' := [(4, bl false)]) (H' := .empty) [] [] rfl rfl rfl (trivial) ⟨⟨_, rfl, .same _ (by simp)⟩, trivial⟩) ?_)
    clear hK5 K5
    refine awp_ret ?_
    obtain rfl := Option.some.inj h
    refine ⟨.inr rfl, bl false, rfl, ?_⟩
    exact Weak.re [] [] rfl rfl rfl (trivial) ⟨⟨_, rfl, .same _ (by simp)⟩, trivial⟩
  · replace h := Sh.if_f h hb48
    refine awp_skip ?_
    refine hK3 _ (AWP.weak (Weak.re (fr' := [(2, .ref 0 0 0), (3, .ref 1 0 0)]) (H' := ⟨2, [(0, (2, [G.graph_Graph.av g_0])), (1, (2, [G.graph_Graph.av more_1]))]⟩) [(0, 0), (1, 1)] [] rfl rfl rfl (.cons rfl rfl (.one (.same _ (by simp)) rfl) (of_decide_eq_true rfl) (.cons rfl rfl (.one (.same _ (by simp)) rfl) (of_decide_eq_true rfl) (trivial))) ⟨⟨_, rfl, .ref rfl⟩, ⟨_, rfl, .ref rfl⟩, trivial⟩) ?_)
    clear hK3 K3
    refine awp_seqK fun K6 hK6 => ?_
    refine awp_seqJ (fun (p : Bool) => (⟨[(2, .ref 0 0 0), (3, .ref 1 0 0), (37, bl p)], ⟨2, [(0, (2, [G.graph_Graph.av g_0])), (1, (2, [G.graph_Graph.av more_1]))]⟩⟩ : St)) (fun (p : Bool) => G.inquestlaw13_ReachWays_j1 g_0 more_1 p = some r) ?_ ?_
    · rintro v56 h
      replace h : G.inquestlaw13_ReachWays_j1 g_0 more_1 v56 = some r := h
      unfold G.inquestlaw13_ReachWays_j1 at h
      show AWP _ _ _ _ ⟨[(2, .ref 0 0 0), (3, .ref 1 0 0), (37, bl v56)], ⟨2, [(0, (2, [G.graph_Graph.av g_0])), (1, (2, [G.graph_Graph.av more_1]))]⟩⟩ _
      refine awp_cond rfl (fun hb57 => ?_) (fun hb57 => ?_)
      · replace h := Sh.if_t h hb57
        refine awp_seqK fun K7 hK7 => ?_
        refine awp_reg rfl ?_
        refine AR.op (r := bl true) rfl (aop_move (.inr rfl) rfl) ?_
        refine AR.nil ?_
        refine hK7 _ (AWP.weak (Weak.re (fr' := [(4, bl true)]) (H' := .empty) [] [] rfl rfl rfl (trivial) ⟨⟨_, rfl, .same _ (by simp)⟩, trivial⟩) ?_)
        clear hK7 K7
        refine awp_ret ?_
        obtain rfl := Option.some.inj h
        refine ⟨.inr rfl, bl true, rfl, ?_⟩
        exact Weak.re [] [] rfl rfl rfl (trivial) ⟨⟨_, rfl, .same _ (by simp)⟩, trivial⟩
      · replace h := Sh.if_f h hb57
        refine awp_skip ?_
        refine hK6 _ (AWP.weak (Weak.re (fr' := [(2, .ref 0 0 0), (3, .ref 1 0 0)]) (H' := ⟨2, [(0, (2, [G.graph_Graph.av g_0])), (1, (2, [G.graph_Graph.av more_1]))]⟩) [(0, 0), (1, 1)] [] rfl rfl rfl (.cons rfl rfl (.one (.same _ (by simp)) rfl) (of_decide_eq_true rfl) (.cons rfl rfl (.one (.same _ (by simp)) rfl) (of_decide_eq_true rfl) (trivial))) ⟨⟨_, rfl, .ref rfl⟩, ⟨_, rfl, .ref rfl⟩, trivial⟩) ?_)
        clear hK6 K6
        refine awp_seqK fun K8 hK8 => ?_
        refine awp_reg rfl ?_
        refine AR.op (r := G.graph_Graph.av g_0) rfl (aop_load_ref rfl rfl rfl rfl sz24 rfl) ?_
        obtain ⟨r59, hr59, h⟩ := Sh.bind_some' h
        refine AR.op (r := .tuple [G.graph_Graph.av r59.1, i64 r59.2]) rfl (aop_call1 rfl rfl (by simp) (reach_Close_ok hT hr59)) ?_
        refine AR.op (r := .tuple [G.graph_Graph.av r59.1, i64 r59.2]) rfl (aop_move (.inl rfl) rfl) ?_
        refine AR.drop (frx := [(2, _), (3, _), (38, _)]) ⟨rfl, rfl, rfl, trivial⟩ ?_
        refine AR.op (r := G.graph_Graph.av r59.1) rfl (aop_extract rfl rfl rfl) ?_
        refine AR.op (r := i64 r59.2) rfl (aop_extract rfl rfl rfl) ?_
        refine AR.op (r := .ref 2 0 0) rfl (aop_alloc 2 [.agg [i64 0, nilS]] rfl zr24 (by kernel_rfl) (.inl ⟨rfl, rfl⟩)) ?_
        refine AR.drop (frx := [(2, _), (3, _), (41, _), (42, _), (6, _)]) ⟨rfl, rfl, rfl, rfl, rfl, trivial⟩ ?_
        refine AR.op rfl (aop_store (e' := G.graph_Graph.av r59.1) rfl rfl rfl rfl rfl rfl sz24 rfl (of_decide_eq_true rfl) rfl) ?_
        refine AR.op (r := i64 r59.2) rfl (aop_move (.inr rfl) rfl) ?_
        refine AR.nil ?_
        refine hK8 _ (AWP.weak (Weak.re (fr' := [(2, .ref 0 0 0), (3, .ref 1 0 0), (6, .ref 2 0 0), (7, i64 r59.2)]) (H' := ⟨3, [(0, (2, [G.graph_Graph.av g_0])), (1, (2, [G.graph_Graph.av more_1])), (2, (2, [G.graph_Graph.av r59.1]))]⟩) [(0, 0), (1, 1), (2, 2)] [] rfl rfl rfl (.cons rfl rfl (.one (.same _ (by simp)) rfl) (of_decide_eq_true rfl) (.cons rfl rfl (.one (.same _ (by simp)) rfl) (of_decide_eq_true rfl) (.cons rfl rfl (.one (.same _ (by simp)) rfl) (of_decide_eq_true rfl) (trivial)))) ⟨⟨_, rfl, .ref rfl⟩, ⟨_, rfl, .ref rfl⟩, ⟨_, rfl, .ref rfl⟩, ⟨_, rfl, .same _ (by simp)⟩, trivial⟩) ?_)
        clear hK8 K8
        refine awp_seqK fun K9 hK9 => ?_
        refine awp_reg rfl ?_
        refine AR.op (r := G.graph_Graph.av g_0) rfl (aop_load_ref rfl rfl rfl rfl sz24 rfl) ?_
        refine AR.op (r := G.graph_Graph.av r59.1) rfl (aop_load_ref rfl rfl rfl rfl sz24 rfl) ?_
        obtain ⟨r61, hr61, h⟩ := Sh.bind_some' h
        refine AR.op (r := .tuple [G.graph_Graph.av r61.1, i64 r61.2]) rfl (aop_call1 rfl rfl (by simp) (graph_Compose_ok hT hr61)) ?_
        refine AR.drop (frx := [(2, _), (3, _), (6, _), (7, _), (46, _)]) ⟨rfl, rfl, rfl, rfl, rfl, trivial⟩ ?_
        refine AR.op (r := .tuple [G.graph_Graph.av r61.1, i64 r61.2]) rfl (aop_move (.inl rfl) rfl) ?_
        refine AR.op (r := G.graph_Graph.av r61.1) rfl (aop_extract rfl rfl rfl) ?_
        refine AR.op (r := i64 r61.2) rfl (aop_extract rfl rfl rfl) ?_
        refine AR.drop (frx := [(2, _), (3, _), (6, _), (7, _), (47, _), (48, _)]) ⟨rfl, rfl, rfl, rfl, rfl, rfl, trivial⟩ ?_
        refine AR.op (r := .ref 3 0 0) rfl (aop_alloc 2 [.agg [i64 0, nilS]] rfl zr24 (by kernel_rfl) (.inl ⟨rfl, rfl⟩)) ?_
        refine AR.op rfl (aop_store (e' := G.graph_Graph.av r61.1) rfl rfl rfl rfl rfl rfl sz24 rfl (of_decide_eq_true rfl) rfl) ?_
        refine AR.op (r := i64 r61.2) rfl (aop_move (.inr rfl) rfl) ?_
        refine AR.nil ?_
        refine hK9 _ (AWP.weak (Weak.re (fr' := [(2, .ref 0 0 0), (3, .ref 1 0 0), (6, .ref 2 0 0), (7, i64 r59.2), (8, .ref 3 0 0), (9, i64 r61.2)]) (H' := ⟨4, [(0, (2, [G.graph_Graph.av g_0])), (1, (2, [G.graph_Graph.av more_1])), (2, (2, [G.graph_Graph.av r59.1])), (3, (2, [G.graph_Graph.av r61.1]))]⟩) [(0, 0), (1, 1), (2, 2), (3, 3)] [] rfl rfl rfl (.cons rfl rfl (.one (.same _ (by simp)) rfl) (of_decide_eq_true rfl) (.cons rfl rfl (.one (.same _ (by simp)) rfl) (of_decide_eq_true rfl) (.cons rfl rfl (.one (.same _ (by simp)) rfl) (of_decide_eq_true rfl) (.cons rfl rfl (.one (.same _ (by simp)) rfl) (of_decide_eq_true rfl) (trivial))))) ⟨⟨_, rfl, .ref rfl⟩, ⟨_, rfl, .ref rfl⟩, ⟨_, rfl, .ref rfl⟩, ⟨_, rfl, .same _ (by simp)⟩, ⟨_, rfl, .ref rfl⟩, ⟨_, rfl, .same _ (by simp)⟩, trivial⟩) ?_)
        clear hK9 K9
        refine awp_seqK fun K10 hK10 => ?_
        refine awp_reg rfl ?_
        refine AR.op (r := G.graph_Graph.av g_0) rfl (aop_load_ref rfl rfl rfl rfl sz24 rfl) ?_
        refine AR.op (r := G.graph_Graph.av r61.1) rfl (aop_load_ref rfl rfl rfl rfl sz24 rfl) ?_
        obtain ⟨r63, hr63, h⟩ := Sh.bind_some' h
        refine AR.op (r := .tuple [G.graph_Graph.av r63.1, i64 r63.2]) rfl (aop_call1 rfl rfl (by simp) (graph_Union_ok hT hr63)) ?_
        refine AR.drop (frx := [(2, _), (3, _), (6, _), (7, _), (9, _), (52, _)]) ⟨rfl, rfl, rfl, rfl, rfl, rfl, trivial⟩ ?_
        refine AR.op (r := .tuple [G.graph_Graph.av r63.1, i64 r63.2]) rfl (aop_move (.inl rfl) rfl) ?_
        refine AR.op (r := G.graph_Graph.av r63.1) rfl (aop_extract rfl rfl rfl) ?_
        refine AR.op (r := i64 r63.2) rfl (aop_extract rfl rfl rfl) ?_
        refine AR.drop (frx := [(2, _), (3, _), (6, _), (7, _), (9, _), (53, _), (54, _)]) ⟨rfl, rfl, rfl, rfl, rfl, rfl, rfl, trivial⟩ ?_
        refine AR.op (r := .ref 4 0 0) rfl (aop_alloc 2 [.agg [i64 0, nilS]] rfl zr24 (by kernel_rfl) (.inl ⟨rfl, rfl⟩)) ?_
        refine AR.op rfl (aop_store (e' := G.graph_Graph.av r63.1) rfl rfl rfl rfl rfl rfl sz24 rfl (of_decide_eq_true rfl) rfl) ?_
        refine AR.op (r := i64 r63.2) rfl (aop_move (.inr rfl) rfl) ?_
        refine AR.nil ?_
        refine hK10 _ (AWP.weak (Weak.re (fr' := [(2, .ref 0 0 0), (3, .ref 1 0 0), (6, .ref 2 0 0), (7, i64 r59.2), (9, i64 r61.2), (10, .ref 3 0 0), (11, i64 r63.2)]) (H' := ⟨4, [(0, (2, [G.graph_Graph.av g_0])), (1, (2, [G.graph_Graph.av more_1])), (2, (2, [G.graph_Graph.av r59.1])), (3, (2, [G.graph_Graph.av r63.1]))]⟩) [(0, 0), (1, 1), (2, 2), (3, 4)] [] rfl rfl rfl (.cons rfl rfl (.one (.same _ (by simp)) rfl) (of_decide_eq_true rfl) (.cons rfl rfl (.one (.same _ (by simp)) rfl) (of_decide_eq_true rfl) (.cons rfl rfl (.one (.same _ (by simp)) rfl) (of_decide_eq_true rfl) (.cons rfl rfl (.one (.same _ (by simp)) rfl) (of_decide_eq_true rfl) (trivial))))) ⟨⟨_, rfl, .ref rfl⟩, ⟨_, rfl, .ref rfl⟩, ⟨_, rfl, .ref rfl⟩, ⟨_, rfl, .same _ (by simp)⟩, ⟨_, rfl, .same _ (by simp)⟩, ⟨_, rfl, .ref rfl⟩, ⟨_, rfl, .same _ (by simp)⟩, trivial⟩) ?_)
        clear hK10 K10
        refine awp_seqK fun K11 hK11 => ?_
        refine awp_reg rfl ?_
        refine AR.op (r := G.graph_Graph.av r59.1) rfl (aop_load_ref rfl rfl rfl rfl sz24 rfl) ?_
        obtain ⟨r65, hr65, h⟩ := Sh.bind_some' h
        refine AR.op (r := .tuple [G.graph_Graph.av r65.1, i64 r65.2]) rfl (aop_call1 rfl rfl (by simp) (reach_Close_ok hT hr65)) ?_
        refine AR.op (r := .tuple [G.graph_Graph.av r65.1, i64 r65.2]) rfl (aop_move (.inl rfl) rfl) ?_
        refine AR.drop (frx := [(2, _), (3, _), (6, _), (7, _), (9, _), (10, _), (11, _), (55, _)]) ⟨rfl, rfl, rfl, rfl, rfl, rfl, rfl, rfl, trivial⟩ ?_
        refine AR.op (r := G.graph_Graph.av r65.1) rfl (aop_extract rfl rfl rfl) ?_
        refine AR.op (r := i64 r65.2) rfl (aop_extract rfl rfl rfl) ?_
        refine AR.op (r := .ref 4 0 0) rfl (aop_alloc 2 [.agg [i64 0, nilS]] rfl zr24 (by kernel_rfl) (.inl ⟨rfl, rfl⟩)) ?_
        refine AR.drop (frx := [(2, _), (3, _), (6, _), (7, _), (9, _), (10, _), (11, _), (58, _), (59, _), (12, _)]) ⟨rfl, rfl, rfl, rfl, rfl, rfl, rfl, rfl, rfl, rfl, trivial⟩ ?_
        refine AR.op rfl (aop_store (e' := G.graph_Graph.av r65.1) rfl rfl rfl rfl rfl rfl sz24 rfl (of_decide_eq_true rfl) rfl) ?_
        refine AR.op (r := i64 r65.2) rfl (aop_move (.inr rfl) rfl) ?_
        refine AR.nil ?_
        refine hK11 _ (AWP.weak (Weak.re (fr' := [(2, .ref 0 0 0), (3, .ref 1 0 0), (6, .ref 2 0 0), (7, i64 r59.2), (9, i64 r61.2), (10, .ref 3 0 0), (11, i64 r63.2), (12, .ref 4 0 0), (13, i64 r65.2)]) (H' := ⟨5, [(0, (2, [G.graph_Graph.av g_0])), (1, (2, [G.graph_Graph.av more_1])), (2, (2, [G.graph_Graph.av r59.1])), (3, (2, [G.graph_Graph.av r63.1])), (4, (2, [G.graph_Graph.av r65.1]))]⟩) [(0, 0), (1, 1), (2, 2), (3, 3), (4, 4)] [] rfl rfl rfl (.cons rfl rfl (.one (.same _ (by simp)) rfl) (of_decide_eq_true rfl) (.cons rfl rfl (.one (.same _ (by simp)) rfl) (of_decide_eq_true rfl) (.cons rfl rfl (.one (.same _ (by simp)) rfl) (of_decide_eq_true rfl) (.cons rfl rfl (.one (.same _ (by simp)) rfl) (of_decide_eq_true rfl) (.cons rfl rfl (.one (.same _ (by simp)) rfl) (of_decide_eq_true rfl) (trivial)))))) ⟨⟨_, rfl, .ref rfl⟩, ⟨_, rfl, .ref rfl⟩, ⟨_, rfl, .ref rfl⟩, ⟨_, rfl, .same _ (by simp)⟩, ⟨_, rfl, .same _ (by simp)⟩, ⟨_, rfl, .ref rfl⟩, ⟨_, rfl, .same _ (by simp)⟩, ⟨_, rfl, .ref rfl⟩, ⟨_, rfl, .same _ (by simp)⟩, trivial⟩) ?_)
        clear hK11 K11
        refine awp_seqK fun K12 hK12 => ?_
        refine awp_seqJ (fun (p : Bool) => (⟨[(2, .ref 0 0 0), (3, .ref 1 0 0), (6, .ref 2 0 0), (89, bl p)], ⟨3, [(0, (2, [G.graph_Graph.av g_0])), (1, (2, [G.graph_Graph.av more_1])), (2, (2, [G.graph_Graph.av r59.1]))]⟩⟩ : St)) (fun (p : Bool) => G.inquestlaw13_ReachWays_j2 g_0 more_1 r59 p = some r) ?_ ?_
        · rintro v89 h
          replace h : G.inquestlaw13_ReachWays_j2 g_0 more_1 r59 v89 = some r := h
          unfold G.inquestlaw13_ReachWays_j2 at h
          show AWP _ _ _ _ ⟨[(2, .ref 0 0 0), (3, .ref 1 0 0), (6, .ref 2 0 0), (89, bl v89)], ⟨3, [(0, (2, [G.graph_Graph.av g_0])), (1, (2, [G.graph_Graph.av more_1])), (2, (2, [G.graph_Graph.av r59.1]))]⟩⟩ _
          refine awp_cond rfl (fun hb90 => ?_) (fun hb90 => ?_)
          · replace h := Sh.if_t h hb90
            refine awp_seqK fun K13 hK13 => ?_
            refine awp_reg rfl ?_
            refine AR.op (r := bl false) rfl (aop_move (.inr rfl) rfl) ?_
            refine AR.nil ?_
            refine hK13 _ (AWP.weak (Weak.re (fr' := [(4, bl false)]) (H' := .empty) [] [] rfl rfl rfl (trivial) ⟨⟨_, rfl, .same _ (by simp)⟩, trivial⟩) ?_)
            clear hK13 K13
            refine awp_ret ?_
            obtain rfl := Option.some.inj h
            refine ⟨.inr rfl, bl false, rfl, ?_⟩
            exact Weak.re [] [] rfl rfl rfl (trivial) ⟨⟨_, rfl, .same _ (by simp)⟩, trivial⟩
          · replace h := Sh.if_f h hb90
            refine awp_skip ?_
            refine hK12 _ (AWP.weak (Weak.re (fr' := [(2, .ref 0 0 0), (3, .ref 1 0 0), (6, .ref 2 0 0)]) (H' := ⟨3, [(0, (2, [G.graph_Graph.av g_0])), (1, (2, [G.graph_Graph.av more_1])), (2, (2, [G.graph_Graph.av r59.1]))]⟩) [(0, 0), (1, 1), (2, 2)] [] rfl rfl rfl (.cons rfl rfl (.one (.same _ (by simp)) rfl) (of_decide_eq_true rfl) (.cons rfl rfl (.one (.same _ (by simp)) rfl) (of_decide_eq_true rfl) (.cons rfl rfl (.one (.same _ (by simp)) rfl) (of_decide_eq_true rfl) (trivial)))) ⟨⟨_, rfl, .ref rfl⟩, ⟨_, rfl, .ref rfl⟩, ⟨_, rfl, .ref rfl⟩, trivial⟩) ?_)
            clear hK12 K12
            refine awp_seqK fun K14 hK14 => ?_
            refine awp_seqJ (fun (p : Bool) => (⟨[(2, .ref 0 0 0), (3, .ref 1 0 0), (6, .ref 2 0 0), (99, bl p)], ⟨3, [(0, (2, [G.graph_Graph.av g_0])), (1, (2, [G.graph_Graph.av more_1])), (2, (2, [G.graph_Graph.av r59.1]))]⟩⟩ : St)) (fun (p : Bool) => G.inquestlaw13_ReachWays_j3 g_0 more_1 r59 p = some r) ?_ ?_
            · rintro v96 h
              replace h : G.inquestlaw13_ReachWays_j3 g_0 more_1 r59 v96 = some r := h
              unfold G.inquestlaw13_ReachWays_j3 at h
              show AWP _ _ _ _ ⟨[(2, .ref 0 0 0), (3, .ref 1 0 0), (6, .ref 2 0 0), (99, bl v96)], ⟨3, [(0, (2, [G.graph_Graph.av g_0])), (1, (2, [G.graph_Graph.av more_1])), (2, (2, [G.graph_Graph.av r59.1]))]⟩⟩ _
              refine awp_cond rfl (fun hb97 => ?_) (fun hb97 => ?_)
              · replace h := Sh.if_t h hb97
                refine awp_seqK fun K15 hK15 => ?_
                refine awp_reg rfl ?_
                refine AR.op (r := bl true) rfl (aop_move (.inr rfl) rfl) ?_
                refine AR.nil ?_
                refine hK15 _ (AWP.weak (Weak.re (fr' := [(4, bl true)]) (H' := .empty) [] [] rfl rfl rfl (trivial) ⟨⟨_, rfl, .same _ (by simp)⟩, trivial⟩) ?_)
                clear hK15 K15
                refine awp_ret ?_
                obtain rfl := Option.some.inj h
                refine ⟨.inr rfl, bl true, rfl, ?_⟩
                exact Weak.re [] [] rfl rfl rfl (trivial) ⟨⟨_, rfl, .same _ (by simp)⟩, trivial⟩
              · replace h := Sh.if_f h hb97
                refine awp_skip ?_
                refine hK14 _ (AWP.weak (Weak.re (fr' := [(2, .ref 0 0 0), (3, .ref 1 0 0), (6, .ref 2 0 0)]) (H' := ⟨3, [(0, (2, [G.graph_Graph.av g_0])), (1, (2, [G.graph_Graph.av more_1])), (2, (2, [G.graph_Graph.av r59.1]))]⟩) [(0, 0), (1, 1), (2, 2)] [] rfl rfl rfl (.cons rfl rfl (.one (.same _ (by simp)) rfl) (of_decide_eq_true rfl) (.cons rfl rfl (.one (.same _ (by simp)) rfl) (of_decide_eq_true rfl) (.cons rfl rfl (.one (.same _ (by simp)) rfl) (of_decide_eq_true rfl) (trivial)))) ⟨⟨_, rfl, .ref rfl⟩, ⟨_, rfl, .ref rfl⟩, ⟨_, rfl, .ref rfl⟩, trivial⟩) ?_)
                clear hK14 K14
                refine awp_seqK fun K16 hK16 => ?_
                refine awp_reg rfl ?_
                refine AR.op (r := G.graph_Graph.av g_0) rfl (aop_load_ref rfl rfl rfl rfl sz24 rfl) ?_
                refine AR.op (r := G.graph_Graph.av more_1) rfl (aop_load_ref rfl rfl rfl rfl sz24 rfl) ?_
                obtain ⟨r99, hr99, h⟩ := Sh.bind_some' h
                refine AR.op (r := .tuple [G.graph_Graph.av r99.1, i64 r99.2]) rfl (aop_call1 rfl rfl (by simp) (graph_Union_ok hT hr99)) ?_
                refine AR.drop (frx := [(6, _), (103, _)]) ⟨rfl, rfl, trivial⟩ ?_
                refine AR.op (r := .tuple [G.graph_Graph.av r99.1, i64 r99.2]) rfl (aop_move (.inl rfl) rfl) ?_
                refine AR.op (r := G.graph_Graph.av r99.1) rfl (aop_extract rfl rfl rfl) ?_
                refine AR.op (r := i64 r99.2) rfl (aop_extract rfl rfl rfl) ?_
                refine AR.drop (frx := [(6, _), (104, _), (105, _)]) ⟨rfl, rfl, rfl, trivial⟩ ?_
                refine AR.op (r := .ref 3 0 0) rfl (aop_alloc 2 [.agg [i64 0, nilS]] rfl zr24 (by kernel_rfl) (.inl ⟨rfl, rfl⟩)) ?_
                refine AR.op rfl (aop_store (e' := G.graph_Graph.av r99.1) rfl rfl rfl rfl rfl rfl sz24 rfl (of_decide_eq_true rfl) rfl) ?_
                refine AR.op (r := i64 r99.2) rfl (aop_move (.inr rfl) rfl) ?_
                refine AR.nil ?_
                refine hK16 _ (AWP.weak (Weak.re (fr' := [(6, .ref 0 0 0), (14, .ref 1 0 0)]) (H' := ⟨2, [(0, (2, [G.graph_Graph.av r59.1])), (1, (2, [G.graph_Graph.av r99.1]))]⟩) [(0, 2), (1, 3)] [] rfl rfl rfl (.cons rfl rfl (.one (.same _ (by simp)) rfl) (of_decide_eq_true rfl) (.cons rfl rfl (.one (.same _ (by simp)) rfl) (of_decide_eq_true rfl) (trivial))) ⟨⟨_, rfl, .ref rfl⟩, ⟨_, rfl, .ref rfl⟩, trivial⟩) ?_)
                clear hK16 K16
                refine awp_seqK fun K17 hK17 => ?_
                refine awp_reg rfl ?_
                refine AR.op (r := G.graph_Graph.av r99.1) rfl (aop_load_ref rfl rfl rfl rfl sz24 rfl) ?_
                obtain ⟨r101, hr101, h⟩ := Sh.bind_some' h
                refine AR.op (r := .tuple [G.graph_Graph.av r101.1, i64 r101.2]) rfl (aop_call1 rfl rfl (by simp) (reach_Close_ok hT hr101)) ?_
                refine AR.op (r := .tuple [G.graph_Graph.av r101.1, i64 r101.2]) rfl (aop_move (.inl rfl) rfl) ?_
                refine AR.drop (frx := [(6, _), (106, _)]) ⟨rfl, rfl, trivial⟩ ?_
                refine AR.op (r := G.graph_Graph.av r101.1) rfl (aop_extract rfl rfl rfl) ?_
                refine AR.op (r := i64 r101.2) rfl (aop_extract rfl rfl rfl) ?_
                refine AR.op (r := .ref 2 0 0) rfl (aop_alloc 2 [.agg [i64 0, nilS]] rfl zr24 (by kernel_rfl) (.inl ⟨rfl, rfl⟩)) ?_
                refine AR.drop (frx := [(6, _), (109, _), (110, _), (16, _)]) ⟨rfl, rfl, rfl, rfl, trivial⟩ ?_
                refine AR.op rfl (aop_store (e' := G.graph_Graph.av r101.1) rfl rfl rfl rfl rfl rfl sz24 rfl (of_decide_eq_true rfl) rfl) ?_
                refine AR.op (r := i64 r101.2) rfl (aop_move (.inr rfl) rfl) ?_
                refine AR.nil ?_
                refine hK17 _ (AWP.weak (Weak.re (fr' := [(6, .ref 0 0 0), (16, .ref 1 0 0), (17, i64 r101.2)]) (H' := ⟨2, [(0, (2, [G.graph_Graph.av r59.1])), (1, (2, [G.graph_Graph.av r101.1]))]⟩) [(0, 0), (1, 2)] [] rfl rfl rfl (.cons rfl rfl (.one (.same _ (by simp)) rfl) (of_decide_eq_true rfl) (.cons rfl rfl (.one (.same _ (by simp)) rfl) (of_decide_eq_true rfl) (trivial))) ⟨⟨_, rfl, .ref rfl⟩, ⟨_, rfl, .ref rfl⟩, ⟨_, rfl, .same _ (by simp)⟩, trivial⟩) ?_)
                clear hK17 K17
                refine awp_seqK fun K18 hK18 => ?_
                refine awp_seqJ (fun (p : Bool) => (⟨[(6, .ref 0 0 0), (16, .ref 1 0 0), (121, bl p)], ⟨2, [(0, (2, [G.graph_Graph.av r59.1])), (1, (2, [G.graph_Graph.av r101.1]))]⟩⟩ : St)) (fun (p : Bool) => G.inquestlaw13_ReachWays_j4 r59 r101 p = some r) ?_ ?_
                · rintro v105 h
                  replace h : G.inquestlaw13_ReachWays_j4 r59 r101 v105 = some r := h
                  unfold G.inquestlaw13_ReachWays_j4 at h
                  show AWP _ _ _ _ ⟨[(6, .ref 0 0 0), (16, .ref 1 0 0), (121, bl v105)], ⟨2, [(0, (2, [G.graph_Graph.av r59.1])), (1, (2, [G.graph_Graph.av r101.1]))]⟩⟩ _
                  refine awp_cond rfl (fun hb106 => ?_) (fun hb106 => ?_)
                  · replace h := Sh.if_t h hb106
                    refine awp_seqK fun K19 hK19 => ?_
                    refine awp_reg rfl ?_
                    refine AR.op (r := bl false) rfl (aop_move (.inr rfl) rfl) ?_
                    refine AR.nil ?_
                    refine hK19 _ (AWP.weak (Weak.re (fr' := [(4, bl false)]) (H' := .empty) [] [] rfl rfl rfl (trivial) ⟨⟨_, rfl, .same _ (by simp)⟩, trivial⟩) ?_)
                    clear hK19 K19
                    refine awp_ret ?_
                    obtain rfl := Option.some.inj h
                    refine ⟨.inr rfl, bl false, rfl, ?_⟩
                    exact Weak.re [] [] rfl rfl rfl (trivial) ⟨⟨_, rfl, .same _ (by simp)⟩, trivial⟩
                  · replace h := Sh.if_f h hb106
                    refine awp_skip ?_
                    refine hK18 _ (AWP.weak (Weak.re (fr' := [(6, .ref 0 0 0), (16, .ref 1 0 0)]) (H' := ⟨2, [(0, (2, [G.graph_Graph.av r59.1])), (1, (2, [G.graph_Graph.av r101.1]))]⟩) [(0, 0), (1, 1)] [] rfl rfl rfl (.cons rfl rfl (.one (.same _ (by simp)) rfl) (of_decide_eq_true rfl) (.cons rfl rfl (.one (.same _ (by simp)) rfl) (of_decide_eq_true rfl) (trivial))) ⟨⟨_, rfl, .ref rfl⟩, ⟨_, rfl, .ref rfl⟩, trivial⟩) ?_)
                    clear hK18 K18
                    refine awp_seqJ (fun (p : Unit) => (⟨[], .empty⟩ : St)) (fun (p : Unit) => G.inquestlaw13_ReachWays_j5 = some r) ?_ ?_
                    · rintro ⟨⟩ h
                      replace h : G.inquestlaw13_ReachWays_j5 = some r := h
                      unfold G.inquestlaw13_ReachWays_j5 at h
                      show AWP _ _ _ _ ⟨[], .empty⟩ _
                      refine awp_seqK fun K20 hK20 => ?_
                      refine awp_reg rfl ?_
                      refine AR.op (r := bl true) rfl (aop_move (.inr rfl) rfl) ?_
                      refine AR.nil ?_
                      refine hK20 _ ?_
                      clear hK20 K20
                      refine awp_ret ?_
                      obtain rfl := Option.some.inj h
                      refine ⟨.inr rfl, bl true, rfl, ?_⟩
                      exact Weak.re [] [] rfl rfl rfl (trivial) ⟨⟨_, rfl, .same _ (by simp)⟩, trivial⟩
                    · intro K21 hK21
                      refine awp_seqK fun K22 hK22 => ?_
                      refine awp_reg rfl ?_
                      refine AR.op (r := i64 0) rfl (aop_move (.inr rfl) rfl) ?_
                      refine AR.nil ?_
                      refine hK22 _ ?_
                      clear hK22 K22
                      refine awp_block ?_
                      refine awp_iter (fun (p : Int) => G.inquestlaw13_ReachWays_b1 r59 r101 p) (fun (p : Int) => (⟨[(6, .ref 0 0 0), (16, .ref 1 0 0), (18, i64 p)], ⟨2, [(0, (2, [G.graph_Graph.av r59.1])), (1, (2, [G.graph_Graph.av r101.1]))]⟩⟩ : St)) h (Weak.re (fr' := [(6, .ref 0 0 0), (16, .ref 1 0 0), (18, i64 0)]) (H' := ⟨2, [(0, (2, [G.graph_Graph.av r59.1])), (1, (2, [G.graph_Graph.av r101.1]))]⟩) [(0, 0), (1, 1)] [] rfl rfl rfl (.cons rfl rfl (.one (.same _ (by simp)) rfl) (of_decide_eq_true rfl) (.cons rfl rfl (.one (.same _ (by simp)) rfl) (of_decide_eq_true rfl) (trivial))) ⟨⟨_, rfl, .ref rfl⟩, ⟨_, rfl, .ref rfl⟩, ⟨_, rfl, .same _ (by simp)⟩, trivial⟩) ?_
                      · skip
                        rintro n135 o1 h hx1
                        replace h : G.inquestlaw13_ReachWays_b1 r59 r101 n135 = some o1 := h
                        unfold G.inquestlaw13_ReachWays_b1 at h
                        show AWP _ _ _ _ ⟨[(6, .ref 0 0 0), (16, .ref 1 0 0), (18, i64 n135)], ⟨2, [(0, (2, [G.graph_Graph.av r59.1])), (1, (2, [G.graph_Graph.av r101.1]))]⟩⟩ _
                        refine awp_seqK fun K23 hK23 => ?_
                        refine awp_seqK fun K24 hK24 => ?_
                        refine awp_reg rfl ?_
                        refine AR.op (r := i64 n135) rfl (aop_move (.inl rfl) rfl) ?_
                        refine AR.op rfl (aop_field_ref rfl rfl rfl fd24_1 (by decide)) ?_
                        refine AR.op (r := .sl (List.map u64 r59.1.Rows)) rfl (aop_load_ref rfl rfl rfl rfl sz22 rfl) ?_
                        refine AR.drop (frx := [(6, _), (16, _), (18, _), (122, _), (124, _)]) ⟨rfl, rfl, rfl, rfl, rfl, trivial⟩ ?_
                        refine AR.op (r := i64 (Sh.len r59.1.Rows)) rfl (t_len_sl u64 r59.1.Rows rfl rfl el22) ?_
                        refine AR.op (r := bl (decide (n135 < (Sh.len r59.1.Rows)))) rfl (aop_lss rfl rfl rfl) ?_
                        refine AR.nil ?_
                        refine hK24 _ (AWP.weak (Weak.re (fr' := [(6, .ref 0 0 0), (16, .ref 1 0 0), (18, i64 n135), (126, bl (decide (n135 < (Sh.len r59.1.Rows))))]) (H' := ⟨2, [(0, (2, [G.graph_Graph.av r59.1])), (1, (2, [G.graph_Graph.av r101.1]))]⟩) [(0, 0), (1, 1)] [] rfl rfl rfl (.cons rfl rfl (.one (.same _ (by simp)) rfl) (of_decide_eq_true rfl) (.cons rfl rfl (.one (.same _ (by simp)) rfl) (of_decide_eq_true rfl) (trivial))) ⟨⟨_, rfl, .ref rfl⟩, ⟨_, rfl, .ref rfl⟩, ⟨_, rfl, .same _ (by simp)⟩, ⟨_, rfl, .same _ (by simp)⟩, trivial⟩) ?_)
                        clear hK24 K24
                        refine awp_cond rfl (fun hb136 => ?_) (fun hb136 => ?_)
                        · replace h := Sh.if_t h hb136
                          refine awp_skip ?_
                          refine hK23 _ (AWP.weak (Weak.re (fr' := [(6, .ref 0 0 0), (16, .ref 1 0 0), (18, i64 n135)]) (H' := ⟨2, [(0, (2, [G.graph_Graph.av r59.1])), (1, (2, [G.graph_Graph.av r101.1]))]⟩) [(0, 0), (1, 1)] [] rfl rfl rfl (.cons rfl rfl (.one (.same _ (by simp)) rfl) (of_decide_eq_true rfl) (.cons rfl rfl (.one (.same _ (by simp)) rfl) (of_decide_eq_true rfl) (trivial))) ⟨⟨_, rfl, .ref rfl⟩, ⟨_, rfl, .ref rfl⟩, ⟨_, rfl, .same _ (by simp)⟩, trivial⟩) ?_)
                          clear hK23 K23
                          refine awp_seqK fun K25 hK25 => ?_
                          refine awp_block ?_
                          refine awp_seqK fun K26 hK26 => ?_
                          refine awp_any (by kernel_rfl) (by kernel_rfl) rfl ?_
                          refine ARH.op rfl rfl (aop_field_ref rfl rfl rfl fd24_1 (by decide)) ?_
                          refine ARH.op (r := .sl (List.map u64 r59.1.Rows)) rfl rfl (aop_load_ref rfl rfl rfl rfl sz22 rfl) ?_
                          refine ARH.dry (r := i64 n135) rfl (fun _ => aop_move (.inl rfl) rfl) ?_
                          refine ARH.drop (frx := [(6, _), (16, _), (18, _), (130, _), (131, _)]) ⟨rfl, rfl, rfl, rfl, rfl, trivial⟩ ?_
                          obtain ⟨x147, hx147, h⟩ := Sh.bind_some' h
                          obtain ⟨k148, hi148, hl148⟩ := Sh.idx_some hx147
                          refine ARH.op rfl rfl (t_index_sl u64 r59.1.Rows hi148 hl148 rfl rfl rfl el22 rfl) ?_
                          refine ARH.op (r := u64 x147) rfl rfl (aop_load_pp rfl rfl sz45 rfl) ?_
                          refine ARH.op rfl rfl (aop_field_ref rfl rfl rfl fd24_1 (by decide)) ?_
                          refine ARH.drop (frx := [(6, _), (16, _), (18, _), (133, _), (134, _)]) ⟨rfl, rfl, rfl, rfl, rfl, trivial⟩ ?_
                          refine ARH.op (r := .sl (List.map u64 r101.1.Rows)) rfl rfl (aop_load_ref rfl rfl rfl rfl sz22 rfl) ?_
                          refine ARH.dry (r := i64 n135) rfl (fun _ => aop_move (.inl rfl) rfl) ?_
                          obtain ⟨x149, hx149, h⟩ := Sh.bind_some' h
                          obtain ⟨k150, hi150, hl150⟩ := Sh.idx_some hx149
                          refine ARH.op rfl rfl (t_index_sl u64 r101.1.Rows hi150 hl150 rfl rfl rfl el22 rfl) ?_
                          refine ARH.drop (frx := [(6, _), (16, _), (18, _), (133, _), (137, _)]) ⟨rfl, rfl, rfl, rfl, rfl, trivial⟩ ?_
                          refine ARH.op (r := u64 x149) rfl rfl (aop_load_pp rfl rfl sz45 rfl) ?_
                          obtain ⟨r151, hr151, h⟩ := Sh.bind_some' h
                          refine ARH.op (r := bl r151) rfl rfl (aop_call1 rfl rfl (by simp) (inquestref10_Sub_ok hT hr151)) ?_
                          refine ARH.dry (r := bl r151) rfl (fun _ => aop_move (.inr rfl) rfl) ?_
                          refine ARH.nil ?_
                          refine hK26 _ (AWP.weak (Weak.re (fr' := [(6, .ref 0 0 0), (16, .ref 1 0 0), (18, i64 n135), (19, bl r151)]) (H' := ⟨2, [(0, (2, [G.graph_Graph.av r59.1])), (1, (2, [G.graph_Graph.av r101.1]))]⟩) [(0, 0), (1, 1)] [] rfl rfl rfl (.cons rfl rfl (.one (.same _ (by simp)) rfl) (of_decide_eq_true rfl) (.cons rfl rfl (.one (.same _ (by simp)) rfl) (of_decide_eq_true rfl) (trivial))) ⟨⟨_, rfl, .ref rfl⟩, ⟨_, rfl, .ref rfl⟩, ⟨_, rfl, .same _ (by simp)⟩, ⟨_, rfl, .same _ (by simp)⟩, trivial⟩) ?_)
                          clear hK26 K26
                          refine awp_seqK fun K27 hK27 => ?_
                          refine awp_reg rfl ?_
                          refine AR.op (r := bl r151) rfl (aop_move (.inl rfl) rfl) ?_
                          refine AR.op (r := bl (!r151)) rfl (aop_not rfl rfl) ?_
                          refine AR.nil ?_
                          refine hK27 _ (AWP.weak (Weak.re (fr' := [(6, .ref 0 0 0), (16, .ref 1 0 0), (18, i64 n135), (141, bl (!r151))]) (H' := ⟨2, [(0, (2, [G.graph_Graph.av r59.1])), (1, (2, [G.graph_Graph.av r101.1]))]⟩) [(0, 0), (1, 1)] [] rfl rfl rfl (.cons rfl rfl (.one (.same _ (by simp)) rfl) (of_decide_eq_true rfl) (.cons rfl rfl (.one (.same _ (by simp)) rfl) (of_decide_eq_true rfl) (trivial))) ⟨⟨_, rfl, .ref rfl⟩, ⟨_, rfl, .ref rfl⟩, ⟨_, rfl, .same _ (by simp)⟩, ⟨_, rfl, .same _ (by simp)⟩, trivial⟩) ?_)
                          clear hK27 K27
                          refine awp_cond rfl (fun hb152 => ?_) (fun hb152 => ?_)
                          · replace h := Sh.if_t h hb152
                            refine awp_seqK fun K28 hK28 => ?_
                            refine awp_reg rfl ?_
                            refine AR.op (r := bl false) rfl (aop_move (.inr rfl) rfl) ?_
                            refine AR.nil ?_
                            refine hK28 _ (AWP.weak (Weak.re (fr' := [(4, bl false)]) (H' := .empty) [] [] rfl rfl rfl (trivial) ⟨⟨_, rfl, .same _ (by simp)⟩, trivial⟩) ?_)
                            clear hK28 K28
                            refine awp_ret ?_
                            replace h := Sh.exit_eq h hx1
                            obtain rfl := Option.some.inj h
                            refine ⟨.inr rfl, bl false, rfl, ?_⟩
                            exact Weak.re [] [] rfl rfl rfl (trivial) ⟨⟨_, rfl, .same _ (by simp)⟩, trivial⟩
                          · replace h := Sh.if_f h hb152
                            refine awp_skip ?_
                            refine hK25 _ (AWP.weak (Weak.re (fr' := [(6, .ref 0 0 0), (16, .ref 1 0 0), (18, i64 n135)]) (H' := ⟨2, [(0, (2, [G.graph_Graph.av r59.1])), (1, (2, [G.graph_Graph.av r101.1]))]⟩) [(0, 0), (1, 1)] [] rfl rfl rfl (.cons rfl rfl (.one (.same _ (by simp)) rfl) (of_decide_eq_true rfl) (.cons rfl rfl (.one (.same _ (by simp)) rfl) (of_decide_eq_true rfl) (trivial))) ⟨⟨_, rfl, .ref rfl⟩, ⟨_, rfl, .ref rfl⟩, ⟨_, rfl, .same _ (by simp)⟩, trivial⟩) ?_)
                            clear hK25 K25
                            refine awp_reg rfl ?_
                            refine AR.op (r := i64 n135) rfl (aop_move (.inl rfl) rfl) ?_
                            refine AR.op (r := i64 (w64 (n135 + 1))) rfl (aop_add rfl rfl rfl rfl) ?_
                            refine AR.op (r := i64 (w64 (n135 + 1))) rfl (aop_move (.inr rfl) rfl) ?_
                            refine AR.nil ?_
                            replace h := Sh.next_eq h
                            exact ⟨_, h, Weak.re (fr' := [(6, .ref 0 0 0), (16, .ref 1 0 0), (18, i64 (w64 (n135 + 1)))]) (H' := ⟨2, [(0, (2, [G.graph_Graph.av r59.1])), (1, (2, [G.graph_Graph.av r101.1]))]⟩) [(0, 0), (1, 1)] [] rfl rfl rfl (.cons rfl rfl (.one (.same _ (by simp)) rfl) (of_decide_eq_true rfl) (.cons rfl rfl (.one (.same _ (by simp)) rfl) (of_decide_eq_true rfl) (trivial))) ⟨⟨_, rfl, .ref rfl⟩, ⟨_, rfl, .ref rfl⟩, ⟨_, rfl, .same _ (by simp)⟩, trivial⟩⟩
                        · replace h := Sh.if_f h hb136
                          refine awp_exit ?_
                          replace h := Sh.exit_eq h hx1
                          exact hK21 () _ h (Weak.re (fr' := []) (H' := .empty) [] [] rfl rfl rfl (trivial) trivial)
                · intro K29 hK29
                  refine awp_reg rfl ?_
                  refine AR.op (r := i64 r101.2) rfl (aop_move (.inl rfl) rfl) ?_
                  refine AR.op (r := bl (decide (r101.2 ≠ 0))) rfl (aop_neq rfl rfl rfl) ?_
                  refine AR.op (r := bl (decide (r101.2 ≠ 0))) rfl (aop_move (.inl rfl) rfl) ?_
                  refine AR.drop (frx := [(6, _), (16, _), (113, _)]) ⟨rfl, rfl, rfl, trivial⟩ ?_
                  rcases Bool.eq_false_or_eq_true (decide (r101.2 ≠ 0)) with hb153 | hb153
                  · rw [hb153]
                    replace h := Sh.if_t h hb153
                    refine AR.skip rfl ?_
                    refine AR.skip rfl ?_
                    refine AR.skip rfl ?_
                    refine AR.drop (frx := [(6, _), (16, _), (113, _), (116, _)]) ⟨rfl, rfl, rfl, rfl, trivial⟩ ?_
                    refine AR.skip rfl ?_
                    refine AR.skip rfl ?_
                    refine AR.skip rfl ?_
                    refine AR.drop (frx := [(6, _), (16, _), (113, _), (116, _), (119, _)]) ⟨rfl, rfl, rfl, rfl, rfl, trivial⟩ ?_
                    refine AR.skip rfl ?_
                    refine AR.op (r := bl true) rfl (aop_pick rfl rfl rfl) ?_
                    refine AR.nil ?_
                    exact hK29 true _ h (Weak.re (fr' := [(6, .ref 0 0 0), (16, .ref 1 0 0), (121, bl true)]) (H' := ⟨2, [(0, (2, [G.graph_Graph.av r59.1])), (1, (2, [G.graph_Graph.av r101.1]))]⟩) [(0, 0), (1, 1)] [] rfl rfl rfl (.cons rfl rfl (.one (.same _ (by simp)) rfl) (of_decide_eq_true rfl) (.cons rfl rfl (.one (.same _ (by simp)) rfl) (of_decide_eq_true rfl) (trivial))) ⟨⟨_, rfl, .ref rfl⟩, ⟨_, rfl, .ref rfl⟩, ⟨_, rfl, .same _ (by simp)⟩, trivial⟩)
                  · rw [hb153]
                    replace h := Sh.if_f h hb153
                    refine AR.op rfl (aop_field_ref rfl rfl rfl fd24_1 (by decide)) ?_
                    refine AR.op (r := .sl (List.map u64 r101.1.Rows)) rfl (aop_load_ref rfl rfl rfl rfl sz22 rfl) ?_
                    refine AR.op (r := i64 (Sh.len r101.1.Rows)) rfl (t_len_sl u64 r101.1.Rows rfl rfl el22) ?_
                    refine AR.drop (frx := [(6, _), (16, _), (113, _), (116, _)]) ⟨rfl, rfl, rfl, rfl, trivial⟩ ?_
                    refine AR.op rfl (aop_field_ref rfl rfl rfl fd24_1 (by decide)) ?_
                    refine AR.op (r := .sl (List.map u64 r59.1.Rows)) rfl (aop_load_ref rfl rfl rfl rfl sz22 rfl) ?_
                    refine AR.op (r := i64 (Sh.len r59.1.Rows)) rfl (t_len_sl u64 r59.1.Rows rfl rfl el22) ?_
                    refine AR.drop (frx := [(6, _), (16, _), (113, _), (116, _), (119, _)]) ⟨rfl, rfl, rfl, rfl, rfl, trivial⟩ ?_
                    refine AR.op (r := bl (decide ((Sh.len r101.1.Rows) ≠ (Sh.len r59.1.Rows)))) rfl (aop_neq rfl rfl rfl) ?_
                    refine AR.op (r := bl (decide ((Sh.len r101.1.Rows) ≠ (Sh.len r59.1.Rows)))) rfl (aop_pick rfl rfl rfl) ?_
                    refine AR.nil ?_
                    exact hK29 (decide ((Sh.len r101.1.Rows) ≠ (Sh.len r59.1.Rows))) _ h (Weak.re (fr' := [(6, .ref 0 0 0), (16, .ref 1 0 0), (121, bl (decide ((Sh.len r101.1.Rows) ≠ (Sh.len r59.1.Rows))))]) (H' := ⟨2, [(0, (2, [G.graph_Graph.av r59.1])), (1, (2, [G.graph_Graph.av r101.1]))]⟩) [(0, 0), (1, 1)] [] rfl rfl rfl (.cons rfl rfl (.one (.same _ (by simp)) rfl) (of_decide_eq_true rfl) (.cons rfl rfl (.one (.same _ (by simp)) rfl) (of_decide_eq_true rfl) (trivial))) ⟨⟨_, rfl, .ref rfl⟩, ⟨_, rfl, .ref rfl⟩, ⟨_, rfl, .same _ (by simp)⟩, trivial⟩)
            · intro K30 hK30
              refine awp_reg rfl ?_
              refine AR.op (r := G.graph_Graph.av more_1) rfl (aop_load_ref rfl rfl rfl rfl sz24 rfl) ?_
              obtain ⟨r154, hr154, h⟩ := Sh.bind_some' h
              refine AR.op (r := bl r154) rfl (aop_call1 rfl rfl (by simp) (graph_Right_ok hT hr154)) ?_
              refine AR.op (r := bl (!r154)) rfl (aop_not rfl rfl) ?_
              refine AR.drop (frx := [(2, _), (3, _), (6, _), (92, _)]) ⟨rfl, rfl, rfl, rfl, trivial⟩ ?_
              refine AR.op (r := bl (!r154)) rfl (aop_move (.inl rfl) rfl) ?_
              rcases Bool.eq_false_or_eq_true (!r154) with hb155 | hb155
              · rw [hb155]
                replace h := Sh.if_t h hb155
                refine AR.skip rfl ?_
                refine AR.skip rfl ?_
                refine AR.drop (frx := [(2, _), (3, _), (6, _), (93, _), (95, _)]) ⟨rfl, rfl, rfl, rfl, rfl, trivial⟩ ?_
                refine AR.skip rfl ?_
                refine AR.skip rfl ?_
                refine AR.skip rfl ?_
                refine AR.drop (frx := [(2, _), (3, _), (6, _), (93, _), (98, _)]) ⟨rfl, rfl, rfl, rfl, rfl, trivial⟩ ?_
                refine AR.op (r := bl true) rfl (aop_pick rfl rfl rfl) ?_
                refine AR.nil ?_
                exact hK30 true _ h (Weak.re (fr' := [(2, .ref 0 0 0), (3, .ref 1 0 0), (6, .ref 2 0 0), (99, bl true)]) (H' := ⟨3, [(0, (2, [G.graph_Graph.av g_0])), (1, (2, [G.graph_Graph.av more_1])), (2, (2, [G.graph_Graph.av r59.1]))]⟩) [(0, 0), (1, 1), (2, 2)] [] rfl rfl rfl (.cons rfl rfl (.one (.same _ (by simp)) rfl) (of_decide_eq_true rfl) (.cons rfl rfl (.one (.same _ (by simp)) rfl) (of_decide_eq_true rfl) (.cons rfl rfl (.one (.same _ (by simp)) rfl) (of_decide_eq_true rfl) (trivial)))) ⟨⟨_, rfl, .ref rfl⟩, ⟨_, rfl, .ref rfl⟩, ⟨_, rfl, .ref rfl⟩, ⟨_, rfl, .same _ (by simp)⟩, trivial⟩)
              · rw [hb155]
                replace h := Sh.if_f h hb155
                refine AR.op rfl (aop_field_ref rfl rfl rfl fd24_0 (by decide)) ?_
                refine AR.op (r := i64 more_1.N) rfl (aop_load_ref rfl rfl rfl rfl sz3 rfl) ?_
                refine AR.drop (frx := [(2, _), (3, _), (6, _), (93, _), (95, _)]) ⟨rfl, rfl, rfl, rfl, rfl, trivial⟩ ?_
                refine AR.op rfl (aop_field_ref rfl rfl rfl fd24_0 (by decide)) ?_
                refine AR.op (r := i64 g_0.N) rfl (aop_load_ref rfl rfl rfl rfl sz3 rfl) ?_
                refine AR.op (r := bl (decide (more_1.N ≠ g_0.N))) rfl (aop_neq rfl rfl rfl) ?_
                refine AR.drop (frx := [(2, _), (3, _), (6, _), (93, _), (98, _)]) ⟨rfl, rfl, rfl, rfl, rfl, trivial⟩ ?_
                refine AR.op (r := bl (decide (more_1.N ≠ g_0.N))) rfl (aop_pick rfl rfl rfl) ?_
                refine AR.nil ?_
                exact hK30 (decide (more_1.N ≠ g_0.N)) _ h (Weak.re (fr' := [(2, .ref 0 0 0), (3, .ref 1 0 0), (6, .ref 2 0 0), (99, bl (decide (more_1.N ≠ g_0.N)))]) (H' := ⟨3, [(0, (2, [G.graph_Graph.av g_0])), (1, (2, [G.graph_Graph.av more_1])), (2, (2, [G.graph_Graph.av r59.1]))]⟩) [(0, 0), (1, 1), (2, 2)] [] rfl rfl rfl (.cons rfl rfl (.one (.same _ (by simp)) rfl) (of_decide_eq_true rfl) (.cons rfl rfl (.one (.same _ (by simp)) rfl) (of_decide_eq_true rfl) (.cons rfl rfl (.one (.same _ (by simp)) rfl) (of_decide_eq_true rfl) (trivial)))) ⟨⟨_, rfl, .ref rfl⟩, ⟨_, rfl, .ref rfl⟩, ⟨_, rfl, .ref rfl⟩, ⟨_, rfl, .same _ (by simp)⟩, trivial⟩)
        · intro K31 hK31
          refine awp_any (by kernel_rfl) (by kernel_rfl) rfl ?_
          refine ARH.dry (r := i64 r59.2) rfl (fun _ => aop_move (.inl rfl) rfl) ?_
          refine ARH.dry (r := bl (decide (r59.2 ≠ 0))) rfl (fun _ => aop_neq rfl rfl rfl) ?_
          refine ARH.dry (r := bl (decide (r59.2 ≠ 0))) rfl (fun _ => aop_move (.inl rfl) rfl) ?_
          refine ARH.drop (frx := [(2, _), (3, _), (6, _), (9, _), (10, _), (11, _), (12, _), (13, _), (62, _)]) ⟨rfl, rfl, rfl, rfl, rfl, rfl, rfl, rfl, rfl, trivial⟩ ?_
          rcases Bool.eq_false_or_eq_true (decide (r59.2 ≠ 0)) with hb156 | hb156
          · rw [hb156]
            replace h := Sh.if_t h hb156
            refine ARH.skip rfl ?_
            refine ARH.skip rfl ?_
            refine ARH.dry (r := bl true) rfl (fun _ => aop_pick rfl rfl rfl) ?_
            refine ARH.drop (frx := [(2, _), (3, _), (6, _), (10, _), (11, _), (12, _), (13, _), (65, _)]) ⟨rfl, rfl, rfl, rfl, rfl, rfl, rfl, rfl, trivial⟩ ?_
            refine ARH.dry (r := bl true) rfl (fun _ => aop_move (.inl rfl) rfl) ?_
            refine ARH.skip rfl ?_
            refine ARH.skip rfl ?_
            refine ARH.drop (frx := [(2, _), (3, _), (6, _), (10, _), (12, _), (13, _), (66, _), (68, _)]) ⟨rfl, rfl, rfl, rfl, rfl, rfl, rfl, rfl, trivial⟩ ?_
            refine ARH.dry (r := bl true) rfl (fun _ => aop_pick rfl rfl rfl) ?_
            refine ARH.dry (r := bl true) rfl (fun _ => aop_move (.inl rfl) rfl) ?_
            refine ARH.skip rfl ?_
            refine ARH.drop (frx := [(2, _), (3, _), (6, _), (10, _), (12, _), (70, _), (71, _)]) ⟨rfl, rfl, rfl, rfl, rfl, rfl, rfl, trivial⟩ ?_
            refine ARH.skip rfl ?_
            refine ARH.dry (r := bl true) rfl (fun _ => aop_pick rfl rfl rfl) ?_
            refine ARH.dry (r := bl true) rfl (fun _ => aop_move (.inl rfl) rfl) ?_
            refine ARH.drop (frx := [(2, _), (3, _), (6, _), (10, _), (12, _), (74, _)]) ⟨rfl, rfl, rfl, rfl, rfl, rfl, trivial⟩ ?_
            refine ARH.skip rfl ?_
            refine ARH.skip rfl ?_
            refine ARH.skip rfl ?_
            refine ARH.drop (frx := [(2, _), (3, _), (6, _), (12, _), (74, _), (76, _), (77, _)]) ⟨rfl, rfl, rfl, rfl, rfl, rfl, rfl, trivial⟩ ?_
            refine ARH.skip rfl ?_
            refine ARH.skip rfl ?_
            refine ARH.skip rfl ?_
            refine ARH.drop (frx := [(2, _), (3, _), (6, _), (12, _), (74, _), (80, _)]) ⟨rfl, rfl, rfl, rfl, rfl, rfl, trivial⟩ ?_
            refine ARH.dry (r := bl true) rfl (fun _ => aop_pick rfl rfl rfl) ?_
            refine ARH.dry (r := bl true) rfl (fun _ => aop_move (.inl rfl) rfl) ?_
            refine ARH.skip rfl ?_
            refine ARH.drop (frx := [(2, _), (3, _), (6, _), (82, _), (83, _)]) ⟨rfl, rfl, rfl, rfl, rfl, trivial⟩ ?_
            refine ARH.skip rfl ?_
            refine ARH.skip rfl ?_
            refine ARH.skip rfl ?_
            refine ARH.drop (frx := [(2, _), (3, _), (6, _), (82, _), (84, _), (86, _)]) ⟨rfl, rfl, rfl, rfl, rfl, rfl, trivial⟩ ?_
            refine ARH.skip rfl ?_
            refine ARH.skip rfl ?_
            refine ARH.dry (r := bl true) rfl (fun _ => aop_pick rfl rfl rfl) ?_
            refine ARH.nil ?_
            exact hK31 true _ h (Weak.re (fr' := [(2, .ref 0 0 0), (3, .ref 1 0 0), (6, .ref 2 0 0), (89, bl true)]) (H' := ⟨3, [(0, (2, [G.graph_Graph.av g_0])), (1, (2, [G.graph_Graph.av more_1])), (2, (2, [G.graph_Graph.av r59.1]))]⟩) [(0, 0), (1, 1), (2, 2)] [] rfl rfl rfl (.cons rfl rfl (.one (.same _ (by simp)) rfl) (of_decide_eq_true rfl) (.cons rfl rfl (.one (.same _ (by simp)) rfl) (of_decide_eq_true rfl) (.cons rfl rfl (.one (.same _ (by simp)) rfl) (of_decide_eq_true rfl) (trivial)))) ⟨⟨_, rfl, .ref rfl⟩, ⟨_, rfl, .ref rfl⟩, ⟨_, rfl, .ref rfl⟩, ⟨_, rfl, .same _ (by simp)⟩, trivial⟩)
          · rw [hb156]
            replace h := Sh.if_f h hb156
            refine ARH.dry (r := i64 r61.2) rfl (fun _ => aop_move (.inl rfl) rfl) ?_
            refine ARH.dry (r := bl (decide (r61.2 ≠ 0))) rfl (fun _ => aop_neq rfl rfl rfl) ?_
            refine ARH.dry (r := bl (decide (r61.2 ≠ 0))) rfl (fun _ => aop_pick rfl rfl rfl) ?_
            refine ARH.drop (frx := [(2, _), (3, _), (6, _), (10, _), (11, _), (12, _), (13, _), (65, _)]) ⟨rfl, rfl, rfl, rfl, rfl, rfl, rfl, rfl, trivial⟩ ?_
            refine ARH.dry (r := bl (decide (r61.2 ≠ 0))) rfl (fun _ => aop_move (.inl rfl) rfl) ?_
            rcases Bool.eq_false_or_eq_true (decide (r61.2 ≠ 0)) with hb157 | hb157
            · rw [hb157]
              replace h := Sh.if_t h hb157
              refine ARH.skip rfl ?_
              refine ARH.skip rfl ?_
              refine ARH.drop (frx := [(2, _), (3, _), (6, _), (10, _), (12, _), (13, _), (66, _), (68, _)]) ⟨rfl, rfl, rfl, rfl, rfl, rfl, rfl, rfl, trivial⟩ ?_
              refine ARH.dry (r := bl true) rfl (fun _ => aop_pick rfl rfl rfl) ?_
              refine ARH.dry (r := bl true) rfl (fun _ => aop_move (.inl rfl) rfl) ?_
              refine ARH.skip rfl ?_
              refine ARH.drop (frx := [(2, _), (3, _), (6, _), (10, _), (12, _), (70, _), (71, _)]) ⟨rfl, rfl, rfl, rfl, rfl, rfl, rfl, trivial⟩ ?_
              refine ARH.skip rfl ?_
              refine ARH.dry (r := bl true) rfl (fun _ => aop_pick rfl rfl rfl) ?_
              refine ARH.dry (r := bl true) rfl (fun _ => aop_move (.inl rfl) rfl) ?_
              refine ARH.drop (frx := [(2, _), (3, _), (6, _), (10, _), (12, _), (74, _)]) ⟨rfl, rfl, rfl, rfl, rfl, rfl, trivial⟩ ?_
              refine ARH.skip rfl ?_
              refine ARH.skip rfl ?_
              refine ARH.skip rfl ?_
              refine ARH.drop (frx := [(2, _), (3, _), (6, _), (12, _), (74, _), (76, _), (77, _)]) ⟨rfl, rfl, rfl, rfl, rfl, rfl, rfl, trivial⟩ ?_
              refine ARH.skip rfl ?_
              refine ARH.skip rfl ?_
              refine ARH.skip rfl ?_
              refine ARH.drop (frx := [(2, _), (3, _), (6, _), (12, _), (74, _), (80, _)]) ⟨rfl, rfl, rfl, rfl, rfl, rfl, trivial⟩ ?_
              refine ARH.dry (r := bl true) rfl (fun _ => aop_pick rfl rfl rfl) ?_
              refine ARH.dry (r := bl true) rfl (fun _ => aop_move (.inl rfl) rfl) ?_
              refine ARH.skip rfl ?_
              refine ARH.drop (frx := [(2, _), (3, _), (6, _), (82, _), (83, _)]) ⟨rfl, rfl, rfl, rfl, rfl, trivial⟩ ?_
              refine ARH.skip rfl ?_
              refine ARH.skip rfl ?_
              refine ARH.skip rfl ?_
              refine ARH.drop (frx := [(2, _), (3, _), (6, _), (82, _), (84, _), (86, _)]) ⟨rfl, rfl, rfl, rfl, rfl, rfl, trivial⟩ ?_
              refine ARH.skip rfl ?_
              refine ARH.skip rfl ?_
              refine ARH.dry (r := bl true) rfl (fun _ => aop_pick rfl rfl rfl) ?_
              refine ARH.nil ?_
              exact hK31 true _ h (Weak.re (fr' := [(2, .ref 0 0 0), (3, .ref 1 0 0), (6, .ref 2 0 0), (89, bl true)]) (H' := ⟨3, [(0, (2, [G.graph_Graph.av g_0])), (1, (2, [G.graph_Graph.av more_1])), (2, (2, [G.graph_Graph.av r59.1]))]⟩) [(0, 0), (1, 1), (2, 2)] [] rfl rfl rfl (.cons rfl rfl (.one (.same _ (by simp)) rfl) (of_decide_eq_true rfl) (.cons rfl rfl (.one (.same _ (by simp)) rfl) (of_decide_eq_true rfl) (.cons rfl rfl (.one (.same _ (by simp)) rfl) (of_decide_eq_true rfl) (trivial)))) ⟨⟨_, rfl, .ref rfl⟩, ⟨_, rfl, .ref rfl⟩, ⟨_, rfl, .ref rfl⟩, ⟨_, rfl, .same _ (by simp)⟩, trivial⟩)
            · rw [hb157]
              replace h := Sh.if_f h hb157
              refine ARH.dry (r := i64 r63.2) rfl (fun _ => aop_move (.inl rfl) rfl) ?_
              refine ARH.dry (r := bl (decide (r63.2 ≠ 0))) rfl (fun _ => aop_neq rfl rfl rfl) ?_
              refine ARH.drop (frx := [(2, _), (3, _), (6, _), (10, _), (12, _), (13, _), (66, _), (68, _)]) ⟨rfl, rfl, rfl, rfl, rfl, rfl, rfl, rfl, trivial⟩ ?_
              refine ARH.dry (r := bl (decide (r63.2 ≠ 0))) rfl (fun _ => aop_pick rfl rfl rfl) ?_
              refine ARH.dry (r := bl (decide (r63.2 ≠ 0))) rfl (fun _ => aop_move (.inl rfl) rfl) ?_
              rcases Bool.eq_false_or_eq_true (decide (r63.2 ≠ 0)) with hb158 | hb158
              · rw [hb158]
                replace h := Sh.if_t h hb158
                refine ARH.skip rfl ?_
                refine ARH.drop (frx := [(2, _), (3, _), (6, _), (10, _), (12, _), (70, _), (71, _)]) ⟨rfl, rfl, rfl, rfl, rfl, rfl, rfl, trivial⟩ ?_
                refine ARH.skip rfl ?_
                refine ARH.dry (r := bl true) rfl (fun _ => aop_pick rfl rfl rfl) ?_
                refine ARH.dry (r := bl true) rfl (fun _ => aop_move (.inl rfl) rfl) ?_
                refine ARH.drop (frx := [(2, _), (3, _), (6, _), (10, _), (12, _), (74, _)]) ⟨rfl, rfl, rfl, rfl, rfl, rfl, trivial⟩ ?_
                refine ARH.skip rfl ?_
                refine ARH.skip rfl ?_
                refine ARH.skip rfl ?_
                refine ARH.drop (frx := [(2, _), (3, _), (6, _), (12, _), (74, _), (76, _), (77, _)]) ⟨rfl, rfl, rfl, rfl, rfl, rfl, rfl, trivial⟩ ?_
                refine ARH.skip rfl ?_
                refine ARH.skip rfl ?_
                refine ARH.skip rfl ?_
                refine ARH.drop (frx := [(2, _), (3, _), (6, _), (12, _), (74, _), (80, _)]) ⟨rfl, rfl, rfl, rfl, rfl, rfl, trivial⟩ ?_
                refine ARH.dry (r := bl true) rfl (fun _ => aop_pick rfl rfl rfl) ?_
                refine ARH.dry (r := bl true) rfl (fun _ => aop_move (.inl rfl) rfl) ?_
                refine ARH.skip rfl ?_
                refine ARH.drop (frx := [(2, _), (3, _), (6, _), (82, _), (83, _)]) ⟨rfl, rfl, rfl, rfl, rfl, trivial⟩ ?_
                refine ARH.skip rfl ?_
                refine ARH.skip rfl ?_
                refine ARH.skip rfl ?_
                refine ARH.drop (frx := [(2, _), (3, _), (6, _), (82, _), (84, _), (86, _)]) ⟨rfl, rfl, rfl, rfl, rfl, rfl, trivial⟩ ?_
                refine ARH.skip rfl ?_
                refine ARH.skip rfl ?_
                refine ARH.dry (r := bl true) rfl (fun _ => aop_pick rfl rfl rfl) ?_
                refine ARH.nil ?_
                exact hK31 true _ h (Weak.re (fr' := [(2, .ref 0 0 0), (3, .ref 1 0 0), (6, .ref 2 0 0), (89, bl true)]) (H' := ⟨3, [(0, (2, [G.graph_Graph.av g_0])), (1, (2, [G.graph_Graph.av more_1])), (2, (2, [G.graph_Graph.av r59.1]))]⟩) [(0, 0), (1, 1), (2, 2)] [] rfl rfl rfl (.cons rfl rfl (.one (.same _ (by simp)) rfl) (of_decide_eq_true rfl) (.cons rfl rfl (.one (.same _ (by simp)) rfl) (of_decide_eq_true rfl) (.cons rfl rfl (.one (.same _ (by simp)) rfl) (of_decide_eq_true rfl) (trivial)))) ⟨⟨_, rfl, .ref rfl⟩, ⟨_, rfl, .ref rfl⟩, ⟨_, rfl, .ref rfl⟩, ⟨_, rfl, .same _ (by simp)⟩, trivial⟩)
              · rw [hb158]
                replace h := Sh.if_f h hb158
                refine ARH.dry (r := i64 r65.2) rfl (fun _ => aop_move (.inl rfl) rfl) ?_
                refine ARH.drop (frx := [(2, _), (3, _), (6, _), (10, _), (12, _), (70, _), (71, _)]) ⟨rfl, rfl, rfl, rfl, rfl, rfl, rfl, trivial⟩ ?_
                refine ARH.dry (r := bl (decide (r65.2 ≠ 0))) rfl (fun _ => aop_neq rfl rfl rfl) ?_
                refine ARH.dry (r := bl (decide (r65.2 ≠ 0))) rfl (fun _ => aop_pick rfl rfl rfl) ?_
                refine ARH.dry (r := bl (decide (r65.2 ≠ 0))) rfl (fun _ => aop_move (.inl rfl) rfl) ?_
                refine ARH.drop (frx := [(2, _), (3, _), (6, _), (10, _), (12, _), (74, _)]) ⟨rfl, rfl, rfl, rfl, rfl, rfl, trivial⟩ ?_
                rcases Bool.eq_false_or_eq_true (decide (r65.2 ≠ 0)) with hb159 | hb159
                · rw [hb159]
                  replace h := Sh.if_t h hb159
                  refine ARH.skip rfl ?_
                  refine ARH.skip rfl ?_
                  refine ARH.skip rfl ?_
                  refine ARH.drop (frx := [(2, _), (3, _), (6, _), (12, _), (74, _), (76, _), (77, _)]) ⟨rfl, rfl, rfl, rfl, rfl, rfl, rfl, trivial⟩ ?_
                  refine ARH.skip rfl ?_
                  refine ARH.skip rfl ?_
                  refine ARH.skip rfl ?_
                  refine ARH.drop (frx := [(2, _), (3, _), (6, _), (12, _), (74, _), (80, _)]) ⟨rfl, rfl, rfl, rfl, rfl, rfl, trivial⟩ ?_
                  refine ARH.dry (r := bl true) rfl (fun _ => aop_pick rfl rfl rfl) ?_
                  refine ARH.dry (r := bl true) rfl (fun _ => aop_move (.inl rfl) rfl) ?_
                  refine ARH.skip rfl ?_
                  refine ARH.drop (frx := [(2, _), (3, _), (6, _), (82, _), (83, _)]) ⟨rfl, rfl, rfl, rfl, rfl, trivial⟩ ?_
                  refine ARH.skip rfl ?_
                  refine ARH.skip rfl ?_
                  refine ARH.skip rfl ?_
                  refine ARH.drop (frx := [(2, _), (3, _), (6, _), (82, _), (84, _), (86, _)]) ⟨rfl, rfl, rfl, rfl, rfl, rfl, trivial⟩ ?_
                  refine ARH.skip rfl ?_
                  refine ARH.skip rfl ?_
                  refine ARH.dry (r := bl true) rfl (fun _ => aop_pick rfl rfl rfl) ?_
                  refine ARH.nil ?_
                  exact hK31 true _ h (Weak.re (fr' := [(2, .ref 0 0 0), (3, .ref 1 0 0), (6, .ref 2 0 0), (89, bl true)]) (H' := ⟨3, [(0, (2, [G.graph_Graph.av g_0])), (1, (2, [G.graph_Graph.av more_1])), (2, (2, [G.graph_Graph.av r59.1]))]⟩) [(0, 0), (1, 1), (2, 2)] [] rfl rfl rfl (.cons rfl rfl (.one (.same _ (by simp)) rfl) (of_decide_eq_true rfl) (.cons rfl rfl (.one (.same _ (by simp)) rfl) (of_decide_eq_true rfl) (.cons rfl rfl (.one (.same _ (by simp)) rfl) (of_decide_eq_true rfl) (trivial)))) ⟨⟨_, rfl, .ref rfl⟩, ⟨_, rfl, .ref rfl⟩, ⟨_, rfl, .ref rfl⟩, ⟨_, rfl, .same _ (by simp)⟩, trivial⟩)
                · rw [hb159]
                  replace h := Sh.if_f h hb159
                  refine ARH.op (r := G.graph_Graph.av r63.1) rfl rfl (aop_load_ref rfl rfl rfl rfl sz24 rfl) ?_
                  obtain ⟨r160, hr160, h⟩ := Sh.bind_some' h
                  refine ARH.op (r := G.inquestref12_G.av r160) rfl rfl (aop_call1 rfl rfl (by simp) (inquestlaw13_plain_ok hT hr160)) ?_
                  refine ARH.op (r := G.graph_Graph.av r59.1) rfl rfl (aop_load_ref rfl rfl rfl rfl sz24 rfl) ?_
                  refine ARH.drop (frx := [(2, _), (3, _), (6, _), (12, _), (74, _), (76, _), (77, _)]) ⟨rfl, rfl, rfl, rfl, rfl, rfl, rfl, trivial⟩ ?_
                  obtain ⟨r161, hr161, h⟩ := Sh.bind_some' h
                  refine ARH.op (r := G.inquestref12_G.av r161) rfl rfl (aop_call1 rfl rfl (by simp) (inquestlaw13_plain_ok hT hr161)) ?_
                  obtain ⟨r162, hr162, h⟩ := Sh.bind_some' h
                  refine ARH.op (r := bl r162) rfl rfl (aop_call1 rfl rfl (by simp) (inquestref12_Same_ok hT hr162)) ?_
                  refine ARH.dry (r := bl (!r162)) rfl (fun _ => aop_not rfl rfl) ?_
                  refine ARH.drop (frx := [(2, _), (3, _), (6, _), (12, _), (74, _), (80, _)]) ⟨rfl, rfl, rfl, rfl, rfl, rfl, trivial⟩ ?_
                  refine ARH.dry (r := bl (!r162)) rfl (fun _ => aop_pick rfl rfl rfl) ?_
                  refine ARH.dry (r := bl (!r162)) rfl (fun _ => aop_move (.inl rfl) rfl) ?_
                  rcases Bool.eq_false_or_eq_true (!r162) with hb163 | hb163
                  · rw [hb163]
                    replace h := Sh.if_t h hb163
                    refine ARH.skip rfl ?_
                    refine ARH.drop (frx := [(2, _), (3, _), (6, _), (82, _), (83, _)]) ⟨rfl, rfl, rfl, rfl, rfl, trivial⟩ ?_
                    refine ARH.skip rfl ?_
                    refine ARH.skip rfl ?_
                    refine ARH.skip rfl ?_
                    refine ARH.drop (frx := [(2, _), (3, _), (6, _), (82, _), (84, _), (86, _)]) ⟨rfl, rfl, rfl, rfl, rfl, rfl, trivial⟩ ?_
                    refine ARH.skip rfl ?_
                    refine ARH.skip rfl ?_
                    refine ARH.dry (r := bl true) rfl (fun _ => aop_pick rfl rfl rfl) ?_
                    refine ARH.nil ?_
                    exact hK31 true _ h (Weak.re (fr' := [(2, .ref 0 0 0), (3, .ref 1 0 0), (6, .ref 2 0 0), (89, bl true)]) (H' := ⟨3, [(0, (2, [G.graph_Graph.av g_0])), (1, (2, [G.graph_Graph.av more_1])), (2, (2, [G.graph_Graph.av r59.1]))]⟩) [(0, 0), (1, 1), (2, 2)] [] rfl rfl rfl (.cons rfl rfl (.one (.same _ (by simp)) rfl) (of_decide_eq_true rfl) (.cons rfl rfl (.one (.same _ (by simp)) rfl) (of_decide_eq_true rfl) (.cons rfl rfl (.one (.same _ (by simp)) rfl) (of_decide_eq_true rfl) (trivial)))) ⟨⟨_, rfl, .ref rfl⟩, ⟨_, rfl, .ref rfl⟩, ⟨_, rfl, .ref rfl⟩, ⟨_, rfl, .same _ (by simp)⟩, trivial⟩)
                  · rw [hb163]
                    replace h := Sh.if_f h hb163
                    refine ARH.op (r := G.graph_Graph.av r65.1) rfl rfl (aop_load_ref rfl rfl rfl rfl sz24 rfl) ?_
                    refine ARH.drop (frx := [(2, _), (3, _), (6, _), (82, _), (83, _)]) ⟨rfl, rfl, rfl, rfl, rfl, trivial⟩ ?_
                    obtain ⟨r164, hr164, h⟩ := Sh.bind_some' h
                    refine ARH.op (r := G.inquestref12_G.av r164) rfl rfl (aop_call1 rfl rfl (by simp) (inquestlaw13_plain_ok hT hr164)) ?_
                    refine ARH.op (r := G.graph_Graph.av r59.1) rfl rfl (aop_load_ref rfl rfl rfl rfl sz24 rfl) ?_
                    obtain ⟨r165, hr165, h⟩ := Sh.bind_some' h
                    refine ARH.op (r := G.inquestref12_G.av r165) rfl rfl (aop_call1 rfl rfl (by simp) (inquestlaw13_plain_ok hT hr165)) ?_
                    refine ARH.drop (frx := [(2, _), (3, _), (6, _), (82, _), (84, _), (86, _)]) ⟨rfl, rfl, rfl, rfl, rfl, rfl, trivial⟩ ?_
                    obtain ⟨r166, hr166, h⟩ := Sh.bind_some' h
                    refine ARH.op (r := bl r166) rfl rfl (aop_call1 rfl rfl (by simp) (inquestref12_Same_ok hT hr166)) ?_
                    refine ARH.dry (r := bl (!r166)) rfl (fun _ => aop_not rfl rfl) ?_
                    refine ARH.dry (r := bl (!r166)) rfl (fun _ => aop_pick rfl rfl rfl) ?_
                    refine ARH.nil ?_
                    exact hK31 (!r166) _ h (Weak.re (fr' := [(2, .ref 0 0 0), (3, .ref 1 0 0), (6, .ref 2 0 0), (89, bl (!r166))]) (H' := ⟨3, [(0, (2, [G.graph_Graph.av g_0])), (1, (2, [G.graph_Graph.av more_1])), (2, (2, [G.graph_Graph.av r59.1]))]⟩) [(0, 0), (1, 1), (2, 2)] [] rfl rfl rfl (.cons rfl rfl (.one (.same _ (by simp)) rfl) (of_decide_eq_true rfl) (.cons rfl rfl (.one (.same _ (by simp)) rfl) (of_decide_eq_true rfl) (.cons rfl rfl (.one (.same _ (by simp)) rfl) (of_decide_eq_true rfl) (trivial)))) ⟨⟨_, rfl, .ref rfl⟩, ⟨_, rfl, .ref rfl⟩, ⟨_, rfl, .ref rfl⟩, ⟨_, rfl, .same _ (by simp)⟩, trivial⟩)
    · intro K32 hK32
      refine awp_reg rfl ?_
      refine AR.op rfl (aop_field_ref rfl rfl rfl fd24_1 (by decide)) ?_
      refine AR.op (r := .sl (List.map u64 g_0.Rows)) rfl (aop_load_ref rfl rfl rfl rfl sz22 rfl) ?_
      refine AR.op (r := i64 (Sh.len g_0.Rows)) rfl (t_len_sl u64 g_0.Rows rfl rfl el22) ?_
      refine AR.drop (frx := [(2, _), (3, _), (25, _)]) ⟨rfl, rfl, rfl, trivial⟩ ?_
      refine AR.op (r := bl (decide ((70 : Int) < (Sh.len g_0.Rows)))) rfl (aop_gtr rfl rfl rfl) ?_
      refine AR.op (r := bl (decide ((70 : Int) < (Sh.len g_0.Rows)))) rfl (aop_move (.inl rfl) rfl) ?_
      rcases Bool.eq_false_or_eq_true (decide ((70 : Int) < (Sh.len g_0.Rows))) with hb167 | hb167
      · rw [hb167]
        replace h := Sh.if_t h hb167
        refine AR.skip rfl ?_
        refine AR.drop (frx := [(2, _), (3, _), (27, _), (28, _)]) ⟨rfl, rfl, rfl, rfl, trivial⟩ ?_
        refine AR.skip rfl ?_
        refine AR.skip rfl ?_
        refine AR.skip rfl ?_
        refine AR.drop (frx := [(2, _), (3, _), (27, _), (31, _)]) ⟨rfl, rfl, rfl, rfl, trivial⟩ ?_
        refine AR.op (r := bl true) rfl (aop_pick rfl rfl rfl) ?_
        refine AR.op (r := bl true) rfl (aop_move (.inl rfl) rfl) ?_
        refine AR.skip rfl ?_
        refine AR.drop (frx := [(2, _), (3, _), (33, _), (34, _)]) ⟨rfl, rfl, rfl, rfl, trivial⟩ ?_
        refine AR.skip rfl ?_
        refine AR.skip rfl ?_
        refine AR.op (r := bl true) rfl (aop_pick rfl rfl rfl) ?_
        refine AR.nil ?_
        exact hK32 true _ h (Weak.re (fr' := [(2, .ref 0 0 0), (3, .ref 1 0 0), (37, bl true)]) (H' := ⟨2, [(0, (2, [G.graph_Graph.av g_0])), (1, (2, [G.graph_Graph.av more_1]))]⟩) [(0, 0), (1, 1)] [] rfl rfl rfl (.cons rfl rfl (.one (.same _ (by simp)) rfl) (of_decide_eq_true rfl) (.cons rfl rfl (.one (.same _ (by simp)) rfl) (of_decide_eq_true rfl) (trivial))) ⟨⟨_, rfl, .ref rfl⟩, ⟨_, rfl, .ref rfl⟩, ⟨_, rfl, .same _ (by simp)⟩, trivial⟩)
      · rw [hb167]
        replace h := Sh.if_f h hb167
        refine AR.op rfl (aop_field_ref rfl rfl rfl fd24_1 (by decide)) ?_
        refine AR.drop (frx := [(2, _), (3, _), (27, _), (28, _)]) ⟨rfl, rfl, rfl, rfl, trivial⟩ ?_
        refine AR.op (r := .sl (List.map u64 more_1.Rows)) rfl (aop_load_ref rfl rfl rfl rfl sz22 rfl) ?_
        refine AR.op (r := i64 (Sh.len more_1.Rows)) rfl (t_len_sl u64 more_1.Rows rfl rfl el22) ?_
        refine AR.op (r := bl (decide ((70 : Int) < (Sh.len more_1.Rows)))) rfl (aop_gtr rfl rfl rfl) ?_
        refine AR.drop (frx := [(2, _), (3, _), (27, _), (31, _)]) ⟨rfl, rfl, rfl, rfl, trivial⟩ ?_
        refine AR.op (r := bl (decide ((70 : Int) < (Sh.len more_1.Rows)))) rfl (aop_pick rfl rfl rfl) ?_
        refine AR.op (r := bl (decide ((70 : Int) < (Sh.len more_1.Rows)))) rfl (aop_move (.inl rfl) rfl) ?_
        rcases Bool.eq_false_or_eq_true (decide ((70 : Int) < (Sh.len more_1.Rows))) with hb168 | hb168
        · rw [hb168]
          replace h := Sh.if_t h hb168
          refine AR.skip rfl ?_
          refine AR.drop (frx := [(2, _), (3, _), (33, _), (34, _)]) ⟨rfl, rfl, rfl, rfl, trivial⟩ ?_
          refine AR.skip rfl ?_
          refine AR.skip rfl ?_
          refine AR.op (r := bl true) rfl (aop_pick rfl rfl rfl) ?_
          refine AR.nil ?_
          exact hK32 true _ h (Weak.re (fr' := [(2, .ref 0 0 0), (3, .ref 1 0 0), (37, bl true)]) (H' := ⟨2, [(0, (2, [G.graph_Graph.av g_0])), (1, (2, [G.graph_Graph.av more_1]))]⟩) [(0, 0), (1, 1)] [] rfl rfl rfl (.cons rfl rfl (.one (.same _ (by simp)) rfl) (of_decide_eq_true rfl) (.cons rfl rfl (.one (.same _ (by simp)) rfl) (of_decide_eq_true rfl) (trivial))) ⟨⟨_, rfl, .ref rfl⟩, ⟨_, rfl, .ref rfl⟩, ⟨_, rfl, .same _ (by simp)⟩, trivial⟩)
        · rw [hb168]
          replace h := Sh.if_f h hb168
          refine AR.op (r := G.graph_Graph.av g_0) rfl (aop_load_ref rfl rfl rfl rfl sz24 rfl) ?_
          refine AR.drop (frx := [(2, _), (3, _), (33, _), (34, _)]) ⟨rfl, rfl, rfl, rfl, trivial⟩ ?_
          obtain ⟨r169, hr169, h⟩ := Sh.bind_some' h
          refine AR.op (r := bl r169) rfl (aop_call1 rfl rfl (by simp) (graph_Right_ok hT hr169)) ?_
          refine AR.op (r := bl (!r169)) rfl (aop_not rfl rfl) ?_
          refine AR.op (r := bl (!r169)) rfl (aop_pick rfl rfl rfl) ?_
          refine AR.nil ?_
          exact hK32 (!r169) _ h (Weak.re (fr' := [(2, .ref 0 0 0), (3, .ref 1 0 0), (37, bl (!r169))]) (H' := ⟨2, [(0, (2, [G.graph_Graph.av g_0])), (1, (2, [G.graph_Graph.av more_1]))]⟩) [(0, 0), (1, 1)] [] rfl rfl rfl (.cons rfl rfl (.one (.same _ (by simp)) rfl) (of_decide_eq_true rfl) (.cons rfl rfl (.one (.same _ (by simp)) rfl) (of_decide_eq_true rfl) (trivial))) ⟨⟨_, rfl, .ref rfl⟩, ⟨_, rfl, .ref rfl⟩, ⟨_, rfl, .same _ (by simp)⟩, trivial⟩)
theorem inquestlaw13_ReachWays_ok {W0 : World} (hT : Tab W0) {g_0 : G.graph_Graph} {more_1 : G.graph_Graph} {r : Bool} (h : G.inquestlaw13_ReachWays g_0 more_1 = some r) : Fun1 Tryd.prog W0 11 [G.graph_Graph.av g_0, G.graph_Graph.av more_1] (bl r) := Fun1.two (inquestlaw13_ReachWays_ok0 hT h) (by simp)

end Wk
