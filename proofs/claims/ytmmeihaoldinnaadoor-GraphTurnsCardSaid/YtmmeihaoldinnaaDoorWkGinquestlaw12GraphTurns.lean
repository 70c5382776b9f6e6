/- That a statement does what its plain function says. -/
import Derived.Test.YtmmeihaoldinnaaDoorWkGinquestlaw12
open Go Go.Av Go.Proofs
set_option linter.unusedVariables false
namespace Wk
set_option maxHeartbeats 8000000 in
theorem inquestlaw12_GraphTurns_ok0 {W0 : World} (hT : Tab W0) {a_0 : G.graph_Graph} {b_1 : G.graph_Graph} {r : Bool} (h : G.inquestlaw12_GraphTurns a_0 b_1 = some r) : Fun2 Tryd.prog W0 8 [G.graph_Graph.av a_0, G.graph_Graph.av b_1] (bl r) .empty := by
  refine fun2_of_awp Tryd.func8 rfl (by kernel_rfl) Tryd.ntmps8 (by simp) ?_
  unfold G.inquestlaw12_GraphTurns at h
  show AWP _ _ _ _ ⟨[(0, G.graph_Graph.av a_0), (1, G.graph_Graph.av b_1)], .empty⟩ _
  refine awp_seqK fun K1 hK1 => ?_
  refine awp_reg rfl ?_
  refine AR.op (r := .ref 0 0 0) rfl (aop_box 2 [G.graph_Graph.av a_0] rfl rfl rfl (.inl ⟨rfl, rfl⟩)) ?_
  refine AR.op (r := .ref 1 0 0) rfl (aop_box 2 [G.graph_Graph.av b_1] rfl rfl rfl (.inl ⟨rfl, rfl⟩)) ?_
  refine AR.op (r := bl false) rfl (aop_move (.inr rfl) rfl) ?_
  refine AR.nil ?_
  refine hK1 _ (AWP.weak (Weak.re (fr' := [(2, .ref 0 0 0), (3, .ref 1 0 0)]) (H' := ⟨2, [(0, (2, [G.graph_Graph.av a_0])), (1, (2, [G.graph_Graph.av b_1]))]⟩) [(0, 0), (1, 1)] [] rfl rfl rfl (.cons rfl rfl (.one (.same _ (by simp)) rfl) (of_decide_eq_true rfl) (.cons rfl rfl (.one (.same _ (by simp)) rfl) (of_decide_eq_true rfl) (trivial))) ⟨⟨_, rfl, .ref rfl⟩, ⟨_, rfl, .ref rfl⟩, trivial⟩) ?_)
  clear hK1 K1
  refine awp_seqK fun K2 hK2 => ?_
  refine awp_reg rfl ?_
  obtain ⟨r35, hr35, h⟩ := Sh.bind_some' h
  refine AR.op (r := bl r35) rfl (aop_call1 rfl rfl (by simp) (inquestlaw12_awake_ok hT hr35)) ?_
  refine AR.op (r := bl r35) rfl (aop_move (.inr rfl) rfl) ?_
  refine AR.nil ?_
  refine hK2 _ (AWP.weak (Weak.re (fr' := [(2, .ref 0 0 0), (3, .ref 1 0 0), (5, bl r35)]) (H' := ⟨2, [(0, (2, [G.graph_Graph.av a_0])), (1, (2, [G.graph_Graph.av b_1]))]⟩) [(0, 0), (1, 1)] [] rfl rfl rfl (.cons rfl rfl (.one (.same _ (by simp)) rfl) (of_decide_eq_true rfl) (.cons rfl rfl (.one (.same _ (by simp)) rfl) (of_decide_eq_true rfl) (trivial))) ⟨⟨_, rfl, .ref rfl⟩, ⟨_, rfl, .ref rfl⟩, ⟨_, rfl, .same _ (by simp)⟩, trivial⟩) ?_)
  clear hK2 K2
  refine awp_seqK fun K3 hK3 => ?_
  refine awp_seqK fun K4 hK4 => ?_
  refine awp_reg rfl ?_
  refine AR.op (r := bl r35) rfl (aop_move (.inl rfl) rfl) ?_
  refine AR.op (r := bl (!r35)) rfl (aop_not rfl rfl) ?_
  refine AR.nil ?_
  refine hK4 _ (AWP.weak (Weak.re (fr' := [(2, .ref 0 0 0), (3, .ref 1 0 0), (26, bl (!r35))]) (H' := ⟨2, [(0, (2, [G.graph_Graph.av a_0])), (1, (2, [G.graph_Graph.av b_1]))]⟩) [(0, 0), (1, 1)] [] rfl rfl rfl (.cons rfl rfl (.one (.same _ (by simp)) rfl) (of_decide_eq_true rfl) (.cons rfl rfl (.one (.same _ (by simp)) rfl) (of_decide_eq_true rfl) (trivial))) ⟨⟨_, rfl, .ref rfl⟩, ⟨_, rfl, .ref rfl⟩, ⟨_, rfl, .same _ (by simp)⟩, trivial⟩) ?_)
  clear hK4 K4
  refine awp_cond rfl (fun hb36 => ?_) (fun hb36 => ?_)
  · replace h := Sh.if_t h hb36
    refine awp_seqK fun K5 hK5 => ?_
    refine awp_reg rfl ?_
    refine AR.op (r := bl false) rfl (aop_move (.inr rfl) rfl) ?_
    refine AR.nil ?_
    refine hK5 _ (AWP.weak (Weak.re (fr' := [(4, bl false)]) (H' := .empty) [] [] rfl rfl rfl (trivial) ⟨⟨_, rfl, .same _ (by simp)⟩, trivial⟩) ?_)
    clear hK5 K5
    refine awp_ret ?_
    obtain rfl := Option.some.inj h
    refine ⟨.inr rfl, bl false, rfl, ?_⟩
    exact Weak.re [] [] rfl rfl rfl (trivial) ⟨⟨_, rfl, .same _ (by simp)⟩, trivial⟩
  · replace h := Sh.if_f h hb36
    refine awp_skip ?_
    refine hK3 _ (AWP.weak (Weak.re (fr' := [(2, .ref 0 0 0), (3, .ref 1 0 0)]) (H' := ⟨2, [(0, (2, [G.graph_Graph.av a_0])), (1, (2, [G.graph_Graph.av b_1]))]⟩) [(0, 0), (1, 1)] [] rfl rfl rfl (.cons rfl rfl (.one (.same _ (by simp)) rfl) (of_decide_eq_true rfl) (.cons rfl rfl (.one (.same _ (by simp)) rfl) (of_decide_eq_true rfl) (trivial))) ⟨⟨_, rfl, .ref rfl⟩, ⟨_, rfl, .ref rfl⟩, trivial⟩) ?_)
    clear hK3 K3
    refine awp_seqK fun K6 hK6 => ?_
    refine awp_seqJ (fun (p : Bool) => (⟨[(2, .ref 0 0 0), (3, .ref 1 0 0), (53, bl p)], ⟨2, [(0, (2, [G.graph_Graph.av a_0])), (1, (2, [G.graph_Graph.av b_1]))]⟩⟩ : St)) (fun (p : Bool) => G.inquestlaw12_GraphTurns_j1 a_0 b_1 p = some r) ?_ ?_
    · rintro v50 h
      replace h : G.inquestlaw12_GraphTurns_j1 a_0 b_1 v50 = some r := h
      unfold G.inquestlaw12_GraphTurns_j1 at h
      show AWP _ _ _ _ ⟨[(2, .ref 0 0 0), (3, .ref 1 0 0), (53, bl v50)], ⟨2, [(0, (2, [G.graph_Graph.av a_0])), (1, (2, [G.graph_Graph.av b_1]))]⟩⟩ _
      refine awp_cond rfl (fun hb51 => ?_) (fun hb51 => ?_)
      · replace h := Sh.if_t h hb51
        refine awp_seqK fun K7 hK7 => ?_
        refine awp_reg rfl ?_
        refine AR.op (r := bl true) rfl (aop_move (.inr rfl) rfl) ?_
        refine AR.nil ?_
        refine hK7 _ (AWP.weak (Weak.re (fr' := [(4, bl true)]) (H' := .empty) [] [] rfl rfl rfl (trivial) ⟨⟨_, rfl, .same _ (by simp)⟩, trivial⟩) ?_)
        clear hK7 K7
        refine awp_ret ?_
        obtain rfl := Option.some.inj h
        refine ⟨.inr rfl, bl true, rfl, ?_⟩
        exact Weak.re [] [] rfl rfl rfl (trivial) ⟨⟨_, rfl, .same _ (by simp)⟩, trivial⟩
      · replace h := Sh.if_f h hb51
        refine awp_skip ?_
        refine hK6 _ (AWP.weak (Weak.re (fr' := [(2, .ref 0 0 0), (3, .ref 1 0 0)]) (H' := ⟨2, [(0, (2, [G.graph_Graph.av a_0])), (1, (2, [G.graph_Graph.av b_1]))]⟩) [(0, 0), (1, 1)] [] rfl rfl rfl (.cons rfl rfl (.one (.same _ (by simp)) rfl) (of_decide_eq_true rfl) (.cons rfl rfl (.one (.same _ (by simp)) rfl) (of_decide_eq_true rfl) (trivial))) ⟨⟨_, rfl, .ref rfl⟩, ⟨_, rfl, .ref rfl⟩, trivial⟩) ?_)
        clear hK6 K6
        refine awp_seqK fun K8 hK8 => ?_
        refine awp_reg rfl ?_
        refine AR.op (r := G.graph_Graph.av a_0) rfl (aop_load_ref rfl rfl rfl rfl sz24 rfl) ?_
        obtain ⟨r53, hr53, h⟩ := Sh.bind_some' h
        refine AR.op (r := .tuple [G.graph_Graph.av r53.1, i64 r53.2]) rfl (aop_call1 rfl rfl (by simp) (graph_Turn_ok hT hr53)) ?_
        refine AR.op (r := .tuple [G.graph_Graph.av r53.1, i64 r53.2]) rfl (aop_move (.inl rfl) rfl) ?_
        refine AR.drop (frx := [(2, _), (3, _), (54, _)]) ⟨rfl, rfl, rfl, trivial⟩ ?_
        refine AR.op (r := G.graph_Graph.av r53.1) rfl (aop_extract rfl rfl rfl) ?_
        refine AR.op (r := i64 r53.2) rfl (aop_extract rfl rfl rfl) ?_
        refine AR.op (r := .ref 2 0 0) rfl (aop_alloc 2 [.agg [i64 0, nilS]] rfl zr24 (by kernel_rfl) (.inl ⟨rfl, rfl⟩)) ?_
        refine AR.drop (frx := [(2, _), (3, _), (57, _), (58, _), (6, _)]) ⟨rfl, rfl, rfl, rfl, rfl, trivial⟩ ?_
        refine AR.op rfl (aop_store (e' := G.graph_Graph.av r53.1) rfl rfl rfl rfl rfl rfl sz24 rfl (of_decide_eq_true rfl) rfl) ?_
        refine AR.op (r := i64 r53.2) rfl (aop_move (.inr rfl) rfl) ?_
        refine AR.nil ?_
        refine hK8 _ (AWP.weak (Weak.re (fr' := [(2, .ref 0 0 0), (3, .ref 1 0 0), (6, .ref 2 0 0)]) (H' := ⟨3, [(0, (2, [G.graph_Graph.av a_0])), (1, (2, [G.graph_Graph.av b_1])), (2, (2, [G.graph_Graph.av r53.1]))]⟩) [(0, 0), (1, 1), (2, 2)] [] rfl rfl rfl (.cons rfl rfl (.one (.same _ (by simp)) rfl) (of_decide_eq_true rfl) (.cons rfl rfl (.one (.same _ (by simp)) rfl) (of_decide_eq_true rfl) (.cons rfl rfl (.one (.same _ (by simp)) rfl) (of_decide_eq_true rfl) (trivial)))) ⟨⟨_, rfl, .ref rfl⟩, ⟨_, rfl, .ref rfl⟩, ⟨_, rfl, .ref rfl⟩, trivial⟩) ?_)
        clear hK8 K8
        refine awp_seqK fun K9 hK9 => ?_
        refine awp_reg rfl ?_
        refine AR.op (r := G.graph_Graph.av b_1) rfl (aop_load_ref rfl rfl rfl rfl sz24 rfl) ?_
        obtain ⟨r55, hr55, h⟩ := Sh.bind_some' h
        refine AR.op (r := .tuple [G.graph_Graph.av r55.1, i64 r55.2]) rfl (aop_call1 rfl rfl (by simp) (graph_Turn_ok hT hr55)) ?_
        refine AR.op (r := .tuple [G.graph_Graph.av r55.1, i64 r55.2]) rfl (aop_move (.inl rfl) rfl) ?_
        refine AR.drop (frx := [(2, _), (3, _), (6, _), (59, _)]) ⟨rfl, rfl, rfl, rfl, trivial⟩ ?_
        refine AR.op (r := G.graph_Graph.av r55.1) rfl (aop_extract rfl rfl rfl) ?_
        refine AR.op (r := i64 r55.2) rfl (aop_extract rfl rfl rfl) ?_
        refine AR.op (r := .ref 3 0 0) rfl (aop_alloc 2 [.agg [i64 0, nilS]] rfl zr24 (by kernel_rfl) (.inl ⟨rfl, rfl⟩)) ?_
        refine AR.drop (frx := [(2, _), (3, _), (6, _), (62, _), (63, _), (8, _)]) ⟨rfl, rfl, rfl, rfl, rfl, rfl, trivial⟩ ?_
        refine AR.op rfl (aop_store (e' := G.graph_Graph.av r55.1) rfl rfl rfl rfl rfl rfl sz24 rfl (of_decide_eq_true rfl) rfl) ?_
        refine AR.op (r := i64 r55.2) rfl (aop_move (.inr rfl) rfl) ?_
        refine AR.nil ?_
        refine hK9 _ (AWP.weak (Weak.re (fr' := [(2, .ref 0 0 0), (3, .ref 1 0 0), (6, .ref 2 0 0), (8, .ref 3 0 0)]) (H' := ⟨4, [(0, (2, [G.graph_Graph.av a_0])), (1, (2, [G.graph_Graph.av b_1])), (2, (2, [G.graph_Graph.av r53.1])), (3, (2, [G.graph_Graph.av r55.1]))]⟩) [(0, 0), (1, 1), (2, 2), (3, 3)] [] rfl rfl rfl (.cons rfl rfl (.one (.same _ (by simp)) rfl) (of_decide_eq_true rfl) (.cons rfl rfl (.one (.same _ (by simp)) rfl) (of_decide_eq_true rfl) (.cons rfl rfl (.one (.same _ (by simp)) rfl) (of_decide_eq_true rfl) (.cons rfl rfl (.one (.same _ (by simp)) rfl) (of_decide_eq_true rfl) (trivial))))) ⟨⟨_, rfl, .ref rfl⟩, ⟨_, rfl, .ref rfl⟩, ⟨_, rfl, .ref rfl⟩, ⟨_, rfl, .ref rfl⟩, trivial⟩) ?_)
        clear hK9 K9
        refine awp_seqK fun K10 hK10 => ?_
        refine awp_reg rfl ?_
        refine AR.op (r := G.graph_Graph.av r53.1) rfl (aop_load_ref rfl rfl rfl rfl sz24 rfl) ?_
        obtain ⟨r57, hr57, h⟩ := Sh.bind_some' h
        refine AR.op (r := .tuple [G.graph_Graph.av r57.1, i64 r57.2]) rfl (aop_call1 rfl rfl (by simp) (graph_Turn_ok hT hr57)) ?_
        refine AR.op (r := .tuple [G.graph_Graph.av r57.1, i64 r57.2]) rfl (aop_move (.inl rfl) rfl) ?_
        refine AR.drop (frx := [(2, _), (3, _), (6, _), (8, _), (64, _)]) ⟨rfl, rfl, rfl, rfl, rfl, trivial⟩ ?_
        refine AR.op (r := G.graph_Graph.av r57.1) rfl (aop_extract rfl rfl rfl) ?_
        refine AR.op (r := i64 r57.2) rfl (aop_extract rfl rfl rfl) ?_
        refine AR.op (r := .ref 4 0 0) rfl (aop_alloc 2 [.agg [i64 0, nilS]] rfl zr24 (by kernel_rfl) (.inl ⟨rfl, rfl⟩)) ?_
        refine AR.drop (frx := [(2, _), (3, _), (6, _), (8, _), (67, _), (68, _), (10, _)]) ⟨rfl, rfl, rfl, rfl, rfl, rfl, rfl, trivial⟩ ?_
        refine AR.op rfl (aop_store (e' := G.graph_Graph.av r57.1) rfl rfl rfl rfl rfl rfl sz24 rfl (of_decide_eq_true rfl) rfl) ?_
        refine AR.op (r := i64 r57.2) rfl (aop_move (.inr rfl) rfl) ?_
        refine AR.nil ?_
        refine hK10 _ (AWP.weak (Weak.re (fr' := [(2, .ref 0 0 0), (3, .ref 1 0 0), (6, .ref 2 0 0), (8, .ref 3 0 0), (10, .ref 4 0 0)]) (H' := ⟨5, [(0, (2, [G.graph_Graph.av a_0])), (1, (2, [G.graph_Graph.av b_1])), (2, (2, [G.graph_Graph.av r53.1])), (3, (2, [G.graph_Graph.av r55.1])), (4, (2, [G.graph_Graph.av r57.1]))]⟩) [(0, 0), (1, 1), (2, 2), (3, 3), (4, 4)] [] rfl rfl rfl (.cons rfl rfl (.one (.same _ (by simp)) rfl) (of_decide_eq_true rfl) (.cons rfl rfl (.one (.same _ (by simp)) rfl) (of_decide_eq_true rfl) (.cons rfl rfl (.one (.same _ (by simp)) rfl) (of_decide_eq_true rfl) (.cons rfl rfl (.one (.same _ (by simp)) rfl) (of_decide_eq_true rfl) (.cons rfl rfl (.one (.same _ (by simp)) rfl) (of_decide_eq_true rfl) (trivial)))))) ⟨⟨_, rfl, .ref rfl⟩, ⟨_, rfl, .ref rfl⟩, ⟨_, rfl, .ref rfl⟩, ⟨_, rfl, .ref rfl⟩, ⟨_, rfl, .ref rfl⟩, trivial⟩) ?_)
        clear hK10 K10
        refine awp_seqK fun K11 hK11 => ?_
        refine awp_reg rfl ?_
        refine AR.op (r := G.graph_Graph.av a_0) rfl (aop_load_ref rfl rfl rfl rfl sz24 rfl) ?_
        refine AR.op (r := G.graph_Graph.av b_1) rfl (aop_load_ref rfl rfl rfl rfl sz24 rfl) ?_
        obtain ⟨r59, hr59, h⟩ := Sh.bind_some' h
        refine AR.op (r := .tuple [G.graph_Graph.av r59.1, i64 r59.2]) rfl (aop_call1 rfl rfl (by simp) (graph_Compose_ok hT hr59)) ?_
        refine AR.drop (frx := [(2, _), (3, _), (6, _), (8, _), (10, _), (72, _)]) ⟨rfl, rfl, rfl, rfl, rfl, rfl, trivial⟩ ?_
        refine AR.op (r := .tuple [G.graph_Graph.av r59.1, i64 r59.2]) rfl (aop_move (.inl rfl) rfl) ?_
        refine AR.op (r := G.graph_Graph.av r59.1) rfl (aop_extract rfl rfl rfl) ?_
        refine AR.op (r := i64 r59.2) rfl (aop_extract rfl rfl rfl) ?_
        refine AR.drop (frx := [(2, _), (3, _), (6, _), (8, _), (10, _), (73, _), (74, _)]) ⟨rfl, rfl, rfl, rfl, rfl, rfl, rfl, trivial⟩ ?_
        refine AR.op (r := .ref 5 0 0) rfl (aop_alloc 2 [.agg [i64 0, nilS]] rfl zr24 (by kernel_rfl) (.inl ⟨rfl, rfl⟩)) ?_
        refine AR.op rfl (aop_store (e' := G.graph_Graph.av r59.1) rfl rfl rfl rfl rfl rfl sz24 rfl (of_decide_eq_true rfl) rfl) ?_
        refine AR.op (r := i64 r59.2) rfl (aop_move (.inr rfl) rfl) ?_
        refine AR.nil ?_
        refine hK11 _ (AWP.weak (Weak.re (fr' := [(2, .ref 0 0 0), (3, .ref 1 0 0), (6, .ref 2 0 0), (8, .ref 3 0 0), (10, .ref 4 0 0), (12, .ref 5 0 0)]) (H' := ⟨6, [(0, (2, [G.graph_Graph.av a_0])), (1, (2, [G.graph_Graph.av b_1])), (2, (2, [G.graph_Graph.av r53.1])), (3, (2, [G.graph_Graph.av r55.1])), (4, (2, [G.graph_Graph.av r57.1])), (5, (2, [G.graph_Graph.av r59.1]))]⟩) [(0, 0), (1, 1), (2, 2), (3, 3), (4, 4), (5, 5)] [] rfl rfl rfl (.cons rfl rfl (.one (.same _ (by simp)) rfl) (of_decide_eq_true rfl) (.cons rfl rfl (.one (.same _ (by simp)) rfl) (of_decide_eq_true rfl) (.cons rfl rfl (.one (.same _ (by simp)) rfl) (of_decide_eq_true rfl) (.cons rfl rfl (.one (.same _ (by simp)) rfl) (of_decide_eq_true rfl) (.cons rfl rfl (.one (.same _ (by simp)) rfl) (of_decide_eq_true rfl) (.cons rfl rfl (.one (.same _ (by simp)) rfl) (of_decide_eq_true rfl) (trivial))))))) ⟨⟨_, rfl, .ref rfl⟩, ⟨_, rfl, .ref rfl⟩, ⟨_, rfl, .ref rfl⟩, ⟨_, rfl, .ref rfl⟩, ⟨_, rfl, .ref rfl⟩, ⟨_, rfl, .ref rfl⟩, trivial⟩) ?_)
        clear hK11 K11
        refine awp_seqK fun K12 hK12 => ?_
        refine awp_reg rfl ?_
        refine AR.op (r := G.graph_Graph.av r59.1) rfl (aop_load_ref rfl rfl rfl rfl sz24 rfl) ?_
        obtain ⟨r61, hr61, h⟩ := Sh.bind_some' h
        refine AR.op (r := .tuple [G.graph_Graph.av r61.1, i64 r61.2]) rfl (aop_call1 rfl rfl (by simp) (graph_Turn_ok hT hr61)) ?_
        refine AR.op (r := .tuple [G.graph_Graph.av r61.1, i64 r61.2]) rfl (aop_move (.inl rfl) rfl) ?_
        refine AR.drop (frx := [(2, _), (3, _), (6, _), (8, _), (10, _), (75, _)]) ⟨rfl, rfl, rfl, rfl, rfl, rfl, trivial⟩ ?_
        refine AR.op (r := G.graph_Graph.av r61.1) rfl (aop_extract rfl rfl rfl) ?_
        refine AR.op (r := i64 r61.2) rfl (aop_extract rfl rfl rfl) ?_
        refine AR.op (r := .ref 6 0 0) rfl (aop_alloc 2 [.agg [i64 0, nilS]] rfl zr24 (by kernel_rfl) (.inl ⟨rfl, rfl⟩)) ?_
        refine AR.drop (frx := [(2, _), (3, _), (6, _), (8, _), (10, _), (78, _), (79, _), (14, _)]) ⟨rfl, rfl, rfl, rfl, rfl, rfl, rfl, rfl, trivial⟩ ?_
        refine AR.op rfl (aop_store (e' := G.graph_Graph.av r61.1) rfl rfl rfl rfl rfl rfl sz24 rfl (of_decide_eq_true rfl) rfl) ?_
        refine AR.op (r := i64 r61.2) rfl (aop_move (.inr rfl) rfl) ?_
        refine AR.nil ?_
        refine hK12 _ (AWP.weak (Weak.re (fr' := [(2, .ref 0 0 0), (3, .ref 1 0 0), (6, .ref 2 0 0), (8, .ref 3 0 0), (10, .ref 4 0 0), (14, .ref 5 0 0)]) (H' := ⟨6, [(0, (2, [G.graph_Graph.av a_0])), (1, (2, [G.graph_Graph.av b_1])), (2, (2, [G.graph_Graph.av r53.1])), (3, (2, [G.graph_Graph.av r55.1])), (4, (2, [G.graph_Graph.av r57.1])), (5, (2, [G.graph_Graph.av r61.1]))]⟩) [(0, 0), (1, 1), (2, 2), (3, 3), (4, 4), (5, 6)] [] rfl rfl rfl (.cons rfl rfl (.one (.same _ (by simp)) rfl) (of_decide_eq_true rfl) (.cons rfl rfl (.one (.same _ (by simp)) rfl) (of_decide_eq_true rfl) (.cons rfl rfl (.one (.same _ (by simp)) rfl) (of_decide_eq_true rfl) (.cons rfl rfl (.one (.same _ (by simp)) rfl) (of_decide_eq_true rfl) (.cons rfl rfl (.one (.same _ (by simp)) rfl) (of_decide_eq_true rfl) (.cons rfl rfl (.one (.same _ (by simp)) rfl) (of_decide_eq_true rfl) (trivial))))))) ⟨⟨_, rfl, .ref rfl⟩, ⟨_, rfl, .ref rfl⟩, ⟨_, rfl, .ref rfl⟩, ⟨_, rfl, .ref rfl⟩, ⟨_, rfl, .ref rfl⟩, ⟨_, rfl, .ref rfl⟩, trivial⟩) ?_)
        clear hK12 K12
        refine awp_seqK fun K13 hK13 => ?_
        refine awp_reg rfl ?_
        refine AR.op (r := G.graph_Graph.av r55.1) rfl (aop_load_ref rfl rfl rfl rfl sz24 rfl) ?_
        refine AR.op (r := G.graph_Graph.av r53.1) rfl (aop_load_ref rfl rfl rfl rfl sz24 rfl) ?_
        obtain ⟨r63, hr63, h⟩ := Sh.bind_some' h
        refine AR.op (r := .tuple [G.graph_Graph.av r63.1, i64 r63.2]) rfl (aop_call1 rfl rfl (by simp) (graph_Compose_ok hT hr63)) ?_
        refine AR.drop (frx := [(2, _), (3, _), (10, _), (14, _), (83, _)]) ⟨rfl, rfl, rfl, rfl, rfl, trivial⟩ ?_
        refine AR.op (r := .tuple [G.graph_Graph.av r63.1, i64 r63.2]) rfl (aop_move (.inl rfl) rfl) ?_
        refine AR.op (r := G.graph_Graph.av r63.1) rfl (aop_extract rfl rfl rfl) ?_
        refine AR.op (r := i64 r63.2) rfl (aop_extract rfl rfl rfl) ?_
        refine AR.drop (frx := [(2, _), (3, _), (10, _), (14, _), (84, _), (85, _)]) ⟨rfl, rfl, rfl, rfl, rfl, rfl, trivial⟩ ?_
        refine AR.op (r := .ref 6 0 0) rfl (aop_alloc 2 [.agg [i64 0, nilS]] rfl zr24 (by kernel_rfl) (.inl ⟨rfl, rfl⟩)) ?_
        refine AR.op rfl (aop_store (e' := G.graph_Graph.av r63.1) rfl rfl rfl rfl rfl rfl sz24 rfl (of_decide_eq_true rfl) rfl) ?_
        refine AR.op (r := i64 r63.2) rfl (aop_move (.inr rfl) rfl) ?_
        refine AR.nil ?_
        refine hK13 _ (AWP.weak (Weak.re (fr' := [(2, .ref 0 0 0), (3, .ref 1 0 0), (10, .ref 2 0 0), (14, .ref 3 0 0), (16, .ref 4 0 0)]) (H' := ⟨5, [(0, (2, [G.graph_Graph.av a_0])), (1, (2, [G.graph_Graph.av b_1])), (2, (2, [G.graph_Graph.av r57.1])), (3, (2, [G.graph_Graph.av r61.1])), (4, (2, [G.graph_Graph.av r63.1]))]⟩) [(0, 0), (1, 1), (2, 4), (3, 5), (4, 6)] [] rfl rfl rfl (.cons rfl rfl (.one (.same _ (by simp)) rfl) (of_decide_eq_true rfl) (.cons rfl rfl (.one (.same _ (by simp)) rfl) (of_decide_eq_true rfl) (.cons rfl rfl (.one (.same _ (by simp)) rfl) (of_decide_eq_true rfl) (.cons rfl rfl (.one (.same _ (by simp)) rfl) (of_decide_eq_true rfl) (.cons rfl rfl (.one (.same _ (by simp)) rfl) (of_decide_eq_true rfl) (trivial)))))) ⟨⟨_, rfl, .ref rfl⟩, ⟨_, rfl, .ref rfl⟩, ⟨_, rfl, .ref rfl⟩, ⟨_, rfl, .ref rfl⟩, ⟨_, rfl, .ref rfl⟩, trivial⟩) ?_)
        clear hK13 K13
        refine awp_seqK fun K14 hK14 => ?_
        refine awp_reg rfl ?_
        refine AR.op (r := G.graph_Graph.av a_0) rfl (aop_load_ref rfl rfl rfl rfl sz24 rfl) ?_
        refine AR.op (r := G.graph_Graph.av a_0) rfl (aop_load_ref rfl rfl rfl rfl sz24 rfl) ?_
        obtain ⟨r65, hr65, h⟩ := Sh.bind_some' h
        refine AR.op (r := .tuple [G.graph_Graph.av r65.1, i64 r65.2]) rfl (aop_call1 rfl rfl (by simp) (graph_Union_ok hT hr65)) ?_
        refine AR.drop (frx := [(2, _), (3, _), (10, _), (14, _), (16, _), (89, _)]) ⟨rfl, rfl, rfl, rfl, rfl, rfl, trivial⟩ ?_
        refine AR.op (r := .tuple [G.graph_Graph.av r65.1, i64 r65.2]) rfl (aop_move (.inl rfl) rfl) ?_
        refine AR.op (r := G.graph_Graph.av r65.1) rfl (aop_extract rfl rfl rfl) ?_
        refine AR.op (r := i64 r65.2) rfl (aop_extract rfl rfl rfl) ?_
        refine AR.drop (frx := [(2, _), (3, _), (10, _), (14, _), (16, _), (90, _), (91, _)]) ⟨rfl, rfl, rfl, rfl, rfl, rfl, rfl, trivial⟩ ?_
        refine AR.op (r := .ref 5 0 0) rfl (aop_alloc 2 [.agg [i64 0, nilS]] rfl zr24 (by kernel_rfl) (.inl ⟨rfl, rfl⟩)) ?_
        refine AR.op rfl (aop_store (e' := G.graph_Graph.av r65.1) rfl rfl rfl rfl rfl rfl sz24 rfl (of_decide_eq_true rfl) rfl) ?_
        refine AR.op (r := i64 r65.2) rfl (aop_move (.inr rfl) rfl) ?_
        refine AR.nil ?_
        refine hK14 _ (AWP.weak (Weak.re (fr' := [(2, .ref 0 0 0), (3, .ref 1 0 0), (10, .ref 2 0 0), (14, .ref 3 0 0), (16, .ref 4 0 0), (18, .ref 5 0 0)]) (H' := ⟨6, [(0, (2, [G.graph_Graph.av a_0])), (1, (2, [G.graph_Graph.av b_1])), (2, (2, [G.graph_Graph.av r57.1])), (3, (2, [G.graph_Graph.av r61.1])), (4, (2, [G.graph_Graph.av r63.1])), (5, (2, [G.graph_Graph.av r65.1]))]⟩) [(0, 0), (1, 1), (2, 2), (3, 3), (4, 4), (5, 5)] [] rfl rfl rfl (.cons rfl rfl (.one (.same _ (by simp)) rfl) (of_decide_eq_true rfl) (.cons rfl rfl (.one (.same _ (by simp)) rfl) (of_decide_eq_true rfl) (.cons rfl rfl (.one (.same _ (by simp)) rfl) (of_decide_eq_true rfl) (.cons rfl rfl (.one (.same _ (by simp)) rfl) (of_decide_eq_true rfl) (.cons rfl rfl (.one (.same _ (by simp)) rfl) (of_decide_eq_true rfl) (.cons rfl rfl (.one (.same _ (by simp)) rfl) (of_decide_eq_true rfl) (trivial))))))) ⟨⟨_, rfl, .ref rfl⟩, ⟨_, rfl, .ref rfl⟩, ⟨_, rfl, .ref rfl⟩, ⟨_, rfl, .ref rfl⟩, ⟨_, rfl, .ref rfl⟩, ⟨_, rfl, .ref rfl⟩, trivial⟩) ?_)
        clear hK14 K14
        refine awp_seqK fun K15 hK15 => ?_
        refine awp_reg rfl ?_
        refine AR.op (r := G.graph_Graph.av a_0) rfl (aop_load_ref rfl rfl rfl rfl sz24 rfl) ?_
        refine AR.op (r := G.graph_Graph.av b_1) rfl (aop_load_ref rfl rfl rfl rfl sz24 rfl) ?_
        obtain ⟨r67, hr67, h⟩ := Sh.bind_some' h
        refine AR.op (r := .tuple [G.graph_Graph.av r67.1, i64 r67.2]) rfl (aop_call1 rfl rfl (by simp) (graph_Union_ok hT hr67)) ?_
        refine AR.drop (frx := [(2, _), (3, _), (10, _), (14, _), (16, _), (18, _), (95, _)]) ⟨rfl, rfl, rfl, rfl, rfl, rfl, rfl, trivial⟩ ?_
        refine AR.op (r := .tuple [G.graph_Graph.av r67.1, i64 r67.2]) rfl (aop_move (.inl rfl) rfl) ?_
        refine AR.op (r := G.graph_Graph.av r67.1) rfl (aop_extract rfl rfl rfl) ?_
        refine AR.op (r := i64 r67.2) rfl (aop_extract rfl rfl rfl) ?_
        refine AR.drop (frx := [(2, _), (3, _), (10, _), (14, _), (16, _), (18, _), (96, _), (97, _)]) ⟨rfl, rfl, rfl, rfl, rfl, rfl, rfl, rfl, trivial⟩ ?_
        refine AR.op (r := .ref 6 0 0) rfl (aop_alloc 2 [.agg [i64 0, nilS]] rfl zr24 (by kernel_rfl) (.inl ⟨rfl, rfl⟩)) ?_
        refine AR.op rfl (aop_store (e' := G.graph_Graph.av r67.1) rfl rfl rfl rfl rfl rfl sz24 rfl (of_decide_eq_true rfl) rfl) ?_
        refine AR.op (r := i64 r67.2) rfl (aop_move (.inr rfl) rfl) ?_
        refine AR.nil ?_
        refine hK15 _ (AWP.weak (Weak.re (fr' := [(2, .ref 0 0 0), (3, .ref 1 0 0), (10, .ref 2 0 0), (14, .ref 3 0 0), (16, .ref 4 0 0), (18, .ref 5 0 0), (20, .ref 6 0 0)]) (H' := ⟨7, [(0, (2, [G.graph_Graph.av a_0])), (1, (2, [G.graph_Graph.av b_1])), (2, (2, [G.graph_Graph.av r57.1])), (3, (2, [G.graph_Graph.av r61.1])), (4, (2, [G.graph_Graph.av r63.1])), (5, (2, [G.graph_Graph.av r65.1])), (6, (2, [G.graph_Graph.av r67.1]))]⟩) [(0, 0), (1, 1), (2, 2), (3, 3), (4, 4), (5, 5), (6, 6)] [] rfl rfl rfl (.cons rfl rfl (.one (.same _ (by simp)) rfl) (of_decide_eq_true rfl) (.cons rfl rfl (.one (.same _ (by simp)) rfl) (of_decide_eq_true rfl) (.cons rfl rfl (.one (.same _ (by simp)) rfl) (of_decide_eq_true rfl) (.cons rfl rfl (.one (.same _ (by simp)) rfl) (of_decide_eq_true rfl) (.cons rfl rfl (.one (.same _ (by simp)) rfl) (of_decide_eq_true rfl) (.cons rfl rfl (.one (.same _ (by simp)) rfl) (of_decide_eq_true rfl) (.cons rfl rfl (.one (.same _ (by simp)) rfl) (of_decide_eq_true rfl) (trivial)))))))) ⟨⟨_, rfl, .ref rfl⟩, ⟨_, rfl, .ref rfl⟩, ⟨_, rfl, .ref rfl⟩, ⟨_, rfl, .ref rfl⟩, ⟨_, rfl, .ref rfl⟩, ⟨_, rfl, .ref rfl⟩, ⟨_, rfl, .ref rfl⟩, trivial⟩) ?_)
        clear hK15 K15
        refine awp_seqK fun K16 hK16 => ?_
        refine awp_reg rfl ?_
        refine AR.op (r := G.graph_Graph.av b_1) rfl (aop_load_ref rfl rfl rfl rfl sz24 rfl) ?_
        refine AR.op (r := G.graph_Graph.av a_0) rfl (aop_load_ref rfl rfl rfl rfl sz24 rfl) ?_
        obtain ⟨r69, hr69, h⟩ := Sh.bind_some' h
        refine AR.op (r := .tuple [G.graph_Graph.av r69.1, i64 r69.2]) rfl (aop_call1 rfl rfl (by simp) (graph_Union_ok hT hr69)) ?_
        refine AR.drop (frx := [(2, _), (10, _), (14, _), (16, _), (18, _), (20, _), (101, _)]) ⟨rfl, rfl, rfl, rfl, rfl, rfl, rfl, trivial⟩ ?_
        refine AR.op (r := .tuple [G.graph_Graph.av r69.1, i64 r69.2]) rfl (aop_move (.inl rfl) rfl) ?_
        refine AR.op (r := G.graph_Graph.av r69.1) rfl (aop_extract rfl rfl rfl) ?_
        refine AR.op (r := i64 r69.2) rfl (aop_extract rfl rfl rfl) ?_
        refine AR.drop (frx := [(2, _), (10, _), (14, _), (16, _), (18, _), (20, _), (102, _), (103, _)]) ⟨rfl, rfl, rfl, rfl, rfl, rfl, rfl, rfl, trivial⟩ ?_
        refine AR.op (r := .ref 7 0 0) rfl (aop_alloc 2 [.agg [i64 0, nilS]] rfl zr24 (by kernel_rfl) (.inl ⟨rfl, rfl⟩)) ?_
        refine AR.op rfl (aop_store (e' := G.graph_Graph.av r69.1) rfl rfl rfl rfl rfl rfl sz24 rfl (of_decide_eq_true rfl) rfl) ?_
        refine AR.op (r := i64 r69.2) rfl (aop_move (.inr rfl) rfl) ?_
        refine AR.nil ?_
        refine hK16 _ (AWP.weak (Weak.re (fr' := [(2, .ref 0 0 0), (10, .ref 1 0 0), (14, .ref 2 0 0), (16, .ref 3 0 0), (18, .ref 4 0 0), (20, .ref 5 0 0), (22, .ref 6 0 0)]) (H' := ⟨7, [(0, (2, [G.graph_Graph.av a_0])), (1, (2, [G.graph_Graph.av r57.1])), (2, (2, [G.graph_Graph.av r61.1])), (3, (2, [G.graph_Graph.av r63.1])), (4, (2, [G.graph_Graph.av r65.1])), (5, (2, [G.graph_Graph.av r67.1])), (6, (2, [G.graph_Graph.av r69.1]))]⟩) [(0, 0), (1, 2), (2, 3), (3, 4), (4, 5), (5, 6), (6, 7)] [] rfl rfl rfl (.cons rfl rfl (.one (.same _ (by simp)) rfl) (of_decide_eq_true rfl) (.cons rfl rfl (.one (.same _ (by simp)) rfl) (of_decide_eq_true rfl) (.cons rfl rfl (.one (.same _ (by simp)) rfl) (of_decide_eq_true rfl) (.cons rfl rfl (.one (.same _ (by simp)) rfl) (of_decide_eq_true rfl) (.cons rfl rfl (.one (.same _ (by simp)) rfl) (of_decide_eq_true rfl) (.cons rfl rfl (.one (.same _ (by simp)) rfl) (of_decide_eq_true rfl) (.cons rfl rfl (.one (.same _ (by simp)) rfl) (of_decide_eq_true rfl) (trivial)))))))) ⟨⟨_, rfl, .ref rfl⟩, ⟨_, rfl, .ref rfl⟩, ⟨_, rfl, .ref rfl⟩, ⟨_, rfl, .ref rfl⟩, ⟨_, rfl, .ref rfl⟩, ⟨_, rfl, .ref rfl⟩, ⟨_, rfl, .ref rfl⟩, trivial⟩) ?_)
        clear hK16 K16
        refine awp_seqK fun K17 hK17 => ?_
        refine awp_any (by kernel_rfl) (by kernel_rfl) rfl ?_
        refine ARH.op (r := G.graph_Graph.av r57.1) rfl rfl (aop_load_ref rfl rfl rfl rfl sz24 rfl) ?_
        obtain ⟨r85, hr85, h⟩ := Sh.bind_some' h
        refine ARH.op (r := G.inquestref12_G.av r85) rfl rfl (aop_call1 rfl rfl (by simp) (inquestlaw12_Plain_ok hT hr85)) ?_
        refine ARH.op (r := G.graph_Graph.av a_0) rfl rfl (aop_load_ref rfl rfl rfl rfl sz24 rfl) ?_
        refine ARH.drop (frx := [(2, _), (14, _), (16, _), (18, _), (20, _), (22, _), (105, _), (106, _)]) ⟨rfl, rfl, rfl, rfl, rfl, rfl, rfl, rfl, trivial⟩ ?_
        obtain ⟨r86, hr86, h⟩ := Sh.bind_some' h
        refine ARH.op (r := G.inquestref12_G.av r86) rfl rfl (aop_call1 rfl rfl (by simp) (inquestlaw12_Plain_ok hT hr86)) ?_
        obtain ⟨r87, hr87, h⟩ := Sh.bind_some' h
        refine ARH.op (r := bl r87) rfl rfl (aop_call1 rfl rfl (by simp) (inquestref12_Same_ok hT hr87)) ?_
        refine ARH.dry (r := bl r87) rfl (fun _ => aop_move (.inl rfl) rfl) ?_
        refine ARH.drop (frx := [(2, _), (14, _), (16, _), (18, _), (20, _), (22, _), (109, _)]) ⟨rfl, rfl, rfl, rfl, rfl, rfl, rfl, trivial⟩ ?_
        rcases Bool.eq_false_or_eq_true (r87) with hb88 | hb88
        · rw [hb88]
          replace h := Sh.if_t h hb88
          refine ARH.op (r := G.graph_Graph.av r61.1) rfl rfl (aop_load_ref rfl rfl rfl rfl sz24 rfl) ?_
          obtain ⟨r89, hr89, h⟩ := Sh.bind_some' h
          refine ARH.op (r := G.inquestref12_G.av r89) rfl rfl (aop_call1 rfl rfl (by simp) (inquestlaw12_Plain_ok hT hr89)) ?_
          refine ARH.op (r := G.graph_Graph.av r63.1) rfl rfl (aop_load_ref rfl rfl rfl rfl sz24 rfl) ?_
          refine ARH.drop (frx := [(2, _), (18, _), (20, _), (22, _), (109, _), (111, _), (112, _)]) ⟨rfl, rfl, rfl, rfl, rfl, rfl, rfl, trivial⟩ ?_
          obtain ⟨r90, hr90, h⟩ := Sh.bind_some' h
          refine ARH.op (r := G.inquestref12_G.av r90) rfl rfl (aop_call1 rfl rfl (by simp) (inquestlaw12_Plain_ok hT hr90)) ?_
          obtain ⟨r91, hr91, h⟩ := Sh.bind_some' h
          refine ARH.op (r := bl r91) rfl rfl (aop_call1 rfl rfl (by simp) (inquestref12_Same_ok hT hr91)) ?_
          refine ARH.dry (r := bl r91) rfl (fun _ => aop_pick rfl rfl rfl) ?_
          refine ARH.drop (frx := [(2, _), (18, _), (20, _), (22, _), (115, _)]) ⟨rfl, rfl, rfl, rfl, rfl, trivial⟩ ?_
          refine ARH.dry (r := bl r91) rfl (fun _ => aop_move (.inl rfl) rfl) ?_
          rcases Bool.eq_false_or_eq_true (r91) with hb92 | hb92
          · rw [hb92]
            replace h := Sh.if_t h hb92
            refine ARH.op (r := G.graph_Graph.av r65.1) rfl rfl (aop_load_ref rfl rfl rfl rfl sz24 rfl) ?_
            obtain ⟨r93, hr93, h⟩ := Sh.bind_some' h
            refine ARH.op (r := G.inquestref12_G.av r93) rfl rfl (aop_call1 rfl rfl (by simp) (inquestlaw12_Plain_ok hT hr93)) ?_
            refine ARH.drop (frx := [(2, _), (20, _), (22, _), (116, _), (118, _)]) ⟨rfl, rfl, rfl, rfl, rfl, trivial⟩ ?_
            refine ARH.op (r := G.graph_Graph.av a_0) rfl rfl (aop_load_ref rfl rfl rfl rfl sz24 rfl) ?_
            obtain ⟨r94, hr94, h⟩ := Sh.bind_some' h
            refine ARH.op (r := G.inquestref12_G.av r94) rfl rfl (aop_call1 rfl rfl (by simp) (inquestlaw12_Plain_ok hT hr94)) ?_
            obtain ⟨r95, hr95, h⟩ := Sh.bind_some' h
            refine ARH.op (r := bl r95) rfl rfl (aop_call1 rfl rfl (by simp) (inquestref12_Same_ok hT hr95)) ?_
            refine ARH.drop (frx := [(20, _), (22, _), (116, _), (121, _)]) ⟨rfl, rfl, rfl, rfl, trivial⟩ ?_
            refine ARH.dry (r := bl r95) rfl (fun _ => aop_pick rfl rfl rfl) ?_
            refine ARH.dry (r := bl r95) rfl (fun _ => aop_move (.inl rfl) rfl) ?_
            rcases Bool.eq_false_or_eq_true (r95) with hb96 | hb96
            · rw [hb96]
              replace h := Sh.if_t h hb96
              refine ARH.op (r := G.graph_Graph.av r67.1) rfl rfl (aop_load_ref rfl rfl rfl rfl sz24 rfl) ?_
              refine ARH.drop (frx := [(22, _), (123, _), (124, _)]) ⟨rfl, rfl, rfl, trivial⟩ ?_
              obtain ⟨r97, hr97, h⟩ := Sh.bind_some' h
              refine ARH.op (r := G.inquestref12_G.av r97) rfl rfl (aop_call1 rfl rfl (by simp) (inquestlaw12_Plain_ok hT hr97)) ?_
              refine ARH.op (r := G.graph_Graph.av r69.1) rfl rfl (aop_load_ref rfl rfl rfl rfl sz24 rfl) ?_
              obtain ⟨r98, hr98, h⟩ := Sh.bind_some' h
              refine ARH.op (r := G.inquestref12_G.av r98) rfl rfl (aop_call1 rfl rfl (by simp) (inquestlaw12_Plain_ok hT hr98)) ?_
              refine ARH.drop (frx := [(123, _), (125, _), (127, _)]) ⟨rfl, rfl, rfl, trivial⟩ ?_
              obtain ⟨r99, hr99, h⟩ := Sh.bind_some' h
              refine ARH.op (r := bl r99) rfl rfl (aop_call1 rfl rfl (by simp) (inquestref12_Same_ok hT hr99)) ?_
              refine ARH.dry (r := bl r99) rfl (fun _ => aop_pick rfl rfl rfl) ?_
              refine ARH.dry (r := bl r99) rfl (fun _ => aop_move (.inr rfl) rfl) ?_
              refine ARH.nil ?_
              refine hK17 _ (AWP.weak (Weak.re (fr' := [(4, bl r99)]) (H' := .empty) [] [] rfl rfl rfl (trivial) ⟨⟨_, rfl, .same _ (by simp)⟩, trivial⟩) ?_)
              clear hK17 K17
              refine awp_ret ?_
              obtain rfl := Option.some.inj h
              refine ⟨.inr rfl, bl r99, rfl, ?_⟩
              exact Weak.re [] [] rfl rfl rfl (trivial) ⟨⟨_, rfl, .same _ (by simp)⟩, trivial⟩
            · rw [hb96]
              replace h := Sh.if_f h hb96
              refine ARH.skip rfl ?_
              refine ARH.drop (frx := [(22, _), (123, _), (124, _)]) ⟨rfl, rfl, rfl, trivial⟩ ?_
              refine ARH.skip rfl ?_
              refine ARH.skip rfl ?_
              refine ARH.skip rfl ?_
              refine ARH.drop (frx := [(123, _), (125, _), (127, _)]) ⟨rfl, rfl, rfl, trivial⟩ ?_
              refine ARH.skip rfl ?_
              refine ARH.dry (r := bl false) rfl (fun _ => aop_pick rfl rfl rfl) ?_
              refine ARH.dry (r := bl false) rfl (fun _ => aop_move (.inr rfl) rfl) ?_
              refine ARH.nil ?_
              refine hK17 _ (AWP.weak (Weak.re (fr' := [(4, bl false)]) (H' := .empty) [] [] rfl rfl rfl (trivial) ⟨⟨_, rfl, .same _ (by simp)⟩, trivial⟩) ?_)
              clear hK17 K17
              refine awp_ret ?_
              obtain rfl := Option.some.inj h
              refine ⟨.inr rfl, bl false, rfl, ?_⟩
              exact Weak.re [] [] rfl rfl rfl (trivial) ⟨⟨_, rfl, .same _ (by simp)⟩, trivial⟩
          · rw [hb92]
            replace h := Sh.if_f h hb92
            refine ARH.skip rfl ?_
            refine ARH.skip rfl ?_
            refine ARH.drop (frx := [(2, _), (20, _), (22, _), (116, _), (118, _)]) ⟨rfl, rfl, rfl, rfl, rfl, trivial⟩ ?_
            refine ARH.skip rfl ?_
            refine ARH.skip rfl ?_
            refine ARH.skip rfl ?_
            refine ARH.drop (frx := [(20, _), (22, _), (116, _), (121, _)]) ⟨rfl, rfl, rfl, rfl, trivial⟩ ?_
            refine ARH.dry (r := bl false) rfl (fun _ => aop_pick rfl rfl rfl) ?_
            refine ARH.dry (r := bl false) rfl (fun _ => aop_move (.inl rfl) rfl) ?_
            refine ARH.skip rfl ?_
            refine ARH.drop (frx := [(22, _), (123, _), (124, _)]) ⟨rfl, rfl, rfl, trivial⟩ ?_
            refine ARH.skip rfl ?_
            refine ARH.skip rfl ?_
            refine ARH.skip rfl ?_
            refine ARH.drop (frx := [(123, _), (125, _), (127, _)]) ⟨rfl, rfl, rfl, trivial⟩ ?_
            refine ARH.skip rfl ?_
            refine ARH.dry (r := bl false) rfl (fun _ => aop_pick rfl rfl rfl) ?_
            refine ARH.dry (r := bl false) rfl (fun _ => aop_move (.inr rfl) rfl) ?_
            refine ARH.nil ?_
            refine hK17 _ (AWP.weak (Weak.re (fr' := [(4, bl false)]) (H' := .empty) [] [] rfl rfl rfl (trivial) ⟨⟨_, rfl, .same _ (by simp)⟩, trivial⟩) ?_)
            clear hK17 K17
            refine awp_ret ?_
            obtain rfl := Option.some.inj h
            refine ⟨.inr rfl, bl false, rfl, ?_⟩
            exact Weak.re [] [] rfl rfl rfl (trivial) ⟨⟨_, rfl, .same _ (by simp)⟩, trivial⟩
        · rw [hb88]
          replace h := Sh.if_f h hb88
          refine ARH.skip rfl ?_
          refine ARH.skip rfl ?_
          refine ARH.skip rfl ?_
          refine ARH.drop (frx := [(2, _), (18, _), (20, _), (22, _), (109, _), (111, _), (112, _)]) ⟨rfl, rfl, rfl, rfl, rfl, rfl, rfl, trivial⟩ ?_
          refine ARH.skip rfl ?_
          refine ARH.skip rfl ?_
          refine ARH.dry (r := bl false) rfl (fun _ => aop_pick rfl rfl rfl) ?_
          refine ARH.drop (frx := [(2, _), (18, _), (20, _), (22, _), (115, _)]) ⟨rfl, rfl, rfl, rfl, rfl, trivial⟩ ?_
          refine ARH.dry (r := bl false) rfl (fun _ => aop_move (.inl rfl) rfl) ?_
          refine ARH.skip rfl ?_
          refine ARH.skip rfl ?_
          refine ARH.drop (frx := [(2, _), (20, _), (22, _), (116, _), (118, _)]) ⟨rfl, rfl, rfl, rfl, rfl, trivial⟩ ?_
          refine ARH.skip rfl ?_
          refine ARH.skip rfl ?_
          refine ARH.skip rfl ?_
          refine ARH.drop (frx := [(20, _), (22, _), (116, _), (121, _)]) ⟨rfl, rfl, rfl, rfl, trivial⟩ ?_
          refine ARH.dry (r := bl false) rfl (fun _ => aop_pick rfl rfl rfl) ?_
          refine ARH.dry (r := bl false) rfl (fun _ => aop_move (.inl rfl) rfl) ?_
          refine ARH.skip rfl ?_
          refine ARH.drop (frx := [(22, _), (123, _), (124, _)]) ⟨rfl, rfl, rfl, trivial⟩ ?_
          refine ARH.skip rfl ?_
          refine ARH.skip rfl ?_
          refine ARH.skip rfl ?_
          refine ARH.drop (frx := [(123, _), (125, _), (127, _)]) ⟨rfl, rfl, rfl, trivial⟩ ?_
          refine ARH.skip rfl ?_
          refine ARH.dry (r := bl false) rfl (fun _ => aop_pick rfl rfl rfl) ?_
          refine ARH.dry (r := bl false) rfl (fun _ => aop_move (.inr rfl) rfl) ?_
          refine ARH.nil ?_
          refine hK17 _ (AWP.weak (Weak.re (fr' := [(4, bl false)]) (H' := .empty) [] [] rfl rfl rfl (trivial) ⟨⟨_, rfl, .same _ (by simp)⟩, trivial⟩) ?_)
          clear hK17 K17
          refine awp_ret ?_
          obtain rfl := Option.some.inj h
          refine ⟨.inr rfl, bl false, rfl, ?_⟩
          exact Weak.re [] [] rfl rfl rfl (trivial) ⟨⟨_, rfl, .same _ (by simp)⟩, trivial⟩
    · intro K18 hK18
      refine awp_reg rfl ?_
      refine AR.op rfl (aop_field_ref rfl rfl rfl fd24_1 (by decide)) ?_
      refine AR.op (r := .sl (List.map u64 a_0.Rows)) rfl (aop_load_ref rfl rfl rfl rfl sz22 rfl) ?_
      refine AR.op (r := i64 (Sh.len a_0.Rows)) rfl (t_len_sl u64 a_0.Rows rfl rfl el22) ?_
      refine AR.drop (frx := [(2, _), (3, _), (29, _)]) ⟨rfl, rfl, rfl, trivial⟩ ?_
      refine AR.op (r := bl (decide ((70 : Int) < (Sh.len a_0.Rows)))) rfl (aop_gtr rfl rfl rfl) ?_
      refine AR.op (r := bl (decide ((70 : Int) < (Sh.len a_0.Rows)))) rfl (aop_move (.inl rfl) rfl) ?_
      rcases Bool.eq_false_or_eq_true (decide ((70 : Int) < (Sh.len a_0.Rows))) with hb100 | hb100
      · rw [hb100]
        replace h := Sh.if_t h hb100
        refine AR.skip rfl ?_
        refine AR.drop (frx := [(2, _), (3, _), (31, _), (32, _)]) ⟨rfl, rfl, rfl, rfl, trivial⟩ ?_
        refine AR.skip rfl ?_
        refine AR.skip rfl ?_
        refine AR.skip rfl ?_
        refine AR.drop (frx := [(2, _), (3, _), (31, _), (35, _)]) ⟨rfl, rfl, rfl, rfl, trivial⟩ ?_
        refine AR.op (r := bl true) rfl (aop_pick rfl rfl rfl) ?_
        refine AR.op (r := bl true) rfl (aop_move (.inl rfl) rfl) ?_
        refine AR.skip rfl ?_
        refine AR.drop (frx := [(2, _), (3, _), (37, _), (38, _)]) ⟨rfl, rfl, rfl, rfl, trivial⟩ ?_
        refine AR.skip rfl ?_
        refine AR.skip rfl ?_
        refine AR.op (r := bl true) rfl (aop_pick rfl rfl rfl) ?_
        refine AR.drop (frx := [(2, _), (3, _), (41, _)]) ⟨rfl, rfl, rfl, trivial⟩ ?_
        refine AR.op (r := bl true) rfl (aop_move (.inl rfl) rfl) ?_
        refine AR.skip rfl ?_
        refine AR.skip rfl ?_
        refine AR.drop (frx := [(2, _), (3, _), (42, _), (44, _)]) ⟨rfl, rfl, rfl, rfl, trivial⟩ ?_
        refine AR.skip rfl ?_
        refine AR.op (r := bl true) rfl (aop_pick rfl rfl rfl) ?_
        refine AR.op (r := bl true) rfl (aop_move (.inl rfl) rfl) ?_
        refine AR.drop (frx := [(2, _), (3, _), (47, _)]) ⟨rfl, rfl, rfl, trivial⟩ ?_
        refine AR.skip rfl ?_
        refine AR.skip rfl ?_
        refine AR.skip rfl ?_
        refine AR.drop (frx := [(2, _), (3, _), (47, _), (49, _), (50, _)]) ⟨rfl, rfl, rfl, rfl, rfl, trivial⟩ ?_
        refine AR.skip rfl ?_
        refine AR.skip rfl ?_
        refine AR.op (r := bl true) rfl (aop_pick rfl rfl rfl) ?_
        refine AR.nil ?_
        exact hK18 true _ h (Weak.re (fr' := [(2, .ref 0 0 0), (3, .ref 1 0 0), (53, bl true)]) (H' := ⟨2, [(0, (2, [G.graph_Graph.av a_0])), (1, (2, [G.graph_Graph.av b_1]))]⟩) [(0, 0), (1, 1)] [] rfl rfl rfl (.cons rfl rfl (.one (.same _ (by simp)) rfl) (of_decide_eq_true rfl) (.cons rfl rfl (.one (.same _ (by simp)) rfl) (of_decide_eq_true rfl) (trivial))) ⟨⟨_, rfl, .ref rfl⟩, ⟨_, rfl, .ref rfl⟩, ⟨_, rfl, .same _ (by simp)⟩, trivial⟩)
      · rw [hb100]
        replace h := Sh.if_f h hb100
        refine AR.op rfl (aop_field_ref rfl rfl rfl fd24_1 (by decide)) ?_
        refine AR.drop (frx := [(2, _), (3, _), (31, _), (32, _)]) ⟨rfl, rfl, rfl, rfl, trivial⟩ ?_
        refine AR.op (r := .sl (List.map u64 b_1.Rows)) rfl (aop_load_ref rfl rfl rfl rfl sz22 rfl) ?_
        refine AR.op (r := i64 (Sh.len b_1.Rows)) rfl (t_len_sl u64 b_1.Rows rfl rfl el22) ?_
        refine AR.op (r := bl (decide ((70 : Int) < (Sh.len b_1.Rows)))) rfl (aop_gtr rfl rfl rfl) ?_
        refine AR.drop (frx := [(2, _), (3, _), (31, _), (35, _)]) ⟨rfl, rfl, rfl, rfl, trivial⟩ ?_
        refine AR.op (r := bl (decide ((70 : Int) < (Sh.len b_1.Rows)))) rfl (aop_pick rfl rfl rfl) ?_
        refine AR.op (r := bl (decide ((70 : Int) < (Sh.len b_1.Rows)))) rfl (aop_move (.inl rfl) rfl) ?_
        rcases Bool.eq_false_or_eq_true (decide ((70 : Int) < (Sh.len b_1.Rows))) with hb101 | hb101
        · rw [hb101]
          replace h := Sh.if_t h hb101
          refine AR.skip rfl ?_
          refine AR.drop (frx := [(2, _), (3, _), (37, _), (38, _)]) ⟨rfl, rfl, rfl, rfl, trivial⟩ ?_
          refine AR.skip rfl ?_
          refine AR.skip rfl ?_
          refine AR.op (r := bl true) rfl (aop_pick rfl rfl rfl) ?_
          refine AR.drop (frx := [(2, _), (3, _), (41, _)]) ⟨rfl, rfl, rfl, trivial⟩ ?_
          refine AR.op (r := bl true) rfl (aop_move (.inl rfl) rfl) ?_
          refine AR.skip rfl ?_
          refine AR.skip rfl ?_
          refine AR.drop (frx := [(2, _), (3, _), (42, _), (44, _)]) ⟨rfl, rfl, rfl, rfl, trivial⟩ ?_
          refine AR.skip rfl ?_
          refine AR.op (r := bl true) rfl (aop_pick rfl rfl rfl) ?_
          refine AR.op (r := bl true) rfl (aop_move (.inl rfl) rfl) ?_
          refine AR.drop (frx := [(2, _), (3, _), (47, _)]) ⟨rfl, rfl, rfl, trivial⟩ ?_
          refine AR.skip rfl ?_
          refine AR.skip rfl ?_
          refine AR.skip rfl ?_
          refine AR.drop (frx := [(2, _), (3, _), (47, _), (49, _), (50, _)]) ⟨rfl, rfl, rfl, rfl, rfl, trivial⟩ ?_
          refine AR.skip rfl ?_
          refine AR.skip rfl ?_
          refine AR.op (r := bl true) rfl (aop_pick rfl rfl rfl) ?_
          refine AR.nil ?_
          exact hK18 true _ h (Weak.re (fr' := [(2, .ref 0 0 0), (3, .ref 1 0 0), (53, bl true)]) (H' := ⟨2, [(0, (2, [G.graph_Graph.av a_0])), (1, (2, [G.graph_Graph.av b_1]))]⟩) [(0, 0), (1, 1)] [] rfl rfl rfl (.cons rfl rfl (.one (.same _ (by simp)) rfl) (of_decide_eq_true rfl) (.cons rfl rfl (.one (.same _ (by simp)) rfl) (of_decide_eq_true rfl) (trivial))) ⟨⟨_, rfl, .ref rfl⟩, ⟨_, rfl, .ref rfl⟩, ⟨_, rfl, .same _ (by simp)⟩, trivial⟩)
        · rw [hb101]
          replace h := Sh.if_f h hb101
          refine AR.op (r := G.graph_Graph.av a_0) rfl (aop_load_ref rfl rfl rfl rfl sz24 rfl) ?_
          refine AR.drop (frx := [(2, _), (3, _), (37, _), (38, _)]) ⟨rfl, rfl, rfl, rfl, trivial⟩ ?_
          obtain ⟨r102, hr102, h⟩ := Sh.bind_some' h
          refine AR.op (r := bl r102) rfl (aop_call1 rfl rfl (by simp) (graph_Right_ok hT hr102)) ?_
          refine AR.op (r := bl (!r102)) rfl (aop_not rfl rfl) ?_
          refine AR.op (r := bl (!r102)) rfl (aop_pick rfl rfl rfl) ?_
          refine AR.drop (frx := [(2, _), (3, _), (41, _)]) ⟨rfl, rfl, rfl, trivial⟩ ?_
          refine AR.op (r := bl (!r102)) rfl (aop_move (.inl rfl) rfl) ?_
          rcases Bool.eq_false_or_eq_true (!r102) with hb103 | hb103
          · rw [hb103]
            replace h := Sh.if_t h hb103
            refine AR.skip rfl ?_
            refine AR.skip rfl ?_
            refine AR.drop (frx := [(2, _), (3, _), (42, _), (44, _)]) ⟨rfl, rfl, rfl, rfl, trivial⟩ ?_
            refine AR.skip rfl ?_
            refine AR.op (r := bl true) rfl (aop_pick rfl rfl rfl) ?_
            refine AR.op (r := bl true) rfl (aop_move (.inl rfl) rfl) ?_
            refine AR.drop (frx := [(2, _), (3, _), (47, _)]) ⟨rfl, rfl, rfl, trivial⟩ ?_
            refine AR.skip rfl ?_
            refine AR.skip rfl ?_
            refine AR.skip rfl ?_
            refine AR.drop (frx := [(2, _), (3, _), (47, _), (49, _), (50, _)]) ⟨rfl, rfl, rfl, rfl, rfl, trivial⟩ ?_
            refine AR.skip rfl ?_
            refine AR.skip rfl ?_
            refine AR.op (r := bl true) rfl (aop_pick rfl rfl rfl) ?_
            refine AR.nil ?_
            exact hK18 true _ h (Weak.re (fr' := [(2, .ref 0 0 0), (3, .ref 1 0 0), (53, bl true)]) (H' := ⟨2, [(0, (2, [G.graph_Graph.av a_0])), (1, (2, [G.graph_Graph.av b_1]))]⟩) [(0, 0), (1, 1)] [] rfl rfl rfl (.cons rfl rfl (.one (.same _ (by simp)) rfl) (of_decide_eq_true rfl) (.cons rfl rfl (.one (.same _ (by simp)) rfl) (of_decide_eq_true rfl) (trivial))) ⟨⟨_, rfl, .ref rfl⟩, ⟨_, rfl, .ref rfl⟩, ⟨_, rfl, .same _ (by simp)⟩, trivial⟩)
          · rw [hb103]
            replace h := Sh.if_f h hb103
            refine AR.op (r := G.graph_Graph.av b_1) rfl (aop_load_ref rfl rfl rfl rfl sz24 rfl) ?_
            obtain ⟨r104, hr104, h⟩ := Sh.bind_some' h
            refine AR.op (r := bl r104) rfl (aop_call1 rfl rfl (by simp) (graph_Right_ok hT hr104)) ?_
            refine AR.drop (frx := [(2, _), (3, _), (42, _), (44, _)]) ⟨rfl, rfl, rfl, rfl, trivial⟩ ?_
            refine AR.op (r := bl (!r104)) rfl (aop_not rfl rfl) ?_
            refine AR.op (r := bl (!r104)) rfl (aop_pick rfl rfl rfl) ?_
            refine AR.op (r := bl (!r104)) rfl (aop_move (.inl rfl) rfl) ?_
            refine AR.drop (frx := [(2, _), (3, _), (47, _)]) ⟨rfl, rfl, rfl, trivial⟩ ?_
            rcases Bool.eq_false_or_eq_true (!r104) with hb105 | hb105
            · rw [hb105]
              replace h := Sh.if_t h hb105
              refine AR.skip rfl ?_
              refine AR.skip rfl ?_
              refine AR.skip rfl ?_
              refine AR.drop (frx := [(2, _), (3, _), (47, _), (49, _), (50, _)]) ⟨rfl, rfl, rfl, rfl, rfl, trivial⟩ ?_
              refine AR.skip rfl ?_
              refine AR.skip rfl ?_
              refine AR.op (r := bl true) rfl (aop_pick rfl rfl rfl) ?_
              refine AR.nil ?_
              exact hK18 true _ h (Weak.re (fr' := [(2, .ref 0 0 0), (3, .ref 1 0 0), (53, bl true)]) (H' := ⟨2, [(0, (2, [G.graph_Graph.av a_0])), (1, (2, [G.graph_Graph.av b_1]))]⟩) [(0, 0), (1, 1)] [] rfl rfl rfl (.cons rfl rfl (.one (.same _ (by simp)) rfl) (of_decide_eq_true rfl) (.cons rfl rfl (.one (.same _ (by simp)) rfl) (of_decide_eq_true rfl) (trivial))) ⟨⟨_, rfl, .ref rfl⟩, ⟨_, rfl, .ref rfl⟩, ⟨_, rfl, .same _ (by simp)⟩, trivial⟩)
            · rw [hb105]
              replace h := Sh.if_f h hb105
              refine AR.op rfl (aop_field_ref rfl rfl rfl fd24_0 (by decide)) ?_
              refine AR.op (r := i64 a_0.N) rfl (aop_load_ref rfl rfl rfl rfl sz3 rfl) ?_
              refine AR.op rfl (aop_field_ref rfl rfl rfl fd24_0 (by decide)) ?_
              refine AR.drop (frx := [(2, _), (3, _), (47, _), (49, _), (50, _)]) ⟨rfl, rfl, rfl, rfl, rfl, trivial⟩ ?_
              refine AR.op (r := i64 b_1.N) rfl (aop_load_ref rfl rfl rfl rfl sz3 rfl) ?_
              refine AR.op (r := bl (decide (a_0.N ≠ b_1.N))) rfl (aop_neq rfl rfl rfl) ?_
              refine AR.op (r := bl (decide (a_0.N ≠ b_1.N))) rfl (aop_pick rfl rfl rfl) ?_
              refine AR.nil ?_
              exact hK18 (decide (a_0.N ≠ b_1.N)) _ h (Weak.re (fr' := [(2, .ref 0 0 0), (3, .ref 1 0 0), (53, bl (decide (a_0.N ≠ b_1.N)))]) (H' := ⟨2, [(0, (2, [G.graph_Graph.av a_0])), (1, (2, [G.graph_Graph.av b_1]))]⟩) [(0, 0), (1, 1)] [] rfl rfl rfl (.cons rfl rfl (.one (.same _ (by simp)) rfl) (of_decide_eq_true rfl) (.cons rfl rfl (.one (.same _ (by simp)) rfl) (of_decide_eq_true rfl) (trivial))) ⟨⟨_, rfl, .ref rfl⟩, ⟨_, rfl, .ref rfl⟩, ⟨_, rfl, .same _ (by simp)⟩, trivial⟩)
theorem inquestlaw12_GraphTurns_ok {W0 : World} (hT : Tab W0) {a_0 : G.graph_Graph} {b_1 : G.graph_Graph} {r : Bool} (h : G.inquestlaw12_GraphTurns a_0 b_1 = some r) : Fun1 Tryd.prog W0 8 [G.graph_Graph.av a_0, G.graph_Graph.av b_1] (bl r) := Fun1.two (inquestlaw12_GraphTurns_ok0 hT h) (by simp)

end Wk
