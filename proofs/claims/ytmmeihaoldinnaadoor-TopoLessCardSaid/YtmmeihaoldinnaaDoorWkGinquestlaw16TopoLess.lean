/- That a statement does what its plain function says. -/
import Derived.Test.YtmmeihaoldinnaaDoorWkGinquestlaw16
open Go Go.Av Go.Proofs
set_option linter.unusedVariables false
namespace Wk
set_option maxHeartbeats 8000000 in
theorem inquestlaw16_TopoLess_ok0 {W0 : World} (hT : Tab W0) {g_0 : G.graph_Graph} {more_1 : G.graph_Graph} {r : Bool} (h : G.inquestlaw16_TopoLess g_0 more_1 = some r) : Fun2 Tryd.prog W0 14 [G.graph_Graph.av g_0, G.graph_Graph.av more_1] (bl r) .empty := by
  refine fun2_of_awp Tryd.func14 rfl (by kernel_rfl) Tryd.ntmps14 (by simp) ?_
  unfold G.inquestlaw16_TopoLess at h
  show AWP _ _ _ _ ⟨[(0, G.graph_Graph.av g_0), (1, G.graph_Graph.av more_1)], .empty⟩ _
  refine awp_seqK fun K1 hK1 => ?_
  refine awp_reg rfl ?_
  refine AR.op (r := .ref 0 0 0) rfl (aop_box 2 [G.graph_Graph.av g_0] rfl rfl rfl (.inl ⟨rfl, rfl⟩)) ?_
  refine AR.op (r := .ref 1 0 0) rfl (aop_box 2 [G.graph_Graph.av more_1] rfl rfl rfl (.inl ⟨rfl, rfl⟩)) ?_
  refine AR.op (r := bl false) rfl (aop_move (.inr rfl) rfl) ?_
  refine AR.nil ?_
  refine hK1 _ (AWP.weak (Weak.re (fr' := [(2, .ref 0 0 0), (3, .ref 1 0 0)]) (H' := ⟨2, [(0, (2, [G.graph_Graph.av g_0])), (1, (2, [G.graph_Graph.av more_1]))]⟩) [(0, 0), (1, 1)] [] rfl rfl rfl (.cons rfl rfl (.one (.same _ (by simp)) rfl) (of_decide_eq_true rfl) (.cons rfl rfl (.one (.same _ (by simp)) rfl) (of_decide_eq_true rfl) (trivial))) ⟨⟨_, rfl, .ref rfl⟩, ⟨_, rfl, .ref rfl⟩, trivial⟩) ?_)
  clear hK1 K1
  refine awp_seqK fun K2 hK2 => ?_
  refine awp_reg rfl ?_
  obtain ⟨r16, hr16, h⟩ := Sh.bind_some' h
  refine AR.op (r := bl r16) rfl (aop_call1 rfl rfl (by simp) (inquestlaw16_awake_ok hT hr16)) ?_
  refine AR.op (r := bl r16) rfl (aop_move (.inr rfl) rfl) ?_
  refine AR.nil ?_
  refine hK2 _ (AWP.weak (Weak.re (fr' := [(2, .ref 0 0 0), (3, .ref 1 0 0), (5, bl r16)]) (H' := ⟨2, [(0, (2, [G.graph_Graph.av g_0])), (1, (2, [G.graph_Graph.av more_1]))]⟩) [(0, 0), (1, 1)] [] rfl rfl rfl (.cons rfl rfl (.one (.same _ (by simp)) rfl) (of_decide_eq_true rfl) (.cons rfl rfl (.one (.same _ (by simp)) rfl) (of_decide_eq_true rfl) (trivial))) ⟨⟨_, rfl, .ref rfl⟩, ⟨_, rfl, .ref rfl⟩, ⟨_, rfl, .same _ (by simp)⟩, trivial⟩) ?_)
  clear hK2 K2
  refine awp_seqK fun K3 hK3 => ?_
  refine awp_seqK fun K4 hK4 => ?_
  refine awp_reg rfl ?_
  refine AR.op (r := bl r16) rfl (aop_move (.inl rfl) rfl) ?_
  refine AR.op (r := bl (!r16)) rfl (aop_not rfl rfl) ?_
  refine AR.nil ?_
  refine hK4 _ (AWP.weak (Weak.re (fr' := [(2, .ref 0 0 0), (3, .ref 1 0 0), (14, bl (!r16))]) (H' := ⟨2, [(0, (2, [G.graph_Graph.av g_0])), (1, (2, [G.graph_Graph.av more_1]))]⟩) [(0, 0), (1, 1)] [] rfl rfl rfl (.cons rfl rfl (.one (.same _ (by simp)) rfl) (of_decide_eq_true rfl) (.cons rfl rfl (.one (.same _ (by simp)) rfl) (of_decide_eq_true rfl) (trivial))) ⟨⟨_, rfl, .ref rfl⟩, ⟨_, rfl, .ref rfl⟩, ⟨_, rfl, .same _ (by simp)⟩, trivial⟩) ?_)
  clear hK4 K4
  refine awp_cond rfl (fun hb17 => ?_) (fun hb17 => ?_)
  · replace h := Sh.if_t h hb17
    refine awp_seqK fun K5 hK5 => ?_
    refine awp_reg rfl ?_
    refine AR.op (r := bl false) rfl (aop_move (.inr rfl) rfl) ?_
    refine AR.nil ?_
    refine hK5 _ (AWP.weak (Weak.re (fr' := [(4, bl false)]) (H' := .empty) [] [] rfl rfl rfl (trivial) ⟨⟨_, rfl, .same _ (by simp)⟩, trivial⟩) ?_)
    clear hK5 K5
    refine awp_ret ?_
    obtain rfl := Option.some.inj h
    refine ⟨.inr rfl, bl false, rfl, ?_⟩
    exact Weak.re [] [] rfl rfl rfl (trivial) ⟨⟨_, rfl, .same _ (by simp)⟩, trivial⟩
  · replace h := Sh.if_f h hb17
    refine awp_skip ?_
    refine hK3 _ (AWP.weak (Weak.re (fr' := [(2, .ref 0 0 0), (3, .ref 1 0 0)]) (H' := ⟨2, [(0, (2, [G.graph_Graph.av g_0])), (1, (2, [G.graph_Graph.av more_1]))]⟩) [(0, 0), (1, 1)] [] rfl rfl rfl (.cons rfl rfl (.one (.same _ (by simp)) rfl) (of_decide_eq_true rfl) (.cons rfl rfl (.one (.same _ (by simp)) rfl) (of_decide_eq_true rfl) (trivial))) ⟨⟨_, rfl, .ref rfl⟩, ⟨_, rfl, .ref rfl⟩, trivial⟩) ?_)
    clear hK3 K3
    refine awp_seqK fun K6 hK6 => ?_
    refine awp_seqJ (fun (p : Bool) => (⟨[(2, .ref 0 0 0), (3, .ref 1 0 0), (24, bl p)], ⟨2, [(0, (2, [G.graph_Graph.av g_0])), (1, (2, [G.graph_Graph.av more_1]))]⟩⟩ : St)) (fun (p : Bool) => G.inquestlaw16_TopoLess_j1 g_0 more_1 p = some r) ?_ ?_
    · rintro v21 h
      replace h : G.inquestlaw16_TopoLess_j1 g_0 more_1 v21 = some r := h
      unfold G.inquestlaw16_TopoLess_j1 at h
      show AWP _ _ _ _ ⟨[(2, .ref 0 0 0), (3, .ref 1 0 0), (24, bl v21)], ⟨2, [(0, (2, [G.graph_Graph.av g_0])), (1, (2, [G.graph_Graph.av more_1]))]⟩⟩ _
      refine awp_cond rfl (fun hb22 => ?_) (fun hb22 => ?_)
      · replace h := Sh.if_t h hb22
        refine awp_seqK fun K7 hK7 => ?_
        refine awp_reg rfl ?_
        refine AR.op (r := bl true) rfl (aop_move (.inr rfl) rfl) ?_
        refine AR.nil ?_
        refine hK7 _ (AWP.weak (Weak.re (fr' := [(4, bl true)]) (H' := .empty) [] [] rfl rfl rfl (trivial) ⟨⟨_, rfl, .same _ (by simp)⟩, trivial⟩) ?_)
        clear hK7 K7
        refine awp_ret ?_
        obtain rfl := Option.some.inj h
        refine ⟨.inr rfl, bl true, rfl, ?_⟩
        exact Weak.re [] [] rfl rfl rfl (trivial) ⟨⟨_, rfl, .same _ (by simp)⟩, trivial⟩
      · replace h := Sh.if_f h hb22
        refine awp_skip ?_
        refine hK6 _ (AWP.weak (Weak.re (fr' := [(2, .ref 0 0 0), (3, .ref 1 0 0)]) (H' := ⟨2, [(0, (2, [G.graph_Graph.av g_0])), (1, (2, [G.graph_Graph.av more_1]))]⟩) [(0, 0), (1, 1)] [] rfl rfl rfl (.cons rfl rfl (.one (.same _ (by simp)) rfl) (of_decide_eq_true rfl) (.cons rfl rfl (.one (.same _ (by simp)) rfl) (of_decide_eq_true rfl) (trivial))) ⟨⟨_, rfl, .ref rfl⟩, ⟨_, rfl, .ref rfl⟩, trivial⟩) ?_)
        clear hK6 K6
        refine awp_seqK fun K8 hK8 => ?_
        refine awp_reg rfl ?_
        refine AR.op (r := G.graph_Graph.av g_0) rfl (aop_load_ref rfl rfl rfl rfl sz24 rfl) ?_
        refine AR.op (r := G.graph_Graph.av more_1) rfl (aop_load_ref rfl rfl rfl rfl sz24 rfl) ?_
        obtain ⟨r24, hr24, h⟩ := Sh.bind_some' h
        refine AR.op (r := .tuple [G.graph_Graph.av r24.1, i64 r24.2]) rfl (aop_call1 rfl rfl (by simp) (graph_Union_ok hT hr24)) ?_
        refine AR.drop (frx := [(2, _), (3, _), (28, _)]) ⟨rfl, rfl, rfl, trivial⟩ ?_
        refine AR.op (r := .tuple [G.graph_Graph.av r24.1, i64 r24.2]) rfl (aop_move (.inl rfl) rfl) ?_
        refine AR.op (r := G.graph_Graph.av r24.1) rfl (aop_extract rfl rfl rfl) ?_
        refine AR.op (r := i64 r24.2) rfl (aop_extract rfl rfl rfl) ?_
        refine AR.drop (frx := [(2, _), (3, _), (29, _), (30, _)]) ⟨rfl, rfl, rfl, rfl, trivial⟩ ?_
        refine AR.op (r := .ref 2 0 0) rfl (aop_alloc 2 [.agg [i64 0, nilS]] rfl zr24 (by kernel_rfl) (.inl ⟨rfl, rfl⟩)) ?_
        refine AR.op rfl (aop_store (e' := G.graph_Graph.av r24.1) rfl rfl rfl rfl rfl rfl sz24 rfl (of_decide_eq_true rfl) rfl) ?_
        refine AR.op (r := i64 r24.2) rfl (aop_move (.inr rfl) rfl) ?_
        refine AR.nil ?_
        refine hK8 _ (AWP.weak (Weak.re (fr' := [(2, .ref 0 0 0), (3, .ref 1 0 0), (6, .ref 2 0 0), (7, i64 r24.2)]) (H' := ⟨3, [(0, (2, [G.graph_Graph.av g_0])), (1, (2, [G.graph_Graph.av more_1])), (2, (2, [G.graph_Graph.av r24.1]))]⟩) [(0, 0), (1, 1), (2, 2)] [] rfl rfl rfl (.cons rfl rfl (.one (.same _ (by simp)) rfl) (of_decide_eq_true rfl) (.cons rfl rfl (.one (.same _ (by simp)) rfl) (of_decide_eq_true rfl) (.cons rfl rfl (.one (.same _ (by simp)) rfl) (of_decide_eq_true rfl) (trivial)))) ⟨⟨_, rfl, .ref rfl⟩, ⟨_, rfl, .ref rfl⟩, ⟨_, rfl, .ref rfl⟩, ⟨_, rfl, .same _ (by simp)⟩, trivial⟩) ?_)
        clear hK8 K8
        refine awp_seqK fun K9 hK9 => ?_
        refine awp_seqK fun K10 hK10 => ?_
        refine awp_reg rfl ?_
        refine AR.op (r := i64 r24.2) rfl (aop_move (.inl rfl) rfl) ?_
        refine AR.op (r := bl (decide (r24.2 ≠ 0))) rfl (aop_neq rfl rfl rfl) ?_
        refine AR.nil ?_
        refine hK10 _ (AWP.weak (Weak.re (fr' := [(2, .ref 0 0 0), (3, .ref 1 0 0), (6, .ref 2 0 0), (32, bl (decide (r24.2 ≠ 0)))]) (H' := ⟨3, [(0, (2, [G.graph_Graph.av g_0])), (1, (2, [G.graph_Graph.av more_1])), (2, (2, [G.graph_Graph.av r24.1]))]⟩) [(0, 0), (1, 1), (2, 2)] [] rfl rfl rfl (.cons rfl rfl (.one (.same _ (by simp)) rfl) (of_decide_eq_true rfl) (.cons rfl rfl (.one (.same _ (by simp)) rfl) (of_decide_eq_true rfl) (.cons rfl rfl (.one (.same _ (by simp)) rfl) (of_decide_eq_true rfl) (trivial)))) ⟨⟨_, rfl, .ref rfl⟩, ⟨_, rfl, .ref rfl⟩, ⟨_, rfl, .ref rfl⟩, ⟨_, rfl, .same _ (by simp)⟩, trivial⟩) ?_)
        clear hK10 K10
        refine awp_cond rfl (fun hb25 => ?_) (fun hb25 => ?_)
        · replace h := Sh.if_t h hb25
          refine awp_seqK fun K11 hK11 => ?_
          refine awp_reg rfl ?_
          refine AR.op (r := bl true) rfl (aop_move (.inr rfl) rfl) ?_
          refine AR.nil ?_
          refine hK11 _ (AWP.weak (Weak.re (fr' := [(4, bl true)]) (H' := .empty) [] [] rfl rfl rfl (trivial) ⟨⟨_, rfl, .same _ (by simp)⟩, trivial⟩) ?_)
          clear hK11 K11
          refine awp_ret ?_
          obtain rfl := Option.some.inj h
          refine ⟨.inr rfl, bl true, rfl, ?_⟩
          exact Weak.re [] [] rfl rfl rfl (trivial) ⟨⟨_, rfl, .same _ (by simp)⟩, trivial⟩
        · replace h := Sh.if_f h hb25
          refine awp_skip ?_
          refine hK9 _ (AWP.weak (Weak.re (fr' := [(2, .ref 0 0 0), (3, .ref 1 0 0), (6, .ref 2 0 0)]) (H' := ⟨3, [(0, (2, [G.graph_Graph.av g_0])), (1, (2, [G.graph_Graph.av more_1])), (2, (2, [G.graph_Graph.av r24.1]))]⟩) [(0, 0), (1, 1), (2, 2)] [] rfl rfl rfl (.cons rfl rfl (.one (.same _ (by simp)) rfl) (of_decide_eq_true rfl) (.cons rfl rfl (.one (.same _ (by simp)) rfl) (of_decide_eq_true rfl) (.cons rfl rfl (.one (.same _ (by simp)) rfl) (of_decide_eq_true rfl) (trivial)))) ⟨⟨_, rfl, .ref rfl⟩, ⟨_, rfl, .ref rfl⟩, ⟨_, rfl, .ref rfl⟩, trivial⟩) ?_)
          clear hK9 K9
          refine awp_seqK fun K12 hK12 => ?_
          refine awp_reg rfl ?_
          refine AR.op (r := G.graph_Graph.av r24.1) rfl (aop_load_ref rfl rfl rfl rfl sz24 rfl) ?_
          obtain ⟨r27, hr27, h⟩ := Sh.bind_some' h
          refine AR.op (r := .tuple [.sl (List.map i64 r27.1), bl r27.2]) rfl (aop_call1 rfl rfl (by simp) (topo_Order_ok hT hr27)) ?_
          refine AR.op (r := .tuple [.sl (List.map i64 r27.1), bl r27.2]) rfl (aop_move (.inl rfl) rfl) ?_
          refine AR.drop (frx := [(2, _), (3, _), (6, _), (33, _)]) ⟨rfl, rfl, rfl, rfl, trivial⟩ ?_
          refine AR.op (r := .sl (List.map i64 r27.1)) rfl (aop_extract rfl rfl rfl) ?_
          refine AR.op (r := bl r27.2) rfl (aop_extract rfl rfl rfl) ?_
          refine AR.op (r := .sl (List.map i64 r27.1)) rfl (aop_move (.inr rfl) rfl) ?_
          refine AR.drop (frx := [(2, _), (3, _), (6, _), (37, _), (8, _)]) ⟨rfl, rfl, rfl, rfl, rfl, trivial⟩ ?_
          refine AR.op (r := bl r27.2) rfl (aop_move (.inr rfl) rfl) ?_
          refine AR.nil ?_
          refine hK12 _ (AWP.weak (Weak.re (fr' := [(2, .ref 0 0 0), (3, .ref 1 0 0), (6, .ref 2 0 0), (8, .sl (List.map i64 r27.1)), (9, bl r27.2)]) (H' := ⟨3, [(0, (2, [G.graph_Graph.av g_0])), (1, (2, [G.graph_Graph.av more_1])), (2, (2, [G.graph_Graph.av r24.1]))]⟩) [(0, 0), (1, 1), (2, 2)] [] rfl rfl rfl (.cons rfl rfl (.one (.same _ (by simp)) rfl) (of_decide_eq_true rfl) (.cons rfl rfl (.one (.same _ (by simp)) rfl) (of_decide_eq_true rfl) (.cons rfl rfl (.one (.same _ (by simp)) rfl) (of_decide_eq_true rfl) (trivial)))) ⟨⟨_, rfl, .ref rfl⟩, ⟨_, rfl, .ref rfl⟩, ⟨_, rfl, .ref rfl⟩, ⟨.sl (List.map i64 r27.1), rfl, .same _ (by simp)⟩, ⟨_, rfl, .same _ (by simp)⟩, trivial⟩) ?_)
          clear hK12 K12
          refine awp_seqK fun K13 hK13 => ?_
          refine awp_seqK fun K14 hK14 => ?_
          refine awp_reg rfl ?_
          refine AR.op (r := bl r27.2) rfl (aop_move (.inl rfl) rfl) ?_
          refine AR.op (r := bl (!r27.2)) rfl (aop_not rfl rfl) ?_
          refine AR.nil ?_
          refine hK14 _ (AWP.weak (Weak.re (fr' := [(2, .ref 0 0 0), (3, .ref 1 0 0), (6, .ref 2 0 0), (8, .sl (List.map i64 r27.1)), (39, bl (!r27.2))]) (H' := ⟨3, [(0, (2, [G.graph_Graph.av g_0])), (1, (2, [G.graph_Graph.av more_1])), (2, (2, [G.graph_Graph.av r24.1]))]⟩) [(0, 0), (1, 1), (2, 2)] [] rfl rfl rfl (.cons rfl rfl (.one (.same _ (by simp)) rfl) (of_decide_eq_true rfl) (.cons rfl rfl (.one (.same _ (by simp)) rfl) (of_decide_eq_true rfl) (.cons rfl rfl (.one (.same _ (by simp)) rfl) (of_decide_eq_true rfl) (trivial)))) ⟨⟨_, rfl, .ref rfl⟩, ⟨_, rfl, .ref rfl⟩, ⟨_, rfl, .ref rfl⟩, ⟨.sl (List.map i64 r27.1), rfl, .same _ (by simp)⟩, ⟨_, rfl, .same _ (by simp)⟩, trivial⟩) ?_)
          clear hK14 K14
          refine awp_cond rfl (fun hb29 => ?_) (fun hb29 => ?_)
          · replace h := Sh.if_t h hb29
            refine awp_seqK fun K15 hK15 => ?_
            refine awp_reg rfl ?_
            refine AR.op (r := G.graph_Graph.av r24.1) rfl (aop_load_ref rfl rfl rfl rfl sz24 rfl) ?_
            obtain ⟨r31, hr31, h⟩ := Sh.bind_some' h
            refine AR.op (r := bl r31) rfl (aop_call1 rfl rfl (by simp) (reach_Cyclic_ok hT hr31)) ?_
            refine AR.op (r := bl r31) rfl (aop_move (.inr rfl) rfl) ?_
            refine AR.nil ?_
            refine hK15 _ (AWP.weak (Weak.re (fr' := [(4, bl r31)]) (H' := .empty) [] [] rfl rfl rfl (trivial) ⟨⟨_, rfl, .same _ (by simp)⟩, trivial⟩) ?_)
            clear hK15 K15
            refine awp_ret ?_
            obtain rfl := Option.some.inj h
            refine ⟨.inr rfl, bl r31, rfl, ?_⟩
            exact Weak.re [] [] rfl rfl rfl (trivial) ⟨⟨_, rfl, .same _ (by simp)⟩, trivial⟩
          · replace h := Sh.if_f h hb29
            refine awp_skip ?_
            refine hK13 _ (AWP.weak (Weak.re (fr' := [(2, .ref 0 0 0), (3, .ref 1 0 0), (6, .ref 2 0 0), (8, .sl (List.map i64 r27.1))]) (H' := ⟨3, [(0, (2, [G.graph_Graph.av g_0])), (1, (2, [G.graph_Graph.av more_1])), (2, (2, [G.graph_Graph.av r24.1]))]⟩) [(0, 0), (1, 1), (2, 2)] [] rfl rfl rfl (.cons rfl rfl (.one (.same _ (by simp)) rfl) (of_decide_eq_true rfl) (.cons rfl rfl (.one (.same _ (by simp)) rfl) (of_decide_eq_true rfl) (.cons rfl rfl (.one (.same _ (by simp)) rfl) (of_decide_eq_true rfl) (trivial)))) ⟨⟨_, rfl, .ref rfl⟩, ⟨_, rfl, .ref rfl⟩, ⟨_, rfl, .ref rfl⟩, ⟨.sl (List.map i64 r27.1), rfl, .same _ (by simp)⟩, trivial⟩) ?_)
            clear hK13 K13
            refine awp_seqK fun K16 hK16 => ?_
            refine awp_reg rfl ?_
            refine AR.op (r := G.graph_Graph.av r24.1) rfl (aop_load_ref rfl rfl rfl rfl sz24 rfl) ?_
            obtain ⟨r33, hr33, h⟩ := Sh.bind_some' h
            refine AR.op (r := .tuple [G.graph_Graph.av r33.1, i64 r33.2]) rfl (aop_call1 rfl rfl (by simp) (reach_Close_ok hT hr33)) ?_
            refine AR.op (r := .tuple [G.graph_Graph.av r33.1, i64 r33.2]) rfl (aop_move (.inl rfl) rfl) ?_
            refine AR.drop (frx := [(2, _), (3, _), (8, _), (42, _)]) ⟨rfl, rfl, rfl, rfl, trivial⟩ ?_
            refine AR.op (r := G.graph_Graph.av r33.1) rfl (aop_extract rfl rfl rfl) ?_
            refine AR.op (r := i64 r33.2) rfl (aop_extract rfl rfl rfl) ?_
            refine AR.op (r := .ref 3 0 0) rfl (aop_alloc 2 [.agg [i64 0, nilS]] rfl zr24 (by kernel_rfl) (.inl ⟨rfl, rfl⟩)) ?_
            refine AR.drop (frx := [(2, _), (3, _), (8, _), (45, _), (46, _), (10, _)]) ⟨rfl, rfl, rfl, rfl, rfl, rfl, trivial⟩ ?_
            refine AR.op rfl (aop_store (e' := G.graph_Graph.av r33.1) rfl rfl rfl rfl rfl rfl sz24 rfl (of_decide_eq_true rfl) rfl) ?_
            refine AR.op (r := i64 r33.2) rfl (aop_move (.inr rfl) rfl) ?_
            refine AR.nil ?_
            refine hK16 _ (AWP.weak (Weak.re (fr' := [(2, .ref 0 0 0), (3, .ref 1 0 0), (8, .sl (List.map i64 r27.1)), (10, .ref 2 0 0), (11, i64 r33.2)]) (H' := ⟨3, [(0, (2, [G.graph_Graph.av g_0])), (1, (2, [G.graph_Graph.av more_1])), (2, (2, [G.graph_Graph.av r33.1]))]⟩) [(0, 0), (1, 1), (2, 3)] [] rfl rfl rfl (.cons rfl rfl (.one (.same _ (by simp)) rfl) (of_decide_eq_true rfl) (.cons rfl rfl (.one (.same _ (by simp)) rfl) (of_decide_eq_true rfl) (.cons rfl rfl (.one (.same _ (by simp)) rfl) (of_decide_eq_true rfl) (trivial)))) ⟨⟨_, rfl, .ref rfl⟩, ⟨_, rfl, .ref rfl⟩, ⟨.sl (List.map i64 r27.1), rfl, .same _ (by simp)⟩, ⟨_, rfl, .ref rfl⟩, ⟨_, rfl, .same _ (by simp)⟩, trivial⟩) ?_)
            clear hK16 K16
            refine awp_seqK fun K17 hK17 => ?_
            refine awp_reg rfl ?_
            refine AR.op (r := i64 r33.2) rfl (aop_move (.inl rfl) rfl) ?_
            refine AR.op (r := bl (decide (r33.2 = 0))) rfl (aop_eql rfl rfl rfl) ?_
            refine AR.op (r := bl (decide (r33.2 = 0))) rfl (aop_move (.inl rfl) rfl) ?_
            refine AR.drop (frx := [(2, _), (3, _), (8, _), (10, _), (49, _)]) ⟨rfl, rfl, rfl, rfl, rfl, trivial⟩ ?_
            rcases Bool.eq_false_or_eq_true (decide (r33.2 = 0)) with hb40 | hb40
            · rw [hb40]
              replace h := Sh.if_t h hb40
              refine AR.op (r := G.graph_Graph.av g_0) rfl (aop_load_ref rfl rfl rfl rfl sz24 rfl) ?_
              refine AR.op (r := .sl (List.map i64 r27.1)) rfl (aop_move (.inl rfl) rfl) ?_
              obtain ⟨r41, hr41, h⟩ := Sh.bind_some' h
              refine AR.op (r := bl r41) rfl (aop_call1 rfl rfl (by simp) (topo_Is_ok hT hr41)) ?_
              refine AR.drop (frx := [(3, _), (8, _), (10, _), (49, _), (52, _)]) ⟨rfl, rfl, rfl, rfl, rfl, trivial⟩ ?_
              refine AR.op (r := bl r41) rfl (aop_pick rfl rfl rfl) ?_
              refine AR.op (r := bl r41) rfl (aop_move (.inl rfl) rfl) ?_
              rcases Bool.eq_false_or_eq_true (r41) with hb42 | hb42
              · rw [hb42]
                replace h := Sh.if_t h hb42
                refine AR.op (r := G.graph_Graph.av more_1) rfl (aop_load_ref rfl rfl rfl rfl sz24 rfl) ?_
                refine AR.drop (frx := [(8, _), (10, _), (54, _), (55, _)]) ⟨rfl, rfl, rfl, rfl, trivial⟩ ?_
                refine AR.op (r := .sl (List.map i64 r27.1)) rfl (aop_move (.inl rfl) rfl) ?_
                obtain ⟨r43, hr43, h⟩ := Sh.bind_some' h
                refine AR.op (r := bl r43) rfl (aop_call1 rfl rfl (by simp) (topo_Is_ok hT hr43)) ?_
                refine AR.op (r := bl r43) rfl (aop_pick rfl rfl rfl) ?_
                refine AR.drop (frx := [(8, _), (10, _), (58, _)]) ⟨rfl, rfl, rfl, trivial⟩ ?_
                refine AR.op (r := bl r43) rfl (aop_move (.inl rfl) rfl) ?_
                rcases Bool.eq_false_or_eq_true (r43) with hb44 | hb44
                · rw [hb44]
                  replace h := Sh.if_t h hb44
                  refine AR.op (r := G.graph_Graph.av r33.1) rfl (aop_load_ref rfl rfl rfl rfl sz24 rfl) ?_
                  refine AR.op (r := .sl (List.map i64 r27.1)) rfl (aop_move (.inl rfl) rfl) ?_
                  refine AR.drop (frx := [(59, _), (60, _), (61, _)]) ⟨rfl, rfl, rfl, trivial⟩ ?_
                  obtain ⟨r45, hr45, h⟩ := Sh.bind_some' h
                  refine AR.op (r := bl r45) rfl (aop_call1 rfl rfl (by simp) (topo_Is_ok hT hr45)) ?_
                  refine AR.op (r := bl r45) rfl (aop_pick rfl rfl rfl) ?_
                  refine AR.op (r := bl r45) rfl (aop_move (.inr rfl) rfl) ?_
                  refine AR.nil ?_
                  refine hK17 _ (AWP.weak (Weak.re (fr' := [(4, bl r45)]) (H' := .empty) [] [] rfl rfl rfl (trivial) ⟨⟨_, rfl, .same _ (by simp)⟩, trivial⟩) ?_)
                  clear hK17 K17
                  refine awp_ret ?_
                  obtain rfl := Option.some.inj h
                  refine ⟨.inr rfl, bl r45, rfl, ?_⟩
                  exact Weak.re [] [] rfl rfl rfl (trivial) ⟨⟨_, rfl, .same _ (by simp)⟩, trivial⟩
                · rw [hb44]
                  replace h := Sh.if_f h hb44
                  refine AR.skip rfl ?_
                  refine AR.skip rfl ?_
                  refine AR.drop (frx := [(59, _), (60, _), (61, _)]) ⟨rfl, rfl, rfl, trivial⟩ ?_
                  refine AR.skip rfl ?_
                  refine AR.op (r := bl false) rfl (aop_pick rfl rfl rfl) ?_
                  refine AR.op (r := bl false) rfl (aop_move (.inr rfl) rfl) ?_
                  refine AR.nil ?_
                  refine hK17 _ (AWP.weak (Weak.re (fr' := [(4, bl false)]) (H' := .empty) [] [] rfl rfl rfl (trivial) ⟨⟨_, rfl, .same _ (by simp)⟩, trivial⟩) ?_)
                  clear hK17 K17
                  refine awp_ret ?_
                  obtain rfl := Option.some.inj h
                  refine ⟨.inr rfl, bl false, rfl, ?_⟩
                  exact Weak.re [] [] rfl rfl rfl (trivial) ⟨⟨_, rfl, .same _ (by simp)⟩, trivial⟩
              · rw [hb42]
                replace h := Sh.if_f h hb42
                refine AR.skip rfl ?_
                refine AR.drop (frx := [(8, _), (10, _), (54, _), (55, _)]) ⟨rfl, rfl, rfl, rfl, trivial⟩ ?_
                refine AR.skip rfl ?_
                refine AR.skip rfl ?_
                refine AR.op (r := bl false) rfl (aop_pick rfl rfl rfl) ?_
                refine AR.drop (frx := [(8, _), (10, _), (58, _)]) ⟨rfl, rfl, rfl, trivial⟩ ?_
                refine AR.op (r := bl false) rfl (aop_move (.inl rfl) rfl) ?_
                refine AR.skip rfl ?_
                refine AR.skip rfl ?_
                refine AR.drop (frx := [(59, _), (60, _), (61, _)]) ⟨rfl, rfl, rfl, trivial⟩ ?_
                refine AR.skip rfl ?_
                refine AR.op (r := bl false) rfl (aop_pick rfl rfl rfl) ?_
                refine AR.op (r := bl false) rfl (aop_move (.inr rfl) rfl) ?_
                refine AR.nil ?_
                refine hK17 _ (AWP.weak (Weak.re (fr' := [(4, bl false)]) (H' := .empty) [] [] rfl rfl rfl (trivial) ⟨⟨_, rfl, .same _ (by simp)⟩, trivial⟩) ?_)
                clear hK17 K17
                refine awp_ret ?_
                obtain rfl := Option.some.inj h
                refine ⟨.inr rfl, bl false, rfl, ?_⟩
                exact Weak.re [] [] rfl rfl rfl (trivial) ⟨⟨_, rfl, .same _ (by simp)⟩, trivial⟩
            · rw [hb40]
              replace h := Sh.if_f h hb40
              refine AR.skip rfl ?_
              refine AR.skip rfl ?_
              refine AR.skip rfl ?_
              refine AR.drop (frx := [(3, _), (8, _), (10, _), (49, _), (52, _)]) ⟨rfl, rfl, rfl, rfl, rfl, trivial⟩ ?_
              refine AR.op (r := bl false) rfl (aop_pick rfl rfl rfl) ?_
              refine AR.op (r := bl false) rfl (aop_move (.inl rfl) rfl) ?_
              refine AR.skip rfl ?_
              refine AR.drop (frx := [(8, _), (10, _), (54, _), (55, _)]) ⟨rfl, rfl, rfl, rfl, trivial⟩ ?_
              refine AR.skip rfl ?_
              refine AR.skip rfl ?_
              refine AR.op (r := bl false) rfl (aop_pick rfl rfl rfl) ?_
              refine AR.drop (frx := [(8, _), (10, _), (58, _)]) ⟨rfl, rfl, rfl, trivial⟩ ?_
              refine AR.op (r := bl false) rfl (aop_move (.inl rfl) rfl) ?_
              refine AR.skip rfl ?_
              refine AR.skip rfl ?_
              refine AR.drop (frx := [(59, _), (60, _), (61, _)]) ⟨rfl, rfl, rfl, trivial⟩ ?_
              refine AR.skip rfl ?_
              refine AR.op (r := bl false) rfl (aop_pick rfl rfl rfl) ?_
              refine AR.op (r := bl false) rfl (aop_move (.inr rfl) rfl) ?_
              refine AR.nil ?_
              refine hK17 _ (AWP.weak (Weak.re (fr' := [(4, bl false)]) (H' := .empty) [] [] rfl rfl rfl (trivial) ⟨⟨_, rfl, .same _ (by simp)⟩, trivial⟩) ?_)
              clear hK17 K17
              refine awp_ret ?_
              obtain rfl := Option.some.inj h
              refine ⟨.inr rfl, bl false, rfl, ?_⟩
              exact Weak.re [] [] rfl rfl rfl (trivial) ⟨⟨_, rfl, .same _ (by simp)⟩, trivial⟩
    · intro K18 hK18
      refine awp_reg rfl ?_
      refine AR.op rfl (aop_field_ref rfl rfl rfl fd24_1 (by decide)) ?_
      refine AR.op (r := .sl (List.map u64 g_0.Rows)) rfl (aop_load_ref rfl rfl rfl rfl sz22 rfl) ?_
      refine AR.op (r := i64 (Sh.len g_0.Rows)) rfl (t_len_sl u64 g_0.Rows rfl rfl el22) ?_
      refine AR.drop (frx := [(2, _), (3, _), (17, _)]) ⟨rfl, rfl, rfl, trivial⟩ ?_
      refine AR.op (r := bl (decide ((70 : Int) < (Sh.len g_0.Rows)))) rfl (aop_gtr rfl rfl rfl) ?_
      refine AR.op (r := bl (decide ((70 : Int) < (Sh.len g_0.Rows)))) rfl (aop_move (.inl rfl) rfl) ?_
      rcases Bool.eq_false_or_eq_true (decide ((70 : Int) < (Sh.len g_0.Rows))) with hb46 | hb46
      · rw [hb46]
        replace h := Sh.if_t h hb46
        refine AR.skip rfl ?_
        refine AR.drop (frx := [(2, _), (3, _), (19, _), (20, _)]) ⟨rfl, rfl, rfl, rfl, trivial⟩ ?_
        refine AR.skip rfl ?_
        refine AR.skip rfl ?_
        refine AR.skip rfl ?_
        refine AR.drop (frx := [(2, _), (3, _), (19, _), (23, _)]) ⟨rfl, rfl, rfl, rfl, trivial⟩ ?_
        refine AR.op (r := bl true) rfl (aop_pick rfl rfl rfl) ?_
        refine AR.nil ?_
        exact hK18 true _ h (Weak.re (fr' := [(2, .ref 0 0 0), (3, .ref 1 0 0), (24, bl true)]) (H' := ⟨2, [(0, (2, [G.graph_Graph.av g_0])), (1, (2, [G.graph_Graph.av more_1]))]⟩) [(0, 0), (1, 1)] [] rfl rfl rfl (.cons rfl rfl (.one (.same _ (by simp)) rfl) (of_decide_eq_true rfl) (.cons rfl rfl (.one (.same _ (by simp)) rfl) (of_decide_eq_true rfl) (trivial))) ⟨⟨_, rfl, .ref rfl⟩, ⟨_, rfl, .ref rfl⟩, ⟨_, rfl, .same _ (by simp)⟩, trivial⟩)
      · rw [hb46]
        replace h := Sh.if_f h hb46
        refine AR.op rfl (aop_field_ref rfl rfl rfl fd24_1 (by decide)) ?_
        refine AR.drop (frx := [(2, _), (3, _), (19, _), (20, _)]) ⟨rfl, rfl, rfl, rfl, trivial⟩ ?_
        refine AR.op (r := .sl (List.map u64 more_1.Rows)) rfl (aop_load_ref rfl rfl rfl rfl sz22 rfl) ?_
        refine AR.op (r := i64 (Sh.len more_1.Rows)) rfl (t_len_sl u64 more_1.Rows rfl rfl el22) ?_
        refine AR.op (r := bl (decide ((70 : Int) < (Sh.len more_1.Rows)))) rfl (aop_gtr rfl rfl rfl) ?_
        refine AR.drop (frx := [(2, _), (3, _), (19, _), (23, _)]) ⟨rfl, rfl, rfl, rfl, trivial⟩ ?_
        refine AR.op (r := bl (decide ((70 : Int) < (Sh.len more_1.Rows)))) rfl (aop_pick rfl rfl rfl) ?_
        refine AR.nil ?_
        exact hK18 (decide ((70 : Int) < (Sh.len more_1.Rows))) _ h (Weak.re (fr' := [(2, .ref 0 0 0), (3, .ref 1 0 0), (24, bl (decide ((70 : Int) < (Sh.len more_1.Rows))))]) (H' := ⟨2, [(0, (2, [G.graph_Graph.av g_0])), (1, (2, [G.graph_Graph.av more_1]))]⟩) [(0, 0), (1, 1)] [] rfl rfl rfl (.cons rfl rfl (.one (.same _ (by simp)) rfl) (of_decide_eq_true rfl) (.cons rfl rfl (.one (.same _ (by simp)) rfl) (of_decide_eq_true rfl) (trivial))) ⟨⟨_, rfl, .ref rfl⟩, ⟨_, rfl, .ref rfl⟩, ⟨_, rfl, .same _ (by simp)⟩, trivial⟩)
theorem inquestlaw16_TopoLess_ok {W0 : World} (hT : Tab W0) {g_0 : G.graph_Graph} {more_1 : G.graph_Graph} {r : Bool} (h : G.inquestlaw16_TopoLess g_0 more_1 = some r) : Fun1 Tryd.prog W0 14 [G.graph_Graph.av g_0, G.graph_Graph.av more_1] (bl r) := Fun1.two (inquestlaw16_TopoLess_ok0 hT h) (by simp)

end Wk
