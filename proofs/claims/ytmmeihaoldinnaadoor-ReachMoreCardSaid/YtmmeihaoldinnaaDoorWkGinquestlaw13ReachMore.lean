/- That a statement does what its plain function says. -/
import Derived.Test.YtmmeihaoldinnaaDoorWkGinquestlaw13
open Go Go.Av Go.Proofs
set_option linter.unusedVariables false
namespace Wk
set_option maxHeartbeats 8000000 in
theorem inquestlaw13_ReachMore_ok0 {W0 : World} (hT : Tab W0) {g_0 : G.graph_Graph} {a_1 : Int} {b_2 : Int} {r : Bool} (h : G.inquestlaw13_ReachMore g_0 a_1 b_2 = some r) : Fun2 Tryd.prog W0 6 [G.graph_Graph.av g_0, i64 a_1, i64 b_2] (bl r) .empty := by
  refine fun2_of_awp Tryd.func6 rfl (by kernel_rfl) Tryd.ntmps6 (by simp) ?_
  unfold G.inquestlaw13_ReachMore at h
  show AWP _ _ _ _ ⟨[(0, G.graph_Graph.av g_0), (1, i64 a_1), (2, i64 b_2)], .empty⟩ _
  refine awp_seqK fun K1 hK1 => ?_
  refine awp_reg rfl ?_
  refine AR.op (r := .ref 0 0 0) rfl (aop_box 2 [G.graph_Graph.av g_0] rfl rfl rfl (.inl ⟨rfl, rfl⟩)) ?_
  refine AR.op (r := bl false) rfl (aop_move (.inr rfl) rfl) ?_
  refine AR.nil ?_
  refine hK1 _ (AWP.weak (Weak.re (fr' := [(1, i64 a_1), (2, i64 b_2), (3, .ref 0 0 0)]) (H' := ⟨1, [(0, (2, [G.graph_Graph.av g_0]))]⟩) [(0, 0)] [] rfl rfl rfl (.cons rfl rfl (.one (.same _ (by simp)) rfl) (of_decide_eq_true rfl) (trivial)) ⟨⟨_, rfl, .same _ (by simp)⟩, ⟨_, rfl, .same _ (by simp)⟩, ⟨_, rfl, .ref rfl⟩, trivial⟩) ?_)
  clear hK1 K1
  refine awp_seqK fun K2 hK2 => ?_
  refine awp_reg rfl ?_
  obtain ⟨r14, hr14, h⟩ := Sh.bind_some' h
  refine AR.op (r := bl r14) rfl (aop_call1 rfl rfl (by simp) (inquestlaw13_awake_ok hT hr14)) ?_
  refine AR.op (r := bl r14) rfl (aop_move (.inr rfl) rfl) ?_
  refine AR.nil ?_
  refine hK2 _ (AWP.weak (Weak.re (fr' := [(1, i64 a_1), (2, i64 b_2), (3, .ref 0 0 0), (7, bl r14)]) (H' := ⟨1, [(0, (2, [G.graph_Graph.av g_0]))]⟩) [(0, 0)] [] rfl rfl rfl (.cons rfl rfl (.one (.same _ (by simp)) rfl) (of_decide_eq_true rfl) (trivial)) ⟨⟨_, rfl, .same _ (by simp)⟩, ⟨_, rfl, .same _ (by simp)⟩, ⟨_, rfl, .ref rfl⟩, ⟨_, rfl, .same _ (by simp)⟩, trivial⟩) ?_)
  clear hK2 K2
  refine awp_seqK fun K3 hK3 => ?_
  refine awp_seqK fun K4 hK4 => ?_
  refine awp_reg rfl ?_
  refine AR.op (r := bl r14) rfl (aop_move (.inl rfl) rfl) ?_
  refine AR.op (r := bl (!r14)) rfl (aop_not rfl rfl) ?_
  refine AR.nil ?_
  refine hK4 _ (AWP.weak (Weak.re (fr' := [(1, i64 a_1), (2, i64 b_2), (3, .ref 0 0 0), (18, bl (!r14))]) (H' := ⟨1, [(0, (2, [G.graph_Graph.av g_0]))]⟩) [(0, 0)] [] rfl rfl rfl (.cons rfl rfl (.one (.same _ (by simp)) rfl) (of_decide_eq_true rfl) (trivial)) ⟨⟨_, rfl, .same _ (by simp)⟩, ⟨_, rfl, .same _ (by simp)⟩, ⟨_, rfl, .ref rfl⟩, ⟨_, rfl, .same _ (by simp)⟩, trivial⟩) ?_)
  clear hK4 K4
  refine awp_cond rfl (fun hb15 => ?_) (fun hb15 => ?_)
  · replace h := Sh.if_t h hb15
    refine awp_seqK fun K5 hK5 => ?_
    refine awp_reg rfl ?_
    refine AR.op (r := bl false) rfl (aop_move (.inr rfl) rfl) ?_
    refine AR.nil ?_
    refine hK5 _ (AWP.weak (Weak.re (fr' := [(6, bl false)]) (H' := .empty) [] [] rfl rfl rfl (trivial) ⟨⟨_, rfl, .same _ (by simp)⟩, trivial⟩) ?_)
    clear hK5 K5
    refine awp_ret ?_
    obtain rfl := Option.some.inj h
    refine ⟨.inr rfl, bl false, rfl, ?_⟩
    exact Weak.re [] [] rfl rfl rfl (trivial) ⟨⟨_, rfl, .same _ (by simp)⟩, trivial⟩
  · replace h := Sh.if_f h hb15
    refine awp_skip ?_
    refine hK3 _ (AWP.weak (Weak.re (fr' := [(1, i64 a_1), (2, i64 b_2), (3, .ref 0 0 0)]) (H' := ⟨1, [(0, (2, [G.graph_Graph.av g_0]))]⟩) [(0, 0)] [] rfl rfl rfl (.cons rfl rfl (.one (.same _ (by simp)) rfl) (of_decide_eq_true rfl) (trivial)) ⟨⟨_, rfl, .same _ (by simp)⟩, ⟨_, rfl, .same _ (by simp)⟩, ⟨_, rfl, .ref rfl⟩, trivial⟩) ?_)
    clear hK3 K3
    refine awp_seqK fun K6 hK6 => ?_
    refine awp_seqK fun K7 hK7 => ?_
    refine awp_reg rfl ?_
    refine AR.op rfl (aop_field_ref rfl rfl rfl fd24_1 (by decide)) ?_
    refine AR.op (r := .sl (List.map u64 g_0.Rows)) rfl (aop_load_ref rfl rfl rfl rfl sz22 rfl) ?_
    refine AR.op (r := i64 (Sh.len g_0.Rows)) rfl (t_len_sl u64 g_0.Rows rfl rfl el22) ?_
    refine AR.drop (frx := [(1, _), (2, _), (3, _), (21, _)]) ⟨rfl, rfl, rfl, rfl, trivial⟩ ?_
    refine AR.op (r := bl (decide ((70 : Int) < (Sh.len g_0.Rows)))) rfl (aop_gtr rfl rfl rfl) ?_
    refine AR.nil ?_
    refine hK7 _ (AWP.weak (Weak.re (fr' := [(1, i64 a_1), (2, i64 b_2), (3, .ref 0 0 0), (22, bl (decide ((70 : Int) < (Sh.len g_0.Rows))))]) (H' := ⟨1, [(0, (2, [G.graph_Graph.av g_0]))]⟩) [(0, 0)] [] rfl rfl rfl (.cons rfl rfl (.one (.same _ (by simp)) rfl) (of_decide_eq_true rfl) (trivial)) ⟨⟨_, rfl, .same _ (by simp)⟩, ⟨_, rfl, .same _ (by simp)⟩, ⟨_, rfl, .ref rfl⟩, ⟨_, rfl, .same _ (by simp)⟩, trivial⟩) ?_)
    clear hK7 K7
    refine awp_cond rfl (fun hb16 => ?_) (fun hb16 => ?_)
    · replace h := Sh.if_t h hb16
      refine awp_seqK fun K8 hK8 => ?_
      refine awp_reg rfl ?_
      refine AR.op (r := bl true) rfl (aop_move (.inr rfl) rfl) ?_
      refine AR.nil ?_
      refine hK8 _ (AWP.weak (Weak.re (fr' := [(6, bl true)]) (H' := .empty) [] [] rfl rfl rfl (trivial) ⟨⟨_, rfl, .same _ (by simp)⟩, trivial⟩) ?_)
      clear hK8 K8
      refine awp_ret ?_
      obtain rfl := Option.some.inj h
      refine ⟨.inr rfl, bl true, rfl, ?_⟩
      exact Weak.re [] [] rfl rfl rfl (trivial) ⟨⟨_, rfl, .same _ (by simp)⟩, trivial⟩
    · replace h := Sh.if_f h hb16
      refine awp_skip ?_
      refine hK6 _ (AWP.weak (Weak.re (fr' := [(1, i64 a_1), (2, i64 b_2), (3, .ref 0 0 0)]) (H' := ⟨1, [(0, (2, [G.graph_Graph.av g_0]))]⟩) [(0, 0)] [] rfl rfl rfl (.cons rfl rfl (.one (.same _ (by simp)) rfl) (of_decide_eq_true rfl) (trivial)) ⟨⟨_, rfl, .same _ (by simp)⟩, ⟨_, rfl, .same _ (by simp)⟩, ⟨_, rfl, .ref rfl⟩, trivial⟩) ?_)
      clear hK6 K6
      refine awp_seqK fun K9 hK9 => ?_
      refine awp_reg rfl ?_
      refine AR.op (r := G.graph_Graph.av g_0) rfl (aop_load_ref rfl rfl rfl rfl sz24 rfl) ?_
      refine AR.op (r := i64 a_1) rfl (aop_move (.inl rfl) rfl) ?_
      refine AR.op (r := i64 b_2) rfl (aop_move (.inl rfl) rfl) ?_
      refine AR.drop (frx := [(1, _), (2, _), (3, _), (24, _), (25, _), (26, _)]) ⟨rfl, rfl, rfl, rfl, rfl, rfl, trivial⟩ ?_
      obtain ⟨r18, hr18, h⟩ := Sh.bind_some' h
      refine AR.op (r := .tuple [G.graph_Graph.av r18.1, i64 r18.2]) rfl (aop_call1 rfl rfl (by simp) (graph_Add_ok hT hr18)) ?_
      refine AR.op (r := .tuple [G.graph_Graph.av r18.1, i64 r18.2]) rfl (aop_move (.inl rfl) rfl) ?_
      refine AR.op (r := G.graph_Graph.av r18.1) rfl (aop_extract rfl rfl rfl) ?_
      refine AR.drop (frx := [(1, _), (2, _), (3, _), (23, _), (28, _)]) ⟨rfl, rfl, rfl, rfl, rfl, trivial⟩ ?_
      refine AR.op (r := i64 r18.2) rfl (aop_extract rfl rfl rfl) ?_
      refine AR.op (r := .ref 1 0 0) rfl (aop_alloc 2 [.agg [i64 0, nilS]] rfl zr24 (by kernel_rfl) (.inl ⟨rfl, rfl⟩)) ?_
      refine AR.op rfl (aop_store (e' := G.graph_Graph.av r18.1) rfl rfl rfl rfl rfl rfl sz24 rfl (of_decide_eq_true rfl) rfl) ?_
      refine AR.drop (frx := [(1, _), (2, _), (3, _), (29, _), (8, _)]) ⟨rfl, rfl, rfl, rfl, rfl, trivial⟩ ?_
      refine AR.op (r := i64 r18.2) rfl (aop_move (.inr rfl) rfl) ?_
      refine AR.nil ?_
      refine hK9 _ (AWP.weak (Weak.re (fr' := [(1, i64 a_1), (2, i64 b_2), (3, .ref 0 0 0), (8, .ref 1 0 0), (9, i64 r18.2)]) (H' := ⟨2, [(0, (2, [G.graph_Graph.av g_0])), (1, (2, [G.graph_Graph.av r18.1]))]⟩) [(0, 0), (1, 1)] [] rfl rfl rfl (.cons rfl rfl (.one (.same _ (by simp)) rfl) (of_decide_eq_true rfl) (.cons rfl rfl (.one (.same _ (by simp)) rfl) (of_decide_eq_true rfl) (trivial))) ⟨⟨_, rfl, .same _ (by simp)⟩, ⟨_, rfl, .same _ (by simp)⟩, ⟨_, rfl, .ref rfl⟩, ⟨_, rfl, .ref rfl⟩, ⟨_, rfl, .same _ (by simp)⟩, trivial⟩) ?_)
      clear hK9 K9
      refine awp_seqK fun K10 hK10 => ?_
      refine awp_seqK fun K11 hK11 => ?_
      refine awp_reg rfl ?_
      refine AR.op (r := i64 r18.2) rfl (aop_move (.inl rfl) rfl) ?_
      refine AR.op (r := bl (decide (r18.2 ≠ 0))) rfl (aop_neq rfl rfl rfl) ?_
      refine AR.nil ?_
      refine hK11 _ (AWP.weak (Weak.re (fr' := [(1, i64 a_1), (2, i64 b_2), (3, .ref 0 0 0), (8, .ref 1 0 0), (31, bl (decide (r18.2 ≠ 0)))]) (H' := ⟨2, [(0, (2, [G.graph_Graph.av g_0])), (1, (2, [G.graph_Graph.av r18.1]))]⟩) [(0, 0), (1, 1)] [] rfl rfl rfl (.cons rfl rfl (.one (.same _ (by simp)) rfl) (of_decide_eq_true rfl) (.cons rfl rfl (.one (.same _ (by simp)) rfl) (of_decide_eq_true rfl) (trivial))) ⟨⟨_, rfl, .same _ (by simp)⟩, ⟨_, rfl, .same _ (by simp)⟩, ⟨_, rfl, .ref rfl⟩, ⟨_, rfl, .ref rfl⟩, ⟨_, rfl, .same _ (by simp)⟩, trivial⟩) ?_)
      clear hK11 K11
      refine awp_cond rfl (fun hb19 => ?_) (fun hb19 => ?_)
      · replace h := Sh.if_t h hb19
        refine awp_seqK fun K12 hK12 => ?_
        refine awp_reg rfl ?_
        refine AR.op (r := bl true) rfl (aop_move (.inr rfl) rfl) ?_
        refine AR.nil ?_
        refine hK12 _ (AWP.weak (Weak.re (fr' := [(6, bl true)]) (H' := .empty) [] [] rfl rfl rfl (trivial) ⟨⟨_, rfl, .same _ (by simp)⟩, trivial⟩) ?_)
        clear hK12 K12
        refine awp_ret ?_
        obtain rfl := Option.some.inj h
        refine ⟨.inr rfl, bl true, rfl, ?_⟩
        exact Weak.re [] [] rfl rfl rfl (trivial) ⟨⟨_, rfl, .same _ (by simp)⟩, trivial⟩
      · replace h := Sh.if_f h hb19
        refine awp_skip ?_
        refine hK10 _ (AWP.weak (Weak.re (fr' := [(1, i64 a_1), (2, i64 b_2), (3, .ref 0 0 0), (8, .ref 1 0 0)]) (H' := ⟨2, [(0, (2, [G.graph_Graph.av g_0])), (1, (2, [G.graph_Graph.av r18.1]))]⟩) [(0, 0), (1, 1)] [] rfl rfl rfl (.cons rfl rfl (.one (.same _ (by simp)) rfl) (of_decide_eq_true rfl) (.cons rfl rfl (.one (.same _ (by simp)) rfl) (of_decide_eq_true rfl) (trivial))) ⟨⟨_, rfl, .same _ (by simp)⟩, ⟨_, rfl, .same _ (by simp)⟩, ⟨_, rfl, .ref rfl⟩, ⟨_, rfl, .ref rfl⟩, trivial⟩) ?_)
        clear hK10 K10
        refine awp_seqK fun K13 hK13 => ?_
        refine awp_reg rfl ?_
        refine AR.op (r := G.graph_Graph.av g_0) rfl (aop_load_ref rfl rfl rfl rfl sz24 rfl) ?_
        obtain ⟨r21, hr21, h⟩ := Sh.bind_some' h
        refine AR.op (r := .tuple [G.graph_Graph.av r21.1, i64 r21.2]) rfl (aop_call1 rfl rfl (by simp) (reach_Close_ok hT hr21)) ?_
        refine AR.op (r := .tuple [G.graph_Graph.av r21.1, i64 r21.2]) rfl (aop_move (.inl rfl) rfl) ?_
        refine AR.drop (frx := [(1, _), (2, _), (8, _), (32, _)]) ⟨rfl, rfl, rfl, rfl, trivial⟩ ?_
        refine AR.op (r := G.graph_Graph.av r21.1) rfl (aop_extract rfl rfl rfl) ?_
        refine AR.op (r := i64 r21.2) rfl (aop_extract rfl rfl rfl) ?_
        refine AR.op (r := .ref 2 0 0) rfl (aop_alloc 2 [.agg [i64 0, nilS]] rfl zr24 (by kernel_rfl) (.inl ⟨rfl, rfl⟩)) ?_
        refine AR.drop (frx := [(1, _), (2, _), (8, _), (35, _), (36, _), (10, _)]) ⟨rfl, rfl, rfl, rfl, rfl, rfl, trivial⟩ ?_
        refine AR.op rfl (aop_store (e' := G.graph_Graph.av r21.1) rfl rfl rfl rfl rfl rfl sz24 rfl (of_decide_eq_true rfl) rfl) ?_
        refine AR.op (r := i64 r21.2) rfl (aop_move (.inr rfl) rfl) ?_
        refine AR.nil ?_
        refine hK13 _ (AWP.weak (Weak.re (fr' := [(1, i64 a_1), (2, i64 b_2), (8, .ref 0 0 0), (10, .ref 1 0 0), (11, i64 r21.2)]) (H' := ⟨2, [(0, (2, [G.graph_Graph.av r18.1])), (1, (2, [G.graph_Graph.av r21.1]))]⟩) [(0, 1), (1, 2)] [] rfl rfl rfl (.cons rfl rfl (.one (.same _ (by simp)) rfl) (of_decide_eq_true rfl) (.cons rfl rfl (.one (.same _ (by simp)) rfl) (of_decide_eq_true rfl) (trivial))) ⟨⟨_, rfl, .same _ (by simp)⟩, ⟨_, rfl, .same _ (by simp)⟩, ⟨_, rfl, .ref rfl⟩, ⟨_, rfl, .ref rfl⟩, ⟨_, rfl, .same _ (by simp)⟩, trivial⟩) ?_)
        clear hK13 K13
        refine awp_seqK fun K14 hK14 => ?_
        refine awp_reg rfl ?_
        refine AR.op (r := G.graph_Graph.av r18.1) rfl (aop_load_ref rfl rfl rfl rfl sz24 rfl) ?_
        obtain ⟨r23, hr23, h⟩ := Sh.bind_some' h
        refine AR.op (r := .tuple [G.graph_Graph.av r23.1, i64 r23.2]) rfl (aop_call1 rfl rfl (by simp) (reach_Close_ok hT hr23)) ?_
        refine AR.op (r := .tuple [G.graph_Graph.av r23.1, i64 r23.2]) rfl (aop_move (.inl rfl) rfl) ?_
        refine AR.drop (frx := [(1, _), (2, _), (10, _), (11, _), (37, _)]) ⟨rfl, rfl, rfl, rfl, rfl, trivial⟩ ?_
        refine AR.op (r := G.graph_Graph.av r23.1) rfl (aop_extract rfl rfl rfl) ?_
        refine AR.op (r := i64 r23.2) rfl (aop_extract rfl rfl rfl) ?_
        refine AR.op (r := .ref 2 0 0) rfl (aop_alloc 2 [.agg [i64 0, nilS]] rfl zr24 (by kernel_rfl) (.inl ⟨rfl, rfl⟩)) ?_
        refine AR.drop (frx := [(1, _), (2, _), (10, _), (11, _), (40, _), (41, _), (12, _)]) ⟨rfl, rfl, rfl, rfl, rfl, rfl, rfl, trivial⟩ ?_
        refine AR.op rfl (aop_store (e' := G.graph_Graph.av r23.1) rfl rfl rfl rfl rfl rfl sz24 rfl (of_decide_eq_true rfl) rfl) ?_
        refine AR.op (r := i64 r23.2) rfl (aop_move (.inr rfl) rfl) ?_
        refine AR.nil ?_
        refine hK14 _ (AWP.weak (Weak.re (fr' := [(1, i64 a_1), (2, i64 b_2), (10, .ref 0 0 0), (11, i64 r21.2), (12, .ref 1 0 0), (13, i64 r23.2)]) (H' := ⟨2, [(0, (2, [G.graph_Graph.av r21.1])), (1, (2, [G.graph_Graph.av r23.1]))]⟩) [(0, 1), (1, 2)] [] rfl rfl rfl (.cons rfl rfl (.one (.same _ (by simp)) rfl) (of_decide_eq_true rfl) (.cons rfl rfl (.one (.same _ (by simp)) rfl) (of_decide_eq_true rfl) (trivial))) ⟨⟨_, rfl, .same _ (by simp)⟩, ⟨_, rfl, .same _ (by simp)⟩, ⟨_, rfl, .ref rfl⟩, ⟨_, rfl, .same _ (by simp)⟩, ⟨_, rfl, .ref rfl⟩, ⟨_, rfl, .same _ (by simp)⟩, trivial⟩) ?_)
        clear hK14 K14
        refine awp_seqK fun K15 hK15 => ?_
        refine awp_reg rfl ?_
        refine AR.op (r := G.graph_Graph.av r21.1) rfl (aop_load_ref rfl rfl rfl rfl sz24 rfl) ?_
        refine AR.op (r := i64 a_1) rfl (aop_move (.inl rfl) rfl) ?_
        refine AR.op (r := i64 b_2) rfl (aop_move (.inl rfl) rfl) ?_
        refine AR.drop (frx := [(11, _), (12, _), (13, _), (43, _), (44, _), (45, _)]) ⟨rfl, rfl, rfl, rfl, rfl, rfl, trivial⟩ ?_
        obtain ⟨r25, hr25, h⟩ := Sh.bind_some' h
        refine AR.op (r := .tuple [G.graph_Graph.av r25.1, i64 r25.2]) rfl (aop_call1 rfl rfl (by simp) (reach_More_ok hT hr25)) ?_
        refine AR.op (r := .tuple [G.graph_Graph.av r25.1, i64 r25.2]) rfl (aop_move (.inl rfl) rfl) ?_
        refine AR.op (r := G.graph_Graph.av r25.1) rfl (aop_extract rfl rfl rfl) ?_
        refine AR.drop (frx := [(11, _), (12, _), (13, _), (42, _), (47, _)]) ⟨rfl, rfl, rfl, rfl, rfl, trivial⟩ ?_
        refine AR.op (r := i64 r25.2) rfl (aop_extract rfl rfl rfl) ?_
        refine AR.op (r := .ref 2 0 0) rfl (aop_alloc 2 [.agg [i64 0, nilS]] rfl zr24 (by kernel_rfl) (.inl ⟨rfl, rfl⟩)) ?_
        refine AR.op rfl (aop_store (e' := G.graph_Graph.av r25.1) rfl rfl rfl rfl rfl rfl sz24 rfl (of_decide_eq_true rfl) rfl) ?_
        refine AR.drop (frx := [(11, _), (12, _), (13, _), (48, _), (14, _)]) ⟨rfl, rfl, rfl, rfl, rfl, trivial⟩ ?_
        refine AR.op (r := i64 r25.2) rfl (aop_move (.inr rfl) rfl) ?_
        refine AR.nil ?_
        refine hK15 _ (AWP.weak (Weak.re (fr' := [(11, i64 r21.2), (12, .ref 0 0 0), (13, i64 r23.2), (14, .ref 1 0 0), (15, i64 r25.2)]) (H' := ⟨2, [(0, (2, [G.graph_Graph.av r23.1])), (1, (2, [G.graph_Graph.av r25.1]))]⟩) [(0, 1), (1, 2)] [] rfl rfl rfl (.cons rfl rfl (.one (.same _ (by simp)) rfl) (of_decide_eq_true rfl) (.cons rfl rfl (.one (.same _ (by simp)) rfl) (of_decide_eq_true rfl) (trivial))) ⟨⟨_, rfl, .same _ (by simp)⟩, ⟨_, rfl, .ref rfl⟩, ⟨_, rfl, .same _ (by simp)⟩, ⟨_, rfl, .ref rfl⟩, ⟨_, rfl, .same _ (by simp)⟩, trivial⟩) ?_)
        clear hK15 K15
        refine awp_seqK fun K16 hK16 => ?_
        refine awp_any (by kernel_rfl) (by kernel_rfl) rfl ?_
        refine ARH.dry (r := i64 r21.2) rfl (fun _ => aop_move (.inl rfl) rfl) ?_
        refine ARH.dry (r := bl (decide (r21.2 = 0))) rfl (fun _ => aop_eql rfl rfl rfl) ?_
        refine ARH.dry (r := bl (decide (r21.2 = 0))) rfl (fun _ => aop_move (.inl rfl) rfl) ?_
        refine ARH.drop (frx := [(12, _), (13, _), (14, _), (15, _), (51, _)]) ⟨rfl, rfl, rfl, rfl, rfl, trivial⟩ ?_
        rcases Bool.eq_false_or_eq_true (decide (r21.2 = 0)) with hb32 | hb32
        · rw [hb32]
          replace h := Sh.if_t h hb32
          refine ARH.dry (r := i64 r23.2) rfl (fun _ => aop_move (.inl rfl) rfl) ?_
          refine ARH.dry (r := bl (decide (r23.2 = 0))) rfl (fun _ => aop_eql rfl rfl rfl) ?_
          refine ARH.dry (r := bl (decide (r23.2 = 0))) rfl (fun _ => aop_pick rfl rfl rfl) ?_
          refine ARH.drop (frx := [(12, _), (14, _), (15, _), (54, _)]) ⟨rfl, rfl, rfl, rfl, trivial⟩ ?_
          refine ARH.dry (r := bl (decide (r23.2 = 0))) rfl (fun _ => aop_move (.inl rfl) rfl) ?_
          rcases Bool.eq_false_or_eq_true (decide (r23.2 = 0)) with hb33 | hb33
          · rw [hb33]
            replace h := Sh.if_t h hb33
            refine ARH.dry (r := i64 r25.2) rfl (fun _ => aop_move (.inl rfl) rfl) ?_
            refine ARH.dry (r := bl (decide (r25.2 = 0))) rfl (fun _ => aop_eql rfl rfl rfl) ?_
            refine ARH.drop (frx := [(12, _), (14, _), (55, _), (57, _)]) ⟨rfl, rfl, rfl, rfl, trivial⟩ ?_
            refine ARH.dry (r := bl (decide (r25.2 = 0))) rfl (fun _ => aop_pick rfl rfl rfl) ?_
            refine ARH.dry (r := bl (decide (r25.2 = 0))) rfl (fun _ => aop_move (.inl rfl) rfl) ?_
            rcases Bool.eq_false_or_eq_true (decide (r25.2 = 0)) with hb34 | hb34
            · rw [hb34]
              replace h := Sh.if_t h hb34
              refine ARH.op (r := G.graph_Graph.av r25.1) rfl rfl (aop_load_ref rfl rfl rfl rfl sz24 rfl) ?_
              refine ARH.drop (frx := [(12, _), (59, _), (60, _)]) ⟨rfl, rfl, rfl, trivial⟩ ?_
              obtain ⟨r35, hr35, h⟩ := Sh.bind_some' h
              refine ARH.op (r := G.inquestref12_G.av r35) rfl rfl (aop_call1 rfl rfl (by simp) (inquestlaw13_plain_ok hT hr35)) ?_
              refine ARH.op (r := G.graph_Graph.av r23.1) rfl rfl (aop_load_ref rfl rfl rfl rfl sz24 rfl) ?_
              obtain ⟨r36, hr36, h⟩ := Sh.bind_some' h
              refine ARH.op (r := G.inquestref12_G.av r36) rfl rfl (aop_call1 rfl rfl (by simp) (inquestlaw13_plain_ok hT hr36)) ?_
              refine ARH.drop (frx := [(59, _), (61, _), (63, _)]) ⟨rfl, rfl, rfl, trivial⟩ ?_
              obtain ⟨r37, hr37, h⟩ := Sh.bind_some' h
              refine ARH.op (r := bl r37) rfl rfl (aop_call1 rfl rfl (by simp) (inquestref12_Same_ok hT hr37)) ?_
              refine ARH.dry (r := bl r37) rfl (fun _ => aop_pick rfl rfl rfl) ?_
              refine ARH.dry (r := bl r37) rfl (fun _ => aop_move (.inr rfl) rfl) ?_
              refine ARH.nil ?_
              refine hK16 _ (AWP.weak (Weak.re (fr' := [(6, bl r37)]) (H' := .empty) [] [] rfl rfl rfl (trivial) ⟨⟨_, rfl, .same _ (by simp)⟩, trivial⟩) ?_)
              clear hK16 K16
              refine awp_ret ?_
              obtain rfl := Option.some.inj h
              refine ⟨.inr rfl, bl r37, rfl, ?_⟩
              exact Weak.re [] [] rfl rfl rfl (trivial) ⟨⟨_, rfl, .same _ (by simp)⟩, trivial⟩
            · rw [hb34]
              replace h := Sh.if_f h hb34
              refine ARH.skip rfl ?_
              refine ARH.drop (frx := [(12, _), (59, _), (60, _)]) ⟨rfl, rfl, rfl, trivial⟩ ?_
              refine ARH.skip rfl ?_
              refine ARH.skip rfl ?_
              refine ARH.skip rfl ?_
              refine ARH.drop (frx := [(59, _), (61, _), (63, _)]) ⟨rfl, rfl, rfl, trivial⟩ ?_
              refine ARH.skip rfl ?_
              refine ARH.dry (r := bl false) rfl (fun _ => aop_pick rfl rfl rfl) ?_
              refine ARH.dry (r := bl false) rfl (fun _ => aop_move (.inr rfl) rfl) ?_
              refine ARH.nil ?_
              refine hK16 _ (AWP.weak (Weak.re (fr' := [(6, bl false)]) (H' := .empty) [] [] rfl rfl rfl (trivial) ⟨⟨_, rfl, .same _ (by simp)⟩, trivial⟩) ?_)
              clear hK16 K16
              refine awp_ret ?_
              obtain rfl := Option.some.inj h
              refine ⟨.inr rfl, bl false, rfl, ?_⟩
              exact Weak.re [] [] rfl rfl rfl (trivial) ⟨⟨_, rfl, .same _ (by simp)⟩, trivial⟩
          · rw [hb33]
            replace h := Sh.if_f h hb33
            refine ARH.skip rfl ?_
            refine ARH.skip rfl ?_
            refine ARH.drop (frx := [(12, _), (14, _), (55, _), (57, _)]) ⟨rfl, rfl, rfl, rfl, trivial⟩ ?_
            refine ARH.dry (r := bl false) rfl (fun _ => aop_pick rfl rfl rfl) ?_
            refine ARH.dry (r := bl false) rfl (fun _ => aop_move (.inl rfl) rfl) ?_
            refine ARH.skip rfl ?_
            refine ARH.drop (frx := [(12, _), (59, _), (60, _)]) ⟨rfl, rfl, rfl, trivial⟩ ?_
            refine ARH.skip rfl ?_
            refine ARH.skip rfl ?_
            refine ARH.skip rfl ?_
            refine ARH.drop (frx := [(59, _), (61, _), (63, _)]) ⟨rfl, rfl, rfl, trivial⟩ ?_
            refine ARH.skip rfl ?_
            refine ARH.dry (r := bl false) rfl (fun _ => aop_pick rfl rfl rfl) ?_
            refine ARH.dry (r := bl false) rfl (fun _ => aop_move (.inr rfl) rfl) ?_
            refine ARH.nil ?_
            refine hK16 _ (AWP.weak (Weak.re (fr' := [(6, bl false)]) (H' := .empty) [] [] rfl rfl rfl (trivial) ⟨⟨_, rfl, .same _ (by simp)⟩, trivial⟩) ?_)
            clear hK16 K16
            refine awp_ret ?_
            obtain rfl := Option.some.inj h
            refine ⟨.inr rfl, bl false, rfl, ?_⟩
            exact Weak.re [] [] rfl rfl rfl (trivial) ⟨⟨_, rfl, .same _ (by simp)⟩, trivial⟩
        · rw [hb32]
          replace h := Sh.if_f h hb32
          refine ARH.skip rfl ?_
          refine ARH.skip rfl ?_
          refine ARH.dry (r := bl false) rfl (fun _ => aop_pick rfl rfl rfl) ?_
          refine ARH.drop (frx := [(12, _), (14, _), (15, _), (54, _)]) ⟨rfl, rfl, rfl, rfl, trivial⟩ ?_
          refine ARH.dry (r := bl false) rfl (fun _ => aop_move (.inl rfl) rfl) ?_
          refine ARH.skip rfl ?_
          refine ARH.skip rfl ?_
          refine ARH.drop (frx := [(12, _), (14, _), (55, _), (57, _)]) ⟨rfl, rfl, rfl, rfl, trivial⟩ ?_
          refine ARH.dry (r := bl false) rfl (fun _ => aop_pick rfl rfl rfl) ?_
          refine ARH.dry (r := bl false) rfl (fun _ => aop_move (.inl rfl) rfl) ?_
          refine ARH.skip rfl ?_
          refine ARH.drop (frx := [(12, _), (59, _), (60, _)]) ⟨rfl, rfl, rfl, trivial⟩ ?_
          refine ARH.skip rfl ?_
          refine ARH.skip rfl ?_
          refine ARH.skip rfl ?_
          refine ARH.drop (frx := [(59, _), (61, _), (63, _)]) ⟨rfl, rfl, rfl, trivial⟩ ?_
          refine ARH.skip rfl ?_
          refine ARH.dry (r := bl false) rfl (fun _ => aop_pick rfl rfl rfl) ?_
          refine ARH.dry (r := bl false) rfl (fun _ => aop_move (.inr rfl) rfl) ?_
          refine ARH.nil ?_
          refine hK16 _ (AWP.weak (Weak.re (fr' := [(6, bl false)]) (H' := .empty) [] [] rfl rfl rfl (trivial) ⟨⟨_, rfl, .same _ (by simp)⟩, trivial⟩) ?_)
          clear hK16 K16
          refine awp_ret ?_
          obtain rfl := Option.some.inj h
          refine ⟨.inr rfl, bl false, rfl, ?_⟩
          exact Weak.re [] [] rfl rfl rfl (trivial) ⟨⟨_, rfl, .same _ (by simp)⟩, trivial⟩
theorem inquestlaw13_ReachMore_ok {W0 : World} (hT : Tab W0) {g_0 : G.graph_Graph} {a_1 : Int} {b_2 : Int} {r : Bool} (h : G.inquestlaw13_ReachMore g_0 a_1 b_2 = some r) : Fun1 Tryd.prog W0 6 [G.graph_Graph.av g_0, i64 a_1, i64 b_2] (bl r) := Fun1.two (inquestlaw13_ReachMore_ok0 hT h) (by simp)

end Wk
