/- That a statement does what its plain function says. -/
import Derived.Test.YtmmeihaoldinnaaDoorWkGinquestlaw12
open Go Go.Av Go.Proofs
set_option linter.unusedVariables false
namespace Wk
set_option maxHeartbeats 8000000 in
theorem inquestlaw12_GraphBoth_ok0 {W0 : World} (hT : Tab W0) {a_0 : G.graph_Graph} {b_1 : G.graph_Graph} {r : Bool} (h : G.inquestlaw12_GraphBoth a_0 b_1 = some r) : Fun2 Tryd.prog W0 7 [G.graph_Graph.av a_0, G.graph_Graph.av b_1] (bl r) .empty := by
  refine fun2_of_awp Tryd.func7 rfl (by kernel_rfl) Tryd.ntmps7 (by simp) ?_
  unfold G.inquestlaw12_GraphBoth at h
  show AWP _ _ _ _ ⟨[(0, G.graph_Graph.av a_0), (1, G.graph_Graph.av b_1)], .empty⟩ _
  refine awp_seqK fun K1 hK1 => ?_
  refine awp_reg rfl ?_
  refine AR.op (r := .ref 0 0 0) rfl (aop_box 2 [G.graph_Graph.av a_0] rfl rfl rfl (.inl ⟨rfl, rfl⟩)) ?_
  refine AR.op (r := .ref 1 0 0) rfl (aop_box 2 [G.graph_Graph.av b_1] rfl rfl rfl (.inl ⟨rfl, rfl⟩)) ?_
  refine AR.op (r := bl false) rfl (aop_move (.inr rfl) rfl) ?_
  refine AR.nil ?_
  refine hK1 _ (AWP.weak (Weak.re (fr' := [(2, .ref 0 0 0), (3, .ref 1 0 0)]) (H' := ⟨2, [(0, (2, [G.graph_Graph.av a_0])), (1, (2, [G.graph_Graph.av b_1]))]⟩) [(0, 0), (1, 1)] [] rfl rfl rfl (.cons rfl rfl (.one (.same _ (by simp)) rfl) (of_decide_eq_true rfl) (.cons rfl rfl (.one (.same _ (by simp)) rfl) (of_decide_eq_true rfl) (trivial))) ⟨⟨_, rfl, .ref rfl⟩, ⟨_, rfl, .ref rfl⟩, trivial⟩) ?_)
  clear hK1 K1
  refine awp_seqK fun K2 hK2 => ?_
  refine awp_reg rfl ?_
  obtain ⟨r32, hr32, h⟩ := Sh.bind_some' h
  refine AR.op (r := bl r32) rfl (aop_call1 rfl rfl (by simp) (inquestlaw12_awake_ok hT hr32)) ?_
  refine AR.op (r := bl r32) rfl (aop_move (.inr rfl) rfl) ?_
  refine AR.nil ?_
  refine hK2 _ (AWP.weak (Weak.re (fr' := [(2, .ref 0 0 0), (3, .ref 1 0 0), (5, bl r32)]) (H' := ⟨2, [(0, (2, [G.graph_Graph.av a_0])), (1, (2, [G.graph_Graph.av b_1]))]⟩) [(0, 0), (1, 1)] [] rfl rfl rfl (.cons rfl rfl (.one (.same _ (by simp)) rfl) (of_decide_eq_true rfl) (.cons rfl rfl (.one (.same _ (by simp)) rfl) (of_decide_eq_true rfl) (trivial))) ⟨⟨_, rfl, .ref rfl⟩, ⟨_, rfl, .ref rfl⟩, ⟨_, rfl, .same _ (by simp)⟩, trivial⟩) ?_)
  clear hK2 K2
  refine awp_seqK fun K3 hK3 => ?_
  refine awp_seqK fun K4 hK4 => ?_
  refine awp_reg rfl ?_
  refine AR.op (r := bl r32) rfl (aop_move (.inl rfl) rfl) ?_
  refine AR.op (r := bl (!r32)) rfl (aop_not rfl rfl) ?_
  refine AR.nil ?_
  refine hK4 _ (AWP.weak (Weak.re (fr' := [(2, .ref 0 0 0), (3, .ref 1 0 0), (14, bl (!r32))]) (H' := ⟨2, [(0, (2, [G.graph_Graph.av a_0])), (1, (2, [G.graph_Graph.av b_1]))]⟩) [(0, 0), (1, 1)] [] rfl rfl rfl (.cons rfl rfl (.one (.same _ (by simp)) rfl) (of_decide_eq_true rfl) (.cons rfl rfl (.one (.same _ (by simp)) rfl) (of_decide_eq_true rfl) (trivial))) ⟨⟨_, rfl, .ref rfl⟩, ⟨_, rfl, .ref rfl⟩, ⟨_, rfl, .same _ (by simp)⟩, trivial⟩) ?_)
  clear hK4 K4
  refine awp_cond rfl (fun hb33 => ?_) (fun hb33 => ?_)
  · replace h := Sh.if_t h hb33
    refine awp_seqK fun K5 hK5 => ?_
    refine awp_reg rfl ?_
    refine AR.op (r := bl false) rfl (aop_move (.inr rfl) rfl) ?_
    refine AR.nil ?_
    refine hK5 _ (AWP.weak (Weak.re (fr' := [(4, bl false)]) (H' := .empty) [] [] rfl rfl rfl (trivial) ⟨⟨_, rfl, .same _ (by simp)⟩, trivial⟩) ?_)
    clear hK5 K5
    refine awp_ret ?_
    obtain rfl := Option.some.inj h
    refine ⟨.inr rfl, bl false, rfl, ?_⟩
    exact Weak.re [] [] rfl rfl rfl (trivial) ⟨⟨_, rfl, .same _ (by simp)⟩, trivial⟩
  · replace h := Sh.if_f h hb33
    refine awp_skip ?_
    refine hK3 _ (AWP.weak (Weak.re (fr' := [(2, .ref 0 0 0), (3, .ref 1 0 0)]) (H' := ⟨2, [(0, (2, [G.graph_Graph.av a_0])), (1, (2, [G.graph_Graph.av b_1]))]⟩) [(0, 0), (1, 1)] [] rfl rfl rfl (.cons rfl rfl (.one (.same _ (by simp)) rfl) (of_decide_eq_true rfl) (.cons rfl rfl (.one (.same _ (by simp)) rfl) (of_decide_eq_true rfl) (trivial))) ⟨⟨_, rfl, .ref rfl⟩, ⟨_, rfl, .ref rfl⟩, trivial⟩) ?_)
    clear hK3 K3
    refine awp_seqK fun K6 hK6 => ?_
    refine awp_seqJ (fun (p : Bool) => (⟨[(2, .ref 0 0 0), (3, .ref 1 0 0), (24, bl p)], ⟨2, [(0, (2, [G.graph_Graph.av a_0])), (1, (2, [G.graph_Graph.av b_1]))]⟩⟩ : St)) (fun (p : Bool) => G.inquestlaw12_GraphBoth_j1 a_0 b_1 p = some r) ?_ ?_
    · rintro v37 h
      replace h : G.inquestlaw12_GraphBoth_j1 a_0 b_1 v37 = some r := h
      unfold G.inquestlaw12_GraphBoth_j1 at h
      show AWP _ _ _ _ ⟨[(2, .ref 0 0 0), (3, .ref 1 0 0), (24, bl v37)], ⟨2, [(0, (2, [G.graph_Graph.av a_0])), (1, (2, [G.graph_Graph.av b_1]))]⟩⟩ _
      refine awp_cond rfl (fun hb38 => ?_) (fun hb38 => ?_)
      · replace h := Sh.if_t h hb38
        refine awp_seqK fun K7 hK7 => ?_
        refine awp_reg rfl ?_
        refine AR.op (r := bl true) rfl (aop_move (.inr rfl) rfl) ?_
        refine AR.nil ?_
        refine hK7 _ (AWP.weak (Weak.re (fr' := [(4, bl true)]) (H' := .empty) [] [] rfl rfl rfl (trivial) ⟨⟨_, rfl, .same _ (by simp)⟩, trivial⟩) ?_)
        clear hK7 K7
        refine awp_ret ?_
        obtain rfl := Option.some.inj h
        refine ⟨.inr rfl, bl true, rfl, ?_⟩
        exact Weak.re [] [] rfl rfl rfl (trivial) ⟨⟨_, rfl, .same _ (by simp)⟩, trivial⟩
      · replace h := Sh.if_f h hb38
        refine awp_skip ?_
        refine hK6 _ (AWP.weak (Weak.re (fr' := [(2, .ref 0 0 0), (3, .ref 1 0 0)]) (H' := ⟨2, [(0, (2, [G.graph_Graph.av a_0])), (1, (2, [G.graph_Graph.av b_1]))]⟩) [(0, 0), (1, 1)] [] rfl rfl rfl (.cons rfl rfl (.one (.same _ (by simp)) rfl) (of_decide_eq_true rfl) (.cons rfl rfl (.one (.same _ (by simp)) rfl) (of_decide_eq_true rfl) (trivial))) ⟨⟨_, rfl, .ref rfl⟩, ⟨_, rfl, .ref rfl⟩, trivial⟩) ?_)
        clear hK6 K6
        refine awp_seqK fun K8 hK8 => ?_
        refine awp_reg rfl ?_
        refine AR.op (r := G.graph_Graph.av a_0) rfl (aop_load_ref rfl rfl rfl rfl sz24 rfl) ?_
        refine AR.op (r := G.graph_Graph.av b_1) rfl (aop_load_ref rfl rfl rfl rfl sz24 rfl) ?_
        obtain ⟨r40, hr40, h⟩ := Sh.bind_some' h
        refine AR.op (r := .tuple [G.graph_Graph.av r40.1, i64 r40.2]) rfl (aop_call1 rfl rfl (by simp) (graph_Union_ok hT hr40)) ?_
        refine AR.drop (frx := [(2, _), (3, _), (28, _)]) ⟨rfl, rfl, rfl, trivial⟩ ?_
        refine AR.op (r := .tuple [G.graph_Graph.av r40.1, i64 r40.2]) rfl (aop_move (.inl rfl) rfl) ?_
        refine AR.op (r := G.graph_Graph.av r40.1) rfl (aop_extract rfl rfl rfl) ?_
        refine AR.op (r := i64 r40.2) rfl (aop_extract rfl rfl rfl) ?_
        refine AR.drop (frx := [(2, _), (3, _), (29, _), (30, _)]) ⟨rfl, rfl, rfl, rfl, trivial⟩ ?_
        refine AR.op (r := .ref 2 0 0) rfl (aop_alloc 2 [.agg [i64 0, nilS]] rfl zr24 (by kernel_rfl) (.inl ⟨rfl, rfl⟩)) ?_
        refine AR.op rfl (aop_store (e' := G.graph_Graph.av r40.1) rfl rfl rfl rfl rfl rfl sz24 rfl (of_decide_eq_true rfl) rfl) ?_
        refine AR.op (r := i64 r40.2) rfl (aop_move (.inr rfl) rfl) ?_
        refine AR.nil ?_
        refine hK8 _ (AWP.weak (Weak.re (fr' := [(2, .ref 0 0 0), (3, .ref 1 0 0), (6, .ref 2 0 0), (7, i64 r40.2)]) (H' := ⟨3, [(0, (2, [G.graph_Graph.av a_0])), (1, (2, [G.graph_Graph.av b_1])), (2, (2, [G.graph_Graph.av r40.1]))]⟩) [(0, 0), (1, 1), (2, 2)] [] rfl rfl rfl (.cons rfl rfl (.one (.same _ (by simp)) rfl) (of_decide_eq_true rfl) (.cons rfl rfl (.one (.same _ (by simp)) rfl) (of_decide_eq_true rfl) (.cons rfl rfl (.one (.same _ (by simp)) rfl) (of_decide_eq_true rfl) (trivial)))) ⟨⟨_, rfl, .ref rfl⟩, ⟨_, rfl, .ref rfl⟩, ⟨_, rfl, .ref rfl⟩, ⟨_, rfl, .same _ (by simp)⟩, trivial⟩) ?_)
        clear hK8 K8
        refine awp_seqK fun K9 hK9 => ?_
        refine awp_reg rfl ?_
        refine AR.op (r := G.graph_Graph.av a_0) rfl (aop_load_ref rfl rfl rfl rfl sz24 rfl) ?_
        refine AR.op (r := G.graph_Graph.av b_1) rfl (aop_load_ref rfl rfl rfl rfl sz24 rfl) ?_
        obtain ⟨r42, hr42, h⟩ := Sh.bind_some' h
        refine AR.op (r := .tuple [G.graph_Graph.av r42.1, i64 r42.2]) rfl (aop_call1 rfl rfl (by simp) (graph_Compose_ok hT hr42)) ?_
        refine AR.drop (frx := [(2, _), (3, _), (6, _), (7, _), (34, _)]) ⟨rfl, rfl, rfl, rfl, rfl, trivial⟩ ?_
        refine AR.op (r := .tuple [G.graph_Graph.av r42.1, i64 r42.2]) rfl (aop_move (.inl rfl) rfl) ?_
        refine AR.op (r := G.graph_Graph.av r42.1) rfl (aop_extract rfl rfl rfl) ?_
        refine AR.op (r := i64 r42.2) rfl (aop_extract rfl rfl rfl) ?_
        refine AR.drop (frx := [(2, _), (3, _), (6, _), (7, _), (35, _), (36, _)]) ⟨rfl, rfl, rfl, rfl, rfl, rfl, trivial⟩ ?_
        refine AR.op (r := .ref 3 0 0) rfl (aop_alloc 2 [.agg [i64 0, nilS]] rfl zr24 (by kernel_rfl) (.inl ⟨rfl, rfl⟩)) ?_
        refine AR.op rfl (aop_store (e' := G.graph_Graph.av r42.1) rfl rfl rfl rfl rfl rfl sz24 rfl (of_decide_eq_true rfl) rfl) ?_
        refine AR.op (r := i64 r42.2) rfl (aop_move (.inr rfl) rfl) ?_
        refine AR.nil ?_
        refine hK9 _ (AWP.weak (Weak.re (fr' := [(2, .ref 0 0 0), (3, .ref 1 0 0), (6, .ref 2 0 0), (7, i64 r40.2), (8, .ref 3 0 0), (9, i64 r42.2)]) (H' := ⟨4, [(0, (2, [G.graph_Graph.av a_0])), (1, (2, [G.graph_Graph.av b_1])), (2, (2, [G.graph_Graph.av r40.1])), (3, (2, [G.graph_Graph.av r42.1]))]⟩) [(0, 0), (1, 1), (2, 2), (3, 3)] [] rfl rfl rfl (.cons rfl rfl (.one (.same _ (by simp)) rfl) (of_decide_eq_true rfl) (.cons rfl rfl (.one (.same _ (by simp)) rfl) (of_decide_eq_true rfl) (.cons rfl rfl (.one (.same _ (by simp)) rfl) (of_decide_eq_true rfl) (.cons rfl rfl (.one (.same _ (by simp)) rfl) (of_decide_eq_true rfl) (trivial))))) ⟨⟨_, rfl, .ref rfl⟩, ⟨_, rfl, .ref rfl⟩, ⟨_, rfl, .ref rfl⟩, ⟨_, rfl, .same _ (by simp)⟩, ⟨_, rfl, .ref rfl⟩, ⟨_, rfl, .same _ (by simp)⟩, trivial⟩) ?_)
        clear hK9 K9
        refine awp_seqK fun K10 hK10 => ?_
        refine awp_reg rfl ?_
        refine AR.op (r := G.graph_Graph.av a_0) rfl (aop_load_ref rfl rfl rfl rfl sz24 rfl) ?_
        obtain ⟨r45, hr45, h⟩ := Sh.bind_some' h
        refine AR.op (r := G.inquestref12_G.av r45) rfl (aop_call1 rfl rfl (by simp) (inquestlaw12_Plain_ok hT hr45)) ?_
        obtain ⟨r46, hr46, h⟩ := Sh.bind_some' h
        refine AR.op (r := bl r46) rfl (aop_call1 rfl rfl (by simp) (inquestref12_Right_ok hT hr46)) ?_
        refine AR.drop (frx := [(2, _), (3, _), (6, _), (7, _), (8, _), (9, _), (39, _)]) ⟨rfl, rfl, rfl, rfl, rfl, rfl, rfl, trivial⟩ ?_
        refine AR.op (r := bl r46) rfl (aop_move (.inr rfl) rfl) ?_
        refine AR.nil ?_
        refine hK10 _ (AWP.weak (Weak.re (fr' := [(2, .ref 0 0 0), (3, .ref 1 0 0), (6, .ref 2 0 0), (7, i64 r40.2), (8, .ref 3 0 0), (9, i64 r42.2), (10, bl r46)]) (H' := ⟨4, [(0, (2, [G.graph_Graph.av a_0])), (1, (2, [G.graph_Graph.av b_1])), (2, (2, [G.graph_Graph.av r40.1])), (3, (2, [G.graph_Graph.av r42.1]))]⟩) [(0, 0), (1, 1), (2, 2), (3, 3)] [] rfl rfl rfl (.cons rfl rfl (.one (.same _ (by simp)) rfl) (of_decide_eq_true rfl) (.cons rfl rfl (.one (.same _ (by simp)) rfl) (of_decide_eq_true rfl) (.cons rfl rfl (.one (.same _ (by simp)) rfl) (of_decide_eq_true rfl) (.cons rfl rfl (.one (.same _ (by simp)) rfl) (of_decide_eq_true rfl) (trivial))))) ⟨⟨_, rfl, .ref rfl⟩, ⟨_, rfl, .ref rfl⟩, ⟨_, rfl, .ref rfl⟩, ⟨_, rfl, .same _ (by simp)⟩, ⟨_, rfl, .ref rfl⟩, ⟨_, rfl, .same _ (by simp)⟩, ⟨_, rfl, .same _ (by simp)⟩, trivial⟩) ?_)
        clear hK10 K10
        refine awp_seqK fun K11 hK11 => ?_
        refine awp_reg rfl ?_
        refine AR.op (r := G.graph_Graph.av b_1) rfl (aop_load_ref rfl rfl rfl rfl sz24 rfl) ?_
        obtain ⟨r49, hr49, h⟩ := Sh.bind_some' h
        refine AR.op (r := G.inquestref12_G.av r49) rfl (aop_call1 rfl rfl (by simp) (inquestlaw12_Plain_ok hT hr49)) ?_
        obtain ⟨r50, hr50, h⟩ := Sh.bind_some' h
        refine AR.op (r := bl r50) rfl (aop_call1 rfl rfl (by simp) (inquestref12_Right_ok hT hr50)) ?_
        refine AR.drop (frx := [(2, _), (3, _), (6, _), (7, _), (8, _), (9, _), (10, _), (42, _)]) ⟨rfl, rfl, rfl, rfl, rfl, rfl, rfl, rfl, trivial⟩ ?_
        refine AR.op (r := bl r50) rfl (aop_move (.inr rfl) rfl) ?_
        refine AR.nil ?_
        refine hK11 _ (AWP.weak (Weak.re (fr' := [(2, .ref 0 0 0), (3, .ref 1 0 0), (6, .ref 2 0 0), (7, i64 r40.2), (8, .ref 3 0 0), (9, i64 r42.2), (10, bl r46), (11, bl r50)]) (H' := ⟨4, [(0, (2, [G.graph_Graph.av a_0])), (1, (2, [G.graph_Graph.av b_1])), (2, (2, [G.graph_Graph.av r40.1])), (3, (2, [G.graph_Graph.av r42.1]))]⟩) [(0, 0), (1, 1), (2, 2), (3, 3)] [] rfl rfl rfl (.cons rfl rfl (.one (.same _ (by simp)) rfl) (of_decide_eq_true rfl) (.cons rfl rfl (.one (.same _ (by simp)) rfl) (of_decide_eq_true rfl) (.cons rfl rfl (.one (.same _ (by simp)) rfl) (of_decide_eq_true rfl) (.cons rfl rfl (.one (.same _ (by simp)) rfl) (of_decide_eq_true rfl) (trivial))))) ⟨⟨_, rfl, .ref rfl⟩, ⟨_, rfl, .ref rfl⟩, ⟨_, rfl, .ref rfl⟩, ⟨_, rfl, .same _ (by simp)⟩, ⟨_, rfl, .ref rfl⟩, ⟨_, rfl, .same _ (by simp)⟩, ⟨_, rfl, .same _ (by simp)⟩, ⟨_, rfl, .same _ (by simp)⟩, trivial⟩) ?_)
        clear hK11 K11
        refine awp_seqK fun K12 hK12 => ?_
        refine awp_seqJ (fun (p : Bool) => (⟨[(2, .ref 0 0 0), (3, .ref 1 0 0), (6, .ref 2 0 0), (7, i64 r40.2), (8, .ref 3 0 0), (9, i64 r42.2), (55, bl p)], ⟨4, [(0, (2, [G.graph_Graph.av a_0])), (1, (2, [G.graph_Graph.av b_1])), (2, (2, [G.graph_Graph.av r40.1])), (3, (2, [G.graph_Graph.av r42.1]))]⟩⟩ : St)) (fun (p : Bool) => G.inquestlaw12_GraphBoth_j2 a_0 b_1 r40 r42 p = some r) ?_ ?_
        · rintro v60 h
          replace h : G.inquestlaw12_GraphBoth_j2 a_0 b_1 r40 r42 v60 = some r := h
          unfold G.inquestlaw12_GraphBoth_j2 at h
          show AWP _ _ _ _ ⟨[(2, .ref 0 0 0), (3, .ref 1 0 0), (6, .ref 2 0 0), (7, i64 r40.2), (8, .ref 3 0 0), (9, i64 r42.2), (55, bl v60)], ⟨4, [(0, (2, [G.graph_Graph.av a_0])), (1, (2, [G.graph_Graph.av b_1])), (2, (2, [G.graph_Graph.av r40.1])), (3, (2, [G.graph_Graph.av r42.1]))]⟩⟩ _
          refine awp_cond rfl (fun hb61 => ?_) (fun hb61 => ?_)
          · replace h := Sh.if_t h hb61
            refine awp_seqK fun K13 hK13 => ?_
            refine awp_reg rfl ?_
            refine AR.op (r := i64 r40.2) rfl (aop_move (.inl rfl) rfl) ?_
            refine AR.op (r := bl (decide (r40.2 = 1))) rfl (aop_eql rfl rfl rfl) ?_
            refine AR.op (r := bl (decide (r40.2 = 1))) rfl (aop_move (.inl rfl) rfl) ?_
            refine AR.drop (frx := [(6, _), (8, _), (9, _), (58, _)]) ⟨rfl, rfl, rfl, rfl, trivial⟩ ?_
            rcases Bool.eq_false_or_eq_true (decide (r40.2 = 1)) with hb65 | hb65
            · rw [hb65]
              replace h := Sh.if_t h hb65
              refine AR.op (r := i64 r42.2) rfl (aop_move (.inl rfl) rfl) ?_
              refine AR.op (r := bl (decide (r42.2 = 1))) rfl (aop_eql rfl rfl rfl) ?_
              refine AR.op (r := bl (decide (r42.2 = 1))) rfl (aop_pick rfl rfl rfl) ?_
              refine AR.drop (frx := [(6, _), (8, _), (61, _)]) ⟨rfl, rfl, rfl, trivial⟩ ?_
              refine AR.op (r := bl (decide (r42.2 = 1))) rfl (aop_move (.inl rfl) rfl) ?_
              rcases Bool.eq_false_or_eq_true (decide (r42.2 = 1)) with hb66 | hb66
              · rw [hb66]
                replace h := Sh.if_t h hb66
                refine AR.op rfl (aop_field_ref rfl rfl rfl fd24_0 (by decide)) ?_
                refine AR.op (r := i64 r40.1.N) rfl (aop_load_ref rfl rfl rfl rfl sz3 rfl) ?_
                refine AR.drop (frx := [(6, _), (8, _), (62, _), (64, _)]) ⟨rfl, rfl, rfl, rfl, trivial⟩ ?_
                refine AR.op rfl (aop_field_ref rfl rfl rfl fd24_0 (by decide)) ?_
                refine AR.op (r := i64 r42.1.N) rfl (aop_load_ref rfl rfl rfl rfl sz3 rfl) ?_
                refine AR.op (r := i64 (w64 (r40.1.N + r42.1.N))) rfl (aop_add rfl rfl rfl rfl) ?_
                refine AR.drop (frx := [(6, _), (8, _), (62, _), (67, _)]) ⟨rfl, rfl, rfl, rfl, trivial⟩ ?_
                refine AR.op rfl (aop_field_ref rfl rfl rfl fd24_1 (by decide)) ?_
                refine AR.op (r := .sl (List.map u64 r40.1.Rows)) rfl (aop_load_ref rfl rfl rfl rfl sz22 rfl) ?_
                refine AR.op (r := i64 (Sh.len r40.1.Rows)) rfl (t_len_sl u64 r40.1.Rows rfl rfl el22) ?_
                refine AR.drop (frx := [(8, _), (62, _), (67, _), (70, _)]) ⟨rfl, rfl, rfl, rfl, trivial⟩ ?_
                refine AR.op (r := i64 (w64 ((w64 (r40.1.N + r42.1.N)) + (Sh.len r40.1.Rows)))) rfl (aop_add rfl rfl rfl rfl) ?_
                refine AR.op rfl (aop_field_ref rfl rfl rfl fd24_1 (by decide)) ?_
                refine AR.op (r := .sl (List.map u64 r42.1.Rows)) rfl (aop_load_ref rfl rfl rfl rfl sz22 rfl) ?_
                refine AR.drop (frx := [(62, _), (71, _), (73, _)]) ⟨rfl, rfl, rfl, trivial⟩ ?_
                refine AR.op (r := i64 (Sh.len r42.1.Rows)) rfl (t_len_sl u64 r42.1.Rows rfl rfl el22) ?_
                refine AR.op (r := i64 (w64 ((w64 ((w64 (r40.1.N + r42.1.N)) + (Sh.len r40.1.Rows))) + (Sh.len r42.1.Rows)))) rfl (aop_add rfl rfl rfl rfl) ?_
                refine AR.op (r := bl (decide ((w64 ((w64 ((w64 (r40.1.N + r42.1.N)) + (Sh.len r40.1.Rows))) + (Sh.len r42.1.Rows))) = 0))) rfl (aop_eql rfl rfl rfl) ?_
                refine AR.drop (frx := [(62, _), (76, _)]) ⟨rfl, rfl, trivial⟩ ?_
                refine AR.op (r := bl (decide ((w64 ((w64 ((w64 (r40.1.N + r42.1.N)) + (Sh.len r40.1.Rows))) + (Sh.len r42.1.Rows))) = 0))) rfl (aop_pick rfl rfl rfl) ?_
                obtain ⟨x67, hx67, h⟩ := Sh.lett_some h
                refine AR.op (r := bl x67) rfl ((aop_move (.inr rfl) rfl).conv (congrArg bl hx67)) ?_
                refine AR.nil ?_
                refine hK13 _ (AWP.weak (Weak.re (fr' := [(4, bl x67)]) (H' := .empty) [] [] rfl rfl rfl (trivial) ⟨⟨_, rfl, .same _ (by simp)⟩, trivial⟩) ?_)
                clear hK13 K13
                refine awp_ret ?_
                obtain rfl := Option.some.inj h
                refine ⟨.inr rfl, bl x67, rfl, ?_⟩
                exact Weak.re [] [] rfl rfl rfl (trivial) ⟨⟨_, rfl, .same _ (by simp)⟩, trivial⟩
              · rw [hb66]
                replace h := Sh.if_f h hb66
                refine AR.skip rfl ?_
                refine AR.skip rfl ?_
                refine AR.drop (frx := [(6, _), (8, _), (62, _), (64, _)]) ⟨rfl, rfl, rfl, rfl, trivial⟩ ?_
                refine AR.skip rfl ?_
                refine AR.skip rfl ?_
                refine AR.skip rfl ?_
                refine AR.drop (frx := [(6, _), (8, _), (62, _), (67, _)]) ⟨rfl, rfl, rfl, rfl, trivial⟩ ?_
                refine AR.skip rfl ?_
                refine AR.skip rfl ?_
                refine AR.skip rfl ?_
                refine AR.drop (frx := [(8, _), (62, _), (67, _), (70, _)]) ⟨rfl, rfl, rfl, rfl, trivial⟩ ?_
                refine AR.skip rfl ?_
                refine AR.skip rfl ?_
                refine AR.skip rfl ?_
                refine AR.drop (frx := [(62, _), (71, _), (73, _)]) ⟨rfl, rfl, rfl, trivial⟩ ?_
                refine AR.skip rfl ?_
                refine AR.skip rfl ?_
                refine AR.skip rfl ?_
                refine AR.drop (frx := [(62, _), (76, _)]) ⟨rfl, rfl, trivial⟩ ?_
                refine AR.op (r := bl false) rfl (aop_pick rfl rfl rfl) ?_
                refine AR.op (r := bl false) rfl (aop_move (.inr rfl) rfl) ?_
                refine AR.nil ?_
                refine hK13 _ (AWP.weak (Weak.re (fr' := [(4, bl false)]) (H' := .empty) [] [] rfl rfl rfl (trivial) ⟨⟨_, rfl, .same _ (by simp)⟩, trivial⟩) ?_)
                clear hK13 K13
                refine awp_ret ?_
                obtain rfl := Option.some.inj h
                refine ⟨.inr rfl, bl false, rfl, ?_⟩
                exact Weak.re [] [] rfl rfl rfl (trivial) ⟨⟨_, rfl, .same _ (by simp)⟩, trivial⟩
            · rw [hb65]
              replace h := Sh.if_f h hb65
              refine AR.skip rfl ?_
              refine AR.skip rfl ?_
              refine AR.op (r := bl false) rfl (aop_pick rfl rfl rfl) ?_
              refine AR.drop (frx := [(6, _), (8, _), (61, _)]) ⟨rfl, rfl, rfl, trivial⟩ ?_
              refine AR.op (r := bl false) rfl (aop_move (.inl rfl) rfl) ?_
              refine AR.skip rfl ?_
              refine AR.skip rfl ?_
              refine AR.drop (frx := [(6, _), (8, _), (62, _), (64, _)]) ⟨rfl, rfl, rfl, rfl, trivial⟩ ?_
              refine AR.skip rfl ?_
              refine AR.skip rfl ?_
              refine AR.skip rfl ?_
              refine AR.drop (frx := [(6, _), (8, _), (62, _), (67, _)]) ⟨rfl, rfl, rfl, rfl, trivial⟩ ?_
              refine AR.skip rfl ?_
              refine AR.skip rfl ?_
              refine AR.skip rfl ?_
              refine AR.drop (frx := [(8, _), (62, _), (67, _), (70, _)]) ⟨rfl, rfl, rfl, rfl, trivial⟩ ?_
              refine AR.skip rfl ?_
              refine AR.skip rfl ?_
              refine AR.skip rfl ?_
              refine AR.drop (frx := [(62, _), (71, _), (73, _)]) ⟨rfl, rfl, rfl, trivial⟩ ?_
              refine AR.skip rfl ?_
              refine AR.skip rfl ?_
              refine AR.skip rfl ?_
              refine AR.drop (frx := [(62, _), (76, _)]) ⟨rfl, rfl, trivial⟩ ?_
              refine AR.op (r := bl false) rfl (aop_pick rfl rfl rfl) ?_
              refine AR.op (r := bl false) rfl (aop_move (.inr rfl) rfl) ?_
              refine AR.nil ?_
              refine hK13 _ (AWP.weak (Weak.re (fr' := [(4, bl false)]) (H' := .empty) [] [] rfl rfl rfl (trivial) ⟨⟨_, rfl, .same _ (by simp)⟩, trivial⟩) ?_)
              clear hK13 K13
              refine awp_ret ?_
              obtain rfl := Option.some.inj h
              refine ⟨.inr rfl, bl false, rfl, ?_⟩
              exact Weak.re [] [] rfl rfl rfl (trivial) ⟨⟨_, rfl, .same _ (by simp)⟩, trivial⟩
          · replace h := Sh.if_f h hb61
            refine awp_skip ?_
            refine hK12 _ (AWP.weak (Weak.re (fr' := [(2, .ref 0 0 0), (3, .ref 1 0 0), (6, .ref 2 0 0), (7, i64 r40.2), (8, .ref 3 0 0), (9, i64 r42.2)]) (H' := ⟨4, [(0, (2, [G.graph_Graph.av a_0])), (1, (2, [G.graph_Graph.av b_1])), (2, (2, [G.graph_Graph.av r40.1])), (3, (2, [G.graph_Graph.av r42.1]))]⟩) [(0, 0), (1, 1), (2, 2), (3, 3)] [] rfl rfl rfl (.cons rfl rfl (.one (.same _ (by simp)) rfl) (of_decide_eq_true rfl) (.cons rfl rfl (.one (.same _ (by simp)) rfl) (of_decide_eq_true rfl) (.cons rfl rfl (.one (.same _ (by simp)) rfl) (of_decide_eq_true rfl) (.cons rfl rfl (.one (.same _ (by simp)) rfl) (of_decide_eq_true rfl) (trivial))))) ⟨⟨_, rfl, .ref rfl⟩, ⟨_, rfl, .ref rfl⟩, ⟨_, rfl, .ref rfl⟩, ⟨_, rfl, .same _ (by simp)⟩, ⟨_, rfl, .ref rfl⟩, ⟨_, rfl, .same _ (by simp)⟩, trivial⟩) ?_)
            clear hK12 K12
            refine awp_seqK fun K14 hK14 => ?_
            refine awp_any (by kernel_rfl) (by kernel_rfl) rfl ?_
            refine ARH.dry (r := i64 r40.2) rfl (fun _ => aop_move (.inl rfl) rfl) ?_
            refine ARH.dry (r := bl (decide (r40.2 = 0))) rfl (fun _ => aop_eql rfl rfl rfl) ?_
            refine ARH.dry (r := bl (decide (r40.2 = 0))) rfl (fun _ => aop_move (.inl rfl) rfl) ?_
            refine ARH.drop (frx := [(2, _), (3, _), (6, _), (8, _), (9, _), (80, _)]) ⟨rfl, rfl, rfl, rfl, rfl, rfl, trivial⟩ ?_
            rcases Bool.eq_false_or_eq_true (decide (r40.2 = 0)) with hb81 | hb81
            · rw [hb81]
              replace h := Sh.if_t h hb81
              refine ARH.dry (r := i64 r42.2) rfl (fun _ => aop_move (.inl rfl) rfl) ?_
              refine ARH.dry (r := bl (decide (r42.2 = 0))) rfl (fun _ => aop_eql rfl rfl rfl) ?_
              refine ARH.dry (r := bl (decide (r42.2 = 0))) rfl (fun _ => aop_pick rfl rfl rfl) ?_
              refine ARH.drop (frx := [(2, _), (3, _), (6, _), (8, _), (83, _)]) ⟨rfl, rfl, rfl, rfl, rfl, trivial⟩ ?_
              refine ARH.dry (r := bl (decide (r42.2 = 0))) rfl (fun _ => aop_move (.inl rfl) rfl) ?_
              rcases Bool.eq_false_or_eq_true (decide (r42.2 = 0)) with hb82 | hb82
              · rw [hb82]
                replace h := Sh.if_t h hb82
                refine ARH.op (r := G.graph_Graph.av r40.1) rfl rfl (aop_load_ref rfl rfl rfl rfl sz24 rfl) ?_
                obtain ⟨r83, hr83, h⟩ := Sh.bind_some' h
                refine ARH.op (r := G.inquestref12_G.av r83) rfl rfl (aop_call1 rfl rfl (by simp) (inquestlaw12_Plain_ok hT hr83)) ?_
                refine ARH.drop (frx := [(2, _), (3, _), (8, _), (84, _), (86, _)]) ⟨rfl, rfl, rfl, rfl, rfl, trivial⟩ ?_
                refine ARH.op (r := G.graph_Graph.av a_0) rfl rfl (aop_load_ref rfl rfl rfl rfl sz24 rfl) ?_
                obtain ⟨r84, hr84, h⟩ := Sh.bind_some' h
                refine ARH.op (r := G.inquestref12_G.av r84) rfl rfl (aop_call1 rfl rfl (by simp) (inquestlaw12_Plain_ok hT hr84)) ?_
                refine ARH.op (r := G.graph_Graph.av b_1) rfl rfl (aop_load_ref rfl rfl rfl rfl sz24 rfl) ?_
                refine ARH.drop (frx := [(2, _), (3, _), (8, _), (84, _), (86, _), (88, _), (89, _)]) ⟨rfl, rfl, rfl, rfl, rfl, rfl, rfl, trivial⟩ ?_
                obtain ⟨r85, hr85, h⟩ := Sh.bind_some' h
                refine ARH.op (r := G.inquestref12_G.av r85) rfl rfl (aop_call1 rfl rfl (by simp) (inquestlaw12_Plain_ok hT hr85)) ?_
                obtain ⟨r86, hr86, h⟩ := Sh.bind_some' h
                refine ARH.op (r := G.inquestref12_G.av r86) rfl rfl (aop_call1 rfl rfl (by simp) (inquestref12_Union_ok hT hr86)) ?_
                obtain ⟨r87, hr87, h⟩ := Sh.bind_some' h
                refine ARH.op (r := bl r87) rfl rfl (aop_call1 rfl rfl (by simp) (inquestref12_Same_ok hT hr87)) ?_
                refine ARH.drop (frx := [(2, _), (3, _), (8, _), (84, _), (92, _)]) ⟨rfl, rfl, rfl, rfl, rfl, trivial⟩ ?_
                refine ARH.dry (r := bl r87) rfl (fun _ => aop_pick rfl rfl rfl) ?_
                refine ARH.dry (r := bl r87) rfl (fun _ => aop_move (.inl rfl) rfl) ?_
                rcases Bool.eq_false_or_eq_true (r87) with hb88 | hb88
                · rw [hb88]
                  replace h := Sh.if_t h hb88
                  refine ARH.op (r := G.graph_Graph.av r42.1) rfl rfl (aop_load_ref rfl rfl rfl rfl sz24 rfl) ?_
                  refine ARH.drop (frx := [(2, _), (3, _), (94, _), (95, _)]) ⟨rfl, rfl, rfl, rfl, trivial⟩ ?_
                  obtain ⟨r89, hr89, h⟩ := Sh.bind_some' h
                  refine ARH.op (r := G.inquestref12_G.av r89) rfl rfl (aop_call1 rfl rfl (by simp) (inquestlaw12_Plain_ok hT hr89)) ?_
                  refine ARH.op (r := G.graph_Graph.av a_0) rfl rfl (aop_load_ref rfl rfl rfl rfl sz24 rfl) ?_
                  obtain ⟨r90, hr90, h⟩ := Sh.bind_some' h
                  refine ARH.op (r := G.inquestref12_G.av r90) rfl rfl (aop_call1 rfl rfl (by simp) (inquestlaw12_Plain_ok hT hr90)) ?_
                  refine ARH.drop (frx := [(3, _), (94, _), (96, _), (98, _)]) ⟨rfl, rfl, rfl, rfl, trivial⟩ ?_
                  refine ARH.op (r := G.graph_Graph.av b_1) rfl rfl (aop_load_ref rfl rfl rfl rfl sz24 rfl) ?_
                  obtain ⟨r91, hr91, h⟩ := Sh.bind_some' h
                  refine ARH.op (r := G.inquestref12_G.av r91) rfl rfl (aop_call1 rfl rfl (by simp) (inquestlaw12_Plain_ok hT hr91)) ?_
                  obtain ⟨r92, hr92, h⟩ := Sh.bind_some' h
                  refine ARH.op (r := G.inquestref12_G.av r92) rfl rfl (aop_call1 rfl rfl (by simp) (inquestref12_Compose_ok hT hr92)) ?_
                  refine ARH.drop (frx := [(94, _), (96, _), (101, _)]) ⟨rfl, rfl, rfl, trivial⟩ ?_
                  obtain ⟨r93, hr93, h⟩ := Sh.bind_some' h
                  refine ARH.op (r := bl r93) rfl rfl (aop_call1 rfl rfl (by simp) (inquestref12_Same_ok hT hr93)) ?_
                  refine ARH.dry (r := bl r93) rfl (fun _ => aop_pick rfl rfl rfl) ?_
                  refine ARH.dry (r := bl r93) rfl (fun _ => aop_move (.inr rfl) rfl) ?_
                  refine ARH.nil ?_
                  refine hK14 _ (AWP.weak (Weak.re (fr' := [(4, bl r93)]) (H' := .empty) [] [] rfl rfl rfl (trivial) ⟨⟨_, rfl, .same _ (by simp)⟩, trivial⟩) ?_)
                  clear hK14 K14
                  refine awp_ret ?_
                  obtain rfl := Option.some.inj h
                  refine ⟨.inr rfl, bl r93, rfl, ?_⟩
                  exact Weak.re [] [] rfl rfl rfl (trivial) ⟨⟨_, rfl, .same _ (by simp)⟩, trivial⟩
                · rw [hb88]
                  replace h := Sh.if_f h hb88
                  refine ARH.skip rfl ?_
                  refine ARH.drop (frx := [(2, _), (3, _), (94, _), (95, _)]) ⟨rfl, rfl, rfl, rfl, trivial⟩ ?_
                  refine ARH.skip rfl ?_
                  refine ARH.skip rfl ?_
                  refine ARH.skip rfl ?_
                  refine ARH.drop (frx := [(3, _), (94, _), (96, _), (98, _)]) ⟨rfl, rfl, rfl, rfl, trivial⟩ ?_
                  refine ARH.skip rfl ?_
                  refine ARH.skip rfl ?_
                  refine ARH.skip rfl ?_
                  refine ARH.drop (frx := [(94, _), (96, _), (101, _)]) ⟨rfl, rfl, rfl, trivial⟩ ?_
                  refine ARH.skip rfl ?_
                  refine ARH.dry (r := bl false) rfl (fun _ => aop_pick rfl rfl rfl) ?_
                  refine ARH.dry (r := bl false) rfl (fun _ => aop_move (.inr rfl) rfl) ?_
                  refine ARH.nil ?_
                  refine hK14 _ (AWP.weak (Weak.re (fr' := [(4, bl false)]) (H' := .empty) [] [] rfl rfl rfl (trivial) ⟨⟨_, rfl, .same _ (by simp)⟩, trivial⟩) ?_)
                  clear hK14 K14
                  refine awp_ret ?_
                  obtain rfl := Option.some.inj h
                  refine ⟨.inr rfl, bl false, rfl, ?_⟩
                  exact Weak.re [] [] rfl rfl rfl (trivial) ⟨⟨_, rfl, .same _ (by simp)⟩, trivial⟩
              · rw [hb82]
                replace h := Sh.if_f h hb82
                refine ARH.skip rfl ?_
                refine ARH.skip rfl ?_
                refine ARH.drop (frx := [(2, _), (3, _), (8, _), (84, _), (86, _)]) ⟨rfl, rfl, rfl, rfl, rfl, trivial⟩ ?_
                refine ARH.skip rfl ?_
                refine ARH.skip rfl ?_
                refine ARH.skip rfl ?_
                refine ARH.drop (frx := [(2, _), (3, _), (8, _), (84, _), (86, _), (88, _), (89, _)]) ⟨rfl, rfl, rfl, rfl, rfl, rfl, rfl, trivial⟩ ?_
                refine ARH.skip rfl ?_
                refine ARH.skip rfl ?_
                refine ARH.skip rfl ?_
                refine ARH.drop (frx := [(2, _), (3, _), (8, _), (84, _), (92, _)]) ⟨rfl, rfl, rfl, rfl, rfl, trivial⟩ ?_
                refine ARH.dry (r := bl false) rfl (fun _ => aop_pick rfl rfl rfl) ?_
                refine ARH.dry (r := bl false) rfl (fun _ => aop_move (.inl rfl) rfl) ?_
                refine ARH.skip rfl ?_
                refine ARH.drop (frx := [(2, _), (3, _), (94, _), (95, _)]) ⟨rfl, rfl, rfl, rfl, trivial⟩ ?_
                refine ARH.skip rfl ?_
                refine ARH.skip rfl ?_
                refine ARH.skip rfl ?_
                refine ARH.drop (frx := [(3, _), (94, _), (96, _), (98, _)]) ⟨rfl, rfl, rfl, rfl, trivial⟩ ?_
                refine ARH.skip rfl ?_
                refine ARH.skip rfl ?_
                refine ARH.skip rfl ?_
                refine ARH.drop (frx := [(94, _), (96, _), (101, _)]) ⟨rfl, rfl, rfl, trivial⟩ ?_
                refine ARH.skip rfl ?_
                refine ARH.dry (r := bl false) rfl (fun _ => aop_pick rfl rfl rfl) ?_
                refine ARH.dry (r := bl false) rfl (fun _ => aop_move (.inr rfl) rfl) ?_
                refine ARH.nil ?_
                refine hK14 _ (AWP.weak (Weak.re (fr' := [(4, bl false)]) (H' := .empty) [] [] rfl rfl rfl (trivial) ⟨⟨_, rfl, .same _ (by simp)⟩, trivial⟩) ?_)
                clear hK14 K14
                refine awp_ret ?_
                obtain rfl := Option.some.inj h
                refine ⟨.inr rfl, bl false, rfl, ?_⟩
                exact Weak.re [] [] rfl rfl rfl (trivial) ⟨⟨_, rfl, .same _ (by simp)⟩, trivial⟩
            · rw [hb81]
              replace h := Sh.if_f h hb81
              refine ARH.skip rfl ?_
              refine ARH.skip rfl ?_
              refine ARH.dry (r := bl false) rfl (fun _ => aop_pick rfl rfl rfl) ?_
              refine ARH.drop (frx := [(2, _), (3, _), (6, _), (8, _), (83, _)]) ⟨rfl, rfl, rfl, rfl, rfl, trivial⟩ ?_
              refine ARH.dry (r := bl false) rfl (fun _ => aop_move (.inl rfl) rfl) ?_
              refine ARH.skip rfl ?_
              refine ARH.skip rfl ?_
              refine ARH.drop (frx := [(2, _), (3, _), (8, _), (84, _), (86, _)]) ⟨rfl, rfl, rfl, rfl, rfl, trivial⟩ ?_
              refine ARH.skip rfl ?_
              refine ARH.skip rfl ?_
              refine ARH.skip rfl ?_
              refine ARH.drop (frx := [(2, _), (3, _), (8, _), (84, _), (86, _), (88, _), (89, _)]) ⟨rfl, rfl, rfl, rfl, rfl, rfl, rfl, trivial⟩ ?_
              refine ARH.skip rfl ?_
              refine ARH.skip rfl ?_
              refine ARH.skip rfl ?_
              refine ARH.drop (frx := [(2, _), (3, _), (8, _), (84, _), (92, _)]) ⟨rfl, rfl, rfl, rfl, rfl, trivial⟩ ?_
              refine ARH.dry (r := bl false) rfl (fun _ => aop_pick rfl rfl rfl) ?_
              refine ARH.dry (r := bl false) rfl (fun _ => aop_move (.inl rfl) rfl) ?_
              refine ARH.skip rfl ?_
              refine ARH.drop (frx := [(2, _), (3, _), (94, _), (95, _)]) ⟨rfl, rfl, rfl, rfl, trivial⟩ ?_
              refine ARH.skip rfl ?_
              refine ARH.skip rfl ?_
              refine ARH.skip rfl ?_
              refine ARH.drop (frx := [(3, _), (94, _), (96, _), (98, _)]) ⟨rfl, rfl, rfl, rfl, trivial⟩ ?_
              refine ARH.skip rfl ?_
              refine ARH.skip rfl ?_
              refine ARH.skip rfl ?_
              refine ARH.drop (frx := [(94, _), (96, _), (101, _)]) ⟨rfl, rfl, rfl, trivial⟩ ?_
              refine ARH.skip rfl ?_
              refine ARH.dry (r := bl false) rfl (fun _ => aop_pick rfl rfl rfl) ?_
              refine ARH.dry (r := bl false) rfl (fun _ => aop_move (.inr rfl) rfl) ?_
              refine ARH.nil ?_
              refine hK14 _ (AWP.weak (Weak.re (fr' := [(4, bl false)]) (H' := .empty) [] [] rfl rfl rfl (trivial) ⟨⟨_, rfl, .same _ (by simp)⟩, trivial⟩) ?_)
              clear hK14 K14
              refine awp_ret ?_
              obtain rfl := Option.some.inj h
              refine ⟨.inr rfl, bl false, rfl, ?_⟩
              exact Weak.re [] [] rfl rfl rfl (trivial) ⟨⟨_, rfl, .same _ (by simp)⟩, trivial⟩
        · intro K15 hK15
          refine awp_reg rfl ?_
          refine AR.op (r := bl r46) rfl (aop_move (.inl rfl) rfl) ?_
          refine AR.op (r := bl (!r46)) rfl (aop_not rfl rfl) ?_
          refine AR.op (r := bl (!r46)) rfl (aop_move (.inl rfl) rfl) ?_
          refine AR.drop (frx := [(2, _), (3, _), (6, _), (7, _), (8, _), (9, _), (11, _), (45, _)]) ⟨rfl, rfl, rfl, rfl, rfl, rfl, rfl, rfl, trivial⟩ ?_
          rcases Bool.eq_false_or_eq_true (!r46) with hb94 | hb94
          · rw [hb94]
            replace h := Sh.if_t h hb94
            refine AR.skip rfl ?_
            refine AR.skip rfl ?_
            refine AR.op (r := bl true) rfl (aop_pick rfl rfl rfl) ?_
            refine AR.drop (frx := [(2, _), (3, _), (6, _), (7, _), (8, _), (9, _), (48, _)]) ⟨rfl, rfl, rfl, rfl, rfl, rfl, rfl, trivial⟩ ?_
            refine AR.op (r := bl true) rfl (aop_move (.inl rfl) rfl) ?_
            refine AR.skip rfl ?_
            refine AR.skip rfl ?_
            refine AR.drop (frx := [(2, _), (3, _), (6, _), (7, _), (8, _), (9, _), (49, _), (51, _)]) ⟨rfl, rfl, rfl, rfl, rfl, rfl, rfl, rfl, trivial⟩ ?_
            refine AR.skip rfl ?_
            refine AR.skip rfl ?_
            refine AR.skip rfl ?_
            refine AR.drop (frx := [(2, _), (3, _), (6, _), (7, _), (8, _), (9, _), (49, _), (54, _)]) ⟨rfl, rfl, rfl, rfl, rfl, rfl, rfl, rfl, trivial⟩ ?_
            refine AR.op (r := bl true) rfl (aop_pick rfl rfl rfl) ?_
            refine AR.nil ?_
            exact hK15 true _ h (Weak.re (fr' := [(2, .ref 0 0 0), (3, .ref 1 0 0), (6, .ref 2 0 0), (7, i64 r40.2), (8, .ref 3 0 0), (9, i64 r42.2), (55, bl true)]) (H' := ⟨4, [(0, (2, [G.graph_Graph.av a_0])), (1, (2, [G.graph_Graph.av b_1])), (2, (2, [G.graph_Graph.av r40.1])), (3, (2, [G.graph_Graph.av r42.1]))]⟩) [(0, 0), (1, 1), (2, 2), (3, 3)] [] rfl rfl rfl (.cons rfl rfl (.one (.same _ (by simp)) rfl) (of_decide_eq_true rfl) (.cons rfl rfl (.one (.same _ (by simp)) rfl) (of_decide_eq_true rfl) (.cons rfl rfl (.one (.same _ (by simp)) rfl) (of_decide_eq_true rfl) (.cons rfl rfl (.one (.same _ (by simp)) rfl) (of_decide_eq_true rfl) (trivial))))) ⟨⟨_, rfl, .ref rfl⟩, ⟨_, rfl, .ref rfl⟩, ⟨_, rfl, .ref rfl⟩, ⟨_, rfl, .same _ (by simp)⟩, ⟨_, rfl, .ref rfl⟩, ⟨_, rfl, .same _ (by simp)⟩, ⟨_, rfl, .same _ (by simp)⟩, trivial⟩)
          · rw [hb94]
            replace h := Sh.if_f h hb94
            refine AR.op (r := bl r50) rfl (aop_move (.inl rfl) rfl) ?_
            refine AR.op (r := bl (!r50)) rfl (aop_not rfl rfl) ?_
            refine AR.op (r := bl (!r50)) rfl (aop_pick rfl rfl rfl) ?_
            refine AR.drop (frx := [(2, _), (3, _), (6, _), (7, _), (8, _), (9, _), (48, _)]) ⟨rfl, rfl, rfl, rfl, rfl, rfl, rfl, trivial⟩ ?_
            refine AR.op (r := bl (!r50)) rfl (aop_move (.inl rfl) rfl) ?_
            rcases Bool.eq_false_or_eq_true (!r50) with hb95 | hb95
            · rw [hb95]
              replace h := Sh.if_t h hb95
              refine AR.skip rfl ?_
              refine AR.skip rfl ?_
              refine AR.drop (frx := [(2, _), (3, _), (6, _), (7, _), (8, _), (9, _), (49, _), (51, _)]) ⟨rfl, rfl, rfl, rfl, rfl, rfl, rfl, rfl, trivial⟩ ?_
              refine AR.skip rfl ?_
              refine AR.skip rfl ?_
              refine AR.skip rfl ?_
              refine AR.drop (frx := [(2, _), (3, _), (6, _), (7, _), (8, _), (9, _), (49, _), (54, _)]) ⟨rfl, rfl, rfl, rfl, rfl, rfl, rfl, rfl, trivial⟩ ?_
              refine AR.op (r := bl true) rfl (aop_pick rfl rfl rfl) ?_
              refine AR.nil ?_
              exact hK15 true _ h (Weak.re (fr' := [(2, .ref 0 0 0), (3, .ref 1 0 0), (6, .ref 2 0 0), (7, i64 r40.2), (8, .ref 3 0 0), (9, i64 r42.2), (55, bl true)]) (H' := ⟨4, [(0, (2, [G.graph_Graph.av a_0])), (1, (2, [G.graph_Graph.av b_1])), (2, (2, [G.graph_Graph.av r40.1])), (3, (2, [G.graph_Graph.av r42.1]))]⟩) [(0, 0), (1, 1), (2, 2), (3, 3)] [] rfl rfl rfl (.cons rfl rfl (.one (.same _ (by simp)) rfl) (of_decide_eq_true rfl) (.cons rfl rfl (.one (.same _ (by simp)) rfl) (of_decide_eq_true rfl) (.cons rfl rfl (.one (.same _ (by simp)) rfl) (of_decide_eq_true rfl) (.cons rfl rfl (.one (.same _ (by simp)) rfl) (of_decide_eq_true rfl) (trivial))))) ⟨⟨_, rfl, .ref rfl⟩, ⟨_, rfl, .ref rfl⟩, ⟨_, rfl, .ref rfl⟩, ⟨_, rfl, .same _ (by simp)⟩, ⟨_, rfl, .ref rfl⟩, ⟨_, rfl, .same _ (by simp)⟩, ⟨_, rfl, .same _ (by simp)⟩, trivial⟩)
            · rw [hb95]
              replace h := Sh.if_f h hb95
              refine AR.op rfl (aop_field_ref rfl rfl rfl fd24_0 (by decide)) ?_
              refine AR.op (r := i64 a_0.N) rfl (aop_load_ref rfl rfl rfl rfl sz3 rfl) ?_
              refine AR.drop (frx := [(2, _), (3, _), (6, _), (7, _), (8, _), (9, _), (49, _), (51, _)]) ⟨rfl, rfl, rfl, rfl, rfl, rfl, rfl, rfl, trivial⟩ ?_
              refine AR.op rfl (aop_field_ref rfl rfl rfl fd24_0 (by decide)) ?_
              refine AR.op (r := i64 b_1.N) rfl (aop_load_ref rfl rfl rfl rfl sz3 rfl) ?_
              refine AR.op (r := bl (decide (a_0.N ≠ b_1.N))) rfl (aop_neq rfl rfl rfl) ?_
              refine AR.drop (frx := [(2, _), (3, _), (6, _), (7, _), (8, _), (9, _), (49, _), (54, _)]) ⟨rfl, rfl, rfl, rfl, rfl, rfl, rfl, rfl, trivial⟩ ?_
              refine AR.op (r := bl (decide (a_0.N ≠ b_1.N))) rfl (aop_pick rfl rfl rfl) ?_
              refine AR.nil ?_
              exact hK15 (decide (a_0.N ≠ b_1.N)) _ h (Weak.re (fr' := [(2, .ref 0 0 0), (3, .ref 1 0 0), (6, .ref 2 0 0), (7, i64 r40.2), (8, .ref 3 0 0), (9, i64 r42.2), (55, bl (decide (a_0.N ≠ b_1.N)))]) (H' := ⟨4, [(0, (2, [G.graph_Graph.av a_0])), (1, (2, [G.graph_Graph.av b_1])), (2, (2, [G.graph_Graph.av r40.1])), (3, (2, [G.graph_Graph.av r42.1]))]⟩) [(0, 0), (1, 1), (2, 2), (3, 3)] [] rfl rfl rfl (.cons rfl rfl (.one (.same _ (by simp)) rfl) (of_decide_eq_true rfl) (.cons rfl rfl (.one (.same _ (by simp)) rfl) (of_decide_eq_true rfl) (.cons rfl rfl (.one (.same _ (by simp)) rfl) (of_decide_eq_true rfl) (.cons rfl rfl (.one (.same _ (by simp)) rfl) (of_decide_eq_true rfl) (trivial))))) ⟨⟨_, rfl, .ref rfl⟩, ⟨_, rfl, .ref rfl⟩, ⟨_, rfl, .ref rfl⟩, ⟨_, rfl, .same _ (by simp)⟩, ⟨_, rfl, .ref rfl⟩, ⟨_, rfl, .same _ (by simp)⟩, ⟨_, rfl, .same _ (by simp)⟩, trivial⟩)
    · intro K16 hK16
      refine awp_reg rfl ?_
      refine AR.op rfl (aop_field_ref rfl rfl rfl fd24_1 (by decide)) ?_
      refine AR.op (r := .sl (List.map u64 a_0.Rows)) rfl (aop_load_ref rfl rfl rfl rfl sz22 rfl) ?_
      refine AR.op (r := i64 (Sh.len a_0.Rows)) rfl (t_len_sl u64 a_0.Rows rfl rfl el22) ?_
      refine AR.drop (frx := [(2, _), (3, _), (17, _)]) ⟨rfl, rfl, rfl, trivial⟩ ?_
      refine AR.op (r := bl (decide ((70 : Int) < (Sh.len a_0.Rows)))) rfl (aop_gtr rfl rfl rfl) ?_
      refine AR.op (r := bl (decide ((70 : Int) < (Sh.len a_0.Rows)))) rfl (aop_move (.inl rfl) rfl) ?_
      rcases Bool.eq_false_or_eq_true (decide ((70 : Int) < (Sh.len a_0.Rows))) with hb96 | hb96
      · rw [hb96]
        replace h := Sh.if_t h hb96
        refine AR.skip rfl ?_
        refine AR.drop (frx := [(2, _), (3, _), (19, _), (20, _)]) ⟨rfl, rfl, rfl, rfl, trivial⟩ ?_
        refine AR.skip rfl ?_
        refine AR.skip rfl ?_
        refine AR.skip rfl ?_
        refine AR.drop (frx := [(2, _), (3, _), (19, _), (23, _)]) ⟨rfl, rfl, rfl, rfl, trivial⟩ ?_
        refine AR.op (r := bl true) rfl (aop_pick rfl rfl rfl) ?_
        refine AR.nil ?_
        exact hK16 true _ h (Weak.re (fr' := [(2, .ref 0 0 0), (3, .ref 1 0 0), (24, bl true)]) (H' := ⟨2, [(0, (2, [G.graph_Graph.av a_0])), (1, (2, [G.graph_Graph.av b_1]))]⟩) [(0, 0), (1, 1)] [] rfl rfl rfl (.cons rfl rfl (.one (.same _ (by simp)) rfl) (of_decide_eq_true rfl) (.cons rfl rfl (.one (.same _ (by simp)) rfl) (of_decide_eq_true rfl) (trivial))) ⟨⟨_, rfl, .ref rfl⟩, ⟨_, rfl, .ref rfl⟩, ⟨_, rfl, .same _ (by simp)⟩, trivial⟩)
      · rw [hb96]
        replace h := Sh.if_f h hb96
        refine AR.op rfl (aop_field_ref rfl rfl rfl fd24_1 (by decide)) ?_
        refine AR.drop (frx := [(2, _), (3, _), (19, _), (20, _)]) ⟨rfl, rfl, rfl, rfl, trivial⟩ ?_
        refine AR.op (r := .sl (List.map u64 b_1.Rows)) rfl (aop_load_ref rfl rfl rfl rfl sz22 rfl) ?_
        refine AR.op (r := i64 (Sh.len b_1.Rows)) rfl (t_len_sl u64 b_1.Rows rfl rfl el22) ?_
        refine AR.op (r := bl (decide ((70 : Int) < (Sh.len b_1.Rows)))) rfl (aop_gtr rfl rfl rfl) ?_
        refine AR.drop (frx := [(2, _), (3, _), (19, _), (23, _)]) ⟨rfl, rfl, rfl, rfl, trivial⟩ ?_
        refine AR.op (r := bl (decide ((70 : Int) < (Sh.len b_1.Rows)))) rfl (aop_pick rfl rfl rfl) ?_
        refine AR.nil ?_
        exact hK16 (decide ((70 : Int) < (Sh.len b_1.Rows))) _ h (Weak.re (fr' := [(2, .ref 0 0 0), (3, .ref 1 0 0), (24, bl (decide ((70 : Int) < (Sh.len b_1.Rows))))]) (H' := ⟨2, [(0, (2, [G.graph_Graph.av a_0])), (1, (2, [G.graph_Graph.av b_1]))]⟩) [(0, 0), (1, 1)] [] rfl rfl rfl (.cons rfl rfl (.one (.same _ (by simp)) rfl) (of_decide_eq_true rfl) (.cons rfl rfl (.one (.same _ (by simp)) rfl) (of_decide_eq_true rfl) (trivial))) ⟨⟨_, rfl, .ref rfl⟩, ⟨_, rfl, .ref rfl⟩, ⟨_, rfl, .same _ (by simp)⟩, trivial⟩)
theorem inquestlaw12_GraphBoth_ok {W0 : World} (hT : Tab W0) {a_0 : G.graph_Graph} {b_1 : G.graph_Graph} {r : Bool} (h : G.inquestlaw12_GraphBoth a_0 b_1 = some r) : Fun1 Tryd.prog W0 7 [G.graph_Graph.av a_0, G.graph_Graph.av b_1] (bl r) := Fun1.two (inquestlaw12_GraphBoth_ok0 hT h) (by simp)

end Wk
