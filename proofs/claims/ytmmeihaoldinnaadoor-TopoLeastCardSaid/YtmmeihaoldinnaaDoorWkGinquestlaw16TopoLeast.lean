/- That a statement does what its plain function says. -/
import Derived.Test.YtmmeihaoldinnaaDoorWkGinquestlaw16
open Go Go.Av Go.Proofs
set_option linter.unusedVariables false
namespace Wk
set_option maxHeartbeats 8000000 in
theorem inquestlaw16_TopoLeast_ok0 {W0 : World} (hT : Tab W0) {g_0 : G.graph_Graph} {l_1 : List Int} {r : Bool} (h : G.inquestlaw16_TopoLeast g_0 l_1 = some r) : Fun2 Tryd.prog W0 10 [G.graph_Graph.av g_0, .sl (List.map i64 l_1)] (bl r) .empty := by
  refine fun2_of_awp Tryd.func10 rfl (by kernel_rfl) Tryd.ntmps10 (by simp) ?_
  unfold G.inquestlaw16_TopoLeast at h
  show AWP _ _ _ _ ⟨[(0, G.graph_Graph.av g_0), (1, .sl (List.map i64 l_1))], .empty⟩ _
  refine awp_seqK fun K1 hK1 => ?_
  refine awp_reg rfl ?_
  refine AR.op (r := .ref 0 0 0) rfl (aop_box 2 [G.graph_Graph.av g_0] rfl rfl rfl (.inl ⟨rfl, rfl⟩)) ?_
  refine AR.op (r := bl false) rfl (aop_move (.inr rfl) rfl) ?_
  refine AR.nil ?_
  refine hK1 _ (AWP.weak (Weak.re (fr' := [(1, .sl (List.map i64 l_1)), (2, .ref 0 0 0)]) (H' := ⟨1, [(0, (2, [G.graph_Graph.av g_0]))]⟩) [(0, 0)] [] rfl rfl rfl (.cons rfl rfl (.one (.same _ (by simp)) rfl) (of_decide_eq_true rfl) (trivial)) ⟨⟨.sl (List.map i64 l_1), rfl, .same _ (by simp)⟩, ⟨_, rfl, .ref rfl⟩, trivial⟩) ?_)
  clear hK1 K1
  refine awp_seqK fun K2 hK2 => ?_
  refine awp_reg rfl ?_
  obtain ⟨r53, hr53, h⟩ := Sh.bind_some' h
  refine AR.op (r := bl r53) rfl (aop_call1 rfl rfl (by simp) (inquestlaw16_awake_ok hT hr53)) ?_
  refine AR.op (r := bl r53) rfl (aop_move (.inr rfl) rfl) ?_
  refine AR.nil ?_
  refine hK2 _ (AWP.weak (Weak.re (fr' := [(1, .sl (List.map i64 l_1)), (2, .ref 0 0 0), (5, bl r53)]) (H' := ⟨1, [(0, (2, [G.graph_Graph.av g_0]))]⟩) [(0, 0)] [] rfl rfl rfl (.cons rfl rfl (.one (.same _ (by simp)) rfl) (of_decide_eq_true rfl) (trivial)) ⟨⟨.sl (List.map i64 l_1), rfl, .same _ (by simp)⟩, ⟨_, rfl, .ref rfl⟩, ⟨_, rfl, .same _ (by simp)⟩, trivial⟩) ?_)
  clear hK2 K2
  refine awp_seqK fun K3 hK3 => ?_
  refine awp_seqK fun K4 hK4 => ?_
  refine awp_reg rfl ?_
  refine AR.op (r := bl r53) rfl (aop_move (.inl rfl) rfl) ?_
  refine AR.op (r := bl (!r53)) rfl (aop_not rfl rfl) ?_
  refine AR.nil ?_
  refine hK4 _ (AWP.weak (Weak.re (fr' := [(1, .sl (List.map i64 l_1)), (2, .ref 0 0 0), (15, bl (!r53))]) (H' := ⟨1, [(0, (2, [G.graph_Graph.av g_0]))]⟩) [(0, 0)] [] rfl rfl rfl (.cons rfl rfl (.one (.same _ (by simp)) rfl) (of_decide_eq_true rfl) (trivial)) ⟨⟨.sl (List.map i64 l_1), rfl, .same _ (by simp)⟩, ⟨_, rfl, .ref rfl⟩, ⟨_, rfl, .same _ (by simp)⟩, trivial⟩) ?_)
  clear hK4 K4
  refine awp_cond rfl (fun hb54 => ?_) (fun hb54 => ?_)
  · replace h := Sh.if_t h hb54
    refine awp_seqK fun K5 hK5 => ?_
    refine awp_reg rfl ?_
    refine AR.op (r := bl false) rfl (aop_move (.inr rfl) rfl) ?_
    refine AR.nil ?_
    refine hK5 _ (AWP.weak (Weak.re (fr' := [(4, bl false)]) (H' := .empty) [] [] rfl rfl rfl (trivial) ⟨⟨_, rfl, .same _ (by simp)⟩, trivial⟩) ?_)
    clear hK5 K5
    refine awp_ret ?_
    obtain rfl := Option.some.inj h
    refine ⟨.inr rfl, bl false, rfl, ?_⟩
    exact Weak.re [] [] rfl rfl rfl (trivial) ⟨⟨_, rfl, .same _ (by simp)⟩, trivial⟩
  · replace h := Sh.if_f h hb54
    refine awp_skip ?_
    refine hK3 _ (AWP.weak (Weak.re (fr' := [(1, .sl (List.map i64 l_1)), (2, .ref 0 0 0)]) (H' := ⟨1, [(0, (2, [G.graph_Graph.av g_0]))]⟩) [(0, 0)] [] rfl rfl rfl (.cons rfl rfl (.one (.same _ (by simp)) rfl) (of_decide_eq_true rfl) (trivial)) ⟨⟨.sl (List.map i64 l_1), rfl, .same _ (by simp)⟩, ⟨_, rfl, .ref rfl⟩, trivial⟩) ?_)
    clear hK3 K3
    refine awp_seqK fun K6 hK6 => ?_
    refine awp_seqJ (fun (p : Bool) => (⟨[(1, .sl (List.map i64 l_1)), (2, .ref 0 0 0), (24, bl p)], ⟨1, [(0, (2, [G.graph_Graph.av g_0]))]⟩⟩ : St)) (fun (p : Bool) => G.inquestlaw16_TopoLeast_j1 g_0 l_1 p = some r) ?_ ?_
    · rintro v58 h
      replace h : G.inquestlaw16_TopoLeast_j1 g_0 l_1 v58 = some r := h
      unfold G.inquestlaw16_TopoLeast_j1 at h
      show AWP _ _ _ _ ⟨[(1, .sl (List.map i64 l_1)), (2, .ref 0 0 0), (24, bl v58)], ⟨1, [(0, (2, [G.graph_Graph.av g_0]))]⟩⟩ _
      refine awp_cond rfl (fun hb59 => ?_) (fun hb59 => ?_)
      · replace h := Sh.if_t h hb59
        refine awp_seqK fun K7 hK7 => ?_
        refine awp_reg rfl ?_
        refine AR.op (r := bl true) rfl (aop_move (.inr rfl) rfl) ?_
        refine AR.nil ?_
        refine hK7 _ (AWP.weak (Weak.re (fr' := [(4, bl true)]) (H' := .empty) [] [] rfl rfl rfl (trivial) ⟨⟨_, rfl, .same _ (by simp)⟩, trivial⟩) ?_)
        clear hK7 K7
        refine awp_ret ?_
        obtain rfl := Option.some.inj h
        refine ⟨.inr rfl, bl true, rfl, ?_⟩
        exact Weak.re [] [] rfl rfl rfl (trivial) ⟨⟨_, rfl, .same _ (by simp)⟩, trivial⟩
      · replace h := Sh.if_f h hb59
        refine awp_skip ?_
        refine hK6 _ (AWP.weak (Weak.re (fr' := [(1, .sl (List.map i64 l_1)), (2, .ref 0 0 0)]) (H' := ⟨1, [(0, (2, [G.graph_Graph.av g_0]))]⟩) [(0, 0)] [] rfl rfl rfl (.cons rfl rfl (.one (.same _ (by simp)) rfl) (of_decide_eq_true rfl) (trivial)) ⟨⟨.sl (List.map i64 l_1), rfl, .same _ (by simp)⟩, ⟨_, rfl, .ref rfl⟩, trivial⟩) ?_)
        clear hK6 K6
        refine awp_seqK fun K8 hK8 => ?_
        refine awp_reg rfl ?_
        refine AR.op (r := G.graph_Graph.av g_0) rfl (aop_load_ref rfl rfl rfl rfl sz24 rfl) ?_
        obtain ⟨r61, hr61, h⟩ := Sh.bind_some' h
        refine AR.op (r := .tuple [G.graph_Graph.av r61.1, i64 r61.2]) rfl (aop_call1 rfl rfl (by simp) (graph_Turn_ok hT hr61)) ?_
        refine AR.op (r := .tuple [G.graph_Graph.av r61.1, i64 r61.2]) rfl (aop_move (.inl rfl) rfl) ?_
        refine AR.drop (frx := [(1, _), (2, _), (25, _)]) ⟨rfl, rfl, rfl, trivial⟩ ?_
        refine AR.op (r := G.graph_Graph.av r61.1) rfl (aop_extract rfl rfl rfl) ?_
        refine AR.op (r := i64 r61.2) rfl (aop_extract rfl rfl rfl) ?_
        refine AR.op (r := .ref 1 0 0) rfl (aop_alloc 2 [.agg [i64 0, nilS]] rfl zr24 (by kernel_rfl) (.inl ⟨rfl, rfl⟩)) ?_
        refine AR.drop (frx := [(1, _), (2, _), (28, _), (29, _), (6, _)]) ⟨rfl, rfl, rfl, rfl, rfl, trivial⟩ ?_
        refine AR.op rfl (aop_store (e' := G.graph_Graph.av r61.1) rfl rfl rfl rfl rfl rfl sz24 rfl (of_decide_eq_true rfl) rfl) ?_
        refine AR.op (r := i64 r61.2) rfl (aop_move (.inr rfl) rfl) ?_
        refine AR.nil ?_
        refine hK8 _ (AWP.weak (Weak.re (fr' := [(1, .sl (List.map i64 l_1)), (2, .ref 0 0 0), (6, .ref 1 0 0), (7, i64 r61.2)]) (H' := ⟨2, [(0, (2, [G.graph_Graph.av g_0])), (1, (2, [G.graph_Graph.av r61.1]))]⟩) [(0, 0), (1, 1)] [] rfl rfl rfl (.cons rfl rfl (.one (.same _ (by simp)) rfl) (of_decide_eq_true rfl) (.cons rfl rfl (.one (.same _ (by simp)) rfl) (of_decide_eq_true rfl) (trivial))) ⟨⟨.sl (List.map i64 l_1), rfl, .same _ (by simp)⟩, ⟨_, rfl, .ref rfl⟩, ⟨_, rfl, .ref rfl⟩, ⟨_, rfl, .same _ (by simp)⟩, trivial⟩) ?_)
        clear hK8 K8
        refine awp_seqK fun K9 hK9 => ?_
        refine awp_reg rfl ?_
        refine AR.op (r := nilS) rfl (aop_move (.inr rfl) rfl) ?_
        refine AR.nil ?_
        refine hK9 _ ?_
        clear hK9 K9
        refine awp_seqJ (fun (p : (List Int)) => (⟨[(1, .sl (List.map i64 l_1)), (2, .ref 0 0 0), (6, .ref 1 0 0), (7, i64 r61.2), (8, .sl (List.map i64 p))], ⟨2, [(0, (2, [G.graph_Graph.av g_0])), (1, (2, [G.graph_Graph.av r61.1]))]⟩⟩ : St)) (fun (p : (List Int)) => G.inquestlaw16_TopoLeast_j2 g_0 l_1 r61 p = some r) ?_ ?_
        · rintro back75 h
          replace h : G.inquestlaw16_TopoLeast_j2 g_0 l_1 r61 back75 = some r := h
          unfold G.inquestlaw16_TopoLeast_j2 at h
          show AWP _ _ _ _ ⟨[(1, .sl (List.map i64 l_1)), (2, .ref 0 0 0), (6, .ref 1 0 0), (7, i64 r61.2), (8, .sl (List.map i64 back75))], ⟨2, [(0, (2, [G.graph_Graph.av g_0])), (1, (2, [G.graph_Graph.av r61.1]))]⟩⟩ _
          refine awp_seqK fun K10 hK10 => ?_
          refine awp_seqJ (fun (p : Bool) => (⟨[(1, .sl (List.map i64 l_1)), (2, .ref 0 0 0), (54, bl p)], ⟨1, [(0, (2, [G.graph_Graph.av g_0]))]⟩⟩ : St)) (fun (p : Bool) => G.inquestlaw16_TopoLeast_j3 g_0 l_1 p = some r) ?_ ?_
          · rintro v83 h
            replace h : G.inquestlaw16_TopoLeast_j3 g_0 l_1 v83 = some r := h
            unfold G.inquestlaw16_TopoLeast_j3 at h
            show AWP _ _ _ _ ⟨[(1, .sl (List.map i64 l_1)), (2, .ref 0 0 0), (54, bl v83)], ⟨1, [(0, (2, [G.graph_Graph.av g_0]))]⟩⟩ _
            refine awp_cond rfl (fun hb84 => ?_) (fun hb84 => ?_)
            · replace h := Sh.if_t h hb84
              refine awp_seqK fun K11 hK11 => ?_
              refine awp_reg rfl ?_
              refine AR.op (r := bl false) rfl (aop_move (.inr rfl) rfl) ?_
              refine AR.nil ?_
              refine hK11 _ (AWP.weak (Weak.re (fr' := [(4, bl false)]) (H' := .empty) [] [] rfl rfl rfl (trivial) ⟨⟨_, rfl, .same _ (by simp)⟩, trivial⟩) ?_)
              clear hK11 K11
              refine awp_ret ?_
              obtain rfl := Option.some.inj h
              refine ⟨.inr rfl, bl false, rfl, ?_⟩
              exact Weak.re [] [] rfl rfl rfl (trivial) ⟨⟨_, rfl, .same _ (by simp)⟩, trivial⟩
            · replace h := Sh.if_f h hb84
              refine awp_skip ?_
              refine hK10 _ (AWP.weak (Weak.re (fr' := [(1, .sl (List.map i64 l_1)), (2, .ref 0 0 0)]) (H' := ⟨1, [(0, (2, [G.graph_Graph.av g_0]))]⟩) [(0, 0)] [] rfl rfl rfl (.cons rfl rfl (.one (.same _ (by simp)) rfl) (of_decide_eq_true rfl) (trivial)) ⟨⟨.sl (List.map i64 l_1), rfl, .same _ (by simp)⟩, ⟨_, rfl, .ref rfl⟩, trivial⟩) ?_)
              clear hK10 K10
              refine awp_seqK fun K12 hK12 => ?_
              refine awp_seqK fun K13 hK13 => ?_
              refine awp_reg rfl ?_
              refine AR.op (r := G.graph_Graph.av g_0) rfl (aop_load_ref rfl rfl rfl rfl sz24 rfl) ?_
              refine AR.op (r := .sl (List.map i64 l_1)) rfl (aop_move (.inl rfl) rfl) ?_
              obtain ⟨r87, hr87, h⟩ := Sh.bind_some' h
              refine AR.op (r := bl r87) rfl (aop_call1 rfl rfl (by simp) (topo_Is_ok hT hr87)) ?_
              refine AR.drop (frx := [(1, _), (2, _), (57, _)]) ⟨rfl, rfl, rfl, trivial⟩ ?_
              refine AR.op (r := bl (!r87)) rfl (aop_not rfl rfl) ?_
              refine AR.nil ?_
              refine hK13 _ (AWP.weak (Weak.re (fr' := [(1, .sl (List.map i64 l_1)), (2, .ref 0 0 0), (58, bl (!r87))]) (H' := ⟨1, [(0, (2, [G.graph_Graph.av g_0]))]⟩) [(0, 0)] [] rfl rfl rfl (.cons rfl rfl (.one (.same _ (by simp)) rfl) (of_decide_eq_true rfl) (trivial)) ⟨⟨.sl (List.map i64 l_1), rfl, .same _ (by simp)⟩, ⟨_, rfl, .ref rfl⟩, ⟨_, rfl, .same _ (by simp)⟩, trivial⟩) ?_)
              clear hK13 K13
              refine awp_cond rfl (fun hb88 => ?_) (fun hb88 => ?_)
              · replace h := Sh.if_t h hb88
                refine awp_seqK fun K14 hK14 => ?_
                refine awp_reg rfl ?_
                refine AR.op (r := bl true) rfl (aop_move (.inr rfl) rfl) ?_
                refine AR.nil ?_
                refine hK14 _ (AWP.weak (Weak.re (fr' := [(4, bl true)]) (H' := .empty) [] [] rfl rfl rfl (trivial) ⟨⟨_, rfl, .same _ (by simp)⟩, trivial⟩) ?_)
                clear hK14 K14
                refine awp_ret ?_
                obtain rfl := Option.some.inj h
                refine ⟨.inr rfl, bl true, rfl, ?_⟩
                exact Weak.re [] [] rfl rfl rfl (trivial) ⟨⟨_, rfl, .same _ (by simp)⟩, trivial⟩
              · replace h := Sh.if_f h hb88
                refine awp_skip ?_
                refine hK12 _ (AWP.weak (Weak.re (fr' := [(1, .sl (List.map i64 l_1)), (2, .ref 0 0 0)]) (H' := ⟨1, [(0, (2, [G.graph_Graph.av g_0]))]⟩) [(0, 0)] [] rfl rfl rfl (.cons rfl rfl (.one (.same _ (by simp)) rfl) (of_decide_eq_true rfl) (trivial)) ⟨⟨.sl (List.map i64 l_1), rfl, .same _ (by simp)⟩, ⟨_, rfl, .ref rfl⟩, trivial⟩) ?_)
                clear hK12 K12
                refine awp_seqK fun K15 hK15 => ?_
                refine awp_reg rfl ?_
                refine AR.op (r := G.graph_Graph.av g_0) rfl (aop_load_ref rfl rfl rfl rfl sz24 rfl) ?_
                obtain ⟨r90, hr90, h⟩ := Sh.bind_some' h
                refine AR.op (r := .tuple [.sl (List.map i64 r90.1), bl r90.2]) rfl (aop_call1 rfl rfl (by simp) (topo_Order_ok hT hr90)) ?_
                refine AR.op (r := .tuple [.sl (List.map i64 r90.1), bl r90.2]) rfl (aop_move (.inl rfl) rfl) ?_
                refine AR.drop (frx := [(1, _), (59, _)]) ⟨rfl, rfl, trivial⟩ ?_
                refine AR.op (r := .sl (List.map i64 r90.1)) rfl (aop_extract rfl rfl rfl) ?_
                refine AR.op (r := bl r90.2) rfl (aop_extract rfl rfl rfl) ?_
                refine AR.op (r := .sl (List.map i64 r90.1)) rfl (aop_move (.inr rfl) rfl) ?_
                refine AR.drop (frx := [(1, _), (63, _), (10, _)]) ⟨rfl, rfl, rfl, trivial⟩ ?_
                refine AR.op (r := bl r90.2) rfl (aop_move (.inr rfl) rfl) ?_
                refine AR.nil ?_
                refine hK15 _ (AWP.weak (Weak.re (fr' := [(1, .sl (List.map i64 l_1)), (10, .sl (List.map i64 r90.1)), (11, bl r90.2)]) (H' := .empty) [] [] rfl rfl rfl (trivial) ⟨⟨.sl (List.map i64 l_1), rfl, .same _ (by simp)⟩, ⟨.sl (List.map i64 r90.1), rfl, .same _ (by simp)⟩, ⟨_, rfl, .same _ (by simp)⟩, trivial⟩) ?_)
                clear hK15 K15
                refine awp_seqK fun K16 hK16 => ?_
                refine awp_seqJ (fun (p : Bool) => (⟨[(1, .sl (List.map i64 l_1)), (10, .sl (List.map i64 r90.1)), (72, bl p)], .empty⟩ : St)) (fun (p : Bool) => G.inquestlaw16_TopoLeast_j4 l_1 r90 p = some r) ?_ ?_
                · rintro v94 h
                  replace h : G.inquestlaw16_TopoLeast_j4 l_1 r90 v94 = some r := h
                  unfold G.inquestlaw16_TopoLeast_j4 at h
                  show AWP _ _ _ _ ⟨[(1, .sl (List.map i64 l_1)), (10, .sl (List.map i64 r90.1)), (72, bl v94)], .empty⟩ _
                  refine awp_cond rfl (fun hb95 => ?_) (fun hb95 => ?_)
                  · replace h := Sh.if_t h hb95
                    refine awp_seqK fun K17 hK17 => ?_
                    refine awp_reg rfl ?_
                    refine AR.op (r := bl false) rfl (aop_move (.inr rfl) rfl) ?_
                    refine AR.nil ?_
                    refine hK17 _ (AWP.weak (Weak.kp (fr' := [(4, bl false)]) ⟨rfl, trivial⟩) ?_)
                    clear hK17 K17
                    refine awp_ret ?_
                    obtain rfl := Option.some.inj h
                    refine ⟨.inr rfl, bl false, rfl, ?_⟩
                    exact Weak.re [] [] rfl rfl rfl (trivial) ⟨⟨_, rfl, .same _ (by simp)⟩, trivial⟩
                  · replace h := Sh.if_f h hb95
                    refine awp_skip ?_
                    refine hK16 _ (AWP.weak (Weak.kp (fr' := [(1, .sl (List.map i64 l_1)), (10, .sl (List.map i64 r90.1))]) ⟨rfl, rfl, trivial⟩) ?_)
                    clear hK16 K16
                    refine awp_seqJ (fun (p : Unit) => (⟨[], .empty⟩ : St)) (fun (p : Unit) => G.inquestlaw16_TopoLeast_j5 = some r) ?_ ?_
                    · rintro ⟨⟩ h
                      replace h : G.inquestlaw16_TopoLeast_j5 = some r := h
                      unfold G.inquestlaw16_TopoLeast_j5 at h
                      show AWP _ _ _ _ ⟨[], .empty⟩ _
                      refine awp_seqK fun K18 hK18 => ?_
                      refine awp_reg rfl ?_
                      refine AR.op (r := bl true) rfl (aop_move (.inr rfl) rfl) ?_
                      refine AR.nil ?_
                      refine hK18 _ ?_
                      clear hK18 K18
                      refine awp_ret ?_
                      obtain rfl := Option.some.inj h
                      refine ⟨.inr rfl, bl true, rfl, ?_⟩
                      exact Weak.re [] [] rfl rfl rfl (trivial) ⟨⟨_, rfl, .same _ (by simp)⟩, trivial⟩
                    · intro K19 hK19
                      refine awp_seqK fun K20 hK20 => ?_
                      refine awp_reg rfl ?_
                      refine AR.op (r := i64 0) rfl (aop_move (.inr rfl) rfl) ?_
                      refine AR.nil ?_
                      refine hK20 _ ?_
                      clear hK20 K20
                      refine awp_block ?_
                      refine awp_iter (fun (p : Int) => G.inquestlaw16_TopoLeast_b1 l_1 r90 p) (fun (p : Int) => (⟨[(1, .sl (List.map i64 l_1)), (10, .sl (List.map i64 r90.1)), (12, i64 p)], .empty⟩ : St)) h (Weak.kp (fr' := [(1, .sl (List.map i64 l_1)), (10, .sl (List.map i64 r90.1)), (12, i64 0)]) ⟨rfl, rfl, rfl, trivial⟩) ?_
                      · skip
                        rintro i139 o1 h hx1
                        replace h : G.inquestlaw16_TopoLeast_b1 l_1 r90 i139 = some o1 := h
                        unfold G.inquestlaw16_TopoLeast_b1 at h
                        show AWP _ _ _ _ ⟨[(1, .sl (List.map i64 l_1)), (10, .sl (List.map i64 r90.1)), (12, i64 i139)], .empty⟩ _
                        refine awp_seqK fun K21 hK21 => ?_
                        refine awp_seqK fun K22 hK22 => ?_
                        refine awp_reg rfl ?_
                        refine AR.op (r := i64 i139) rfl (aop_move (.inl rfl) rfl) ?_
                        refine AR.op (r := .sl (List.map i64 r90.1)) rfl (aop_move (.inl rfl) rfl) ?_
                        refine AR.op (r := i64 (Sh.len r90.1)) rfl (t_len_sl i64 r90.1 rfl rfl el50) ?_
                        refine AR.drop (frx := [(1, _), (10, _), (12, _), (73, _), (75, _)]) ⟨rfl, rfl, rfl, rfl, rfl, trivial⟩ ?_
                        refine AR.op (r := bl (decide (i139 < (Sh.len r90.1)))) rfl (aop_lss rfl rfl rfl) ?_
                        refine AR.nil ?_
                        refine hK22 _ (AWP.weak (Weak.kp (fr' := [(1, .sl (List.map i64 l_1)), (10, .sl (List.map i64 r90.1)), (12, i64 i139), (76, bl (decide (i139 < (Sh.len r90.1))))]) ⟨rfl, rfl, rfl, rfl, trivial⟩) ?_)
                        clear hK22 K22
                        refine awp_cond rfl (fun hb140 => ?_) (fun hb140 => ?_)
                        · replace h := Sh.if_t h hb140
                          refine awp_skip ?_
                          refine hK21 _ (AWP.weak (Weak.kp (fr' := [(1, .sl (List.map i64 l_1)), (10, .sl (List.map i64 r90.1)), (12, i64 i139)]) ⟨rfl, rfl, rfl, trivial⟩) ?_)
                          clear hK21 K21
                          refine awp_seqK fun K23 hK23 => ?_
                          refine awp_block ?_
                          refine awp_seqK fun K24 hK24 => ?_
                          refine awp_any (by kernel_rfl) (by kernel_rfl) rfl ?_
                          refine ARH.dry (r := .sl (List.map i64 r90.1)) rfl (fun _ => aop_move (.inl rfl) rfl) ?_
                          refine ARH.dry (r := i64 i139) rfl (fun _ => aop_move (.inl rfl) rfl) ?_
                          obtain ⟨x153, hx153, h⟩ := Sh.bind_some' h
                          obtain ⟨k154, hi154, hl154⟩ := Sh.idx_some hx153
                          refine ARH.op rfl rfl (t_index_sl i64 r90.1 hi154 hl154 rfl rfl rfl el50 rfl) ?_
                          refine ARH.drop (frx := [(1, _), (10, _), (12, _), (81, _)]) ⟨rfl, rfl, rfl, rfl, trivial⟩ ?_
                          refine ARH.op (r := i64 x153) rfl rfl (aop_load_pp rfl rfl sz3 rfl) ?_
                          refine ARH.dry (r := .sl (List.map i64 l_1)) rfl (fun _ => aop_move (.inl rfl) rfl) ?_
                          refine ARH.dry (r := i64 i139) rfl (fun _ => aop_move (.inl rfl) rfl) ?_
                          refine ARH.drop (frx := [(1, _), (10, _), (12, _), (82, _), (83, _), (84, _)]) ⟨rfl, rfl, rfl, rfl, rfl, rfl, trivial⟩ ?_
                          obtain ⟨x155, hx155, h⟩ := Sh.bind_some' h
                          obtain ⟨k156, hi156, hl156⟩ := Sh.idx_some hx155
                          refine ARH.op rfl rfl (t_index_sl i64 l_1 hi156 hl156 rfl rfl rfl el50 rfl) ?_
                          refine ARH.op (r := i64 x155) rfl rfl (aop_load_pp rfl rfl sz3 rfl) ?_
                          refine ARH.dry (r := bl (decide (x153 ≠ x155))) rfl (fun _ => aop_neq rfl rfl rfl) ?_
                          refine ARH.nil ?_
                          refine hK24 _ (AWP.weak (Weak.kp (fr' := [(1, .sl (List.map i64 l_1)), (10, .sl (List.map i64 r90.1)), (12, i64 i139), (87, bl (decide (x153 ≠ x155)))]) ⟨rfl, rfl, rfl, rfl, trivial⟩) ?_)
                          clear hK24 K24
                          refine awp_cond rfl (fun hb157 => ?_) (fun hb157 => ?_)
                          · replace h := Sh.if_t h hb157
                            refine awp_seqK fun K25 hK25 => ?_
                            refine awp_any (by kernel_rfl) (by kernel_rfl) rfl ?_
                            refine ARH.dry (r := .sl (List.map i64 r90.1)) rfl (fun _ => aop_move (.inl rfl) rfl) ?_
                            refine ARH.dry (r := i64 i139) rfl (fun _ => aop_move (.inl rfl) rfl) ?_
                            obtain ⟨x162, hx162, h⟩ := Sh.bind_some' h
                            obtain ⟨k163, hi163, hl163⟩ := Sh.idx_some hx162
                            refine ARH.op rfl rfl (t_index_sl i64 r90.1 hi163 hl163 rfl rfl rfl el50 rfl) ?_
                            refine ARH.drop (frx := [(1, _), (12, _), (90, _)]) ⟨rfl, rfl, rfl, trivial⟩ ?_
                            refine ARH.op (r := i64 x162) rfl rfl (aop_load_pp rfl rfl sz3 rfl) ?_
                            refine ARH.dry (r := .sl (List.map i64 l_1)) rfl (fun _ => aop_move (.inl rfl) rfl) ?_
                            refine ARH.dry (r := i64 i139) rfl (fun _ => aop_move (.inl rfl) rfl) ?_
                            refine ARH.drop (frx := [(91, _), (92, _), (93, _)]) ⟨rfl, rfl, rfl, trivial⟩ ?_
                            obtain ⟨x164, hx164, h⟩ := Sh.bind_some' h
                            obtain ⟨k165, hi165, hl165⟩ := Sh.idx_some hx164
                            refine ARH.op rfl rfl (t_index_sl i64 l_1 hi165 hl165 rfl rfl rfl el50 rfl) ?_
                            refine ARH.op (r := i64 x164) rfl rfl (aop_load_pp rfl rfl sz3 rfl) ?_
                            refine ARH.dry (r := bl (decide (x162 < x164))) rfl (fun _ => aop_lss rfl rfl rfl) ?_
                            refine ARH.drop (frx := [(96, _)]) ⟨rfl, trivial⟩ ?_
                            refine ARH.dry (r := bl (decide (x162 < x164))) rfl (fun _ => aop_move (.inr rfl) rfl) ?_
                            refine ARH.nil ?_
                            refine hK25 _ (AWP.weak (Weak.kp (fr' := [(4, bl (decide (x162 < x164)))]) ⟨rfl, trivial⟩) ?_)
                            clear hK25 K25
                            refine awp_ret ?_
                            replace h := Sh.exit_eq h hx1
                            obtain rfl := Option.some.inj h
                            refine ⟨.inr rfl, bl (decide (x162 < x164)), rfl, ?_⟩
                            exact Weak.re [] [] rfl rfl rfl (trivial) ⟨⟨_, rfl, .same _ (by simp)⟩, trivial⟩
                          · replace h := Sh.if_f h hb157
                            refine awp_skip ?_
                            refine hK23 _ (AWP.weak (Weak.kp (fr' := [(1, .sl (List.map i64 l_1)), (10, .sl (List.map i64 r90.1)), (12, i64 i139)]) ⟨rfl, rfl, rfl, trivial⟩) ?_)
                            clear hK23 K23
                            refine awp_reg rfl ?_
                            refine AR.op (r := i64 i139) rfl (aop_move (.inl rfl) rfl) ?_
                            refine AR.op (r := i64 (w64 (i139 + 1))) rfl (aop_add rfl rfl rfl rfl) ?_
                            refine AR.op (r := i64 (w64 (i139 + 1))) rfl (aop_move (.inr rfl) rfl) ?_
                            refine AR.nil ?_
                            replace h := Sh.next_eq h
                            exact ⟨_, h, Weak.re (fr' := [(1, .sl (List.map i64 l_1)), (10, .sl (List.map i64 r90.1)), (12, i64 (w64 (i139 + 1)))]) (H' := .empty) [] [] rfl rfl rfl (trivial) ⟨⟨.sl (List.map i64 l_1), rfl, .same _ (by simp)⟩, ⟨.sl (List.map i64 r90.1), rfl, .same _ (by simp)⟩, ⟨_, rfl, .same _ (by simp)⟩, trivial⟩⟩
                        · replace h := Sh.if_f h hb140
                          refine awp_exit ?_
                          replace h := Sh.exit_eq h hx1
                          exact hK19 () _ h (Weak.kp (fr' := []) trivial)
                · intro K26 hK26
                  refine awp_reg rfl ?_
                  refine AR.op (r := bl r90.2) rfl (aop_move (.inl rfl) rfl) ?_
                  refine AR.op (r := bl (!r90.2)) rfl (aop_not rfl rfl) ?_
                  refine AR.op (r := bl (!r90.2)) rfl (aop_move (.inl rfl) rfl) ?_
                  refine AR.drop (frx := [(1, _), (10, _), (66, _)]) ⟨rfl, rfl, rfl, trivial⟩ ?_
                  rcases Bool.eq_false_or_eq_true (!r90.2) with hb166 | hb166
                  · rw [hb166]
                    replace h := Sh.if_t h hb166
                    refine AR.skip rfl ?_
                    refine AR.skip rfl ?_
                    refine AR.skip rfl ?_
                    refine AR.drop (frx := [(1, _), (10, _), (66, _), (68, _), (69, _)]) ⟨rfl, rfl, rfl, rfl, rfl, trivial⟩ ?_
                    refine AR.skip rfl ?_
                    refine AR.skip rfl ?_
                    refine AR.op (r := bl true) rfl (aop_pick rfl rfl rfl) ?_
                    refine AR.nil ?_
                    exact hK26 true _ h (Weak.kp (fr' := [(1, .sl (List.map i64 l_1)), (10, .sl (List.map i64 r90.1)), (72, bl true)]) ⟨rfl, rfl, rfl, trivial⟩)
                  · rw [hb166]
                    replace h := Sh.if_f h hb166
                    refine AR.op (r := .sl (List.map i64 r90.1)) rfl (aop_move (.inl rfl) rfl) ?_
                    refine AR.op (r := i64 (Sh.len r90.1)) rfl (t_len_sl i64 r90.1 rfl rfl el50) ?_
                    refine AR.op (r := .sl (List.map i64 l_1)) rfl (aop_move (.inl rfl) rfl) ?_
                    refine AR.drop (frx := [(1, _), (10, _), (66, _), (68, _), (69, _)]) ⟨rfl, rfl, rfl, rfl, rfl, trivial⟩ ?_
                    refine AR.op (r := i64 (Sh.len l_1)) rfl (t_len_sl i64 l_1 rfl rfl el50) ?_
                    refine AR.op (r := bl (decide ((Sh.len r90.1) ≠ (Sh.len l_1)))) rfl (aop_neq rfl rfl rfl) ?_
                    refine AR.op (r := bl (decide ((Sh.len r90.1) ≠ (Sh.len l_1)))) rfl (aop_pick rfl rfl rfl) ?_
                    refine AR.nil ?_
                    exact hK26 (decide ((Sh.len r90.1) ≠ (Sh.len l_1))) _ h (Weak.re (fr' := [(1, .sl (List.map i64 l_1)), (10, .sl (List.map i64 r90.1)), (72, bl (decide ((Sh.len r90.1) ≠ (Sh.len l_1))))]) (H' := .empty) [] [] rfl rfl rfl (trivial) ⟨⟨.sl (List.map i64 l_1), rfl, .same _ (by simp)⟩, ⟨.sl (List.map i64 r90.1), rfl, .same _ (by simp)⟩, ⟨_, rfl, .same _ (by simp)⟩, trivial⟩)
          · intro K27 hK27
            refine awp_any (by kernel_rfl) (by kernel_rfl) rfl ?_
            refine ARH.op (r := G.graph_Graph.av r61.1) rfl rfl (aop_load_ref rfl rfl rfl rfl sz24 rfl) ?_
            refine ARH.dry (r := .sl (List.map i64 back75)) rfl (fun _ => aop_move (.inl rfl) rfl) ?_
            obtain ⟨r167, hr167, h⟩ := Sh.bind_some' h
            refine ARH.op (r := bl r167) rfl rfl (aop_call1 rfl rfl (by simp) (topo_Is_ok hT hr167)) ?_
            refine ARH.drop (frx := [(1, _), (2, _), (7, _), (46, _)]) ⟨rfl, rfl, rfl, rfl, trivial⟩ ?_
            refine ARH.op (r := G.graph_Graph.av g_0) rfl rfl (aop_load_ref rfl rfl rfl rfl sz24 rfl) ?_
            refine ARH.dry (r := .sl (List.map i64 l_1)) rfl (fun _ => aop_move (.inl rfl) rfl) ?_
            obtain ⟨r168, hr168, h⟩ := Sh.bind_some' h
            refine ARH.op (r := bl r168) rfl rfl (aop_call1 rfl rfl (by simp) (topo_Is_ok hT hr168)) ?_
            refine ARH.drop (frx := [(1, _), (2, _), (7, _), (46, _), (49, _)]) ⟨rfl, rfl, rfl, rfl, rfl, trivial⟩ ?_
            refine ARH.dry (r := bl (!(r167 == r168))) rfl (fun _ => aop_neb rfl rfl rfl Tryd.underlying4) ?_
            refine ARH.dry (r := bl (!(r167 == r168))) rfl (fun _ => aop_move (.inl rfl) rfl) ?_
            rcases Bool.eq_false_or_eq_true (!(r167 == r168)) with hb169 | hb169
            · rw [hb169]
              replace h := Sh.if_t h hb169
              refine ARH.dry (r := i64 r61.2) rfl (fun _ => aop_move (.inl rfl) rfl) ?_
              refine ARH.drop (frx := [(1, _), (2, _), (51, _), (52, _)]) ⟨rfl, rfl, rfl, rfl, trivial⟩ ?_
              refine ARH.dry (r := bl (decide (r61.2 = 0))) rfl (fun _ => aop_eql rfl rfl rfl) ?_
              refine ARH.dry (r := bl (decide (r61.2 = 0))) rfl (fun _ => aop_pick rfl rfl rfl) ?_
              refine ARH.nil ?_
              exact hK27 (decide (r61.2 = 0)) _ h (Weak.re (fr' := [(1, .sl (List.map i64 l_1)), (2, .ref 0 0 0), (54, bl (decide (r61.2 = 0)))]) (H' := ⟨1, [(0, (2, [G.graph_Graph.av g_0]))]⟩) [(0, 0)] [] rfl rfl rfl (.cons rfl rfl (.one (.same _ (by simp)) rfl) (of_decide_eq_true rfl) (trivial)) ⟨⟨.sl (List.map i64 l_1), rfl, .same _ (by simp)⟩, ⟨_, rfl, .ref rfl⟩, ⟨_, rfl, .same _ (by simp)⟩, trivial⟩)
            · rw [hb169]
              replace h := Sh.if_f h hb169
              refine ARH.skip rfl ?_
              refine ARH.drop (frx := [(1, _), (2, _), (51, _), (52, _)]) ⟨rfl, rfl, rfl, rfl, trivial⟩ ?_
              refine ARH.skip rfl ?_
              refine ARH.dry (r := bl false) rfl (fun _ => aop_pick rfl rfl rfl) ?_
              refine ARH.nil ?_
              exact hK27 false _ h (Weak.re (fr' := [(1, .sl (List.map i64 l_1)), (2, .ref 0 0 0), (54, bl false)]) (H' := ⟨1, [(0, (2, [G.graph_Graph.av g_0]))]⟩) [(0, 0)] [] rfl rfl rfl (.cons rfl rfl (.one (.same _ (by simp)) rfl) (of_decide_eq_true rfl) (trivial)) ⟨⟨.sl (List.map i64 l_1), rfl, .same _ (by simp)⟩, ⟨_, rfl, .ref rfl⟩, ⟨_, rfl, .same _ (by simp)⟩, trivial⟩)
        · intro K28 hK28
          refine awp_seqK fun K29 hK29 => ?_
          refine awp_reg rfl ?_
          refine AR.op (r := .sl (List.map i64 l_1)) rfl (aop_move (.inl rfl) rfl) ?_
          refine AR.op (r := i64 (Sh.len l_1)) rfl (t_len_sl i64 l_1 rfl rfl el50) ?_
          refine AR.op (r := i64 (w64 ((Sh.len l_1) - 1))) rfl (aop_sub rfl rfl rfl rfl) ?_
          refine AR.drop (frx := [(1, _), (2, _), (6, _), (7, _), (8, _), (32, _)]) ⟨rfl, rfl, rfl, rfl, rfl, rfl, trivial⟩ ?_
          refine AR.op (r := i64 (w64 ((Sh.len l_1) - 1))) rfl (aop_move (.inr rfl) rfl) ?_
          refine AR.nil ?_
          refine hK29 _ (AWP.weak (Weak.re (fr' := [(1, .sl (List.map i64 l_1)), (2, .ref 0 0 0), (6, .ref 1 0 0), (7, i64 r61.2), (8, nilS), (9, i64 (w64 ((Sh.len l_1) - 1)))]) (H' := ⟨2, [(0, (2, [G.graph_Graph.av g_0])), (1, (2, [G.graph_Graph.av r61.1]))]⟩) [(0, 0), (1, 1)] [] rfl rfl rfl (.cons rfl rfl (.one (.same _ (by simp)) rfl) (of_decide_eq_true rfl) (.cons rfl rfl (.one (.same _ (by simp)) rfl) (of_decide_eq_true rfl) (trivial))) ⟨⟨.sl (List.map i64 l_1), rfl, .same _ (by simp)⟩, ⟨_, rfl, .ref rfl⟩, ⟨_, rfl, .ref rfl⟩, ⟨_, rfl, .same _ (by simp)⟩, ⟨_, rfl, .same _ (by simp)⟩, ⟨_, rfl, .same _ (by simp)⟩, trivial⟩) ?_)
          clear hK29 K29
          refine awp_block ?_
          refine awp_iter (fun (p : (List Int) × Int) => G.inquestlaw16_TopoLeast_b2 g_0 l_1 r61 p.1 p.2) (fun (p : (List Int) × Int) => (⟨[(1, .sl (List.map i64 l_1)), (2, .ref 0 0 0), (6, .ref 1 0 0), (7, i64 r61.2), (8, .view 2 0 (List.map i64 p.1).length), (9, i64 p.2)], ⟨3, [(0, (2, [G.graph_Graph.av g_0])), (1, (2, [G.graph_Graph.av r61.1])), (2, (1, List.map i64 p.1))]⟩⟩ : St)) h (Weak.re (fr' := [(1, .sl (List.map i64 l_1)), (2, .ref 0 0 0), (6, .ref 1 0 0), (7, i64 r61.2), (8, .view 2 0 (List.map i64 []).length), (9, i64 (w64 ((Sh.len l_1) - 1)))]) (H' := ⟨3, [(0, (2, [G.graph_Graph.av g_0])), (1, (2, [G.graph_Graph.av r61.1])), (2, (1, List.map i64 []))]⟩) [(0, 0), (1, 1)] [2] rfl rfl rfl (.cons rfl rfl (.one (.same _ (by simp)) rfl) (of_decide_eq_true rfl) (.cons rfl rfl (.one (.same _ (by simp)) rfl) (of_decide_eq_true rfl) (.fresh (by simp) (of_decide_eq_true rfl) (trivial)))) ⟨⟨.sl (List.map i64 l_1), rfl, .same _ (by simp)⟩, ⟨_, rfl, .ref rfl⟩, ⟨_, rfl, .ref rfl⟩, ⟨_, rfl, .same _ (by simp)⟩, ⟨_, rfl, .nil (by simp)⟩, ⟨_, rfl, .same _ (by simp)⟩, trivial⟩) ?_
          · skip
            rintro ⟨back178, i179⟩ o2 h hx2
            replace h : G.inquestlaw16_TopoLeast_b2 g_0 l_1 r61 back178 i179 = some o2 := h
            unfold G.inquestlaw16_TopoLeast_b2 at h
            show AWP _ _ _ _ ⟨[(1, .sl (List.map i64 l_1)), (2, .ref 0 0 0), (6, .ref 1 0 0), (7, i64 r61.2), (8, .view 2 0 (List.map i64 back178).length), (9, i64 i179)], ⟨3, [(0, (2, [G.graph_Graph.av g_0])), (1, (2, [G.graph_Graph.av r61.1])), (2, (1, List.map i64 back178))]⟩⟩ _
            refine awp_seqK fun K30 hK30 => ?_
            refine awp_seqK fun K31 hK31 => ?_
            refine awp_reg rfl ?_
            refine AR.op (r := i64 i179) rfl (aop_move (.inl rfl) rfl) ?_
            refine AR.op (r := bl (decide ((0 : Int) ≤ i179))) rfl (aop_geq rfl rfl rfl) ?_
            refine AR.nil ?_
            refine hK31 _ (AWP.weak (Weak.re (fr' := [(1, .sl (List.map i64 l_1)), (2, .ref 0 0 0), (6, .ref 1 0 0), (7, i64 r61.2), (8, .view 2 0 (List.map i64 back178).length), (9, i64 i179), (34, bl (decide ((0 : Int) ≤ i179)))]) (H' := ⟨3, [(0, (2, [G.graph_Graph.av g_0])), (1, (2, [G.graph_Graph.av r61.1])), (2, (1, List.map i64 back178))]⟩) [(0, 0), (1, 1), (2, 2)] [] rfl rfl rfl (.cons rfl rfl (.one (.same _ (by simp)) rfl) (of_decide_eq_true rfl) (.cons rfl rfl (.one (.same _ (by simp)) rfl) (of_decide_eq_true rfl) (.cons rfl rfl (.same (by simp)) (of_decide_eq_true rfl) (trivial)))) ⟨⟨.sl (List.map i64 l_1), rfl, .same _ (by simp)⟩, ⟨_, rfl, .ref rfl⟩, ⟨_, rfl, .ref rfl⟩, ⟨_, rfl, .same _ (by simp)⟩, ⟨_, rfl, .view rfl⟩, ⟨_, rfl, .same _ (by simp)⟩, ⟨_, rfl, .same _ (by simp)⟩, trivial⟩) ?_)
            clear hK31 K31
            refine awp_cond rfl (fun hb180 => ?_) (fun hb180 => ?_)
            · replace h := Sh.if_t h hb180
              refine awp_skip ?_
              refine hK30 _ (AWP.weak (Weak.re (fr' := [(1, .sl (List.map i64 l_1)), (2, .ref 0 0 0), (6, .ref 1 0 0), (7, i64 r61.2), (8, .view 2 0 (List.map i64 back178).length), (9, i64 i179)]) (H' := ⟨3, [(0, (2, [G.graph_Graph.av g_0])), (1, (2, [G.graph_Graph.av r61.1])), (2, (1, List.map i64 back178))]⟩) [(0, 0), (1, 1), (2, 2)] [] rfl rfl rfl (.cons rfl rfl (.one (.same _ (by simp)) rfl) (of_decide_eq_true rfl) (.cons rfl rfl (.one (.same _ (by simp)) rfl) (of_decide_eq_true rfl) (.cons rfl rfl (.same (by simp)) (of_decide_eq_true rfl) (trivial)))) ⟨⟨.sl (List.map i64 l_1), rfl, .same _ (by simp)⟩, ⟨_, rfl, .ref rfl⟩, ⟨_, rfl, .ref rfl⟩, ⟨_, rfl, .same _ (by simp)⟩, ⟨_, rfl, .view rfl⟩, ⟨_, rfl, .same _ (by simp)⟩, trivial⟩) ?_)
              clear hK30 K30
              refine awp_seqK fun K32 hK32 => ?_
              refine awp_block ?_
              refine awp_reg rfl ?_
              refine AR.op (r := .view 2 0 (List.map i64 back178).length) rfl (aop_move (.inl rfl) rfl) ?_
              refine AR.op (r := .sl (List.map i64 l_1)) rfl (aop_move (.inl rfl) rfl) ?_
              refine AR.op (r := i64 i179) rfl (aop_move (.inl rfl) rfl) ?_
              refine AR.drop (frx := [(1, _), (2, _), (6, _), (7, _), (9, _), (37, _), (38, _), (39, _)]) ⟨rfl, rfl, rfl, rfl, rfl, rfl, rfl, rfl, trivial⟩ ?_
              obtain ⟨x184, hx184, h⟩ := Sh.bind_some' h
              obtain ⟨k185, hi185, hl185⟩ := Sh.idx_some hx184
              refine AR.op rfl (t_index_sl i64 l_1 hi185 hl185 rfl rfl rfl el50 rfl) ?_
              refine AR.op (r := i64 x184) rfl (aop_load_pp rfl rfl sz3 rfl) ?_
              refine AR.op (r := .clip (List.map i64 [x184])) rfl (aop_buildSlice rfl (xo := [.tmp 41]) rfl rfl rfl (by simp [AV.solid]) (by simp [AV.flat]) el50 ze50 (by decide)) ?_
              refine AR.drop (frx := [(1, _), (2, _), (6, _), (7, _), (9, _), (37, _), (42, _)]) ⟨rfl, rfl, rfl, rfl, rfl, rfl, rfl, trivial⟩ ?_
              obtain ⟨back186, hback186, h⟩ := Sh.bind_some' h
              refine AR.op (r := .view 3 0 (List.map i64 back186).length) rfl (t_app_view i64 back178 [x184] back186 hback186 rfl et50 (fun _ => rfl) rfl rfl rfl rfl rfl rfl rfl) ?_
              refine AR.op (r := .view 3 0 (List.map i64 back186).length) rfl (aop_move (.inr rfl) rfl) ?_
              refine AR.nil ?_
              refine hK32 _ (AWP.weak (Weak.re (fr' := [(1, .sl (List.map i64 l_1)), (2, .ref 0 0 0), (6, .ref 1 0 0), (7, i64 r61.2), (9, i64 i179), (8, .view 2 0 (List.map i64 back186).length)]) (H' := ⟨3, [(0, (2, [G.graph_Graph.av g_0])), (1, (2, [G.graph_Graph.av r61.1])), (2, (1, List.map i64 back186))]⟩) [(0, 0), (1, 1), (2, 3)] [] rfl rfl rfl (.cons rfl rfl (.one (.same _ (by simp)) rfl) (of_decide_eq_true rfl) (.cons rfl rfl (.one (.same _ (by simp)) rfl) (of_decide_eq_true rfl) (.cons rfl rfl (.same (by simp)) (of_decide_eq_true rfl) (trivial)))) ⟨⟨.sl (List.map i64 l_1), rfl, .same _ (by simp)⟩, ⟨_, rfl, .ref rfl⟩, ⟨_, rfl, .ref rfl⟩, ⟨_, rfl, .same _ (by simp)⟩, ⟨_, rfl, .same _ (by simp)⟩, ⟨_, rfl, .view rfl⟩, trivial⟩) ?_)
              clear hK32 K32
              refine awp_reg rfl ?_
              refine AR.op (r := i64 i179) rfl (aop_move (.inl rfl) rfl) ?_
              refine AR.op (r := i64 (w64 (i179 - 1))) rfl (aop_sub rfl rfl rfl rfl) ?_
              refine AR.op (r := i64 (w64 (i179 - 1))) rfl (aop_move (.inr rfl) rfl) ?_
              refine AR.nil ?_
              replace h := Sh.next_eq h
              exact ⟨_, h, Weak.re (fr' := [(1, .sl (List.map i64 l_1)), (2, .ref 0 0 0), (6, .ref 1 0 0), (7, i64 r61.2), (8, .view 2 0 (List.map i64 back186).length), (9, i64 (w64 (i179 - 1)))]) (H' := ⟨3, [(0, (2, [G.graph_Graph.av g_0])), (1, (2, [G.graph_Graph.av r61.1])), (2, (1, List.map i64 back186))]⟩) [(0, 0), (1, 1), (2, 2)] [] rfl rfl rfl (.cons rfl rfl (.one (.same _ (by simp)) rfl) (of_decide_eq_true rfl) (.cons rfl rfl (.one (.same _ (by simp)) rfl) (of_decide_eq_true rfl) (.cons rfl rfl (.same (by simp)) (of_decide_eq_true rfl) (trivial)))) ⟨⟨.sl (List.map i64 l_1), rfl, .same _ (by simp)⟩, ⟨_, rfl, .ref rfl⟩, ⟨_, rfl, .ref rfl⟩, ⟨_, rfl, .same _ (by simp)⟩, ⟨_, rfl, .view rfl⟩, ⟨_, rfl, .same _ (by simp)⟩, trivial⟩⟩
            · replace h := Sh.if_f h hb180
              refine awp_exit ?_
              replace h := Sh.exit_eq h hx2
              exact hK28 back178 _ h (Weak.re (fr' := [(1, .sl (List.map i64 l_1)), (2, .ref 0 0 0), (6, .ref 1 0 0), (7, i64 r61.2), (8, .sl (List.map i64 back178))]) (H' := ⟨2, [(0, (2, [G.graph_Graph.av g_0])), (1, (2, [G.graph_Graph.av r61.1]))]⟩) [(0, 0), (1, 1)] [] rfl rfl rfl (.cons rfl rfl (.one (.same _ (by simp)) rfl) (of_decide_eq_true rfl) (.cons rfl rfl (.one (.same _ (by simp)) rfl) (of_decide_eq_true rfl) (trivial))) ⟨⟨.sl (List.map i64 l_1), rfl, .same _ (by simp)⟩, ⟨_, rfl, .ref rfl⟩, ⟨_, rfl, .ref rfl⟩, ⟨_, rfl, .same _ (by simp)⟩, ⟨_, rfl, .lendAll rfl rfl (by simp)⟩, trivial⟩)
    · intro K33 hK33
      refine awp_reg rfl ?_
      refine AR.op rfl (aop_field_ref rfl rfl rfl fd24_1 (by decide)) ?_
      refine AR.op (r := .sl (List.map u64 g_0.Rows)) rfl (aop_load_ref rfl rfl rfl rfl sz22 rfl) ?_
      refine AR.op (r := i64 (Sh.len g_0.Rows)) rfl (t_len_sl u64 g_0.Rows rfl rfl el22) ?_
      refine AR.drop (frx := [(1, _), (2, _), (18, _)]) ⟨rfl, rfl, rfl, trivial⟩ ?_
      refine AR.op (r := bl (decide ((70 : Int) < (Sh.len g_0.Rows)))) rfl (aop_gtr rfl rfl rfl) ?_
      refine AR.op (r := bl (decide ((70 : Int) < (Sh.len g_0.Rows)))) rfl (aop_move (.inl rfl) rfl) ?_
      rcases Bool.eq_false_or_eq_true (decide ((70 : Int) < (Sh.len g_0.Rows))) with hb187 | hb187
      · rw [hb187]
        replace h := Sh.if_t h hb187
        refine AR.skip rfl ?_
        refine AR.drop (frx := [(1, _), (2, _), (20, _), (21, _)]) ⟨rfl, rfl, rfl, rfl, trivial⟩ ?_
        refine AR.skip rfl ?_
        refine AR.skip rfl ?_
        refine AR.op (r := bl true) rfl (aop_pick rfl rfl rfl) ?_
        refine AR.nil ?_
        exact hK33 true _ h (Weak.re (fr' := [(1, .sl (List.map i64 l_1)), (2, .ref 0 0 0), (24, bl true)]) (H' := ⟨1, [(0, (2, [G.graph_Graph.av g_0]))]⟩) [(0, 0)] [] rfl rfl rfl (.cons rfl rfl (.one (.same _ (by simp)) rfl) (of_decide_eq_true rfl) (trivial)) ⟨⟨.sl (List.map i64 l_1), rfl, .same _ (by simp)⟩, ⟨_, rfl, .ref rfl⟩, ⟨_, rfl, .same _ (by simp)⟩, trivial⟩)
      · rw [hb187]
        replace h := Sh.if_f h hb187
        refine AR.op (r := .sl (List.map i64 l_1)) rfl (aop_move (.inl rfl) rfl) ?_
        refine AR.drop (frx := [(1, _), (2, _), (20, _), (21, _)]) ⟨rfl, rfl, rfl, rfl, trivial⟩ ?_
        refine AR.op (r := i64 (Sh.len l_1)) rfl (t_len_sl i64 l_1 rfl rfl el50) ?_
        refine AR.op (r := bl (decide ((70 : Int) < (Sh.len l_1)))) rfl (aop_gtr rfl rfl rfl) ?_
        refine AR.op (r := bl (decide ((70 : Int) < (Sh.len l_1)))) rfl (aop_pick rfl rfl rfl) ?_
        refine AR.nil ?_
        exact hK33 (decide ((70 : Int) < (Sh.len l_1))) _ h (Weak.re (fr' := [(1, .sl (List.map i64 l_1)), (2, .ref 0 0 0), (24, bl (decide ((70 : Int) < (Sh.len l_1))))]) (H' := ⟨1, [(0, (2, [G.graph_Graph.av g_0]))]⟩) [(0, 0)] [] rfl rfl rfl (.cons rfl rfl (.one (.same _ (by simp)) rfl) (of_decide_eq_true rfl) (trivial)) ⟨⟨.sl (List.map i64 l_1), rfl, .same _ (by simp)⟩, ⟨_, rfl, .ref rfl⟩, ⟨_, rfl, .same _ (by simp)⟩, trivial⟩)
theorem inquestlaw16_TopoLeast_ok {W0 : World} (hT : Tab W0) {g_0 : G.graph_Graph} {l_1 : List Int} {r : Bool} (h : G.inquestlaw16_TopoLeast g_0 l_1 = some r) : Fun1 Tryd.prog W0 10 [G.graph_Graph.av g_0, .sl (List.map i64 l_1)] (bl r) := Fun1.two (inquestlaw16_TopoLeast_ok0 hT h) (by simp)

end Wk
