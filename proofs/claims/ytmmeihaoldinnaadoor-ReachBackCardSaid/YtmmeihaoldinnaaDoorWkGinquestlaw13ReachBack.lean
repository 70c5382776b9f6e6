/- That a statement does what its plain function says. -/
import Derived.Test.YtmmeihaoldinnaaDoorWkGinquestlaw13
open Go Go.Av Go.Proofs
set_option linter.unusedVariables false
namespace Wk
set_option maxHeartbeats 8000000 in
theorem inquestlaw13_ReachBack_ok0 {W0 : World} (hT : Tab W0) {g_0 : G.graph_Graph} {r : Bool} (h : G.inquestlaw13_ReachBack g_0 = some r) : Fun2 Tryd.prog W0 12 [G.graph_Graph.av g_0] (bl r) .empty := by
  refine fun2_of_awp Tryd.func12 rfl (by kernel_rfl) Tryd.ntmps12 (by simp) ?_
  unfold G.inquestlaw13_ReachBack at h
  show AWP _ _ _ _ ⟨[(0, G.graph_Graph.av g_0)], .empty⟩ _
  refine awp_seqK fun K1 hK1 => ?_
  refine awp_reg rfl ?_
  refine AR.op (r := .ref 0 0 0) rfl (aop_box 2 [G.graph_Graph.av g_0] rfl rfl rfl (.inl ⟨rfl, rfl⟩)) ?_
  refine AR.op (r := bl false) rfl (aop_move (.inr rfl) rfl) ?_
  refine AR.nil ?_
  refine hK1 _ (AWP.weak (Weak.re (fr' := [(1, .ref 0 0 0)]) (H' := ⟨1, [(0, (2, [G.graph_Graph.av g_0]))]⟩) [(0, 0)] [] rfl rfl rfl (.cons rfl rfl (.one (.same _ (by simp)) rfl) (of_decide_eq_true rfl) (trivial)) ⟨⟨_, rfl, .ref rfl⟩, trivial⟩) ?_)
  clear hK1 K1
  refine awp_seqK fun K2 hK2 => ?_
  refine awp_reg rfl ?_
  obtain ⟨r43, hr43, h⟩ := Sh.bind_some' h
  refine AR.op (r := bl r43) rfl (aop_call1 rfl rfl (by simp) (inquestlaw13_awake_ok hT hr43)) ?_
  refine AR.op (r := bl r43) rfl (aop_move (.inr rfl) rfl) ?_
  refine AR.nil ?_
  refine hK2 _ (AWP.weak (Weak.re (fr' := [(1, .ref 0 0 0), (3, bl r43)]) (H' := ⟨1, [(0, (2, [G.graph_Graph.av g_0]))]⟩) [(0, 0)] [] rfl rfl rfl (.cons rfl rfl (.one (.same _ (by simp)) rfl) (of_decide_eq_true rfl) (trivial)) ⟨⟨_, rfl, .ref rfl⟩, ⟨_, rfl, .same _ (by simp)⟩, trivial⟩) ?_)
  clear hK2 K2
  refine awp_seqK fun K3 hK3 => ?_
  refine awp_seqK fun K4 hK4 => ?_
  refine awp_reg rfl ?_
  refine AR.op (r := bl r43) rfl (aop_move (.inl rfl) rfl) ?_
  refine AR.op (r := bl (!r43)) rfl (aop_not rfl rfl) ?_
  refine AR.nil ?_
  refine hK4 _ (AWP.weak (Weak.re (fr' := [(1, .ref 0 0 0), (12, bl (!r43))]) (H' := ⟨1, [(0, (2, [G.graph_Graph.av g_0]))]⟩) [(0, 0)] [] rfl rfl rfl (.cons rfl rfl (.one (.same _ (by simp)) rfl) (of_decide_eq_true rfl) (trivial)) ⟨⟨_, rfl, .ref rfl⟩, ⟨_, rfl, .same _ (by simp)⟩, trivial⟩) ?_)
  clear hK4 K4
  refine awp_cond rfl (fun hb44 => ?_) (fun hb44 => ?_)
  · replace h := Sh.if_t h hb44
    refine awp_seqK fun K5 hK5 => ?_
    refine awp_reg rfl ?_
    refine AR.op (r := bl false) rfl (aop_move (.inr rfl) rfl) ?_
    refine AR.nil ?_
    refine hK5 _ (AWP.weak (Weak.re (fr' := [(2, bl false)]) (H' := .empty) [] [] rfl rfl rfl (trivial) ⟨⟨_, rfl, .same _ (by simp)⟩, trivial⟩) ?_)
    clear hK5 K5
    refine awp_ret ?_
    obtain rfl := Option.some.inj h
    refine ⟨.inr rfl, bl false, rfl, ?_⟩
    exact Weak.re [] [] rfl rfl rfl (trivial) ⟨⟨_, rfl, .same _ (by simp)⟩, trivial⟩
  · replace h := Sh.if_f h hb44
    refine awp_skip ?_
    refine hK3 _ (AWP.weak (Weak.re (fr' := [(1, .ref 0 0 0)]) (H' := ⟨1, [(0, (2, [G.graph_Graph.av g_0]))]⟩) [(0, 0)] [] rfl rfl rfl (.cons rfl rfl (.one (.same _ (by simp)) rfl) (of_decide_eq_true rfl) (trivial)) ⟨⟨_, rfl, .ref rfl⟩, trivial⟩) ?_)
    clear hK3 K3
    refine awp_seqK fun K6 hK6 => ?_
    refine awp_seqJ (fun (p : Bool) => (⟨[(1, .ref 0 0 0), (21, bl p)], ⟨1, [(0, (2, [G.graph_Graph.av g_0]))]⟩⟩ : St)) (fun (p : Bool) => G.inquestlaw13_ReachBack_j1 g_0 p = some r) ?_ ?_
    · rintro v50 h
      replace h : G.inquestlaw13_ReachBack_j1 g_0 v50 = some r := h
      unfold G.inquestlaw13_ReachBack_j1 at h
      show AWP _ _ _ _ ⟨[(1, .ref 0 0 0), (21, bl v50)], ⟨1, [(0, (2, [G.graph_Graph.av g_0]))]⟩⟩ _
      refine awp_cond rfl (fun hb51 => ?_) (fun hb51 => ?_)
      · replace h := Sh.if_t h hb51
        refine awp_seqK fun K7 hK7 => ?_
        refine awp_reg rfl ?_
        refine AR.op (r := bl true) rfl (aop_move (.inr rfl) rfl) ?_
        refine AR.nil ?_
        refine hK7 _ (AWP.weak (Weak.re (fr' := [(2, bl true)]) (H' := .empty) [] [] rfl rfl rfl (trivial) ⟨⟨_, rfl, .same _ (by simp)⟩, trivial⟩) ?_)
        clear hK7 K7
        refine awp_ret ?_
        obtain rfl := Option.some.inj h
        refine ⟨.inr rfl, bl true, rfl, ?_⟩
        exact Weak.re [] [] rfl rfl rfl (trivial) ⟨⟨_, rfl, .same _ (by simp)⟩, trivial⟩
      · replace h := Sh.if_f h hb51
        refine awp_skip ?_
        refine hK6 _ (AWP.weak (Weak.re (fr' := [(1, .ref 0 0 0)]) (H' := ⟨1, [(0, (2, [G.graph_Graph.av g_0]))]⟩) [(0, 0)] [] rfl rfl rfl (.cons rfl rfl (.one (.same _ (by simp)) rfl) (of_decide_eq_true rfl) (trivial)) ⟨⟨_, rfl, .ref rfl⟩, trivial⟩) ?_)
        clear hK6 K6
        refine awp_seqK fun K8 hK8 => ?_
        refine awp_reg rfl ?_
        refine AR.op (r := G.graph_Graph.av g_0) rfl (aop_load_ref rfl rfl rfl rfl sz24 rfl) ?_
        obtain ⟨r53, hr53, h⟩ := Sh.bind_some' h
        refine AR.op (r := .tuple [G.graph_Graph.av r53.1, i64 r53.2]) rfl (aop_call1 rfl rfl (by simp) (reach_Close_ok hT hr53)) ?_
        refine AR.op (r := .tuple [G.graph_Graph.av r53.1, i64 r53.2]) rfl (aop_move (.inl rfl) rfl) ?_
        refine AR.drop (frx := [(1, _), (22, _)]) ⟨rfl, rfl, trivial⟩ ?_
        refine AR.op (r := G.graph_Graph.av r53.1) rfl (aop_extract rfl rfl rfl) ?_
        refine AR.op (r := i64 r53.2) rfl (aop_extract rfl rfl rfl) ?_
        refine AR.op (r := .ref 1 0 0) rfl (aop_alloc 2 [.agg [i64 0, nilS]] rfl zr24 (by kernel_rfl) (.inl ⟨rfl, rfl⟩)) ?_
        refine AR.drop (frx := [(1, _), (25, _), (26, _), (4, _)]) ⟨rfl, rfl, rfl, rfl, trivial⟩ ?_
        refine AR.op rfl (aop_store (e' := G.graph_Graph.av r53.1) rfl rfl rfl rfl rfl rfl sz24 rfl (of_decide_eq_true rfl) rfl) ?_
        refine AR.op (r := i64 r53.2) rfl (aop_move (.inr rfl) rfl) ?_
        refine AR.nil ?_
        refine hK8 _ (AWP.weak (Weak.re (fr' := [(1, .ref 0 0 0), (4, .ref 1 0 0), (5, i64 r53.2)]) (H' := ⟨2, [(0, (2, [G.graph_Graph.av g_0])), (1, (2, [G.graph_Graph.av r53.1]))]⟩) [(0, 0), (1, 1)] [] rfl rfl rfl (.cons rfl rfl (.one (.same _ (by simp)) rfl) (of_decide_eq_true rfl) (.cons rfl rfl (.one (.same _ (by simp)) rfl) (of_decide_eq_true rfl) (trivial))) ⟨⟨_, rfl, .ref rfl⟩, ⟨_, rfl, .ref rfl⟩, ⟨_, rfl, .same _ (by simp)⟩, trivial⟩) ?_)
        clear hK8 K8
        refine awp_seqK fun K9 hK9 => ?_
        refine awp_reg rfl ?_
        refine AR.op (r := G.graph_Graph.av g_0) rfl (aop_load_ref rfl rfl rfl rfl sz24 rfl) ?_
        obtain ⟨r55, hr55, h⟩ := Sh.bind_some' h
        refine AR.op (r := .tuple [G.graph_Graph.av r55.1, i64 r55.2]) rfl (aop_call1 rfl rfl (by simp) (graph_Turn_ok hT hr55)) ?_
        refine AR.op (r := .tuple [G.graph_Graph.av r55.1, i64 r55.2]) rfl (aop_move (.inl rfl) rfl) ?_
        refine AR.drop (frx := [(1, _), (4, _), (5, _), (27, _)]) ⟨rfl, rfl, rfl, rfl, trivial⟩ ?_
        refine AR.op (r := G.graph_Graph.av r55.1) rfl (aop_extract rfl rfl rfl) ?_
        refine AR.op (r := i64 r55.2) rfl (aop_extract rfl rfl rfl) ?_
        refine AR.op (r := .ref 2 0 0) rfl (aop_alloc 2 [.agg [i64 0, nilS]] rfl zr24 (by kernel_rfl) (.inl ⟨rfl, rfl⟩)) ?_
        refine AR.drop (frx := [(1, _), (4, _), (5, _), (30, _), (31, _), (6, _)]) ⟨rfl, rfl, rfl, rfl, rfl, rfl, trivial⟩ ?_
        refine AR.op rfl (aop_store (e' := G.graph_Graph.av r55.1) rfl rfl rfl rfl rfl rfl sz24 rfl (of_decide_eq_true rfl) rfl) ?_
        refine AR.op (r := i64 r55.2) rfl (aop_move (.inr rfl) rfl) ?_
        refine AR.nil ?_
        refine hK9 _ (AWP.weak (Weak.re (fr' := [(1, .ref 0 0 0), (4, .ref 1 0 0), (5, i64 r53.2), (6, .ref 2 0 0), (7, i64 r55.2)]) (H' := ⟨3, [(0, (2, [G.graph_Graph.av g_0])), (1, (2, [G.graph_Graph.av r53.1])), (2, (2, [G.graph_Graph.av r55.1]))]⟩) [(0, 0), (1, 1), (2, 2)] [] rfl rfl rfl (.cons rfl rfl (.one (.same _ (by simp)) rfl) (of_decide_eq_true rfl) (.cons rfl rfl (.one (.same _ (by simp)) rfl) (of_decide_eq_true rfl) (.cons rfl rfl (.one (.same _ (by simp)) rfl) (of_decide_eq_true rfl) (trivial)))) ⟨⟨_, rfl, .ref rfl⟩, ⟨_, rfl, .ref rfl⟩, ⟨_, rfl, .same _ (by simp)⟩, ⟨_, rfl, .ref rfl⟩, ⟨_, rfl, .same _ (by simp)⟩, trivial⟩) ?_)
        clear hK9 K9
        refine awp_seqK fun K10 hK10 => ?_
        refine awp_reg rfl ?_
        refine AR.op (r := bl false) rfl (aop_move (.inr rfl) rfl) ?_
        refine AR.nil ?_
        refine hK10 _ ?_
        clear hK10 K10
        refine awp_seqJ (fun (p : Bool) => (⟨[(1, .ref 0 0 0), (5, i64 r53.2), (6, .ref 1 0 0), (7, i64 r55.2), (8, bl p)], ⟨2, [(0, (2, [G.graph_Graph.av g_0])), (1, (2, [G.graph_Graph.av r55.1]))]⟩⟩ : St)) (fun (p : Bool) => G.inquestlaw13_ReachBack_j2 g_0 r53 r55 p = some r) ?_ ?_
        · rintro self85 h
          replace h : G.inquestlaw13_ReachBack_j2 g_0 r53 r55 self85 = some r := h
          unfold G.inquestlaw13_ReachBack_j2 at h
          show AWP _ _ _ _ ⟨[(1, .ref 0 0 0), (5, i64 r53.2), (6, .ref 1 0 0), (7, i64 r55.2), (8, bl self85)], ⟨2, [(0, (2, [G.graph_Graph.av g_0])), (1, (2, [G.graph_Graph.av r55.1]))]⟩⟩ _
          refine awp_seqK fun K11 hK11 => ?_
          refine awp_reg rfl ?_
          refine AR.op (r := i64 r53.2) rfl (aop_move (.inl rfl) rfl) ?_
          refine AR.op (r := bl (decide (r53.2 = 0))) rfl (aop_eql rfl rfl rfl) ?_
          refine AR.op (r := bl (decide (r53.2 = 0))) rfl (aop_move (.inl rfl) rfl) ?_
          refine AR.drop (frx := [(1, _), (6, _), (7, _), (8, _), (68, _)]) ⟨rfl, rfl, rfl, rfl, rfl, trivial⟩ ?_
          rcases Bool.eq_false_or_eq_true (decide (r53.2 = 0)) with hb91 | hb91
          · rw [hb91]
            replace h := Sh.if_t h hb91
            refine AR.op (r := i64 r55.2) rfl (aop_move (.inl rfl) rfl) ?_
            refine AR.op (r := bl (decide (r55.2 = 0))) rfl (aop_eql rfl rfl rfl) ?_
            refine AR.op (r := bl (decide (r55.2 = 0))) rfl (aop_pick rfl rfl rfl) ?_
            refine AR.drop (frx := [(1, _), (6, _), (8, _), (71, _)]) ⟨rfl, rfl, rfl, rfl, trivial⟩ ?_
            refine AR.op (r := bl (decide (r55.2 = 0))) rfl (aop_move (.inl rfl) rfl) ?_
            rcases Bool.eq_false_or_eq_true (decide (r55.2 = 0)) with hb92 | hb92
            · rw [hb92]
              replace h := Sh.if_t h hb92
              refine AR.op (r := G.graph_Graph.av g_0) rfl (aop_load_ref rfl rfl rfl rfl sz24 rfl) ?_
              obtain ⟨r93, hr93, h⟩ := Sh.bind_some' h
              refine AR.op (r := bl r93) rfl (aop_call1 rfl rfl (by simp) (reach_Cyclic_ok hT hr93)) ?_
              refine AR.drop (frx := [(6, _), (8, _), (72, _), (74, _)]) ⟨rfl, rfl, rfl, rfl, trivial⟩ ?_
              refine AR.op (r := bl self85) rfl (aop_move (.inl rfl) rfl) ?_
              refine AR.op (r := bl (r93 == self85)) rfl (aop_eqb rfl rfl rfl Tryd.underlying4) ?_
              refine AR.op (r := bl (r93 == self85)) rfl (aop_pick rfl rfl rfl) ?_
              refine AR.drop (frx := [(6, _), (8, _), (77, _)]) ⟨rfl, rfl, rfl, trivial⟩ ?_
              refine AR.op (r := bl (r93 == self85)) rfl (aop_move (.inl rfl) rfl) ?_
              rcases Bool.eq_false_or_eq_true (r93 == self85) with hb94 | hb94
              · rw [hb94]
                replace h := Sh.if_t h hb94
                refine AR.op (r := G.graph_Graph.av r55.1) rfl (aop_load_ref rfl rfl rfl rfl sz24 rfl) ?_
                obtain ⟨r95, hr95, h⟩ := Sh.bind_some' h
                refine AR.op (r := bl r95) rfl (aop_call1 rfl rfl (by simp) (reach_Cyclic_ok hT hr95)) ?_
                refine AR.drop (frx := [(8, _), (78, _), (80, _)]) ⟨rfl, rfl, rfl, trivial⟩ ?_
                refine AR.op (r := bl self85) rfl (aop_move (.inl rfl) rfl) ?_
                refine AR.op (r := bl (r95 == self85)) rfl (aop_eqb rfl rfl rfl Tryd.underlying4) ?_
                refine AR.op (r := bl (r95 == self85)) rfl (aop_pick rfl rfl rfl) ?_
                refine AR.drop (frx := [(83, _)]) ⟨rfl, trivial⟩ ?_
                refine AR.op (r := bl (r95 == self85)) rfl (aop_move (.inr rfl) rfl) ?_
                refine AR.nil ?_
                refine hK11 _ (AWP.weak (Weak.re (fr' := [(2, bl (r95 == self85))]) (H' := .empty) [] [] rfl rfl rfl (trivial) ⟨⟨_, rfl, .same _ (by simp)⟩, trivial⟩) ?_)
                clear hK11 K11
                refine awp_ret ?_
                obtain rfl := Option.some.inj h
                refine ⟨.inr rfl, bl (r95 == self85), rfl, ?_⟩
                exact Weak.re [] [] rfl rfl rfl (trivial) ⟨⟨_, rfl, .same _ (by simp)⟩, trivial⟩
              · rw [hb94]
                replace h := Sh.if_f h hb94
                refine AR.skip rfl ?_
                refine AR.skip rfl ?_
                refine AR.drop (frx := [(8, _), (78, _), (80, _)]) ⟨rfl, rfl, rfl, trivial⟩ ?_
                refine AR.skip rfl ?_
                refine AR.skip rfl ?_
                refine AR.op (r := bl false) rfl (aop_pick rfl rfl rfl) ?_
                refine AR.drop (frx := [(83, _)]) ⟨rfl, trivial⟩ ?_
                refine AR.op (r := bl false) rfl (aop_move (.inr rfl) rfl) ?_
                refine AR.nil ?_
                refine hK11 _ (AWP.weak (Weak.re (fr' := [(2, bl false)]) (H' := .empty) [] [] rfl rfl rfl (trivial) ⟨⟨_, rfl, .same _ (by simp)⟩, trivial⟩) ?_)
                clear hK11 K11
                refine awp_ret ?_
                obtain rfl := Option.some.inj h
                refine ⟨.inr rfl, bl false, rfl, ?_⟩
                exact Weak.re [] [] rfl rfl rfl (trivial) ⟨⟨_, rfl, .same _ (by simp)⟩, trivial⟩
            · rw [hb92]
              replace h := Sh.if_f h hb92
              refine AR.skip rfl ?_
              refine AR.skip rfl ?_
              refine AR.drop (frx := [(6, _), (8, _), (72, _), (74, _)]) ⟨rfl, rfl, rfl, rfl, trivial⟩ ?_
              refine AR.skip rfl ?_
              refine AR.skip rfl ?_
              refine AR.op (r := bl false) rfl (aop_pick rfl rfl rfl) ?_
              refine AR.drop (frx := [(6, _), (8, _), (77, _)]) ⟨rfl, rfl, rfl, trivial⟩ ?_
              refine AR.op (r := bl false) rfl (aop_move (.inl rfl) rfl) ?_
              refine AR.skip rfl ?_
              refine AR.skip rfl ?_
              refine AR.drop (frx := [(8, _), (78, _), (80, _)]) ⟨rfl, rfl, rfl, trivial⟩ ?_
              refine AR.skip rfl ?_
              refine AR.skip rfl ?_
              refine AR.op (r := bl false) rfl (aop_pick rfl rfl rfl) ?_
              refine AR.drop (frx := [(83, _)]) ⟨rfl, trivial⟩ ?_
              refine AR.op (r := bl false) rfl (aop_move (.inr rfl) rfl) ?_
              refine AR.nil ?_
              refine hK11 _ (AWP.weak (Weak.re (fr' := [(2, bl false)]) (H' := .empty) [] [] rfl rfl rfl (trivial) ⟨⟨_, rfl, .same _ (by simp)⟩, trivial⟩) ?_)
              clear hK11 K11
              refine awp_ret ?_
              obtain rfl := Option.some.inj h
              refine ⟨.inr rfl, bl false, rfl, ?_⟩
              exact Weak.re [] [] rfl rfl rfl (trivial) ⟨⟨_, rfl, .same _ (by simp)⟩, trivial⟩
          · rw [hb91]
            replace h := Sh.if_f h hb91
            refine AR.skip rfl ?_
            refine AR.skip rfl ?_
            refine AR.op (r := bl false) rfl (aop_pick rfl rfl rfl) ?_
            refine AR.drop (frx := [(1, _), (6, _), (8, _), (71, _)]) ⟨rfl, rfl, rfl, rfl, trivial⟩ ?_
            refine AR.op (r := bl false) rfl (aop_move (.inl rfl) rfl) ?_
            refine AR.skip rfl ?_
            refine AR.skip rfl ?_
            refine AR.drop (frx := [(6, _), (8, _), (72, _), (74, _)]) ⟨rfl, rfl, rfl, rfl, trivial⟩ ?_
            refine AR.skip rfl ?_
            refine AR.skip rfl ?_
            refine AR.op (r := bl false) rfl (aop_pick rfl rfl rfl) ?_
            refine AR.drop (frx := [(6, _), (8, _), (77, _)]) ⟨rfl, rfl, rfl, trivial⟩ ?_
            refine AR.op (r := bl false) rfl (aop_move (.inl rfl) rfl) ?_
            refine AR.skip rfl ?_
            refine AR.skip rfl ?_
            refine AR.drop (frx := [(8, _), (78, _), (80, _)]) ⟨rfl, rfl, rfl, trivial⟩ ?_
            refine AR.skip rfl ?_
            refine AR.skip rfl ?_
            refine AR.op (r := bl false) rfl (aop_pick rfl rfl rfl) ?_
            refine AR.drop (frx := [(83, _)]) ⟨rfl, trivial⟩ ?_
            refine AR.op (r := bl false) rfl (aop_move (.inr rfl) rfl) ?_
            refine AR.nil ?_
            refine hK11 _ (AWP.weak (Weak.re (fr' := [(2, bl false)]) (H' := .empty) [] [] rfl rfl rfl (trivial) ⟨⟨_, rfl, .same _ (by simp)⟩, trivial⟩) ?_)
            clear hK11 K11
            refine awp_ret ?_
            obtain rfl := Option.some.inj h
            refine ⟨.inr rfl, bl false, rfl, ?_⟩
            exact Weak.re [] [] rfl rfl rfl (trivial) ⟨⟨_, rfl, .same _ (by simp)⟩, trivial⟩
        · intro K12 hK12
          refine awp_seqK fun K13 hK13 => ?_
          refine awp_reg rfl ?_
          refine AR.op (r := i64 0) rfl (aop_move (.inr rfl) rfl) ?_
          refine AR.nil ?_
          refine hK13 _ ?_
          clear hK13 K13
          refine awp_block ?_
          refine awp_iter (fun (p : Bool × Int) => G.inquestlaw13_ReachBack_b1 g_0 r53 r55 p.1 p.2) (fun (p : Bool × Int) => (⟨[(1, .ref 0 0 0), (4, .ref 1 0 0), (5, i64 r53.2), (6, .ref 2 0 0), (7, i64 r55.2), (8, bl p.1), (9, i64 p.2)], ⟨3, [(0, (2, [G.graph_Graph.av g_0])), (1, (2, [G.graph_Graph.av r53.1])), (2, (2, [G.graph_Graph.av r55.1]))]⟩⟩ : St)) h (Weak.re (fr' := [(1, .ref 0 0 0), (4, .ref 1 0 0), (5, i64 r53.2), (6, .ref 2 0 0), (7, i64 r55.2), (8, bl false), (9, i64 0)]) (H' := ⟨3, [(0, (2, [G.graph_Graph.av g_0])), (1, (2, [G.graph_Graph.av r53.1])), (2, (2, [G.graph_Graph.av r55.1]))]⟩) [(0, 0), (1, 1), (2, 2)] [] rfl rfl rfl (.cons rfl rfl (.one (.same _ (by simp)) rfl) (of_decide_eq_true rfl) (.cons rfl rfl (.one (.same _ (by simp)) rfl) (of_decide_eq_true rfl) (.cons rfl rfl (.one (.same _ (by simp)) rfl) (of_decide_eq_true rfl) (trivial)))) ⟨⟨_, rfl, .ref rfl⟩, ⟨_, rfl, .ref rfl⟩, ⟨_, rfl, .same _ (by simp)⟩, ⟨_, rfl, .ref rfl⟩, ⟨_, rfl, .same _ (by simp)⟩, ⟨_, rfl, .same _ (by simp)⟩, ⟨_, rfl, .same _ (by simp)⟩, trivial⟩) ?_
          · skip
            rintro ⟨self114, n115⟩ o1 h hx1
            replace h : G.inquestlaw13_ReachBack_b1 g_0 r53 r55 self114 n115 = some o1 := h
            unfold G.inquestlaw13_ReachBack_b1 at h
            show AWP _ _ _ _ ⟨[(1, .ref 0 0 0), (4, .ref 1 0 0), (5, i64 r53.2), (6, .ref 2 0 0), (7, i64 r55.2), (8, bl self114), (9, i64 n115)], ⟨3, [(0, (2, [G.graph_Graph.av g_0])), (1, (2, [G.graph_Graph.av r53.1])), (2, (2, [G.graph_Graph.av r55.1]))]⟩⟩ _
            refine awp_seqK fun K14 hK14 => ?_
            refine awp_seqK fun K15 hK15 => ?_
            refine awp_reg rfl ?_
            refine AR.op (r := i64 n115) rfl (aop_move (.inl rfl) rfl) ?_
            refine AR.op rfl (aop_field_ref rfl rfl rfl fd24_0 (by decide)) ?_
            refine AR.op (r := i64 g_0.N) rfl (aop_load_ref rfl rfl rfl rfl sz3 rfl) ?_
            refine AR.drop (frx := [(1, _), (4, _), (5, _), (6, _), (7, _), (8, _), (9, _), (32, _), (34, _)]) ⟨rfl, rfl, rfl, rfl, rfl, rfl, rfl, rfl, rfl, trivial⟩ ?_
            refine AR.op (r := bl (decide (n115 < g_0.N))) rfl (aop_lss rfl rfl rfl) ?_
            refine AR.nil ?_
            refine hK15 _ (AWP.weak (Weak.re (fr' := [(1, .ref 0 0 0), (4, .ref 1 0 0), (5, i64 r53.2), (6, .ref 2 0 0), (7, i64 r55.2), (8, bl self114), (9, i64 n115), (35, bl (decide (n115 < g_0.N)))]) (H' := ⟨3, [(0, (2, [G.graph_Graph.av g_0])), (1, (2, [G.graph_Graph.av r53.1])), (2, (2, [G.graph_Graph.av r55.1]))]⟩) [(0, 0), (1, 1), (2, 2)] [] rfl rfl rfl (.cons rfl rfl (.one (.same _ (by simp)) rfl) (of_decide_eq_true rfl) (.cons rfl rfl (.one (.same _ (by simp)) rfl) (of_decide_eq_true rfl) (.cons rfl rfl (.one (.same _ (by simp)) rfl) (of_decide_eq_true rfl) (trivial)))) ⟨⟨_, rfl, .ref rfl⟩, ⟨_, rfl, .ref rfl⟩, ⟨_, rfl, .same _ (by simp)⟩, ⟨_, rfl, .ref rfl⟩, ⟨_, rfl, .same _ (by simp)⟩, ⟨_, rfl, .same _ (by simp)⟩, ⟨_, rfl, .same _ (by simp)⟩, ⟨_, rfl, .same _ (by simp)⟩, trivial⟩) ?_)
            clear hK15 K15
            refine awp_cond rfl (fun hb116 => ?_) (fun hb116 => ?_)
            · replace h := Sh.if_t h hb116
              refine awp_skip ?_
              refine hK14 _ (AWP.weak (Weak.re (fr' := [(1, .ref 0 0 0), (4, .ref 1 0 0), (5, i64 r53.2), (6, .ref 2 0 0), (7, i64 r55.2), (8, bl self114), (9, i64 n115)]) (H' := ⟨3, [(0, (2, [G.graph_Graph.av g_0])), (1, (2, [G.graph_Graph.av r53.1])), (2, (2, [G.graph_Graph.av r55.1]))]⟩) [(0, 0), (1, 1), (2, 2)] [] rfl rfl rfl (.cons rfl rfl (.one (.same _ (by simp)) rfl) (of_decide_eq_true rfl) (.cons rfl rfl (.one (.same _ (by simp)) rfl) (of_decide_eq_true rfl) (.cons rfl rfl (.one (.same _ (by simp)) rfl) (of_decide_eq_true rfl) (trivial)))) ⟨⟨_, rfl, .ref rfl⟩, ⟨_, rfl, .ref rfl⟩, ⟨_, rfl, .same _ (by simp)⟩, ⟨_, rfl, .ref rfl⟩, ⟨_, rfl, .same _ (by simp)⟩, ⟨_, rfl, .same _ (by simp)⟩, ⟨_, rfl, .same _ (by simp)⟩, trivial⟩) ?_)
              clear hK14 K14
              refine awp_seqK fun K16 hK16 => ?_
              refine awp_block ?_
              refine awp_seqJ (fun (p : Bool) => (⟨[(1, .ref 0 0 0), (4, .ref 1 0 0), (5, i64 r53.2), (6, .ref 2 0 0), (7, i64 r55.2), (9, i64 n115), (40, .any), (41, .any), (42, .any), (43, .any), (8, bl p)], ⟨3, [(0, (2, [G.graph_Graph.av g_0])), (1, (2, [G.graph_Graph.av r53.1])), (2, (2, [G.graph_Graph.av r55.1]))]⟩⟩ : St)) (fun (p : Bool) => G.inquestlaw13_ReachBack_j3 g_0 r53 n115 p = some o1) ?_ ?_
              · rintro self128 h
                replace h : G.inquestlaw13_ReachBack_j3 g_0 r53 n115 self128 = some o1 := h
                unfold G.inquestlaw13_ReachBack_j3 at h
                show AWP _ _ _ _ ⟨[(1, .ref 0 0 0), (4, .ref 1 0 0), (5, i64 r53.2), (6, .ref 2 0 0), (7, i64 r55.2), (9, i64 n115), (40, .any), (41, .any), (42, .any), (43, .any), (8, bl self128)], ⟨3, [(0, (2, [G.graph_Graph.av g_0])), (1, (2, [G.graph_Graph.av r53.1])), (2, (2, [G.graph_Graph.av r55.1]))]⟩⟩ _
                refine awp_seqJ (fun (p : Bool) => (⟨[(1, .ref 0 0 0), (4, .ref 1 0 0), (5, i64 r53.2), (6, .ref 2 0 0), (7, i64 r55.2), (9, i64 n115), (40, .any), (41, .any), (42, .any), (43, .any), (8, bl self128), (48, .any), (49, .any), (50, .any), (51, .any), (52, .any), (53, .any), (56, .any), (57, .any), (58, .any), (59, .any), (60, .any), (61, .any), (62, .any), (63, .any), (64, .any), (65, bl p)], ⟨3, [(0, (2, [G.graph_Graph.av g_0])), (1, (2, [G.graph_Graph.av r53.1])), (2, (2, [G.graph_Graph.av r55.1]))]⟩⟩ : St)) (fun (p : Bool) => G.inquestlaw13_ReachBack_j4 n115 self128 p = some o1) ?_ ?_
                · rintro v134 h
                  replace h : G.inquestlaw13_ReachBack_j4 n115 self128 v134 = some o1 := h
                  unfold G.inquestlaw13_ReachBack_j4 at h
                  show AWP _ _ _ _ ⟨[(1, .ref 0 0 0), (4, .ref 1 0 0), (5, i64 r53.2), (6, .ref 2 0 0), (7, i64 r55.2), (9, i64 n115), (40, .any), (41, .any), (42, .any), (43, .any), (8, bl self128), (48, .any), (49, .any), (50, .any), (51, .any), (52, .any), (53, .any), (56, .any), (57, .any), (58, .any), (59, .any), (60, .any), (61, .any), (62, .any), (63, .any), (64, .any), (65, bl v134)], ⟨3, [(0, (2, [G.graph_Graph.av g_0])), (1, (2, [G.graph_Graph.av r53.1])), (2, (2, [G.graph_Graph.av r55.1]))]⟩⟩ _
                  refine awp_cond rfl (fun hb135 => ?_) (fun hb135 => ?_)
                  · replace h := Sh.if_t h hb135
                    refine awp_seqK fun K17 hK17 => ?_
                    refine awp_reg rfl ?_
                    refine AR.op (r := bl false) rfl (aop_move (.inr rfl) rfl) ?_
                    refine AR.nil ?_
                    refine hK17 _ (AWP.weak (Weak.re (fr' := [(2, bl false)]) (H' := .empty) [] [] rfl rfl rfl (trivial) ⟨⟨_, rfl, .same _ (by simp)⟩, trivial⟩) ?_)
                    clear hK17 K17
                    refine awp_ret ?_
                    replace h := Sh.exit_eq h hx1
                    obtain rfl := Option.some.inj h
                    refine ⟨.inr rfl, bl false, rfl, ?_⟩
                    exact Weak.re [] [] rfl rfl rfl (trivial) ⟨⟨_, rfl, .same _ (by simp)⟩, trivial⟩
                  · replace h := Sh.if_f h hb135
                    refine awp_skip ?_
                    refine hK16 _ (AWP.weak (Weak.re (fr' := [(1, .ref 0 0 0), (4, .ref 1 0 0), (5, i64 r53.2), (6, .ref 2 0 0), (7, i64 r55.2), (9, i64 n115), (40, .any), (41, .any), (42, .any), (43, .any), (8, bl self128), (48, .any), (49, .any), (50, .any), (51, .any), (52, .any), (53, .any), (56, .any), (57, .any), (58, .any), (59, .any), (60, .any), (61, .any), (62, .any), (63, .any), (64, .any)]) (H' := ⟨3, [(0, (2, [G.graph_Graph.av g_0])), (1, (2, [G.graph_Graph.av r53.1])), (2, (2, [G.graph_Graph.av r55.1]))]⟩) [(0, 0), (1, 1), (2, 2)] [] rfl rfl rfl (.cons rfl rfl (.one (.same _ (by simp)) rfl) (of_decide_eq_true rfl) (.cons rfl rfl (.one (.same _ (by simp)) rfl) (of_decide_eq_true rfl) (.cons rfl rfl (.one (.same _ (by simp)) rfl) (of_decide_eq_true rfl) (trivial)))) ⟨⟨_, rfl, .ref rfl⟩, ⟨_, rfl, .ref rfl⟩, ⟨_, rfl, .same _ (by simp)⟩, ⟨_, rfl, .ref rfl⟩, ⟨_, rfl, .same _ (by simp)⟩, ⟨_, rfl, .same _ (by simp)⟩, ⟨_, rfl, .any _⟩, ⟨_, rfl, .any _⟩, ⟨_, rfl, .any _⟩, ⟨_, rfl, .any _⟩, ⟨_, rfl, .same _ (by simp)⟩, ⟨_, rfl, .any _⟩, ⟨_, rfl, .any _⟩, ⟨_, rfl, .any _⟩, ⟨_, rfl, .any _⟩, ⟨_, rfl, .any _⟩, ⟨_, rfl, .any _⟩, ⟨_, rfl, .any _⟩, ⟨_, rfl, .any _⟩, ⟨_, rfl, .any _⟩, ⟨_, rfl, .any _⟩, ⟨_, rfl, .any _⟩, ⟨_, rfl, .any _⟩, ⟨_, rfl, .any _⟩, ⟨_, rfl, .any _⟩, ⟨_, rfl, .any _⟩, trivial⟩) ?_)
                    clear hK16 K16
                    refine awp_reg rfl ?_
                    refine AR.op (r := i64 n115) rfl (aop_move (.inl rfl) rfl) ?_
                    refine AR.op (r := i64 (w64 (n115 + 1))) rfl (aop_add rfl rfl rfl rfl) ?_
                    refine AR.op (r := i64 (w64 (n115 + 1))) rfl (aop_move (.inr rfl) rfl) ?_
                    refine AR.nil ?_
                    replace h := Sh.next_eq h
                    exact ⟨_, h, Weak.re (fr' := [(1, .ref 0 0 0), (4, .ref 1 0 0), (5, i64 r53.2), (6, .ref 2 0 0), (7, i64 r55.2), (8, bl self128), (9, i64 (w64 (n115 + 1)))]) (H' := ⟨3, [(0, (2, [G.graph_Graph.av g_0])), (1, (2, [G.graph_Graph.av r53.1])), (2, (2, [G.graph_Graph.av r55.1]))]⟩) [(0, 0), (1, 1), (2, 2)] [] rfl rfl rfl (.cons rfl rfl (.one (.same _ (by simp)) rfl) (of_decide_eq_true rfl) (.cons rfl rfl (.one (.same _ (by simp)) rfl) (of_decide_eq_true rfl) (.cons rfl rfl (.one (.same _ (by simp)) rfl) (of_decide_eq_true rfl) (trivial)))) ⟨⟨_, rfl, .ref rfl⟩, ⟨_, rfl, .ref rfl⟩, ⟨_, rfl, .same _ (by simp)⟩, ⟨_, rfl, .ref rfl⟩, ⟨_, rfl, .same _ (by simp)⟩, ⟨_, rfl, .same _ (by simp)⟩, ⟨_, rfl, .same _ (by simp)⟩, trivial⟩⟩
                · intro K18 hK18
                  refine awp_any (by kernel_rfl) (by kernel_rfl) rfl ?_
                  refine ARH.dry (r := i64 r53.2) rfl (fun _ => aop_move (.inl rfl) rfl) ?_
                  refine ARH.dry (r := bl (decide (r53.2 = 0))) rfl (fun _ => aop_eql rfl rfl rfl) ?_
                  refine ARH.dry (r := bl (decide (r53.2 = 0))) rfl (fun _ => aop_move (.inl rfl) rfl) ?_
                  refine ARH.drop (frx := [(1, _), (4, _), (5, _), (6, _), (7, _), (9, _), (40, _), (41, _), (42, _), (43, _), (8, _), (47, _)]) ⟨rfl, rfl, rfl, rfl, rfl, rfl, rfl, rfl, rfl, rfl, rfl, rfl, trivial⟩ ?_
                  rcases Bool.eq_false_or_eq_true (decide (r53.2 = 0)) with hb136 | hb136
                  · rw [hb136]
                    replace h := Sh.if_t h hb136
                    refine ARH.op rfl rfl (aop_field_ref rfl rfl rfl fd24_1 (by decide)) ?_
                    refine ARH.op (r := .sl (List.map u64 r53.1.Rows)) rfl rfl (aop_load_ref rfl rfl rfl rfl sz22 rfl) ?_
                    refine ARH.op (r := i64 (Sh.len r53.1.Rows)) rfl rfl (t_len_sl u64 r53.1.Rows rfl rfl el22) ?_
                    refine ARH.drop (frx := [(1, _), (4, _), (5, _), (6, _), (7, _), (9, _), (40, _), (41, _), (42, _), (43, _), (8, _), (47, _), (48, _), (49, _), (50, _)]) ⟨rfl, rfl, rfl, rfl, rfl, rfl, rfl, rfl, rfl, rfl, rfl, rfl, rfl, rfl, rfl, trivial⟩ ?_
                    refine ARH.op rfl rfl (aop_field_ref rfl rfl rfl fd24_0 (by decide)) ?_
                    refine ARH.op (r := i64 g_0.N) rfl rfl (aop_load_ref rfl rfl rfl rfl sz3 rfl) ?_
                    refine ARH.dry (r := bl (decide ((Sh.len r53.1.Rows) = g_0.N))) rfl (fun _ => aop_eql rfl rfl rfl) ?_
                    refine ARH.drop (frx := [(1, _), (4, _), (5, _), (6, _), (7, _), (9, _), (40, _), (41, _), (42, _), (43, _), (8, _), (47, _), (48, _), (49, _), (50, _), (51, _), (52, _), (53, _)]) ⟨rfl, rfl, rfl, rfl, rfl, rfl, rfl, rfl, rfl, rfl, rfl, rfl, rfl, rfl, rfl, rfl, rfl, rfl, trivial⟩ ?_
                    refine ARH.dry (r := bl (decide ((Sh.len r53.1.Rows) = g_0.N))) rfl (fun _ => aop_pick rfl rfl rfl) ?_
                    refine ARH.dry (r := bl (decide ((Sh.len r53.1.Rows) = g_0.N))) rfl (fun _ => aop_move (.inl rfl) rfl) ?_
                    rcases Bool.eq_false_or_eq_true (decide ((Sh.len r53.1.Rows) = g_0.N)) with hb137 | hb137
                    · rw [hb137]
                      replace h := Sh.if_t h hb137
                      refine ARH.op (r := G.graph_Graph.av g_0) rfl rfl (aop_load_ref rfl rfl rfl rfl sz24 rfl) ?_
                      refine ARH.drop (frx := [(1, _), (4, _), (5, _), (6, _), (7, _), (9, _), (40, _), (41, _), (42, _), (43, _), (8, _), (48, _), (49, _), (50, _), (51, _), (52, _), (53, _), (55, _), (56, _)]) ⟨rfl, rfl, rfl, rfl, rfl, rfl, rfl, rfl, rfl, rfl, rfl, rfl, rfl, rfl, rfl, rfl, rfl, rfl, rfl, trivial⟩ ?_
                      refine ARH.dry (r := i64 n115) rfl (fun _ => aop_move (.inl rfl) rfl) ?_
                      obtain ⟨r138, hr138, h⟩ := Sh.bind_some' h
                      refine ARH.op (r := u64 r138) rfl rfl (aop_call1 rfl rfl (by simp) (reach_From_ok hT hr138)) ?_
                      refine ARH.op rfl rfl (aop_field_ref rfl rfl rfl fd24_1 (by decide)) ?_
                      refine ARH.drop (frx := [(1, _), (4, _), (5, _), (6, _), (7, _), (9, _), (40, _), (41, _), (42, _), (43, _), (8, _), (48, _), (49, _), (50, _), (51, _), (52, _), (53, _), (55, _), (56, _), (57, _), (58, _), (59, _)]) ⟨rfl, rfl, rfl, rfl, rfl, rfl, rfl, rfl, rfl, rfl, rfl, rfl, rfl, rfl, rfl, rfl, rfl, rfl, rfl, rfl, rfl, rfl, trivial⟩ ?_
                      refine ARH.op (r := .sl (List.map u64 r53.1.Rows)) rfl rfl (aop_load_ref rfl rfl rfl rfl sz22 rfl) ?_
                      refine ARH.dry (r := i64 n115) rfl (fun _ => aop_move (.inl rfl) rfl) ?_
                      obtain ⟨x139, hx139, h⟩ := Sh.bind_some' h
                      obtain ⟨k140, hi140, hl140⟩ := Sh.idx_some hx139
                      refine ARH.op rfl rfl (t_index_sl u64 r53.1.Rows hi140 hl140 rfl rfl rfl el22 rfl) ?_
                      refine ARH.drop (frx := [(1, _), (4, _), (5, _), (6, _), (7, _), (9, _), (40, _), (41, _), (42, _), (43, _), (8, _), (48, _), (49, _), (50, _), (51, _), (52, _), (53, _), (55, _), (56, _), (57, _), (58, _), (59, _), (60, _), (61, _), (62, _)]) ⟨rfl, rfl, rfl, rfl, rfl, rfl, rfl, rfl, rfl, rfl, rfl, rfl, rfl, rfl, rfl, rfl, rfl, rfl, rfl, rfl, rfl, rfl, rfl, rfl, rfl, trivial⟩ ?_
                      refine ARH.op (r := u64 x139) rfl rfl (aop_load_pp rfl rfl sz45 rfl) ?_
                      refine ARH.dry (r := bl (decide (r138 ≠ x139))) rfl (fun _ => aop_neq64 (a := r138) (b := x139) rfl rfl rfl) ?_
                      refine ARH.dry (r := bl (decide (r138 ≠ x139))) rfl (fun _ => aop_pick rfl rfl rfl) ?_
                      refine ARH.nil ?_
                      exact hK18 (decide (r138 ≠ x139)) _ h (Weak.re (fr' := [(1, .ref 0 0 0), (4, .ref 1 0 0), (5, i64 r53.2), (6, .ref 2 0 0), (7, i64 r55.2), (9, i64 n115), (40, .any), (41, .any), (42, .any), (43, .any), (8, bl self128), (48, .any), (49, .any), (50, .any), (51, .any), (52, .any), (53, .any), (56, .any), (57, .any), (58, .any), (59, .any), (60, .any), (61, .any), (62, .any), (63, .any), (64, .any), (65, bl (decide (r138 ≠ x139)))]) (H' := ⟨3, [(0, (2, [G.graph_Graph.av g_0])), (1, (2, [G.graph_Graph.av r53.1])), (2, (2, [G.graph_Graph.av r55.1]))]⟩) [(0, 0), (1, 1), (2, 2)] [] rfl rfl rfl (.cons rfl rfl (.one (.same _ (by simp)) rfl) (of_decide_eq_true rfl) (.cons rfl rfl (.one (.same _ (by simp)) rfl) (of_decide_eq_true rfl) (.cons rfl rfl (.one (.same _ (by simp)) rfl) (of_decide_eq_true rfl) (trivial)))) ⟨⟨_, rfl, .ref rfl⟩, ⟨_, rfl, .ref rfl⟩, ⟨_, rfl, .same _ (by simp)⟩, ⟨_, rfl, .ref rfl⟩, ⟨_, rfl, .same _ (by simp)⟩, ⟨_, rfl, .same _ (by simp)⟩, ⟨_, rfl, .any _⟩, ⟨_, rfl, .any _⟩, ⟨_, rfl, .any _⟩, ⟨_, rfl, .any _⟩, ⟨_, rfl, .same _ (by simp)⟩, ⟨_, rfl, .any _⟩, ⟨.sl (List.map u64 r53.1.Rows), rfl, .any _⟩, ⟨_, rfl, .any _⟩, ⟨_, rfl, .any _⟩, ⟨_, rfl, .any _⟩, ⟨_, rfl, .any _⟩, ⟨G.graph_Graph.av g_0, rfl, .any _⟩, ⟨_, rfl, .any _⟩, ⟨_, rfl, .any _⟩, ⟨_, rfl, .any _⟩, ⟨.sl (List.map u64 r53.1.Rows), rfl, .any _⟩, ⟨_, rfl, .any _⟩, ⟨_, rfl, .any _⟩, ⟨_, rfl, .any _⟩, ⟨_, rfl, .any _⟩, ⟨_, rfl, .same _ (by simp)⟩, trivial⟩)
                    · rw [hb137]
                      replace h := Sh.if_f h hb137
                      refine ARH.skip rfl ?_
                      refine ARH.drop (frx := [(1, _), (4, _), (5, _), (6, _), (7, _), (9, _), (40, _), (41, _), (42, _), (43, _), (8, _), (48, _), (49, _), (50, _), (51, _), (52, _), (53, _), (55, _), (56, _)]) ⟨rfl, rfl, rfl, rfl, rfl, rfl, rfl, rfl, rfl, rfl, rfl, rfl, rfl, rfl, rfl, rfl, rfl, rfl, rfl, trivial⟩ ?_
                      refine ARH.skip rfl ?_
                      refine ARH.skip rfl ?_
                      refine ARH.skip rfl ?_
                      refine ARH.drop (frx := [(1, _), (4, _), (5, _), (6, _), (7, _), (9, _), (40, _), (41, _), (42, _), (43, _), (8, _), (48, _), (49, _), (50, _), (51, _), (52, _), (53, _), (55, _), (56, _), (57, _), (58, _), (59, _)]) ⟨rfl, rfl, rfl, rfl, rfl, rfl, rfl, rfl, rfl, rfl, rfl, rfl, rfl, rfl, rfl, rfl, rfl, rfl, rfl, rfl, rfl, rfl, trivial⟩ ?_
                      refine ARH.skip rfl ?_
                      refine ARH.skip rfl ?_
                      refine ARH.skip rfl ?_
                      refine ARH.drop (frx := [(1, _), (4, _), (5, _), (6, _), (7, _), (9, _), (40, _), (41, _), (42, _), (43, _), (8, _), (48, _), (49, _), (50, _), (51, _), (52, _), (53, _), (55, _), (56, _), (57, _), (58, _), (59, _), (60, _), (61, _), (62, _)]) ⟨rfl, rfl, rfl, rfl, rfl, rfl, rfl, rfl, rfl, rfl, rfl, rfl, rfl, rfl, rfl, rfl, rfl, rfl, rfl, rfl, rfl, rfl, rfl, rfl, rfl, trivial⟩ ?_
                      refine ARH.skip rfl ?_
                      refine ARH.skip rfl ?_
                      refine ARH.dry (r := bl false) rfl (fun _ => aop_pick rfl rfl rfl) ?_
                      refine ARH.nil ?_
                      exact hK18 false _ h (Weak.re (fr' := [(1, .ref 0 0 0), (4, .ref 1 0 0), (5, i64 r53.2), (6, .ref 2 0 0), (7, i64 r55.2), (9, i64 n115), (40, .any), (41, .any), (42, .any), (43, .any), (8, bl self128), (48, .any), (49, .any), (50, .any), (51, .any), (52, .any), (53, .any), (56, .any), (57, .any), (58, .any), (59, .any), (60, .any), (61, .any), (62, .any), (63, .any), (64, .any), (65, bl false)]) (H' := ⟨3, [(0, (2, [G.graph_Graph.av g_0])), (1, (2, [G.graph_Graph.av r53.1])), (2, (2, [G.graph_Graph.av r55.1]))]⟩) [(0, 0), (1, 1), (2, 2)] [] rfl rfl rfl (.cons rfl rfl (.one (.same _ (by simp)) rfl) (of_decide_eq_true rfl) (.cons rfl rfl (.one (.same _ (by simp)) rfl) (of_decide_eq_true rfl) (.cons rfl rfl (.one (.same _ (by simp)) rfl) (of_decide_eq_true rfl) (trivial)))) ⟨⟨_, rfl, .ref rfl⟩, ⟨_, rfl, .ref rfl⟩, ⟨_, rfl, .same _ (by simp)⟩, ⟨_, rfl, .ref rfl⟩, ⟨_, rfl, .same _ (by simp)⟩, ⟨_, rfl, .same _ (by simp)⟩, ⟨_, rfl, .any _⟩, ⟨_, rfl, .any _⟩, ⟨_, rfl, .any _⟩, ⟨_, rfl, .any _⟩, ⟨_, rfl, .same _ (by simp)⟩, ⟨_, rfl, .any _⟩, ⟨.sl (List.map u64 r53.1.Rows), rfl, .any _⟩, ⟨_, rfl, .any _⟩, ⟨_, rfl, .any _⟩, ⟨_, rfl, .any _⟩, ⟨_, rfl, .any _⟩, ⟨_, rfl, .any _⟩, ⟨_, rfl, .any _⟩, ⟨_, rfl, .any _⟩, ⟨_, rfl, .any _⟩, ⟨_, rfl, .any _⟩, ⟨_, rfl, .any _⟩, ⟨_, rfl, .any _⟩, ⟨_, rfl, .any _⟩, ⟨_, rfl, .any _⟩, ⟨_, rfl, .same _ (by simp)⟩, trivial⟩)
                  · rw [hb136]
                    replace h := Sh.if_f h hb136
                    refine ARH.skip rfl ?_
                    refine ARH.skip rfl ?_
                    refine ARH.skip rfl ?_
                    refine ARH.drop (frx := [(1, _), (4, _), (5, _), (6, _), (7, _), (9, _), (40, _), (41, _), (42, _), (43, _), (8, _), (47, _), (48, _), (49, _), (50, _)]) ⟨rfl, rfl, rfl, rfl, rfl, rfl, rfl, rfl, rfl, rfl, rfl, rfl, rfl, rfl, rfl, trivial⟩ ?_
                    refine ARH.skip rfl ?_
                    refine ARH.skip rfl ?_
                    refine ARH.skip rfl ?_
                    refine ARH.drop (frx := [(1, _), (4, _), (5, _), (6, _), (7, _), (9, _), (40, _), (41, _), (42, _), (43, _), (8, _), (47, _), (48, _), (49, _), (50, _), (51, _), (52, _), (53, _)]) ⟨rfl, rfl, rfl, rfl, rfl, rfl, rfl, rfl, rfl, rfl, rfl, rfl, rfl, rfl, rfl, rfl, rfl, rfl, trivial⟩ ?_
                    refine ARH.dry (r := bl false) rfl (fun _ => aop_pick rfl rfl rfl) ?_
                    refine ARH.dry (r := bl false) rfl (fun _ => aop_move (.inl rfl) rfl) ?_
                    refine ARH.skip rfl ?_
                    refine ARH.drop (frx := [(1, _), (4, _), (5, _), (6, _), (7, _), (9, _), (40, _), (41, _), (42, _), (43, _), (8, _), (48, _), (49, _), (50, _), (51, _), (52, _), (53, _), (55, _), (56, _)]) ⟨rfl, rfl, rfl, rfl, rfl, rfl, rfl, rfl, rfl, rfl, rfl, rfl, rfl, rfl, rfl, rfl, rfl, rfl, rfl, trivial⟩ ?_
                    refine ARH.skip rfl ?_
                    refine ARH.skip rfl ?_
                    refine ARH.skip rfl ?_
                    refine ARH.drop (frx := [(1, _), (4, _), (5, _), (6, _), (7, _), (9, _), (40, _), (41, _), (42, _), (43, _), (8, _), (48, _), (49, _), (50, _), (51, _), (52, _), (53, _), (55, _), (56, _), (57, _), (58, _), (59, _)]) ⟨rfl, rfl, rfl, rfl, rfl, rfl, rfl, rfl, rfl, rfl, rfl, rfl, rfl, rfl, rfl, rfl, rfl, rfl, rfl, rfl, rfl, rfl, trivial⟩ ?_
                    refine ARH.skip rfl ?_
                    refine ARH.skip rfl ?_
                    refine ARH.skip rfl ?_
                    refine ARH.drop (frx := [(1, _), (4, _), (5, _), (6, _), (7, _), (9, _), (40, _), (41, _), (42, _), (43, _), (8, _), (48, _), (49, _), (50, _), (51, _), (52, _), (53, _), (55, _), (56, _), (57, _), (58, _), (59, _), (60, _), (61, _), (62, _)]) ⟨rfl, rfl, rfl, rfl, rfl, rfl, rfl, rfl, rfl, rfl, rfl, rfl, rfl, rfl, rfl, rfl, rfl, rfl, rfl, rfl, rfl, rfl, rfl, rfl, rfl, trivial⟩ ?_
                    refine ARH.skip rfl ?_
                    refine ARH.skip rfl ?_
                    refine ARH.dry (r := bl false) rfl (fun _ => aop_pick rfl rfl rfl) ?_
                    refine ARH.nil ?_
                    exact hK18 false _ h (Weak.re (fr' := [(1, .ref 0 0 0), (4, .ref 1 0 0), (5, i64 r53.2), (6, .ref 2 0 0), (7, i64 r55.2), (9, i64 n115), (40, .any), (41, .any), (42, .any), (43, .any), (8, bl self128), (48, .any), (49, .any), (50, .any), (51, .any), (52, .any), (53, .any), (56, .any), (57, .any), (58, .any), (59, .any), (60, .any), (61, .any), (62, .any), (63, .any), (64, .any), (65, bl false)]) (H' := ⟨3, [(0, (2, [G.graph_Graph.av g_0])), (1, (2, [G.graph_Graph.av r53.1])), (2, (2, [G.graph_Graph.av r55.1]))]⟩) [(0, 0), (1, 1), (2, 2)] [] rfl rfl rfl (.cons rfl rfl (.one (.same _ (by simp)) rfl) (of_decide_eq_true rfl) (.cons rfl rfl (.one (.same _ (by simp)) rfl) (of_decide_eq_true rfl) (.cons rfl rfl (.one (.same _ (by simp)) rfl) (of_decide_eq_true rfl) (trivial)))) ⟨⟨_, rfl, .ref rfl⟩, ⟨_, rfl, .ref rfl⟩, ⟨_, rfl, .same _ (by simp)⟩, ⟨_, rfl, .ref rfl⟩, ⟨_, rfl, .same _ (by simp)⟩, ⟨_, rfl, .same _ (by simp)⟩, ⟨_, rfl, .any _⟩, ⟨_, rfl, .any _⟩, ⟨_, rfl, .any _⟩, ⟨_, rfl, .any _⟩, ⟨_, rfl, .same _ (by simp)⟩, ⟨_, rfl, .any _⟩, ⟨_, rfl, .any _⟩, ⟨_, rfl, .any _⟩, ⟨_, rfl, .any _⟩, ⟨_, rfl, .any _⟩, ⟨_, rfl, .any _⟩, ⟨_, rfl, .any _⟩, ⟨_, rfl, .any _⟩, ⟨_, rfl, .any _⟩, ⟨_, rfl, .any _⟩, ⟨_, rfl, .any _⟩, ⟨_, rfl, .any _⟩, ⟨_, rfl, .any _⟩, ⟨_, rfl, .any _⟩, ⟨_, rfl, .any _⟩, ⟨_, rfl, .same _ (by simp)⟩, trivial⟩)
              · intro K19 hK19
                refine awp_reg rfl ?_
                refine AR.op (r := bl self114) rfl (aop_move (.inl rfl) rfl) ?_
                refine AR.op (r := bl self114) rfl (aop_move (.inl rfl) rfl) ?_
                rcases Bool.eq_false_or_eq_true (self114) with hb141 | hb141
                · rw [hb141]
                  replace h := Sh.if_t h hb141
                  refine AR.skip rfl ?_
                  refine AR.drop (frx := [(1, _), (4, _), (5, _), (6, _), (7, _), (9, _), (39, _), (40, _)]) ⟨rfl, rfl, rfl, rfl, rfl, rfl, rfl, rfl, trivial⟩ ?_
                  refine AR.skip rfl ?_
                  refine AR.skip rfl ?_
                  refine AR.skip rfl ?_
                  refine AR.drop (frx := [(1, _), (4, _), (5, _), (6, _), (7, _), (9, _), (39, _), (40, _), (41, _), (42, _), (43, _)]) ⟨rfl, rfl, rfl, rfl, rfl, rfl, rfl, rfl, rfl, rfl, rfl, trivial⟩ ?_
                  refine AR.op (r := bl true) rfl (aop_pick rfl rfl rfl) ?_
                  refine AR.op (r := bl true) rfl (aop_move (.inr rfl) rfl) ?_
                  refine AR.nil ?_
                  exact hK19 true _ h (Weak.re (fr' := [(1, .ref 0 0 0), (4, .ref 1 0 0), (5, i64 r53.2), (6, .ref 2 0 0), (7, i64 r55.2), (9, i64 n115), (40, .any), (41, .any), (42, .any), (43, .any), (8, bl true)]) (H' := ⟨3, [(0, (2, [G.graph_Graph.av g_0])), (1, (2, [G.graph_Graph.av r53.1])), (2, (2, [G.graph_Graph.av r55.1]))]⟩) [(0, 0), (1, 1), (2, 2)] [] rfl rfl rfl (.cons rfl rfl (.one (.same _ (by simp)) rfl) (of_decide_eq_true rfl) (.cons rfl rfl (.one (.same _ (by simp)) rfl) (of_decide_eq_true rfl) (.cons rfl rfl (.one (.same _ (by simp)) rfl) (of_decide_eq_true rfl) (trivial)))) ⟨⟨_, rfl, .ref rfl⟩, ⟨_, rfl, .ref rfl⟩, ⟨_, rfl, .same _ (by simp)⟩, ⟨_, rfl, .ref rfl⟩, ⟨_, rfl, .same _ (by simp)⟩, ⟨_, rfl, .same _ (by simp)⟩, ⟨_, rfl, .any _⟩, ⟨_, rfl, .any _⟩, ⟨_, rfl, .any _⟩, ⟨_, rfl, .any _⟩, ⟨_, rfl, .same _ (by simp)⟩, trivial⟩)
                · rw [hb141]
                  replace h := Sh.if_f h hb141
                  refine AR.op (r := G.graph_Graph.av r53.1) rfl (aop_load_ref rfl rfl rfl rfl sz24 rfl) ?_
                  refine AR.drop (frx := [(1, _), (4, _), (5, _), (6, _), (7, _), (9, _), (39, _), (40, _)]) ⟨rfl, rfl, rfl, rfl, rfl, rfl, rfl, rfl, trivial⟩ ?_
                  refine AR.op (r := i64 n115) rfl (aop_move (.inl rfl) rfl) ?_
                  refine AR.op (r := i64 n115) rfl (aop_move (.inl rfl) rfl) ?_
                  obtain ⟨r142, hr142, h⟩ := Sh.bind_some' h
                  refine AR.op (r := bl r142) rfl (aop_call1 rfl rfl (by simp) (graph_Has_ok hT hr142)) ?_
                  refine AR.drop (frx := [(1, _), (4, _), (5, _), (6, _), (7, _), (9, _), (39, _), (40, _), (41, _), (42, _), (43, _)]) ⟨rfl, rfl, rfl, rfl, rfl, rfl, rfl, rfl, rfl, rfl, rfl, trivial⟩ ?_
                  refine AR.op (r := bl r142) rfl (aop_pick rfl rfl rfl) ?_
                  refine AR.op (r := bl r142) rfl (aop_move (.inr rfl) rfl) ?_
                  refine AR.nil ?_
                  exact hK19 r142 _ h (Weak.re (fr' := [(1, .ref 0 0 0), (4, .ref 1 0 0), (5, i64 r53.2), (6, .ref 2 0 0), (7, i64 r55.2), (9, i64 n115), (40, .any), (41, .any), (42, .any), (43, .any), (8, bl r142)]) (H' := ⟨3, [(0, (2, [G.graph_Graph.av g_0])), (1, (2, [G.graph_Graph.av r53.1])), (2, (2, [G.graph_Graph.av r55.1]))]⟩) [(0, 0), (1, 1), (2, 2)] [] rfl rfl rfl (.cons rfl rfl (.one (.same _ (by simp)) rfl) (of_decide_eq_true rfl) (.cons rfl rfl (.one (.same _ (by simp)) rfl) (of_decide_eq_true rfl) (.cons rfl rfl (.one (.same _ (by simp)) rfl) (of_decide_eq_true rfl) (trivial)))) ⟨⟨_, rfl, .ref rfl⟩, ⟨_, rfl, .ref rfl⟩, ⟨_, rfl, .same _ (by simp)⟩, ⟨_, rfl, .ref rfl⟩, ⟨_, rfl, .same _ (by simp)⟩, ⟨_, rfl, .same _ (by simp)⟩, ⟨G.graph_Graph.av r53.1, rfl, .any _⟩, ⟨_, rfl, .any _⟩, ⟨_, rfl, .any _⟩, ⟨_, rfl, .any _⟩, ⟨_, rfl, .same _ (by simp)⟩, trivial⟩)
            · replace h := Sh.if_f h hb116
              refine awp_exit ?_
              replace h := Sh.exit_eq h hx1
              exact hK12 self114 _ h (Weak.re (fr' := [(1, .ref 0 0 0), (5, i64 r53.2), (6, .ref 1 0 0), (7, i64 r55.2), (8, bl self114)]) (H' := ⟨2, [(0, (2, [G.graph_Graph.av g_0])), (1, (2, [G.graph_Graph.av r55.1]))]⟩) [(0, 0), (1, 2)] [] rfl rfl rfl (.cons rfl rfl (.one (.same _ (by simp)) rfl) (of_decide_eq_true rfl) (.cons rfl rfl (.one (.same _ (by simp)) rfl) (of_decide_eq_true rfl) (trivial))) ⟨⟨_, rfl, .ref rfl⟩, ⟨_, rfl, .same _ (by simp)⟩, ⟨_, rfl, .ref rfl⟩, ⟨_, rfl, .same _ (by simp)⟩, ⟨_, rfl, .same _ (by simp)⟩, trivial⟩)
    · intro K20 hK20
      refine awp_reg rfl ?_
      refine AR.op rfl (aop_field_ref rfl rfl rfl fd24_1 (by decide)) ?_
      refine AR.op (r := .sl (List.map u64 g_0.Rows)) rfl (aop_load_ref rfl rfl rfl rfl sz22 rfl) ?_
      refine AR.op (r := i64 (Sh.len g_0.Rows)) rfl (t_len_sl u64 g_0.Rows rfl rfl el22) ?_
      refine AR.drop (frx := [(1, _), (15, _)]) ⟨rfl, rfl, trivial⟩ ?_
      refine AR.op (r := bl (decide ((70 : Int) < (Sh.len g_0.Rows)))) rfl (aop_gtr rfl rfl rfl) ?_
      refine AR.op (r := bl (decide ((70 : Int) < (Sh.len g_0.Rows)))) rfl (aop_move (.inl rfl) rfl) ?_
      rcases Bool.eq_false_or_eq_true (decide ((70 : Int) < (Sh.len g_0.Rows))) with hb143 | hb143
      · rw [hb143]
        replace h := Sh.if_t h hb143
        refine AR.skip rfl ?_
        refine AR.drop (frx := [(1, _), (17, _), (18, _)]) ⟨rfl, rfl, rfl, trivial⟩ ?_
        refine AR.skip rfl ?_
        refine AR.skip rfl ?_
        refine AR.op (r := bl true) rfl (aop_pick rfl rfl rfl) ?_
        refine AR.nil ?_
        exact hK20 true _ h (Weak.re (fr' := [(1, .ref 0 0 0), (21, bl true)]) (H' := ⟨1, [(0, (2, [G.graph_Graph.av g_0]))]⟩) [(0, 0)] [] rfl rfl rfl (.cons rfl rfl (.one (.same _ (by simp)) rfl) (of_decide_eq_true rfl) (trivial)) ⟨⟨_, rfl, .ref rfl⟩, ⟨_, rfl, .same _ (by simp)⟩, trivial⟩)
      · rw [hb143]
        replace h := Sh.if_f h hb143
        refine AR.op (r := G.graph_Graph.av g_0) rfl (aop_load_ref rfl rfl rfl rfl sz24 rfl) ?_
        refine AR.drop (frx := [(1, _), (17, _), (18, _)]) ⟨rfl, rfl, rfl, trivial⟩ ?_
        obtain ⟨r144, hr144, h⟩ := Sh.bind_some' h
        refine AR.op (r := bl r144) rfl (aop_call1 rfl rfl (by simp) (graph_Right_ok hT hr144)) ?_
        refine AR.op (r := bl (!r144)) rfl (aop_not rfl rfl) ?_
        refine AR.op (r := bl (!r144)) rfl (aop_pick rfl rfl rfl) ?_
        refine AR.nil ?_
        exact hK20 (!r144) _ h (Weak.re (fr' := [(1, .ref 0 0 0), (21, bl (!r144))]) (H' := ⟨1, [(0, (2, [G.graph_Graph.av g_0]))]⟩) [(0, 0)] [] rfl rfl rfl (.cons rfl rfl (.one (.same _ (by simp)) rfl) (of_decide_eq_true rfl) (trivial)) ⟨⟨_, rfl, .ref rfl⟩, ⟨_, rfl, .same _ (by simp)⟩, trivial⟩)
theorem inquestlaw13_ReachBack_ok {W0 : World} (hT : Tab W0) {g_0 : G.graph_Graph} {r : Bool} (h : G.inquestlaw13_ReachBack g_0 = some r) : Fun1 Tryd.prog W0 12 [G.graph_Graph.av g_0] (bl r) := Fun1.two (inquestlaw13_ReachBack_ok0 hT h) (by simp)

end Wk
