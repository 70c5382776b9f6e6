/- That a statement does what its plain function says. -/
import Derived.Test.YtmmeihaoldinnaaDoorWkGinquestlaw12
open Go Go.Av Go.Proofs
set_option linter.unusedVariables false
namespace Wk
set_option maxHeartbeats 8000000 in
theorem inquestlaw12_GraphEdges_ok0 {W0 : World} (hT : Tab W0) {g_0 : G.graph_Graph} {a_1 : Int} {b_2 : Int} {r : Bool} (h : G.inquestlaw12_GraphEdges g_0 a_1 b_2 = some r) : Fun2 Tryd.prog W0 4 [G.graph_Graph.av g_0, i64 a_1, i64 b_2] (bl r) .empty := by
  refine fun2_of_awp Tryd.func4 rfl (by kernel_rfl) Tryd.ntmps4 (by simp) ?_
  unfold G.inquestlaw12_GraphEdges at h
  show AWP _ _ _ _ ⟨[(0, G.graph_Graph.av g_0), (1, i64 a_1), (2, i64 b_2)], .empty⟩ _
  refine awp_seqK fun K1 hK1 => ?_
  refine awp_reg rfl ?_
  refine AR.op (r := .ref 0 0 0) rfl (aop_box 2 [G.graph_Graph.av g_0] rfl rfl rfl (.inl ⟨rfl, rfl⟩)) ?_
  refine AR.op (r := bl false) rfl (aop_move (.inr rfl) rfl) ?_
  refine AR.nil ?_
  refine hK1 _ (AWP.weak (Weak.re (fr' := [(1, i64 a_1), (2, i64 b_2), (3, .ref 0 0 0)]) (H' := ⟨1, [(0, (2, [G.graph_Graph.av g_0]))]⟩) [(0, 0)] [] rfl rfl rfl (.cons rfl rfl (.one (.same _ (by simp)) rfl) (of_decide_eq_true rfl) (trivial)) ⟨⟨_, rfl, .same _ (by simp)⟩, ⟨_, rfl, .same _ (by simp)⟩, ⟨_, rfl, .ref rfl⟩, trivial⟩) ?_)
  clear hK1 K1
  refine awp_seqK fun K2 hK2 => ?_
  refine awp_reg rfl ?_
  obtain ⟨r106, hr106, h⟩ := Sh.bind_some' h
  refine AR.op (r := bl r106) rfl (aop_call1 rfl rfl (by simp) (inquestlaw12_awake_ok hT hr106)) ?_
  refine AR.op (r := bl r106) rfl (aop_move (.inr rfl) rfl) ?_
  refine AR.nil ?_
  refine hK2 _ (AWP.weak (Weak.re (fr' := [(1, i64 a_1), (2, i64 b_2), (3, .ref 0 0 0), (7, bl r106)]) (H' := ⟨1, [(0, (2, [G.graph_Graph.av g_0]))]⟩) [(0, 0)] [] rfl rfl rfl (.cons rfl rfl (.one (.same _ (by simp)) rfl) (of_decide_eq_true rfl) (trivial)) ⟨⟨_, rfl, .same _ (by simp)⟩, ⟨_, rfl, .same _ (by simp)⟩, ⟨_, rfl, .ref rfl⟩, ⟨_, rfl, .same _ (by simp)⟩, trivial⟩) ?_)
  clear hK2 K2
  refine awp_seqK fun K3 hK3 => ?_
  refine awp_seqK fun K4 hK4 => ?_
  refine awp_reg rfl ?_
  refine AR.op (r := bl r106) rfl (aop_move (.inl rfl) rfl) ?_
  refine AR.op (r := bl (!r106)) rfl (aop_not rfl rfl) ?_
  refine AR.nil ?_
  refine hK4 _ (AWP.weak (Weak.re (fr' := [(1, i64 a_1), (2, i64 b_2), (3, .ref 0 0 0), (15, bl (!r106))]) (H' := ⟨1, [(0, (2, [G.graph_Graph.av g_0]))]⟩) [(0, 0)] [] rfl rfl rfl (.cons rfl rfl (.one (.same _ (by simp)) rfl) (of_decide_eq_true rfl) (trivial)) ⟨⟨_, rfl, .same _ (by simp)⟩, ⟨_, rfl, .same _ (by simp)⟩, ⟨_, rfl, .ref rfl⟩, ⟨_, rfl, .same _ (by simp)⟩, trivial⟩) ?_)
  clear hK4 K4
  refine awp_cond rfl (fun hb107 => ?_) (fun hb107 => ?_)
  · replace h := Sh.if_t h hb107
    refine awp_seqK fun K5 hK5 => ?_
    refine awp_reg rfl ?_
    refine AR.op (r := bl false) rfl (aop_move (.inr rfl) rfl) ?_
    refine AR.nil ?_
    refine hK5 _ (AWP.weak (Weak.re (fr' := [(6, bl false)]) (H' := .empty) [] [] rfl rfl rfl (trivial) ⟨⟨_, rfl, .same _ (by simp)⟩, trivial⟩) ?_)
    clear hK5 K5
    refine awp_ret ?_
    obtain rfl := Option.some.inj h
    refine ⟨.inr rfl, bl false, rfl, ?_⟩
    exact Weak.re [] [] rfl rfl rfl (trivial) ⟨⟨_, rfl, .same _ (by simp)⟩, trivial⟩
  · replace h := Sh.if_f h hb107
    refine awp_skip ?_
    refine hK3 _ (AWP.weak (Weak.re (fr' := [(1, i64 a_1), (2, i64 b_2), (3, .ref 0 0 0)]) (H' := ⟨1, [(0, (2, [G.graph_Graph.av g_0]))]⟩) [(0, 0)] [] rfl rfl rfl (.cons rfl rfl (.one (.same _ (by simp)) rfl) (of_decide_eq_true rfl) (trivial)) ⟨⟨_, rfl, .same _ (by simp)⟩, ⟨_, rfl, .same _ (by simp)⟩, ⟨_, rfl, .ref rfl⟩, trivial⟩) ?_)
    clear hK3 K3
    refine awp_seqK fun K6 hK6 => ?_
    refine awp_seqJ (fun (p : Bool) => (⟨[(1, i64 a_1), (2, i64 b_2), (3, .ref 0 0 0), (24, bl p)], ⟨1, [(0, (2, [G.graph_Graph.av g_0]))]⟩⟩ : St)) (fun (p : Bool) => G.inquestlaw12_GraphEdges_j1 g_0 a_1 b_2 p = some r) ?_ ?_
    · rintro v113 h
      replace h : G.inquestlaw12_GraphEdges_j1 g_0 a_1 b_2 v113 = some r := h
      unfold G.inquestlaw12_GraphEdges_j1 at h
      show AWP _ _ _ _ ⟨[(1, i64 a_1), (2, i64 b_2), (3, .ref 0 0 0), (24, bl v113)], ⟨1, [(0, (2, [G.graph_Graph.av g_0]))]⟩⟩ _
      refine awp_cond rfl (fun hb114 => ?_) (fun hb114 => ?_)
      · replace h := Sh.if_t h hb114
        refine awp_seqK fun K7 hK7 => ?_
        refine awp_reg rfl ?_
        refine AR.op (r := bl true) rfl (aop_move (.inr rfl) rfl) ?_
        refine AR.nil ?_
        refine hK7 _ (AWP.weak (Weak.re (fr' := [(6, bl true)]) (H' := .empty) [] [] rfl rfl rfl (trivial) ⟨⟨_, rfl, .same _ (by simp)⟩, trivial⟩) ?_)
        clear hK7 K7
        refine awp_ret ?_
        obtain rfl := Option.some.inj h
        refine ⟨.inr rfl, bl true, rfl, ?_⟩
        exact Weak.re [] [] rfl rfl rfl (trivial) ⟨⟨_, rfl, .same _ (by simp)⟩, trivial⟩
      · replace h := Sh.if_f h hb114
        refine awp_skip ?_
        refine hK6 _ (AWP.weak (Weak.re (fr' := [(1, i64 a_1), (2, i64 b_2), (3, .ref 0 0 0)]) (H' := ⟨1, [(0, (2, [G.graph_Graph.av g_0]))]⟩) [(0, 0)] [] rfl rfl rfl (.cons rfl rfl (.one (.same _ (by simp)) rfl) (of_decide_eq_true rfl) (trivial)) ⟨⟨_, rfl, .same _ (by simp)⟩, ⟨_, rfl, .same _ (by simp)⟩, ⟨_, rfl, .ref rfl⟩, trivial⟩) ?_)
        clear hK6 K6
        refine awp_seqK fun K8 hK8 => ?_
        refine awp_reg rfl ?_
        refine AR.op (r := G.graph_Graph.av g_0) rfl (aop_load_ref rfl rfl rfl rfl sz24 rfl) ?_
        obtain ⟨r116, hr116, h⟩ := Sh.bind_some' h
        refine AR.op (r := .sl (List.map G.graph_Edge.av r116)) rfl (aop_call1 rfl rfl (by simp) (graph_Edges_ok hT hr116)) ?_
        refine AR.op (r := .sl (List.map G.graph_Edge.av r116)) rfl (aop_move (.inr rfl) rfl) ?_
        refine AR.nil ?_
        refine hK8 _ (AWP.weak (Weak.re (fr' := [(1, i64 a_1), (2, i64 b_2), (3, .ref 0 0 0), (8, .sl (List.map G.graph_Edge.av r116))]) (H' := ⟨1, [(0, (2, [G.graph_Graph.av g_0]))]⟩) [(0, 0)] [] rfl rfl rfl (.cons rfl rfl (.one (.same _ (by simp)) rfl) (of_decide_eq_true rfl) (trivial)) ⟨⟨_, rfl, .same _ (by simp)⟩, ⟨_, rfl, .same _ (by simp)⟩, ⟨_, rfl, .ref rfl⟩, ⟨.sl (List.map G.graph_Edge.av r116), rfl, .same _ (by simp)⟩, trivial⟩) ?_)
        clear hK8 K8
        refine awp_seqK fun K9 hK9 => ?_
        refine awp_reg rfl ?_
        refine AR.op (r := bl false) rfl (aop_move (.inr rfl) rfl) ?_
        refine AR.nil ?_
        refine hK9 _ ?_
        clear hK9 K9
        refine awp_seqJ (fun (p : Bool) => (⟨[(1, i64 a_1), (2, i64 b_2), (3, .ref 0 0 0), (8, .sl (List.map G.graph_Edge.av r116)), (9, bl p)], ⟨1, [(0, (2, [G.graph_Graph.av g_0]))]⟩⟩ : St)) (fun (p : Bool) => G.inquestlaw12_GraphEdges_j2 g_0 a_1 b_2 r116 p = some r) ?_ ?_
        · rintro in208 h
          replace h : G.inquestlaw12_GraphEdges_j2 g_0 a_1 b_2 r116 in208 = some r := h
          unfold G.inquestlaw12_GraphEdges_j2 at h
          show AWP _ _ _ _ ⟨[(1, i64 a_1), (2, i64 b_2), (3, .ref 0 0 0), (8, .sl (List.map G.graph_Edge.av r116)), (9, bl in208)], ⟨1, [(0, (2, [G.graph_Graph.av g_0]))]⟩⟩ _
          refine awp_seqK fun K10 hK10 => ?_
          refine awp_reg rfl ?_
          refine AR.op rfl (aop_field_ref rfl rfl rfl fd24_0 (by decide)) ?_
          refine AR.op (r := i64 g_0.N) rfl (aop_load_ref rfl rfl rfl rfl sz3 rfl) ?_
          refine AR.op (r := .sl (List.map G.graph_Edge.av r116)) rfl (aop_move (.inl rfl) rfl) ?_
          refine AR.drop (frx := [(1, _), (2, _), (3, _), (9, _), (113, _), (114, _)]) ⟨rfl, rfl, rfl, rfl, rfl, rfl, trivial⟩ ?_
          obtain ⟨r210, hr210, h⟩ := Sh.bind_some' h
          refine AR.op (r := .tuple [G.graph_Graph.av r210.1, i64 r210.2]) rfl (aop_call1 rfl rfl (by simp) (inquestlaw12_made_ok hT hr210)) ?_
          refine AR.op (r := .tuple [G.graph_Graph.av r210.1, i64 r210.2]) rfl (aop_move (.inl rfl) rfl) ?_
          refine AR.op (r := G.graph_Graph.av r210.1) rfl (aop_extract rfl rfl rfl) ?_
          refine AR.drop (frx := [(1, _), (2, _), (3, _), (9, _), (111, _), (116, _)]) ⟨rfl, rfl, rfl, rfl, rfl, rfl, trivial⟩ ?_
          refine AR.op (r := i64 r210.2) rfl (aop_extract rfl rfl rfl) ?_
          refine AR.op (r := .ref 1 0 0) rfl (aop_alloc 2 [.agg [i64 0, nilS]] rfl zr24 (by kernel_rfl) (.inl ⟨rfl, rfl⟩)) ?_
          refine AR.op rfl (aop_store (e' := G.graph_Graph.av r210.1) rfl rfl rfl rfl rfl rfl sz24 rfl (of_decide_eq_true rfl) rfl) ?_
          refine AR.drop (frx := [(1, _), (2, _), (3, _), (9, _), (117, _), (11, _)]) ⟨rfl, rfl, rfl, rfl, rfl, rfl, trivial⟩ ?_
          refine AR.op (r := i64 r210.2) rfl (aop_move (.inr rfl) rfl) ?_
          refine AR.nil ?_
          refine hK10 _ (AWP.weak (Weak.re (fr' := [(1, i64 a_1), (2, i64 b_2), (3, .ref 0 0 0), (9, bl in208), (11, .ref 1 0 0), (12, i64 r210.2)]) (H' := ⟨2, [(0, (2, [G.graph_Graph.av g_0])), (1, (2, [G.graph_Graph.av r210.1]))]⟩) [(0, 0), (1, 1)] [] rfl rfl rfl (.cons rfl rfl (.one (.same _ (by simp)) rfl) (of_decide_eq_true rfl) (.cons rfl rfl (.one (.same _ (by simp)) rfl) (of_decide_eq_true rfl) (trivial))) ⟨⟨_, rfl, .same _ (by simp)⟩, ⟨_, rfl, .same _ (by simp)⟩, ⟨_, rfl, .ref rfl⟩, ⟨_, rfl, .same _ (by simp)⟩, ⟨_, rfl, .ref rfl⟩, ⟨_, rfl, .same _ (by simp)⟩, trivial⟩) ?_)
          clear hK10 K10
          refine awp_seqK fun K11 hK11 => ?_
          refine awp_any (by kernel_rfl) (by kernel_rfl) rfl ?_
          refine ARH.dry (r := i64 r210.2) rfl (fun _ => aop_move (.inl rfl) rfl) ?_
          refine ARH.dry (r := bl (decide (r210.2 = 0))) rfl (fun _ => aop_eql rfl rfl rfl) ?_
          refine ARH.dry (r := bl (decide (r210.2 = 0))) rfl (fun _ => aop_move (.inl rfl) rfl) ?_
          refine ARH.drop (frx := [(1, _), (2, _), (3, _), (9, _), (11, _), (120, _)]) ⟨rfl, rfl, rfl, rfl, rfl, rfl, trivial⟩ ?_
          rcases Bool.eq_false_or_eq_true (decide (r210.2 = 0)) with hb217 | hb217
          · rw [hb217]
            replace h := Sh.if_t h hb217
            refine ARH.op (r := G.graph_Graph.av g_0) rfl rfl (aop_load_ref rfl rfl rfl rfl sz24 rfl) ?_
            obtain ⟨r218, hr218, h⟩ := Sh.bind_some' h
            refine ARH.op (r := G.inquestref12_G.av r218) rfl rfl (aop_call1 rfl rfl (by simp) (inquestlaw12_Plain_ok hT hr218)) ?_
            refine ARH.op (r := G.graph_Graph.av r210.1) rfl rfl (aop_load_ref rfl rfl rfl rfl sz24 rfl) ?_
            refine ARH.drop (frx := [(1, _), (2, _), (3, _), (9, _), (120, _), (122, _), (123, _)]) ⟨rfl, rfl, rfl, rfl, rfl, rfl, rfl, trivial⟩ ?_
            obtain ⟨r219, hr219, h⟩ := Sh.bind_some' h
            refine ARH.op (r := G.inquestref12_G.av r219) rfl rfl (aop_call1 rfl rfl (by simp) (inquestlaw12_Plain_ok hT hr219)) ?_
            obtain ⟨r220, hr220, h⟩ := Sh.bind_some' h
            refine ARH.op (r := bl r220) rfl rfl (aop_call1 rfl rfl (by simp) (inquestref12_Same_ok hT hr220)) ?_
            refine ARH.dry (r := bl r220) rfl (fun _ => aop_pick rfl rfl rfl) ?_
            refine ARH.drop (frx := [(1, _), (2, _), (3, _), (9, _), (126, _)]) ⟨rfl, rfl, rfl, rfl, rfl, trivial⟩ ?_
            refine ARH.dry (r := bl r220) rfl (fun _ => aop_move (.inl rfl) rfl) ?_
            rcases Bool.eq_false_or_eq_true (r220) with hb221 | hb221
            · rw [hb221]
              replace h := Sh.if_t h hb221
              refine ARH.op (r := G.graph_Graph.av g_0) rfl rfl (aop_load_ref rfl rfl rfl rfl sz24 rfl) ?_
              refine ARH.dry (r := i64 a_1) rfl (fun _ => aop_move (.inl rfl) rfl) ?_
              refine ARH.drop (frx := [(2, _), (9, _), (127, _), (128, _), (129, _)]) ⟨rfl, rfl, rfl, rfl, rfl, trivial⟩ ?_
              refine ARH.dry (r := i64 b_2) rfl (fun _ => aop_move (.inl rfl) rfl) ?_
              obtain ⟨r222, hr222, h⟩ := Sh.bind_some' h
              refine ARH.op (r := bl r222) rfl rfl (aop_call1 rfl rfl (by simp) (graph_Has_ok hT hr222)) ?_
              refine ARH.dry (r := bl in208) rfl (fun _ => aop_move (.inl rfl) rfl) ?_
              refine ARH.drop (frx := [(127, _), (131, _), (132, _)]) ⟨rfl, rfl, rfl, trivial⟩ ?_
              refine ARH.dry (r := bl (r222 == in208)) rfl (fun _ => aop_eqb rfl rfl rfl Tryd.underlying4) ?_
              refine ARH.dry (r := bl (r222 == in208)) rfl (fun _ => aop_pick rfl rfl rfl) ?_
              refine ARH.dry (r := bl (r222 == in208)) rfl (fun _ => aop_move (.inr rfl) rfl) ?_
              refine ARH.nil ?_
              refine hK11 _ (AWP.weak (Weak.re (fr' := [(6, bl (r222 == in208))]) (H' := .empty) [] [] rfl rfl rfl (trivial) ⟨⟨_, rfl, .same _ (by simp)⟩, trivial⟩) ?_)
              clear hK11 K11
              refine awp_ret ?_
              obtain rfl := Option.some.inj h
              refine ⟨.inr rfl, bl (r222 == in208), rfl, ?_⟩
              exact Weak.re [] [] rfl rfl rfl (trivial) ⟨⟨_, rfl, .same _ (by simp)⟩, trivial⟩
            · rw [hb221]
              replace h := Sh.if_f h hb221
              refine ARH.skip rfl ?_
              refine ARH.skip rfl ?_
              refine ARH.drop (frx := [(2, _), (9, _), (127, _), (128, _), (129, _)]) ⟨rfl, rfl, rfl, rfl, rfl, trivial⟩ ?_
              refine ARH.skip rfl ?_
              refine ARH.skip rfl ?_
              refine ARH.skip rfl ?_
              refine ARH.drop (frx := [(127, _), (131, _), (132, _)]) ⟨rfl, rfl, rfl, trivial⟩ ?_
              refine ARH.skip rfl ?_
              refine ARH.dry (r := bl false) rfl (fun _ => aop_pick rfl rfl rfl) ?_
              refine ARH.dry (r := bl false) rfl (fun _ => aop_move (.inr rfl) rfl) ?_
              refine ARH.nil ?_
              refine hK11 _ (AWP.weak (Weak.re (fr' := [(6, bl false)]) (H' := .empty) [] [] rfl rfl rfl (trivial) ⟨⟨_, rfl, .same _ (by simp)⟩, trivial⟩) ?_)
              clear hK11 K11
              refine awp_ret ?_
              obtain rfl := Option.some.inj h
              refine ⟨.inr rfl, bl false, rfl, ?_⟩
              exact Weak.re [] [] rfl rfl rfl (trivial) ⟨⟨_, rfl, .same _ (by simp)⟩, trivial⟩
          · rw [hb217]
            replace h := Sh.if_f h hb217
            refine ARH.skip rfl ?_
            refine ARH.skip rfl ?_
            refine ARH.skip rfl ?_
            refine ARH.drop (frx := [(1, _), (2, _), (3, _), (9, _), (120, _), (122, _), (123, _)]) ⟨rfl, rfl, rfl, rfl, rfl, rfl, rfl, trivial⟩ ?_
            refine ARH.skip rfl ?_
            refine ARH.skip rfl ?_
            refine ARH.dry (r := bl false) rfl (fun _ => aop_pick rfl rfl rfl) ?_
            refine ARH.drop (frx := [(1, _), (2, _), (3, _), (9, _), (126, _)]) ⟨rfl, rfl, rfl, rfl, rfl, trivial⟩ ?_
            refine ARH.dry (r := bl false) rfl (fun _ => aop_move (.inl rfl) rfl) ?_
            refine ARH.skip rfl ?_
            refine ARH.skip rfl ?_
            refine ARH.drop (frx := [(2, _), (9, _), (127, _), (128, _), (129, _)]) ⟨rfl, rfl, rfl, rfl, rfl, trivial⟩ ?_
            refine ARH.skip rfl ?_
            refine ARH.skip rfl ?_
            refine ARH.skip rfl ?_
            refine ARH.drop (frx := [(127, _), (131, _), (132, _)]) ⟨rfl, rfl, rfl, trivial⟩ ?_
            refine ARH.skip rfl ?_
            refine ARH.dry (r := bl false) rfl (fun _ => aop_pick rfl rfl rfl) ?_
            refine ARH.dry (r := bl false) rfl (fun _ => aop_move (.inr rfl) rfl) ?_
            refine ARH.nil ?_
            refine hK11 _ (AWP.weak (Weak.re (fr' := [(6, bl false)]) (H' := .empty) [] [] rfl rfl rfl (trivial) ⟨⟨_, rfl, .same _ (by simp)⟩, trivial⟩) ?_)
            clear hK11 K11
            refine awp_ret ?_
            obtain rfl := Option.some.inj h
            refine ⟨.inr rfl, bl false, rfl, ?_⟩
            exact Weak.re [] [] rfl rfl rfl (trivial) ⟨⟨_, rfl, .same _ (by simp)⟩, trivial⟩
        · intro K12 hK12
          refine awp_seqK fun K13 hK13 => ?_
          refine awp_reg rfl ?_
          refine AR.op (r := i64 0) rfl (aop_move (.inr rfl) rfl) ?_
          refine AR.nil ?_
          refine hK13 _ ?_
          clear hK13 K13
          refine awp_block ?_
          refine awp_iter (fun (p : Bool × Int) => G.inquestlaw12_GraphEdges_b1 g_0 a_1 b_2 r116 p.1 p.2) (fun (p : Bool × Int) => (⟨[(1, i64 a_1), (2, i64 b_2), (3, .ref 0 0 0), (8, .sl (List.map G.graph_Edge.av r116)), (9, bl p.1), (10, i64 p.2)], ⟨1, [(0, (2, [G.graph_Graph.av g_0]))]⟩⟩ : St)) h (Weak.re (fr' := [(1, i64 a_1), (2, i64 b_2), (3, .ref 0 0 0), (8, .sl (List.map G.graph_Edge.av r116)), (9, bl false), (10, i64 0)]) (H' := ⟨1, [(0, (2, [G.graph_Graph.av g_0]))]⟩) [(0, 0)] [] rfl rfl rfl (.cons rfl rfl (.one (.same _ (by simp)) rfl) (of_decide_eq_true rfl) (trivial)) ⟨⟨_, rfl, .same _ (by simp)⟩, ⟨_, rfl, .same _ (by simp)⟩, ⟨_, rfl, .ref rfl⟩, ⟨.sl (List.map G.graph_Edge.av r116), rfl, .same _ (by simp)⟩, ⟨_, rfl, .same _ (by simp)⟩, ⟨_, rfl, .same _ (by simp)⟩, trivial⟩) ?_
          · skip
            rintro ⟨in283, i284⟩ o1 h hx1
            replace h : G.inquestlaw12_GraphEdges_b1 g_0 a_1 b_2 r116 in283 i284 = some o1 := h
            unfold G.inquestlaw12_GraphEdges_b1 at h
            show AWP _ _ _ _ ⟨[(1, i64 a_1), (2, i64 b_2), (3, .ref 0 0 0), (8, .sl (List.map G.graph_Edge.av r116)), (9, bl in283), (10, i64 i284)], ⟨1, [(0, (2, [G.graph_Graph.av g_0]))]⟩⟩ _
            refine awp_seqK fun K14 hK14 => ?_
            refine awp_seqK fun K15 hK15 => ?_
            refine awp_reg rfl ?_
            refine AR.op (r := i64 i284) rfl (aop_move (.inl rfl) rfl) ?_
            refine AR.op (r := .sl (List.map G.graph_Edge.av r116)) rfl (aop_move (.inl rfl) rfl) ?_
            refine AR.op (r := i64 (Sh.len r116)) rfl (t_len_sl G.graph_Edge.av r116 rfl rfl el36) ?_
            refine AR.drop (frx := [(1, _), (2, _), (3, _), (8, _), (9, _), (10, _), (27, _), (29, _)]) ⟨rfl, rfl, rfl, rfl, rfl, rfl, rfl, rfl, trivial⟩ ?_
            refine AR.op (r := bl (decide (i284 < (Sh.len r116)))) rfl (aop_lss rfl rfl rfl) ?_
            refine AR.nil ?_
            refine hK15 _ (AWP.weak (Weak.re (fr' := [(1, i64 a_1), (2, i64 b_2), (3, .ref 0 0 0), (8, .sl (List.map G.graph_Edge.av r116)), (9, bl in283), (10, i64 i284), (30, bl (decide (i284 < (Sh.len r116))))]) (H' := ⟨1, [(0, (2, [G.graph_Graph.av g_0]))]⟩) [(0, 0)] [] rfl rfl rfl (.cons rfl rfl (.one (.same _ (by simp)) rfl) (of_decide_eq_true rfl) (trivial)) ⟨⟨_, rfl, .same _ (by simp)⟩, ⟨_, rfl, .same _ (by simp)⟩, ⟨_, rfl, .ref rfl⟩, ⟨.sl (List.map G.graph_Edge.av r116), rfl, .same _ (by simp)⟩, ⟨_, rfl, .same _ (by simp)⟩, ⟨_, rfl, .same _ (by simp)⟩, ⟨_, rfl, .same _ (by simp)⟩, trivial⟩) ?_)
            clear hK15 K15
            refine awp_cond rfl (fun hb285 => ?_) (fun hb285 => ?_)
            · replace h := Sh.if_t h hb285
              refine awp_skip ?_
              refine hK14 _ (AWP.weak (Weak.re (fr' := [(1, i64 a_1), (2, i64 b_2), (3, .ref 0 0 0), (8, .sl (List.map G.graph_Edge.av r116)), (9, bl in283), (10, i64 i284)]) (H' := ⟨1, [(0, (2, [G.graph_Graph.av g_0]))]⟩) [(0, 0)] [] rfl rfl rfl (.cons rfl rfl (.one (.same _ (by simp)) rfl) (of_decide_eq_true rfl) (trivial)) ⟨⟨_, rfl, .same _ (by simp)⟩, ⟨_, rfl, .same _ (by simp)⟩, ⟨_, rfl, .ref rfl⟩, ⟨.sl (List.map G.graph_Edge.av r116), rfl, .same _ (by simp)⟩, ⟨_, rfl, .same _ (by simp)⟩, ⟨_, rfl, .same _ (by simp)⟩, trivial⟩) ?_)
              clear hK14 K14
              refine awp_seqJ (fun (p : Bool) => (⟨[(1, i64 a_1), (2, i64 b_2), (3, .ref 0 0 0), (8, .sl (List.map G.graph_Edge.av r116)), (10, i64 i284), (9, bl p)], ⟨1, [(0, (2, [G.graph_Graph.av g_0]))]⟩⟩ : St)) (fun (p : Bool) => G.inquestlaw12_GraphEdges_j3 i284 p = some o1) ?_ ?_
              · rintro in314 h
                replace h : G.inquestlaw12_GraphEdges_j3 i284 in314 = some o1 := h
                unfold G.inquestlaw12_GraphEdges_j3 at h
                show AWP _ _ _ _ ⟨[(1, i64 a_1), (2, i64 b_2), (3, .ref 0 0 0), (8, .sl (List.map G.graph_Edge.av r116)), (10, i64 i284), (9, bl in314)], ⟨1, [(0, (2, [G.graph_Graph.av g_0]))]⟩⟩ _
                refine awp_reg rfl ?_
                refine AR.op (r := i64 i284) rfl (aop_move (.inl rfl) rfl) ?_
                refine AR.op (r := i64 (w64 (i284 + 1))) rfl (aop_add rfl rfl rfl rfl) ?_
                refine AR.op (r := i64 (w64 (i284 + 1))) rfl (aop_move (.inr rfl) rfl) ?_
                refine AR.nil ?_
                replace h := Sh.next_eq h
                exact ⟨_, h, Weak.re (fr' := [(1, i64 a_1), (2, i64 b_2), (3, .ref 0 0 0), (8, .sl (List.map G.graph_Edge.av r116)), (9, bl in314), (10, i64 (w64 (i284 + 1)))]) (H' := ⟨1, [(0, (2, [G.graph_Graph.av g_0]))]⟩) [(0, 0)] [] rfl rfl rfl (.cons rfl rfl (.one (.same _ (by simp)) rfl) (of_decide_eq_true rfl) (trivial)) ⟨⟨_, rfl, .same _ (by simp)⟩, ⟨_, rfl, .same _ (by simp)⟩, ⟨_, rfl, .ref rfl⟩, ⟨.sl (List.map G.graph_Edge.av r116), rfl, .same _ (by simp)⟩, ⟨_, rfl, .same _ (by simp)⟩, ⟨_, rfl, .same _ (by simp)⟩, trivial⟩⟩
              · intro K16 hK16
                refine awp_block ?_
                refine awp_seqK fun K17 hK17 => ?_
                refine awp_seqJ (fun (p : Bool) => (⟨[(1, i64 a_1), (2, i64 b_2), (3, .ref 0 0 0), (8, .sl (List.map G.graph_Edge.av r116)), (9, bl in283), (10, i64 i284), (91, bl p)], ⟨1, [(0, (2, [G.graph_Graph.av g_0]))]⟩⟩ : St)) (fun (p : Bool) => G.inquestlaw12_GraphEdges_j4 a_1 b_2 r116 in283 i284 p = some o1) ?_ ?_
                · rintro v358 h
                  replace h : G.inquestlaw12_GraphEdges_j4 a_1 b_2 r116 in283 i284 v358 = some o1 := h
                  unfold G.inquestlaw12_GraphEdges_j4 at h
                  show AWP _ _ _ _ ⟨[(1, i64 a_1), (2, i64 b_2), (3, .ref 0 0 0), (8, .sl (List.map G.graph_Edge.av r116)), (9, bl in283), (10, i64 i284), (91, bl v358)], ⟨1, [(0, (2, [G.graph_Graph.av g_0]))]⟩⟩ _
                  refine awp_cond rfl (fun hb359 => ?_) (fun hb359 => ?_)
                  · replace h := Sh.if_t h hb359
                    refine awp_seqK fun K18 hK18 => ?_
                    refine awp_reg rfl ?_
                    refine AR.op (r := bl false) rfl (aop_move (.inr rfl) rfl) ?_
                    refine AR.nil ?_
                    refine hK18 _ (AWP.weak (Weak.re (fr' := [(6, bl false)]) (H' := .empty) [] [] rfl rfl rfl (trivial) ⟨⟨_, rfl, .same _ (by simp)⟩, trivial⟩) ?_)
                    clear hK18 K18
                    refine awp_ret ?_
                    replace h := Sh.exit_eq h hx1
                    obtain rfl := Option.some.inj h
                    refine ⟨.inr rfl, bl false, rfl, ?_⟩
                    exact Weak.re [] [] rfl rfl rfl (trivial) ⟨⟨_, rfl, .same _ (by simp)⟩, trivial⟩
                  · replace h := Sh.if_f h hb359
                    refine awp_skip ?_
                    refine hK17 _ (AWP.weak (Weak.re (fr' := [(1, i64 a_1), (2, i64 b_2), (3, .ref 0 0 0), (8, .sl (List.map G.graph_Edge.av r116)), (9, bl in283), (10, i64 i284)]) (H' := ⟨1, [(0, (2, [G.graph_Graph.av g_0]))]⟩) [(0, 0)] [] rfl rfl rfl (.cons rfl rfl (.one (.same _ (by simp)) rfl) (of_decide_eq_true rfl) (trivial)) ⟨⟨_, rfl, .same _ (by simp)⟩, ⟨_, rfl, .same _ (by simp)⟩, ⟨_, rfl, .ref rfl⟩, ⟨.sl (List.map G.graph_Edge.av r116), rfl, .same _ (by simp)⟩, ⟨_, rfl, .same _ (by simp)⟩, ⟨_, rfl, .same _ (by simp)⟩, trivial⟩) ?_)
                    clear hK17 K17
                    refine awp_reg rfl ?_
                    refine AR.op (r := bl in283) rfl (aop_move (.inl rfl) rfl) ?_
                    refine AR.op (r := bl in283) rfl (aop_move (.inl rfl) rfl) ?_
                    rcases Bool.eq_false_or_eq_true (in283) with hb360 | hb360
                    · rw [hb360]
                      replace h := Sh.if_t h hb360
                      refine AR.skip rfl ?_
                      refine AR.drop (frx := [(1, _), (2, _), (3, _), (8, _), (10, _), (93, _), (94, _)]) ⟨rfl, rfl, rfl, rfl, rfl, rfl, rfl, trivial⟩ ?_
                      refine AR.skip rfl ?_
                      refine AR.skip rfl ?_
                      refine AR.skip rfl ?_
                      refine AR.drop (frx := [(1, _), (2, _), (3, _), (8, _), (10, _), (93, _), (94, _), (95, _), (96, _), (97, _)]) ⟨rfl, rfl, rfl, rfl, rfl, rfl, rfl, rfl, rfl, rfl, trivial⟩ ?_
                      refine AR.skip rfl ?_
                      refine AR.skip rfl ?_
                      refine AR.skip rfl ?_
                      refine AR.drop (frx := [(1, _), (2, _), (3, _), (8, _), (10, _), (93, _), (94, _), (95, _), (96, _), (97, _), (98, _), (99, _), (100, _)]) ⟨rfl, rfl, rfl, rfl, rfl, rfl, rfl, rfl, rfl, rfl, rfl, rfl, rfl, trivial⟩ ?_
                      refine AR.skip rfl ?_
                      refine AR.skip rfl ?_
                      refine AR.skip rfl ?_
                      refine AR.drop (frx := [(1, _), (2, _), (3, _), (8, _), (10, _), (93, _), (94, _), (95, _), (96, _), (97, _), (98, _), (99, _), (100, _), (101, _), (102, _), (103, _)]) ⟨rfl, rfl, rfl, rfl, rfl, rfl, rfl, rfl, rfl, rfl, rfl, rfl, rfl, rfl, rfl, rfl, trivial⟩ ?_
                      refine AR.skip rfl ?_
                      refine AR.skip rfl ?_
                      refine AR.skip rfl ?_
                      refine AR.drop (frx := [(1, _), (2, _), (3, _), (8, _), (10, _), (93, _), (94, _), (95, _), (96, _), (97, _), (98, _), (99, _), (100, _), (101, _), (102, _), (103, _), (104, _), (105, _), (106, _)]) ⟨rfl, rfl, rfl, rfl, rfl, rfl, rfl, rfl, rfl, rfl, rfl, rfl, rfl, rfl, rfl, rfl, rfl, rfl, rfl, trivial⟩ ?_
                      refine AR.skip rfl ?_
                      refine AR.skip rfl ?_
                      refine AR.skip rfl ?_
                      refine AR.drop (frx := [(1, _), (2, _), (3, _), (8, _), (10, _), (93, _), (94, _), (95, _), (96, _), (97, _), (98, _), (99, _), (100, _), (101, _), (102, _), (103, _), (104, _), (105, _), (106, _), (107, _), (108, _), (109, _)]) ⟨rfl, rfl, rfl, rfl, rfl, rfl, rfl, rfl, rfl, rfl, rfl, rfl, rfl, rfl, rfl, rfl, rfl, rfl, rfl, rfl, rfl, rfl, trivial⟩ ?_
                      refine AR.op (r := bl true) rfl (aop_pick rfl rfl rfl) ?_
                      refine AR.op (r := bl true) rfl (aop_move (.inr rfl) rfl) ?_
                      refine AR.nil ?_
                      exact hK16 true _ h (Weak.re (fr' := [(1, i64 a_1), (2, i64 b_2), (3, .ref 0 0 0), (8, .sl (List.map G.graph_Edge.av r116)), (10, i64 i284), (9, bl true)]) (H' := ⟨1, [(0, (2, [G.graph_Graph.av g_0]))]⟩) [(0, 0)] [] rfl rfl rfl (.cons rfl rfl (.one (.same _ (by simp)) rfl) (of_decide_eq_true rfl) (trivial)) ⟨⟨_, rfl, .same _ (by simp)⟩, ⟨_, rfl, .same _ (by simp)⟩, ⟨_, rfl, .ref rfl⟩, ⟨.sl (List.map G.graph_Edge.av r116), rfl, .same _ (by simp)⟩, ⟨_, rfl, .same _ (by simp)⟩, ⟨_, rfl, .same _ (by simp)⟩, trivial⟩)
                    · rw [hb360]
                      replace h := Sh.if_f h hb360
                      refine AR.op (r := .sl (List.map G.graph_Edge.av r116)) rfl (aop_move (.inl rfl) rfl) ?_
                      refine AR.drop (frx := [(1, _), (2, _), (3, _), (8, _), (10, _), (93, _), (94, _)]) ⟨rfl, rfl, rfl, rfl, rfl, rfl, rfl, trivial⟩ ?_
                      refine AR.op (r := i64 i284) rfl (aop_move (.inl rfl) rfl) ?_
                      obtain ⟨x361, hx361, h⟩ := Sh.bind_some' h
                      obtain ⟨k362, hi362, hl362⟩ := Sh.idx_some hx361
                      refine AR.op rfl (t_index_sl G.graph_Edge.av r116 hi362 hl362 rfl rfl rfl el36 rfl) ?_
                      refine AR.op rfl (aop_field_pp rfl rfl fd43_0 (by decide)) ?_
                      refine AR.drop (frx := [(1, _), (2, _), (3, _), (8, _), (10, _), (93, _), (94, _), (95, _), (96, _), (97, _)]) ⟨rfl, rfl, rfl, rfl, rfl, rfl, rfl, rfl, rfl, rfl, trivial⟩ ?_
                      refine AR.op (r := i64 x361.A) rfl (aop_load_pp rfl rfl sz3 rfl) ?_
                      refine AR.op (r := i64 a_1) rfl (aop_move (.inl rfl) rfl) ?_
                      refine AR.op (r := bl (decide (x361.A = a_1))) rfl (aop_eql rfl rfl rfl) ?_
                      refine AR.drop (frx := [(1, _), (2, _), (3, _), (8, _), (10, _), (93, _), (94, _), (95, _), (96, _), (97, _), (98, _), (99, _), (100, _)]) ⟨rfl, rfl, rfl, rfl, rfl, rfl, rfl, rfl, rfl, rfl, rfl, rfl, rfl, trivial⟩ ?_
                      refine AR.op (r := bl (decide (x361.A = a_1))) rfl (aop_move (.inl rfl) rfl) ?_
                      rcases Bool.eq_false_or_eq_true (decide (x361.A = a_1)) with hb363 | hb363
                      · rw [hb363]
                        replace h := Sh.if_t h hb363
                        refine AR.op (r := .sl (List.map G.graph_Edge.av r116)) rfl (aop_move (.inl rfl) rfl) ?_
                        refine AR.op (r := i64 i284) rfl (aop_move (.inl rfl) rfl) ?_
                        refine AR.drop (frx := [(1, _), (2, _), (3, _), (8, _), (10, _), (93, _), (94, _), (95, _), (96, _), (97, _), (98, _), (99, _), (100, _), (101, _), (102, _), (103, _)]) ⟨rfl, rfl, rfl, rfl, rfl, rfl, rfl, rfl, rfl, rfl, rfl, rfl, rfl, rfl, rfl, rfl, trivial⟩ ?_
                        obtain ⟨x364, hx364, h⟩ := Sh.bind_some' h
                        obtain ⟨k365, hi365, hl365⟩ := Sh.idx_some hx364
                        refine AR.op rfl (t_index_sl G.graph_Edge.av r116 hi365 hl365 rfl rfl rfl el36 rfl) ?_
                        refine AR.op rfl (aop_field_pp rfl rfl fd43_1 (by decide)) ?_
                        refine AR.op (r := i64 x364.B) rfl (aop_load_pp rfl rfl sz3 rfl) ?_
                        refine AR.drop (frx := [(1, _), (2, _), (3, _), (8, _), (10, _), (93, _), (94, _), (95, _), (96, _), (97, _), (98, _), (99, _), (100, _), (101, _), (102, _), (103, _), (104, _), (105, _), (106, _)]) ⟨rfl, rfl, rfl, rfl, rfl, rfl, rfl, rfl, rfl, rfl, rfl, rfl, rfl, rfl, rfl, rfl, rfl, rfl, rfl, trivial⟩ ?_
                        refine AR.op (r := i64 b_2) rfl (aop_move (.inl rfl) rfl) ?_
                        refine AR.op (r := bl (decide (x364.B = b_2))) rfl (aop_eql rfl rfl rfl) ?_
                        refine AR.op (r := bl (decide (x364.B = b_2))) rfl (aop_pick rfl rfl rfl) ?_
                        refine AR.drop (frx := [(1, _), (2, _), (3, _), (8, _), (10, _), (93, _), (94, _), (95, _), (96, _), (97, _), (98, _), (99, _), (100, _), (101, _), (102, _), (103, _), (104, _), (105, _), (106, _), (107, _), (108, _), (109, _)]) ⟨rfl, rfl, rfl, rfl, rfl, rfl, rfl, rfl, rfl, rfl, rfl, rfl, rfl, rfl, rfl, rfl, rfl, rfl, rfl, rfl, rfl, rfl, trivial⟩ ?_
                        refine AR.op (r := bl (decide (x364.B = b_2))) rfl (aop_pick rfl rfl rfl) ?_
                        refine AR.op (r := bl (decide (x364.B = b_2))) rfl (aop_move (.inr rfl) rfl) ?_
                        refine AR.nil ?_
                        exact hK16 (decide (x364.B = b_2)) _ h (Weak.re (fr' := [(1, i64 a_1), (2, i64 b_2), (3, .ref 0 0 0), (8, .sl (List.map G.graph_Edge.av r116)), (10, i64 i284), (9, bl (decide (x364.B = b_2)))]) (H' := ⟨1, [(0, (2, [G.graph_Graph.av g_0]))]⟩) [(0, 0)] [] rfl rfl rfl (.cons rfl rfl (.one (.same _ (by simp)) rfl) (of_decide_eq_true rfl) (trivial)) ⟨⟨_, rfl, .same _ (by simp)⟩, ⟨_, rfl, .same _ (by simp)⟩, ⟨_, rfl, .ref rfl⟩, ⟨.sl (List.map G.graph_Edge.av r116), rfl, .same _ (by simp)⟩, ⟨_, rfl, .same _ (by simp)⟩, ⟨_, rfl, .same _ (by simp)⟩, trivial⟩)
                      · rw [hb363]
                        replace h := Sh.if_f h hb363
                        refine AR.skip rfl ?_
                        refine AR.skip rfl ?_
                        refine AR.drop (frx := [(1, _), (2, _), (3, _), (8, _), (10, _), (93, _), (94, _), (95, _), (96, _), (97, _), (98, _), (99, _), (100, _), (101, _), (102, _), (103, _)]) ⟨rfl, rfl, rfl, rfl, rfl, rfl, rfl, rfl, rfl, rfl, rfl, rfl, rfl, rfl, rfl, rfl, trivial⟩ ?_
                        refine AR.skip rfl ?_
                        refine AR.skip rfl ?_
                        refine AR.skip rfl ?_
                        refine AR.drop (frx := [(1, _), (2, _), (3, _), (8, _), (10, _), (93, _), (94, _), (95, _), (96, _), (97, _), (98, _), (99, _), (100, _), (101, _), (102, _), (103, _), (104, _), (105, _), (106, _)]) ⟨rfl, rfl, rfl, rfl, rfl, rfl, rfl, rfl, rfl, rfl, rfl, rfl, rfl, rfl, rfl, rfl, rfl, rfl, rfl, trivial⟩ ?_
                        refine AR.skip rfl ?_
                        refine AR.skip rfl ?_
                        refine AR.op (r := bl false) rfl (aop_pick rfl rfl rfl) ?_
                        refine AR.drop (frx := [(1, _), (2, _), (3, _), (8, _), (10, _), (93, _), (94, _), (95, _), (96, _), (97, _), (98, _), (99, _), (100, _), (101, _), (102, _), (103, _), (104, _), (105, _), (106, _), (107, _), (108, _), (109, _)]) ⟨rfl, rfl, rfl, rfl, rfl, rfl, rfl, rfl, rfl, rfl, rfl, rfl, rfl, rfl, rfl, rfl, rfl, rfl, rfl, rfl, rfl, rfl, trivial⟩ ?_
                        refine AR.op (r := bl false) rfl (aop_pick rfl rfl rfl) ?_
                        refine AR.op (r := bl false) rfl (aop_move (.inr rfl) rfl) ?_
                        refine AR.nil ?_
                        exact hK16 false _ h (Weak.re (fr' := [(1, i64 a_1), (2, i64 b_2), (3, .ref 0 0 0), (8, .sl (List.map G.graph_Edge.av r116)), (10, i64 i284), (9, bl false)]) (H' := ⟨1, [(0, (2, [G.graph_Graph.av g_0]))]⟩) [(0, 0)] [] rfl rfl rfl (.cons rfl rfl (.one (.same _ (by simp)) rfl) (of_decide_eq_true rfl) (trivial)) ⟨⟨_, rfl, .same _ (by simp)⟩, ⟨_, rfl, .same _ (by simp)⟩, ⟨_, rfl, .ref rfl⟩, ⟨.sl (List.map G.graph_Edge.av r116), rfl, .same _ (by simp)⟩, ⟨_, rfl, .same _ (by simp)⟩, ⟨_, rfl, .same _ (by simp)⟩, trivial⟩)
                · intro K19 hK19
                  refine awp_any (by kernel_rfl) (by kernel_rfl) rfl ?_
                  refine ARH.op (r := G.graph_Graph.av g_0) rfl rfl (aop_load_ref rfl rfl rfl rfl sz24 rfl) ?_
                  refine ARH.dry (r := .sl (List.map G.graph_Edge.av r116)) rfl (fun _ => aop_move (.inl rfl) rfl) ?_
                  refine ARH.dry (r := i64 i284) rfl (fun _ => aop_move (.inl rfl) rfl) ?_
                  refine ARH.drop (frx := [(1, _), (2, _), (3, _), (8, _), (9, _), (10, _), (33, _), (34, _), (35, _)]) ⟨rfl, rfl, rfl, rfl, rfl, rfl, rfl, rfl, rfl, trivial⟩ ?_
                  obtain ⟨x366, hx366, h⟩ := Sh.bind_some' h
                  obtain ⟨k367, hi367, hl367⟩ := Sh.idx_some hx366
                  refine ARH.op rfl rfl (t_index_sl G.graph_Edge.av r116 hi367 hl367 rfl rfl rfl el36 rfl) ?_
                  refine ARH.op rfl rfl (aop_field_pp rfl rfl fd43_0 (by decide)) ?_
                  refine ARH.op (r := i64 x366.A) rfl rfl (aop_load_pp rfl rfl sz3 rfl) ?_
                  refine ARH.drop (frx := [(1, _), (2, _), (3, _), (8, _), (9, _), (10, _), (33, _), (38, _)]) ⟨rfl, rfl, rfl, rfl, rfl, rfl, rfl, rfl, trivial⟩ ?_
                  refine ARH.dry (r := .sl (List.map G.graph_Edge.av r116)) rfl (fun _ => aop_move (.inl rfl) rfl) ?_
                  refine ARH.dry (r := i64 i284) rfl (fun _ => aop_move (.inl rfl) rfl) ?_
                  obtain ⟨x368, hx368, h⟩ := Sh.bind_some' h
                  obtain ⟨k369, hi369, hl369⟩ := Sh.idx_some hx368
                  refine ARH.op rfl rfl (t_index_sl G.graph_Edge.av r116 hi369 hl369 rfl rfl rfl el36 rfl) ?_
                  refine ARH.drop (frx := [(1, _), (2, _), (3, _), (8, _), (9, _), (10, _), (33, _), (38, _), (41, _)]) ⟨rfl, rfl, rfl, rfl, rfl, rfl, rfl, rfl, rfl, trivial⟩ ?_
                  refine ARH.op rfl rfl (aop_field_pp rfl rfl fd43_1 (by decide)) ?_
                  refine ARH.op (r := i64 x368.B) rfl rfl (aop_load_pp rfl rfl sz3 rfl) ?_
                  obtain ⟨r370, hr370, h⟩ := Sh.bind_some' h
                  refine ARH.op (r := bl r370) rfl rfl (aop_call1 rfl rfl (by simp) (graph_Has_ok hT hr370)) ?_
                  refine ARH.drop (frx := [(1, _), (2, _), (3, _), (8, _), (9, _), (10, _), (44, _)]) ⟨rfl, rfl, rfl, rfl, rfl, rfl, rfl, trivial⟩ ?_
                  refine ARH.dry (r := bl (!r370)) rfl (fun _ => aop_not rfl rfl) ?_
                  refine ARH.dry (r := bl (!r370)) rfl (fun _ => aop_move (.inl rfl) rfl) ?_
                  rcases Bool.eq_false_or_eq_true (!r370) with hb371 | hb371
                  · rw [hb371]
                    replace h := Sh.if_t h hb371
                    refine ARH.skip rfl ?_
                    refine ARH.drop (frx := [(1, _), (2, _), (3, _), (8, _), (9, _), (10, _), (46, _), (47, _)]) ⟨rfl, rfl, rfl, rfl, rfl, rfl, rfl, rfl, trivial⟩ ?_
                    refine ARH.skip rfl ?_
                    refine ARH.skip rfl ?_
                    refine ARH.skip rfl ?_
                    refine ARH.drop (frx := [(1, _), (2, _), (3, _), (8, _), (9, _), (10, _), (46, _), (47, _), (48, _), (49, _), (50, _)]) ⟨rfl, rfl, rfl, rfl, rfl, rfl, rfl, rfl, rfl, rfl, rfl, trivial⟩ ?_
                    refine ARH.skip rfl ?_
                    refine ARH.skip rfl ?_
                    refine ARH.skip rfl ?_
                    refine ARH.drop (frx := [(1, _), (2, _), (3, _), (8, _), (9, _), (10, _), (46, _), (47, _), (48, _), (49, _), (50, _), (51, _), (52, _), (53, _)]) ⟨rfl, rfl, rfl, rfl, rfl, rfl, rfl, rfl, rfl, rfl, rfl, rfl, rfl, rfl, trivial⟩ ?_
                    refine ARH.skip rfl ?_
                    refine ARH.skip rfl ?_
                    refine ARH.skip rfl ?_
                    refine ARH.drop (frx := [(1, _), (2, _), (3, _), (8, _), (9, _), (10, _), (46, _), (47, _), (48, _), (49, _), (50, _), (51, _), (52, _), (53, _), (54, _), (55, _), (56, _)]) ⟨rfl, rfl, rfl, rfl, rfl, rfl, rfl, rfl, rfl, rfl, rfl, rfl, rfl, rfl, rfl, rfl, rfl, trivial⟩ ?_
                    refine ARH.skip rfl ?_
                    refine ARH.skip rfl ?_
                    refine ARH.skip rfl ?_
                    refine ARH.drop (frx := [(1, _), (2, _), (3, _), (8, _), (9, _), (10, _), (46, _), (47, _), (48, _), (49, _), (50, _), (51, _), (52, _), (53, _), (54, _), (55, _), (56, _), (57, _), (58, _), (59, _)]) ⟨rfl, rfl, rfl, rfl, rfl, rfl, rfl, rfl, rfl, rfl, rfl, rfl, rfl, rfl, rfl, rfl, rfl, rfl, rfl, rfl, trivial⟩ ?_
                    refine ARH.skip rfl ?_
                    refine ARH.skip rfl ?_
                    refine ARH.skip rfl ?_
                    refine ARH.drop (frx := [(1, _), (2, _), (3, _), (8, _), (9, _), (10, _), (46, _), (47, _), (48, _), (49, _), (50, _), (51, _), (52, _), (53, _), (54, _), (55, _), (56, _), (57, _), (58, _), (59, _), (60, _), (61, _), (62, _)]) ⟨rfl, rfl, rfl, rfl, rfl, rfl, rfl, rfl, rfl, rfl, rfl, rfl, rfl, rfl, rfl, rfl, rfl, rfl, rfl, rfl, rfl, rfl, rfl, trivial⟩ ?_
                    refine ARH.skip rfl ?_
                    refine ARH.skip rfl ?_
                    refine ARH.skip rfl ?_
                    refine ARH.drop (frx := [(1, _), (2, _), (3, _), (8, _), (9, _), (10, _), (46, _), (47, _), (48, _), (49, _), (50, _), (51, _), (52, _), (53, _), (54, _), (55, _), (56, _), (57, _), (58, _), (59, _), (60, _), (61, _), (62, _), (63, _), (64, _), (65, _)]) ⟨rfl, rfl, rfl, rfl, rfl, rfl, rfl, rfl, rfl, rfl, rfl, rfl, rfl, rfl, rfl, rfl, rfl, rfl, rfl, rfl, rfl, rfl, rfl, rfl, rfl, rfl, trivial⟩ ?_
                    refine ARH.skip rfl ?_
                    refine ARH.skip rfl ?_
                    refine ARH.skip rfl ?_
                    refine ARH.drop (frx := [(1, _), (2, _), (3, _), (8, _), (9, _), (10, _), (46, _), (47, _), (48, _), (49, _), (50, _), (51, _), (52, _), (53, _), (54, _), (55, _), (56, _), (57, _), (58, _), (59, _), (60, _), (61, _), (62, _), (63, _), (64, _), (65, _), (66, _), (67, _), (68, _)]) ⟨rfl, rfl, rfl, rfl, rfl, rfl, rfl, rfl, rfl, rfl, rfl, rfl, rfl, rfl, rfl, rfl, rfl, rfl, rfl, rfl, rfl, rfl, rfl, rfl, rfl, rfl, rfl, rfl, rfl, trivial⟩ ?_
                    refine ARH.skip rfl ?_
                    refine ARH.skip rfl ?_
                    refine ARH.skip rfl ?_
                    refine ARH.drop (frx := [(1, _), (2, _), (3, _), (8, _), (9, _), (10, _), (46, _), (47, _), (48, _), (49, _), (50, _), (51, _), (52, _), (53, _), (54, _), (55, _), (56, _), (57, _), (58, _), (59, _), (60, _), (61, _), (62, _), (63, _), (64, _), (65, _), (66, _), (67, _), (68, _), (69, _), (70, _), (71, _)]) ⟨rfl, rfl, rfl, rfl, rfl, rfl, rfl, rfl, rfl, rfl, rfl, rfl, rfl, rfl, rfl, rfl, rfl, rfl, rfl, rfl, rfl, rfl, rfl, rfl, rfl, rfl, rfl, rfl, rfl, rfl, rfl, rfl, trivial⟩ ?_
                    refine ARH.skip rfl ?_
                    refine ARH.skip rfl ?_
                    refine ARH.skip rfl ?_
                    refine ARH.drop (frx := [(1, _), (2, _), (3, _), (8, _), (9, _), (10, _), (46, _), (47, _), (48, _), (49, _), (50, _), (51, _), (52, _), (53, _), (54, _), (55, _), (56, _), (57, _), (58, _), (59, _), (60, _), (61, _), (62, _), (63, _), (64, _), (65, _), (66, _), (67, _), (68, _), (69, _), (70, _), (71, _), (72, _), (73, _), (74, _)]) ⟨rfl, rfl, rfl, rfl, rfl, rfl, rfl, rfl, rfl, rfl, rfl, rfl, rfl, rfl, rfl, rfl, rfl, rfl, rfl, rfl, rfl, rfl, rfl, rfl, rfl, rfl, rfl, rfl, rfl, rfl, rfl, rfl, rfl, rfl, rfl, trivial⟩ ?_
                    refine ARH.skip rfl ?_
                    refine ARH.skip rfl ?_
                    refine ARH.skip rfl ?_
                    refine ARH.drop (frx := [(1, _), (2, _), (3, _), (8, _), (9, _), (10, _), (46, _), (47, _), (48, _), (49, _), (50, _), (51, _), (52, _), (53, _), (54, _), (55, _), (56, _), (57, _), (58, _), (59, _), (60, _), (61, _), (62, _), (63, _), (64, _), (65, _), (66, _), (67, _), (68, _), (69, _), (70, _), (71, _), (72, _), (73, _), (74, _), (75, _), (76, _), (77, _)]) ⟨rfl, rfl, rfl, rfl, rfl, rfl, rfl, rfl, rfl, rfl, rfl, rfl, rfl, rfl, rfl, rfl, rfl, rfl, rfl, rfl, rfl, rfl, rfl, rfl, rfl, rfl, rfl, rfl, rfl, rfl, rfl, rfl, rfl, rfl, rfl, rfl, rfl, rfl, trivial⟩ ?_
                    refine ARH.skip rfl ?_
                    refine ARH.skip rfl ?_
                    refine ARH.skip rfl ?_
                    refine ARH.drop (frx := [(1, _), (2, _), (3, _), (8, _), (9, _), (10, _), (46, _), (47, _), (48, _), (49, _), (50, _), (51, _), (52, _), (53, _), (54, _), (55, _), (56, _), (57, _), (58, _), (59, _), (60, _), (61, _), (62, _), (63, _), (64, _), (65, _), (66, _), (67, _), (68, _), (69, _), (70, _), (71, _), (72, _), (73, _), (74, _), (75, _), (76, _), (77, _), (78, _), (79, _), (80, _)]) ⟨rfl, rfl, rfl, rfl, rfl, rfl, rfl, rfl, rfl, rfl, rfl, rfl, rfl, rfl, rfl, rfl, rfl, rfl, rfl, rfl, rfl, rfl, rfl, rfl, rfl, rfl, rfl, rfl, rfl, rfl, rfl, rfl, rfl, rfl, rfl, rfl, rfl, rfl, rfl, rfl, rfl, trivial⟩ ?_
                    refine ARH.skip rfl ?_
                    refine ARH.skip rfl ?_
                    refine ARH.skip rfl ?_
                    refine ARH.drop (frx := [(1, _), (2, _), (3, _), (8, _), (9, _), (10, _), (46, _), (47, _), (48, _), (49, _), (50, _), (51, _), (52, _), (53, _), (54, _), (55, _), (56, _), (57, _), (58, _), (59, _), (60, _), (61, _), (62, _), (63, _), (64, _), (65, _), (66, _), (67, _), (68, _), (69, _), (70, _), (71, _), (72, _), (73, _), (74, _), (75, _), (76, _), (77, _), (78, _), (79, _), (80, _), (81, _), (82, _), (83, _)]) ⟨rfl, rfl, rfl, rfl, rfl, rfl, rfl, rfl, rfl, rfl, rfl, rfl, rfl, rfl, rfl, rfl, rfl, rfl, rfl, rfl, rfl, rfl, rfl, rfl, rfl, rfl, rfl, rfl, rfl, rfl, rfl, rfl, rfl, rfl, rfl, rfl, rfl, rfl, rfl, rfl, rfl, rfl, rfl, rfl, trivial⟩ ?_
                    refine ARH.skip rfl ?_
                    refine ARH.skip rfl ?_
                    refine ARH.skip rfl ?_
                    refine ARH.drop (frx := [(1, _), (2, _), (3, _), (8, _), (9, _), (10, _), (46, _), (47, _), (48, _), (49, _), (50, _), (51, _), (52, _), (53, _), (54, _), (55, _), (56, _), (57, _), (58, _), (59, _), (60, _), (61, _), (62, _), (63, _), (64, _), (65, _), (66, _), (67, _), (68, _), (69, _), (70, _), (71, _), (72, _), (73, _), (74, _), (75, _), (76, _), (77, _), (78, _), (79, _), (80, _), (81, _), (82, _), (83, _), (84, _), (85, _), (86, _)]) ⟨rfl, rfl, rfl, rfl, rfl, rfl, rfl, rfl, rfl, rfl, rfl, rfl, rfl, rfl, rfl, rfl, rfl, rfl, rfl, rfl, rfl, rfl, rfl, rfl, rfl, rfl, rfl, rfl, rfl, rfl, rfl, rfl, rfl, rfl, rfl, rfl, rfl, rfl, rfl, rfl, rfl, rfl, rfl, rfl, rfl, rfl, rfl, trivial⟩ ?_
                    refine ARH.skip rfl ?_
                    refine ARH.skip rfl ?_
                    refine ARH.skip rfl ?_
                    refine ARH.drop (frx := [(1, _), (2, _), (3, _), (8, _), (9, _), (10, _), (46, _), (47, _), (48, _), (49, _), (50, _), (51, _), (52, _), (53, _), (54, _), (55, _), (56, _), (57, _), (58, _), (59, _), (60, _), (61, _), (62, _), (63, _), (64, _), (65, _), (66, _), (67, _), (68, _), (69, _), (70, _), (71, _), (72, _), (73, _), (74, _), (75, _), (76, _), (77, _), (78, _), (79, _), (80, _), (81, _), (82, _), (83, _), (84, _), (85, _), (86, _), (87, _), (88, _), (89, _)]) ⟨rfl, rfl, rfl, rfl, rfl, rfl, rfl, rfl, rfl, rfl, rfl, rfl, rfl, rfl, rfl, rfl, rfl, rfl, rfl, rfl, rfl, rfl, rfl, rfl, rfl, rfl, rfl, rfl, rfl, rfl, rfl, rfl, rfl, rfl, rfl, rfl, rfl, rfl, rfl, rfl, rfl, rfl, rfl, rfl, rfl, rfl, rfl, rfl, rfl, rfl, trivial⟩ ?_
                    refine ARH.skip rfl ?_
                    refine ARH.dry (r := bl true) rfl (fun _ => aop_pick rfl rfl rfl) ?_
                    refine ARH.nil ?_
                    exact hK19 true _ h (Weak.re (fr' := [(1, i64 a_1), (2, i64 b_2), (3, .ref 0 0 0), (8, .sl (List.map G.graph_Edge.av r116)), (9, bl in283), (10, i64 i284), (91, bl true)]) (H' := ⟨1, [(0, (2, [G.graph_Graph.av g_0]))]⟩) [(0, 0)] [] rfl rfl rfl (.cons rfl rfl (.one (.same _ (by simp)) rfl) (of_decide_eq_true rfl) (trivial)) ⟨⟨_, rfl, .same _ (by simp)⟩, ⟨_, rfl, .same _ (by simp)⟩, ⟨_, rfl, .ref rfl⟩, ⟨.sl (List.map G.graph_Edge.av r116), rfl, .same _ (by simp)⟩, ⟨_, rfl, .same _ (by simp)⟩, ⟨_, rfl, .same _ (by simp)⟩, ⟨_, rfl, .same _ (by simp)⟩, trivial⟩)
                  · rw [hb371]
                    replace h := Sh.if_f h hb371
                    refine ARH.dry (r := i64 i284) rfl (fun _ => aop_move (.inl rfl) rfl) ?_
                    refine ARH.drop (frx := [(1, _), (2, _), (3, _), (8, _), (9, _), (10, _), (46, _), (47, _)]) ⟨rfl, rfl, rfl, rfl, rfl, rfl, rfl, rfl, trivial⟩ ?_
                    refine ARH.dry (r := bl (decide ((0 : Int) < i284))) rfl (fun _ => aop_gtr rfl rfl rfl) ?_
                    refine ARH.dry (r := bl (decide ((0 : Int) < i284))) rfl (fun _ => aop_move (.inl rfl) rfl) ?_
                    rcases Bool.eq_false_or_eq_true (decide ((0 : Int) < i284)) with hb372 | hb372
                    · rw [hb372]
                      replace h := Sh.if_t h hb372
                      refine ARH.dry (r := .sl (List.map G.graph_Edge.av r116)) rfl (fun _ => aop_move (.inl rfl) rfl) ?_
                      refine ARH.drop (frx := [(1, _), (2, _), (3, _), (8, _), (9, _), (10, _), (46, _), (47, _), (48, _), (49, _), (50, _)]) ⟨rfl, rfl, rfl, rfl, rfl, rfl, rfl, rfl, rfl, rfl, rfl, trivial⟩ ?_
                      refine ARH.dry (r := i64 i284) rfl (fun _ => aop_move (.inl rfl) rfl) ?_
                      obtain ⟨x373, hx373, h⟩ := Sh.bind_some' h
                      obtain ⟨k374, hi374, hl374⟩ := Sh.idx_some hx373
                      refine ARH.op rfl rfl (t_index_sl G.graph_Edge.av r116 hi374 hl374 rfl rfl rfl el36 rfl) ?_
                      refine ARH.op rfl rfl (aop_field_pp rfl rfl fd43_0 (by decide)) ?_
                      refine ARH.drop (frx := [(1, _), (2, _), (3, _), (8, _), (9, _), (10, _), (46, _), (47, _), (48, _), (49, _), (50, _), (51, _), (52, _), (53, _)]) ⟨rfl, rfl, rfl, rfl, rfl, rfl, rfl, rfl, rfl, rfl, rfl, rfl, rfl, rfl, trivial⟩ ?_
                      refine ARH.op (r := i64 x373.A) rfl rfl (aop_load_pp rfl rfl sz3 rfl) ?_
                      refine ARH.dry (r := .sl (List.map G.graph_Edge.av r116)) rfl (fun _ => aop_move (.inl rfl) rfl) ?_
                      refine ARH.dry (r := i64 i284) rfl (fun _ => aop_move (.inl rfl) rfl) ?_
                      refine ARH.drop (frx := [(1, _), (2, _), (3, _), (8, _), (9, _), (10, _), (46, _), (47, _), (48, _), (49, _), (50, _), (51, _), (52, _), (53, _), (54, _), (55, _), (56, _)]) ⟨rfl, rfl, rfl, rfl, rfl, rfl, rfl, rfl, rfl, rfl, rfl, rfl, rfl, rfl, rfl, rfl, rfl, trivial⟩ ?_
                      refine ARH.dry (r := i64 (w64 (i284 - 1))) rfl (fun _ => aop_sub rfl rfl rfl rfl) ?_
                      obtain ⟨x375, hx375, h⟩ := Sh.bind_some' h
                      obtain ⟨k376, hi376, hl376⟩ := Sh.idx_some hx375
                      refine ARH.op rfl rfl (t_index_sl G.graph_Edge.av r116 hi376 hl376 rfl rfl rfl el36 rfl) ?_
                      refine ARH.op rfl rfl (aop_field_pp rfl rfl fd43_0 (by decide)) ?_
                      refine ARH.drop (frx := [(1, _), (2, _), (3, _), (8, _), (9, _), (10, _), (46, _), (47, _), (48, _), (49, _), (50, _), (51, _), (52, _), (53, _), (54, _), (55, _), (56, _), (57, _), (58, _), (59, _)]) ⟨rfl, rfl, rfl, rfl, rfl, rfl, rfl, rfl, rfl, rfl, rfl, rfl, rfl, rfl, rfl, rfl, rfl, rfl, rfl, rfl, trivial⟩ ?_
                      refine ARH.op (r := i64 x375.A) rfl rfl (aop_load_pp rfl rfl sz3 rfl) ?_
                      refine ARH.dry (r := bl (decide (x373.A < x375.A))) rfl (fun _ => aop_lss rfl rfl rfl) ?_
                      refine ARH.dry (r := bl (decide (x373.A < x375.A))) rfl (fun _ => aop_move (.inl rfl) rfl) ?_
                      refine ARH.drop (frx := [(1, _), (2, _), (3, _), (8, _), (9, _), (10, _), (46, _), (47, _), (48, _), (49, _), (50, _), (51, _), (52, _), (53, _), (54, _), (55, _), (56, _), (57, _), (58, _), (59, _), (60, _), (61, _), (62, _)]) ⟨rfl, rfl, rfl, rfl, rfl, rfl, rfl, rfl, rfl, rfl, rfl, rfl, rfl, rfl, rfl, rfl, rfl, rfl, rfl, rfl, rfl, rfl, rfl, trivial⟩ ?_
                      rcases Bool.eq_false_or_eq_true (decide (x373.A < x375.A)) with hb377 | hb377
                      · rw [hb377]
                        replace h := Sh.if_t h hb377
                        refine ARH.skip rfl ?_
                        refine ARH.skip rfl ?_
                        refine ARH.skip rfl ?_
                        refine ARH.drop (frx := [(1, _), (2, _), (3, _), (8, _), (9, _), (10, _), (46, _), (47, _), (48, _), (49, _), (50, _), (51, _), (52, _), (53, _), (54, _), (55, _), (56, _), (57, _), (58, _), (59, _), (60, _), (61, _), (62, _), (63, _), (64, _), (65, _)]) ⟨rfl, rfl, rfl, rfl, rfl, rfl, rfl, rfl, rfl, rfl, rfl, rfl, rfl, rfl, rfl, rfl, rfl, rfl, rfl, rfl, rfl, rfl, rfl, rfl, rfl, rfl, trivial⟩ ?_
                        refine ARH.skip rfl ?_
                        refine ARH.skip rfl ?_
                        refine ARH.skip rfl ?_
                        refine ARH.drop (frx := [(1, _), (2, _), (3, _), (8, _), (9, _), (10, _), (46, _), (47, _), (48, _), (49, _), (50, _), (51, _), (52, _), (53, _), (54, _), (55, _), (56, _), (57, _), (58, _), (59, _), (60, _), (61, _), (62, _), (63, _), (64, _), (65, _), (66, _), (67, _), (68, _)]) ⟨rfl, rfl, rfl, rfl, rfl, rfl, rfl, rfl, rfl, rfl, rfl, rfl, rfl, rfl, rfl, rfl, rfl, rfl, rfl, rfl, rfl, rfl, rfl, rfl, rfl, rfl, rfl, rfl, rfl, trivial⟩ ?_
                        refine ARH.skip rfl ?_
                        refine ARH.skip rfl ?_
                        refine ARH.skip rfl ?_
                        refine ARH.drop (frx := [(1, _), (2, _), (3, _), (8, _), (9, _), (10, _), (46, _), (47, _), (48, _), (49, _), (50, _), (51, _), (52, _), (53, _), (54, _), (55, _), (56, _), (57, _), (58, _), (59, _), (60, _), (61, _), (62, _), (63, _), (64, _), (65, _), (66, _), (67, _), (68, _), (69, _), (70, _), (71, _)]) ⟨rfl, rfl, rfl, rfl, rfl, rfl, rfl, rfl, rfl, rfl, rfl, rfl, rfl, rfl, rfl, rfl, rfl, rfl, rfl, rfl, rfl, rfl, rfl, rfl, rfl, rfl, rfl, rfl, rfl, rfl, rfl, rfl, trivial⟩ ?_
                        refine ARH.skip rfl ?_
                        refine ARH.skip rfl ?_
                        refine ARH.skip rfl ?_
                        refine ARH.drop (frx := [(1, _), (2, _), (3, _), (8, _), (9, _), (10, _), (46, _), (47, _), (48, _), (49, _), (50, _), (51, _), (52, _), (53, _), (54, _), (55, _), (56, _), (57, _), (58, _), (59, _), (60, _), (61, _), (62, _), (63, _), (64, _), (65, _), (66, _), (67, _), (68, _), (69, _), (70, _), (71, _), (72, _), (73, _), (74, _)]) ⟨rfl, rfl, rfl, rfl, rfl, rfl, rfl, rfl, rfl, rfl, rfl, rfl, rfl, rfl, rfl, rfl, rfl, rfl, rfl, rfl, rfl, rfl, rfl, rfl, rfl, rfl, rfl, rfl, rfl, rfl, rfl, rfl, rfl, rfl, rfl, trivial⟩ ?_
                        refine ARH.skip rfl ?_
                        refine ARH.skip rfl ?_
                        refine ARH.skip rfl ?_
                        refine ARH.drop (frx := [(1, _), (2, _), (3, _), (8, _), (9, _), (10, _), (46, _), (47, _), (48, _), (49, _), (50, _), (51, _), (52, _), (53, _), (54, _), (55, _), (56, _), (57, _), (58, _), (59, _), (60, _), (61, _), (62, _), (63, _), (64, _), (65, _), (66, _), (67, _), (68, _), (69, _), (70, _), (71, _), (72, _), (73, _), (74, _), (75, _), (76, _), (77, _)]) ⟨rfl, rfl, rfl, rfl, rfl, rfl, rfl, rfl, rfl, rfl, rfl, rfl, rfl, rfl, rfl, rfl, rfl, rfl, rfl, rfl, rfl, rfl, rfl, rfl, rfl, rfl, rfl, rfl, rfl, rfl, rfl, rfl, rfl, rfl, rfl, rfl, rfl, rfl, trivial⟩ ?_
                        refine ARH.skip rfl ?_
                        refine ARH.skip rfl ?_
                        refine ARH.skip rfl ?_
                        refine ARH.drop (frx := [(1, _), (2, _), (3, _), (8, _), (9, _), (10, _), (46, _), (47, _), (48, _), (49, _), (50, _), (51, _), (52, _), (53, _), (54, _), (55, _), (56, _), (57, _), (58, _), (59, _), (60, _), (61, _), (62, _), (63, _), (64, _), (65, _), (66, _), (67, _), (68, _), (69, _), (70, _), (71, _), (72, _), (73, _), (74, _), (75, _), (76, _), (77, _), (78, _), (79, _), (80, _)]) ⟨rfl, rfl, rfl, rfl, rfl, rfl, rfl, rfl, rfl, rfl, rfl, rfl, rfl, rfl, rfl, rfl, rfl, rfl, rfl, rfl, rfl, rfl, rfl, rfl, rfl, rfl, rfl, rfl, rfl, rfl, rfl, rfl, rfl, rfl, rfl, rfl, rfl, rfl, rfl, rfl, rfl, trivial⟩ ?_
                        refine ARH.skip rfl ?_
                        refine ARH.skip rfl ?_
                        refine ARH.skip rfl ?_
                        refine ARH.drop (frx := [(1, _), (2, _), (3, _), (8, _), (9, _), (10, _), (46, _), (47, _), (48, _), (49, _), (50, _), (51, _), (52, _), (53, _), (54, _), (55, _), (56, _), (57, _), (58, _), (59, _), (60, _), (61, _), (62, _), (63, _), (64, _), (65, _), (66, _), (67, _), (68, _), (69, _), (70, _), (71, _), (72, _), (73, _), (74, _), (75, _), (76, _), (77, _), (78, _), (79, _), (80, _), (81, _), (82, _), (83, _)]) ⟨rfl, rfl, rfl, rfl, rfl, rfl, rfl, rfl, rfl, rfl, rfl, rfl, rfl, rfl, rfl, rfl, rfl, rfl, rfl, rfl, rfl, rfl, rfl, rfl, rfl, rfl, rfl, rfl, rfl, rfl, rfl, rfl, rfl, rfl, rfl, rfl, rfl, rfl, rfl, rfl, rfl, rfl, rfl, rfl, trivial⟩ ?_
                        refine ARH.skip rfl ?_
                        refine ARH.skip rfl ?_
                        refine ARH.skip rfl ?_
                        refine ARH.drop (frx := [(1, _), (2, _), (3, _), (8, _), (9, _), (10, _), (46, _), (47, _), (48, _), (49, _), (50, _), (51, _), (52, _), (53, _), (54, _), (55, _), (56, _), (57, _), (58, _), (59, _), (60, _), (61, _), (62, _), (63, _), (64, _), (65, _), (66, _), (67, _), (68, _), (69, _), (70, _), (71, _), (72, _), (73, _), (74, _), (75, _), (76, _), (77, _), (78, _), (79, _), (80, _), (81, _), (82, _), (83, _), (84, _), (85, _), (86, _)]) ⟨rfl, rfl, rfl, rfl, rfl, rfl, rfl, rfl, rfl, rfl, rfl, rfl, rfl, rfl, rfl, rfl, rfl, rfl, rfl, rfl, rfl, rfl, rfl, rfl, rfl, rfl, rfl, rfl, rfl, rfl, rfl, rfl, rfl, rfl, rfl, rfl, rfl, rfl, rfl, rfl, rfl, rfl, rfl, rfl, rfl, rfl, rfl, trivial⟩ ?_
                        refine ARH.skip rfl ?_
                        refine ARH.skip rfl ?_
                        refine ARH.dry (r := bl true) rfl (fun _ => aop_pick rfl rfl rfl) ?_
                        refine ARH.drop (frx := [(1, _), (2, _), (3, _), (8, _), (9, _), (10, _), (46, _), (47, _), (48, _), (49, _), (50, _), (51, _), (52, _), (53, _), (54, _), (55, _), (56, _), (57, _), (58, _), (59, _), (60, _), (61, _), (62, _), (63, _), (64, _), (65, _), (66, _), (67, _), (68, _), (69, _), (70, _), (71, _), (72, _), (73, _), (74, _), (75, _), (76, _), (77, _), (78, _), (79, _), (80, _), (81, _), (82, _), (83, _), (84, _), (85, _), (86, _), (87, _), (88, _), (89, _)]) ⟨rfl, rfl, rfl, rfl, rfl, rfl, rfl, rfl, rfl, rfl, rfl, rfl, rfl, rfl, rfl, rfl, rfl, rfl, rfl, rfl, rfl, rfl, rfl, rfl, rfl, rfl, rfl, rfl, rfl, rfl, rfl, rfl, rfl, rfl, rfl, rfl, rfl, rfl, rfl, rfl, rfl, rfl, rfl, rfl, rfl, rfl, rfl, rfl, rfl, rfl, trivial⟩ ?_
                        refine ARH.dry (r := bl true) rfl (fun _ => aop_pick rfl rfl rfl) ?_
                        refine ARH.dry (r := bl true) rfl (fun _ => aop_pick rfl rfl rfl) ?_
                        refine ARH.nil ?_
                        exact hK19 true _ h (Weak.re (fr' := [(1, i64 a_1), (2, i64 b_2), (3, .ref 0 0 0), (8, .sl (List.map G.graph_Edge.av r116)), (9, bl in283), (10, i64 i284), (91, bl true)]) (H' := ⟨1, [(0, (2, [G.graph_Graph.av g_0]))]⟩) [(0, 0)] [] rfl rfl rfl (.cons rfl rfl (.one (.same _ (by simp)) rfl) (of_decide_eq_true rfl) (trivial)) ⟨⟨_, rfl, .same _ (by simp)⟩, ⟨_, rfl, .same _ (by simp)⟩, ⟨_, rfl, .ref rfl⟩, ⟨.sl (List.map G.graph_Edge.av r116), rfl, .same _ (by simp)⟩, ⟨_, rfl, .same _ (by simp)⟩, ⟨_, rfl, .same _ (by simp)⟩, ⟨_, rfl, .same _ (by simp)⟩, trivial⟩)
                      · rw [hb377]
                        replace h := Sh.if_f h hb377
                        refine ARH.dry (r := .sl (List.map G.graph_Edge.av r116)) rfl (fun _ => aop_move (.inl rfl) rfl) ?_
                        refine ARH.dry (r := i64 i284) rfl (fun _ => aop_move (.inl rfl) rfl) ?_
                        obtain ⟨x378, hx378, h⟩ := Sh.bind_some' h
                        obtain ⟨k379, hi379, hl379⟩ := Sh.idx_some hx378
                        refine ARH.op rfl rfl (t_index_sl G.graph_Edge.av r116 hi379 hl379 rfl rfl rfl el36 rfl) ?_
                        refine ARH.drop (frx := [(1, _), (2, _), (3, _), (8, _), (9, _), (10, _), (46, _), (47, _), (48, _), (49, _), (50, _), (51, _), (52, _), (53, _), (54, _), (55, _), (56, _), (57, _), (58, _), (59, _), (60, _), (61, _), (62, _), (63, _), (64, _), (65, _)]) ⟨rfl, rfl, rfl, rfl, rfl, rfl, rfl, rfl, rfl, rfl, rfl, rfl, rfl, rfl, rfl, rfl, rfl, rfl, rfl, rfl, rfl, rfl, rfl, rfl, rfl, rfl, trivial⟩ ?_
                        refine ARH.op rfl rfl (aop_field_pp rfl rfl fd43_0 (by decide)) ?_
                        refine ARH.op (r := i64 x378.A) rfl rfl (aop_load_pp rfl rfl sz3 rfl) ?_
                        refine ARH.dry (r := .sl (List.map G.graph_Edge.av r116)) rfl (fun _ => aop_move (.inl rfl) rfl) ?_
                        refine ARH.drop (frx := [(1, _), (2, _), (3, _), (8, _), (9, _), (10, _), (46, _), (47, _), (48, _), (49, _), (50, _), (51, _), (52, _), (53, _), (54, _), (55, _), (56, _), (57, _), (58, _), (59, _), (60, _), (61, _), (62, _), (63, _), (64, _), (65, _), (66, _), (67, _), (68, _)]) ⟨rfl, rfl, rfl, rfl, rfl, rfl, rfl, rfl, rfl, rfl, rfl, rfl, rfl, rfl, rfl, rfl, rfl, rfl, rfl, rfl, rfl, rfl, rfl, rfl, rfl, rfl, rfl, rfl, rfl, trivial⟩ ?_
                        refine ARH.dry (r := i64 i284) rfl (fun _ => aop_move (.inl rfl) rfl) ?_
                        refine ARH.dry (r := i64 (w64 (i284 - 1))) rfl (fun _ => aop_sub rfl rfl rfl rfl) ?_
                        obtain ⟨x380, hx380, h⟩ := Sh.bind_some' h
                        obtain ⟨k381, hi381, hl381⟩ := Sh.idx_some hx380
                        refine ARH.op rfl rfl (t_index_sl G.graph_Edge.av r116 hi381 hl381 rfl rfl rfl el36 rfl) ?_
                        refine ARH.drop (frx := [(1, _), (2, _), (3, _), (8, _), (9, _), (10, _), (46, _), (47, _), (48, _), (49, _), (50, _), (51, _), (52, _), (53, _), (54, _), (55, _), (56, _), (57, _), (58, _), (59, _), (60, _), (61, _), (62, _), (63, _), (64, _), (65, _), (66, _), (67, _), (68, _), (69, _), (70, _), (71, _)]) ⟨rfl, rfl, rfl, rfl, rfl, rfl, rfl, rfl, rfl, rfl, rfl, rfl, rfl, rfl, rfl, rfl, rfl, rfl, rfl, rfl, rfl, rfl, rfl, rfl, rfl, rfl, rfl, rfl, rfl, rfl, rfl, rfl, trivial⟩ ?_
                        refine ARH.op rfl rfl (aop_field_pp rfl rfl fd43_0 (by decide)) ?_
                        refine ARH.op (r := i64 x380.A) rfl rfl (aop_load_pp rfl rfl sz3 rfl) ?_
                        refine ARH.dry (r := bl (decide (x378.A = x380.A))) rfl (fun _ => aop_eql rfl rfl rfl) ?_
                        refine ARH.drop (frx := [(1, _), (2, _), (3, _), (8, _), (9, _), (10, _), (46, _), (47, _), (48, _), (49, _), (50, _), (51, _), (52, _), (53, _), (54, _), (55, _), (56, _), (57, _), (58, _), (59, _), (60, _), (61, _), (62, _), (63, _), (64, _), (65, _), (66, _), (67, _), (68, _), (69, _), (70, _), (71, _), (72, _), (73, _), (74, _)]) ⟨rfl, rfl, rfl, rfl, rfl, rfl, rfl, rfl, rfl, rfl, rfl, rfl, rfl, rfl, rfl, rfl, rfl, rfl, rfl, rfl, rfl, rfl, rfl, rfl, rfl, rfl, rfl, rfl, rfl, rfl, rfl, rfl, rfl, rfl, rfl, trivial⟩ ?_
                        refine ARH.dry (r := bl (decide (x378.A = x380.A))) rfl (fun _ => aop_move (.inl rfl) rfl) ?_
                        rcases Bool.eq_false_or_eq_true (decide (x378.A = x380.A)) with hb382 | hb382
                        · rw [hb382]
                          replace h := Sh.if_t h hb382
                          refine ARH.dry (r := .sl (List.map G.graph_Edge.av r116)) rfl (fun _ => aop_move (.inl rfl) rfl) ?_
                          refine ARH.dry (r := i64 i284) rfl (fun _ => aop_move (.inl rfl) rfl) ?_
                          refine ARH.drop (frx := [(1, _), (2, _), (3, _), (8, _), (9, _), (10, _), (46, _), (47, _), (48, _), (49, _), (50, _), (51, _), (52, _), (53, _), (54, _), (55, _), (56, _), (57, _), (58, _), (59, _), (60, _), (61, _), (62, _), (63, _), (64, _), (65, _), (66, _), (67, _), (68, _), (69, _), (70, _), (71, _), (72, _), (73, _), (74, _), (75, _), (76, _), (77, _)]) ⟨rfl, rfl, rfl, rfl, rfl, rfl, rfl, rfl, rfl, rfl, rfl, rfl, rfl, rfl, rfl, rfl, rfl, rfl, rfl, rfl, rfl, rfl, rfl, rfl, rfl, rfl, rfl, rfl, rfl, rfl, rfl, rfl, rfl, rfl, rfl, rfl, rfl, rfl, trivial⟩ ?_
                          obtain ⟨x383, hx383, h⟩ := Sh.bind_some' h
                          obtain ⟨k384, hi384, hl384⟩ := Sh.idx_some hx383
                          refine ARH.op rfl rfl (t_index_sl G.graph_Edge.av r116 hi384 hl384 rfl rfl rfl el36 rfl) ?_
                          refine ARH.op rfl rfl (aop_field_pp rfl rfl fd43_1 (by decide)) ?_
                          refine ARH.op (r := i64 x383.B) rfl rfl (aop_load_pp rfl rfl sz3 rfl) ?_
                          refine ARH.drop (frx := [(1, _), (2, _), (3, _), (8, _), (9, _), (10, _), (46, _), (47, _), (48, _), (49, _), (50, _), (51, _), (52, _), (53, _), (54, _), (55, _), (56, _), (57, _), (58, _), (59, _), (60, _), (61, _), (62, _), (63, _), (64, _), (65, _), (66, _), (67, _), (68, _), (69, _), (70, _), (71, _), (72, _), (73, _), (74, _), (75, _), (76, _), (77, _), (78, _), (79, _), (80, _)]) ⟨rfl, rfl, rfl, rfl, rfl, rfl, rfl, rfl, rfl, rfl, rfl, rfl, rfl, rfl, rfl, rfl, rfl, rfl, rfl, rfl, rfl, rfl, rfl, rfl, rfl, rfl, rfl, rfl, rfl, rfl, rfl, rfl, rfl, rfl, rfl, rfl, rfl, rfl, rfl, rfl, rfl, trivial⟩ ?_
                          refine ARH.dry (r := .sl (List.map G.graph_Edge.av r116)) rfl (fun _ => aop_move (.inl rfl) rfl) ?_
                          refine ARH.dry (r := i64 i284) rfl (fun _ => aop_move (.inl rfl) rfl) ?_
                          refine ARH.dry (r := i64 (w64 (i284 - 1))) rfl (fun _ => aop_sub rfl rfl rfl rfl) ?_
                          refine ARH.drop (frx := [(1, _), (2, _), (3, _), (8, _), (9, _), (10, _), (46, _), (47, _), (48, _), (49, _), (50, _), (51, _), (52, _), (53, _), (54, _), (55, _), (56, _), (57, _), (58, _), (59, _), (60, _), (61, _), (62, _), (63, _), (64, _), (65, _), (66, _), (67, _), (68, _), (69, _), (70, _), (71, _), (72, _), (73, _), (74, _), (75, _), (76, _), (77, _), (78, _), (79, _), (80, _), (81, _), (82, _), (83, _)]) ⟨rfl, rfl, rfl, rfl, rfl, rfl, rfl, rfl, rfl, rfl, rfl, rfl, rfl, rfl, rfl, rfl, rfl, rfl, rfl, rfl, rfl, rfl, rfl, rfl, rfl, rfl, rfl, rfl, rfl, rfl, rfl, rfl, rfl, rfl, rfl, rfl, rfl, rfl, rfl, rfl, rfl, rfl, rfl, rfl, trivial⟩ ?_
                          obtain ⟨x385, hx385, h⟩ := Sh.bind_some' h
                          obtain ⟨k386, hi386, hl386⟩ := Sh.idx_some hx385
                          refine ARH.op rfl rfl (t_index_sl G.graph_Edge.av r116 hi386 hl386 rfl rfl rfl el36 rfl) ?_
                          refine ARH.op rfl rfl (aop_field_pp rfl rfl fd43_1 (by decide)) ?_
                          refine ARH.op (r := i64 x385.B) rfl rfl (aop_load_pp rfl rfl sz3 rfl) ?_
                          refine ARH.drop (frx := [(1, _), (2, _), (3, _), (8, _), (9, _), (10, _), (46, _), (47, _), (48, _), (49, _), (50, _), (51, _), (52, _), (53, _), (54, _), (55, _), (56, _), (57, _), (58, _), (59, _), (60, _), (61, _), (62, _), (63, _), (64, _), (65, _), (66, _), (67, _), (68, _), (69, _), (70, _), (71, _), (72, _), (73, _), (74, _), (75, _), (76, _), (77, _), (78, _), (79, _), (80, _), (81, _), (82, _), (83, _), (84, _), (85, _), (86, _)]) ⟨rfl, rfl, rfl, rfl, rfl, rfl, rfl, rfl, rfl, rfl, rfl, rfl, rfl, rfl, rfl, rfl, rfl, rfl, rfl, rfl, rfl, rfl, rfl, rfl, rfl, rfl, rfl, rfl, rfl, rfl, rfl, rfl, rfl, rfl, rfl, rfl, rfl, rfl, rfl, rfl, rfl, rfl, rfl, rfl, rfl, rfl, rfl, trivial⟩ ?_
                          refine ARH.dry (r := bl (decide (x383.B ≤ x385.B))) rfl (fun _ => aop_leq rfl rfl rfl) ?_
                          refine ARH.dry (r := bl (decide (x383.B ≤ x385.B))) rfl (fun _ => aop_pick rfl rfl rfl) ?_
                          refine ARH.dry (r := bl (decide (x383.B ≤ x385.B))) rfl (fun _ => aop_pick rfl rfl rfl) ?_
                          refine ARH.drop (frx := [(1, _), (2, _), (3, _), (8, _), (9, _), (10, _), (46, _), (47, _), (48, _), (49, _), (50, _), (51, _), (52, _), (53, _), (54, _), (55, _), (56, _), (57, _), (58, _), (59, _), (60, _), (61, _), (62, _), (63, _), (64, _), (65, _), (66, _), (67, _), (68, _), (69, _), (70, _), (71, _), (72, _), (73, _), (74, _), (75, _), (76, _), (77, _), (78, _), (79, _), (80, _), (81, _), (82, _), (83, _), (84, _), (85, _), (86, _), (87, _), (88, _), (89, _)]) ⟨rfl, rfl, rfl, rfl, rfl, rfl, rfl, rfl, rfl, rfl, rfl, rfl, rfl, rfl, rfl, rfl, rfl, rfl, rfl, rfl, rfl, rfl, rfl, rfl, rfl, rfl, rfl, rfl, rfl, rfl, rfl, rfl, rfl, rfl, rfl, rfl, rfl, rfl, rfl, rfl, rfl, rfl, rfl, rfl, rfl, rfl, rfl, rfl, rfl, rfl, trivial⟩ ?_
                          refine ARH.dry (r := bl (decide (x383.B ≤ x385.B))) rfl (fun _ => aop_pick rfl rfl rfl) ?_
                          refine ARH.dry (r := bl (decide (x383.B ≤ x385.B))) rfl (fun _ => aop_pick rfl rfl rfl) ?_
                          refine ARH.nil ?_
                          exact hK19 (decide (x383.B ≤ x385.B)) _ h (Weak.re (fr' := [(1, i64 a_1), (2, i64 b_2), (3, .ref 0 0 0), (8, .sl (List.map G.graph_Edge.av r116)), (9, bl in283), (10, i64 i284), (91, bl (decide (x383.B ≤ x385.B)))]) (H' := ⟨1, [(0, (2, [G.graph_Graph.av g_0]))]⟩) [(0, 0)] [] rfl rfl rfl (.cons rfl rfl (.one (.same _ (by simp)) rfl) (of_decide_eq_true rfl) (trivial)) ⟨⟨_, rfl, .same _ (by simp)⟩, ⟨_, rfl, .same _ (by simp)⟩, ⟨_, rfl, .ref rfl⟩, ⟨.sl (List.map G.graph_Edge.av r116), rfl, .same _ (by simp)⟩, ⟨_, rfl, .same _ (by simp)⟩, ⟨_, rfl, .same _ (by simp)⟩, ⟨_, rfl, .same _ (by simp)⟩, trivial⟩)
                        · rw [hb382]
                          replace h := Sh.if_f h hb382
                          refine ARH.skip rfl ?_
                          refine ARH.skip rfl ?_
                          refine ARH.drop (frx := [(1, _), (2, _), (3, _), (8, _), (9, _), (10, _), (46, _), (47, _), (48, _), (49, _), (50, _), (51, _), (52, _), (53, _), (54, _), (55, _), (56, _), (57, _), (58, _), (59, _), (60, _), (61, _), (62, _), (63, _), (64, _), (65, _), (66, _), (67, _), (68, _), (69, _), (70, _), (71, _), (72, _), (73, _), (74, _), (75, _), (76, _), (77, _)]) ⟨rfl, rfl, rfl, rfl, rfl, rfl, rfl, rfl, rfl, rfl, rfl, rfl, rfl, rfl, rfl, rfl, rfl, rfl, rfl, rfl, rfl, rfl, rfl, rfl, rfl, rfl, rfl, rfl, rfl, rfl, rfl, rfl, rfl, rfl, rfl, rfl, rfl, rfl, trivial⟩ ?_
                          refine ARH.skip rfl ?_
                          refine ARH.skip rfl ?_
                          refine ARH.skip rfl ?_
                          refine ARH.drop (frx := [(1, _), (2, _), (3, _), (8, _), (9, _), (10, _), (46, _), (47, _), (48, _), (49, _), (50, _), (51, _), (52, _), (53, _), (54, _), (55, _), (56, _), (57, _), (58, _), (59, _), (60, _), (61, _), (62, _), (63, _), (64, _), (65, _), (66, _), (67, _), (68, _), (69, _), (70, _), (71, _), (72, _), (73, _), (74, _), (75, _), (76, _), (77, _), (78, _), (79, _), (80, _)]) ⟨rfl, rfl, rfl, rfl, rfl, rfl, rfl, rfl, rfl, rfl, rfl, rfl, rfl, rfl, rfl, rfl, rfl, rfl, rfl, rfl, rfl, rfl, rfl, rfl, rfl, rfl, rfl, rfl, rfl, rfl, rfl, rfl, rfl, rfl, rfl, rfl, rfl, rfl, rfl, rfl, rfl, trivial⟩ ?_
                          refine ARH.skip rfl ?_
                          refine ARH.skip rfl ?_
                          refine ARH.skip rfl ?_
                          refine ARH.drop (frx := [(1, _), (2, _), (3, _), (8, _), (9, _), (10, _), (46, _), (47, _), (48, _), (49, _), (50, _), (51, _), (52, _), (53, _), (54, _), (55, _), (56, _), (57, _), (58, _), (59, _), (60, _), (61, _), (62, _), (63, _), (64, _), (65, _), (66, _), (67, _), (68, _), (69, _), (70, _), (71, _), (72, _), (73, _), (74, _), (75, _), (76, _), (77, _), (78, _), (79, _), (80, _), (81, _), (82, _), (83, _)]) ⟨rfl, rfl, rfl, rfl, rfl, rfl, rfl, rfl, rfl, rfl, rfl, rfl, rfl, rfl, rfl, rfl, rfl, rfl, rfl, rfl, rfl, rfl, rfl, rfl, rfl, rfl, rfl, rfl, rfl, rfl, rfl, rfl, rfl, rfl, rfl, rfl, rfl, rfl, rfl, rfl, rfl, rfl, rfl, rfl, trivial⟩ ?_
                          refine ARH.skip rfl ?_
                          refine ARH.skip rfl ?_
                          refine ARH.skip rfl ?_
                          refine ARH.drop (frx := [(1, _), (2, _), (3, _), (8, _), (9, _), (10, _), (46, _), (47, _), (48, _), (49, _), (50, _), (51, _), (52, _), (53, _), (54, _), (55, _), (56, _), (57, _), (58, _), (59, _), (60, _), (61, _), (62, _), (63, _), (64, _), (65, _), (66, _), (67, _), (68, _), (69, _), (70, _), (71, _), (72, _), (73, _), (74, _), (75, _), (76, _), (77, _), (78, _), (79, _), (80, _), (81, _), (82, _), (83, _), (84, _), (85, _), (86, _)]) ⟨rfl, rfl, rfl, rfl, rfl, rfl, rfl, rfl, rfl, rfl, rfl, rfl, rfl, rfl, rfl, rfl, rfl, rfl, rfl, rfl, rfl, rfl, rfl, rfl, rfl, rfl, rfl, rfl, rfl, rfl, rfl, rfl, rfl, rfl, rfl, rfl, rfl, rfl, rfl, rfl, rfl, rfl, rfl, rfl, rfl, rfl, rfl, trivial⟩ ?_
                          refine ARH.skip rfl ?_
                          refine ARH.dry (r := bl false) rfl (fun _ => aop_pick rfl rfl rfl) ?_
                          refine ARH.dry (r := bl false) rfl (fun _ => aop_pick rfl rfl rfl) ?_
                          refine ARH.drop (frx := [(1, _), (2, _), (3, _), (8, _), (9, _), (10, _), (46, _), (47, _), (48, _), (49, _), (50, _), (51, _), (52, _), (53, _), (54, _), (55, _), (56, _), (57, _), (58, _), (59, _), (60, _), (61, _), (62, _), (63, _), (64, _), (65, _), (66, _), (67, _), (68, _), (69, _), (70, _), (71, _), (72, _), (73, _), (74, _), (75, _), (76, _), (77, _), (78, _), (79, _), (80, _), (81, _), (82, _), (83, _), (84, _), (85, _), (86, _), (87, _), (88, _), (89, _)]) ⟨rfl, rfl, rfl, rfl, rfl, rfl, rfl, rfl, rfl, rfl, rfl, rfl, rfl, rfl, rfl, rfl, rfl, rfl, rfl, rfl, rfl, rfl, rfl, rfl, rfl, rfl, rfl, rfl, rfl, rfl, rfl, rfl, rfl, rfl, rfl, rfl, rfl, rfl, rfl, rfl, rfl, rfl, rfl, rfl, rfl, rfl, rfl, rfl, rfl, rfl, trivial⟩ ?_
                          refine ARH.dry (r := bl false) rfl (fun _ => aop_pick rfl rfl rfl) ?_
                          refine ARH.dry (r := bl false) rfl (fun _ => aop_pick rfl rfl rfl) ?_
                          refine ARH.nil ?_
                          exact hK19 false _ h (Weak.re (fr' := [(1, i64 a_1), (2, i64 b_2), (3, .ref 0 0 0), (8, .sl (List.map G.graph_Edge.av r116)), (9, bl in283), (10, i64 i284), (91, bl false)]) (H' := ⟨1, [(0, (2, [G.graph_Graph.av g_0]))]⟩) [(0, 0)] [] rfl rfl rfl (.cons rfl rfl (.one (.same _ (by simp)) rfl) (of_decide_eq_true rfl) (trivial)) ⟨⟨_, rfl, .same _ (by simp)⟩, ⟨_, rfl, .same _ (by simp)⟩, ⟨_, rfl, .ref rfl⟩, ⟨.sl (List.map G.graph_Edge.av r116), rfl, .same _ (by simp)⟩, ⟨_, rfl, .same _ (by simp)⟩, ⟨_, rfl, .same _ (by simp)⟩, ⟨_, rfl, .same _ (by simp)⟩, trivial⟩)
                    · rw [hb372]
                      replace h := Sh.if_f h hb372
                      refine ARH.skip rfl ?_
                      refine ARH.drop (frx := [(1, _), (2, _), (3, _), (8, _), (9, _), (10, _), (46, _), (47, _), (48, _), (49, _), (50, _)]) ⟨rfl, rfl, rfl, rfl, rfl, rfl, rfl, rfl, rfl, rfl, rfl, trivial⟩ ?_
                      refine ARH.skip rfl ?_
                      refine ARH.skip rfl ?_
                      refine ARH.skip rfl ?_
                      refine ARH.drop (frx := [(1, _), (2, _), (3, _), (8, _), (9, _), (10, _), (46, _), (47, _), (48, _), (49, _), (50, _), (51, _), (52, _), (53, _)]) ⟨rfl, rfl, rfl, rfl, rfl, rfl, rfl, rfl, rfl, rfl, rfl, rfl, rfl, rfl, trivial⟩ ?_
                      refine ARH.skip rfl ?_
                      refine ARH.skip rfl ?_
                      refine ARH.skip rfl ?_
                      refine ARH.drop (frx := [(1, _), (2, _), (3, _), (8, _), (9, _), (10, _), (46, _), (47, _), (48, _), (49, _), (50, _), (51, _), (52, _), (53, _), (54, _), (55, _), (56, _)]) ⟨rfl, rfl, rfl, rfl, rfl, rfl, rfl, rfl, rfl, rfl, rfl, rfl, rfl, rfl, rfl, rfl, rfl, trivial⟩ ?_
                      refine ARH.skip rfl ?_
                      refine ARH.skip rfl ?_
                      refine ARH.skip rfl ?_
                      refine ARH.drop (frx := [(1, _), (2, _), (3, _), (8, _), (9, _), (10, _), (46, _), (47, _), (48, _), (49, _), (50, _), (51, _), (52, _), (53, _), (54, _), (55, _), (56, _), (57, _), (58, _), (59, _)]) ⟨rfl, rfl, rfl, rfl, rfl, rfl, rfl, rfl, rfl, rfl, rfl, rfl, rfl, rfl, rfl, rfl, rfl, rfl, rfl, rfl, trivial⟩ ?_
                      refine ARH.skip rfl ?_
                      refine ARH.skip rfl ?_
                      refine ARH.skip rfl ?_
                      refine ARH.drop (frx := [(1, _), (2, _), (3, _), (8, _), (9, _), (10, _), (46, _), (47, _), (48, _), (49, _), (50, _), (51, _), (52, _), (53, _), (54, _), (55, _), (56, _), (57, _), (58, _), (59, _), (60, _), (61, _), (62, _)]) ⟨rfl, rfl, rfl, rfl, rfl, rfl, rfl, rfl, rfl, rfl, rfl, rfl, rfl, rfl, rfl, rfl, rfl, rfl, rfl, rfl, rfl, rfl, rfl, trivial⟩ ?_
                      refine ARH.skip rfl ?_
                      refine ARH.skip rfl ?_
                      refine ARH.skip rfl ?_
                      refine ARH.drop (frx := [(1, _), (2, _), (3, _), (8, _), (9, _), (10, _), (46, _), (47, _), (48, _), (49, _), (50, _), (51, _), (52, _), (53, _), (54, _), (55, _), (56, _), (57, _), (58, _), (59, _), (60, _), (61, _), (62, _), (63, _), (64, _), (65, _)]) ⟨rfl, rfl, rfl, rfl, rfl, rfl, rfl, rfl, rfl, rfl, rfl, rfl, rfl, rfl, rfl, rfl, rfl, rfl, rfl, rfl, rfl, rfl, rfl, rfl, rfl, rfl, trivial⟩ ?_
                      refine ARH.skip rfl ?_
                      refine ARH.skip rfl ?_
                      refine ARH.skip rfl ?_
                      refine ARH.drop (frx := [(1, _), (2, _), (3, _), (8, _), (9, _), (10, _), (46, _), (47, _), (48, _), (49, _), (50, _), (51, _), (52, _), (53, _), (54, _), (55, _), (56, _), (57, _), (58, _), (59, _), (60, _), (61, _), (62, _), (63, _), (64, _), (65, _), (66, _), (67, _), (68, _)]) ⟨rfl, rfl, rfl, rfl, rfl, rfl, rfl, rfl, rfl, rfl, rfl, rfl, rfl, rfl, rfl, rfl, rfl, rfl, rfl, rfl, rfl, rfl, rfl, rfl, rfl, rfl, rfl, rfl, rfl, trivial⟩ ?_
                      refine ARH.skip rfl ?_
                      refine ARH.skip rfl ?_
                      refine ARH.skip rfl ?_
                      refine ARH.drop (frx := [(1, _), (2, _), (3, _), (8, _), (9, _), (10, _), (46, _), (47, _), (48, _), (49, _), (50, _), (51, _), (52, _), (53, _), (54, _), (55, _), (56, _), (57, _), (58, _), (59, _), (60, _), (61, _), (62, _), (63, _), (64, _), (65, _), (66, _), (67, _), (68, _), (69, _), (70, _), (71, _)]) ⟨rfl, rfl, rfl, rfl, rfl, rfl, rfl, rfl, rfl, rfl, rfl, rfl, rfl, rfl, rfl, rfl, rfl, rfl, rfl, rfl, rfl, rfl, rfl, rfl, rfl, rfl, rfl, rfl, rfl, rfl, rfl, rfl, trivial⟩ ?_
                      refine ARH.skip rfl ?_
                      refine ARH.skip rfl ?_
                      refine ARH.skip rfl ?_
                      refine ARH.drop (frx := [(1, _), (2, _), (3, _), (8, _), (9, _), (10, _), (46, _), (47, _), (48, _), (49, _), (50, _), (51, _), (52, _), (53, _), (54, _), (55, _), (56, _), (57, _), (58, _), (59, _), (60, _), (61, _), (62, _), (63, _), (64, _), (65, _), (66, _), (67, _), (68, _), (69, _), (70, _), (71, _), (72, _), (73, _), (74, _)]) ⟨rfl, rfl, rfl, rfl, rfl, rfl, rfl, rfl, rfl, rfl, rfl, rfl, rfl, rfl, rfl, rfl, rfl, rfl, rfl, rfl, rfl, rfl, rfl, rfl, rfl, rfl, rfl, rfl, rfl, rfl, rfl, rfl, rfl, rfl, rfl, trivial⟩ ?_
                      refine ARH.skip rfl ?_
                      refine ARH.skip rfl ?_
                      refine ARH.skip rfl ?_
                      refine ARH.drop (frx := [(1, _), (2, _), (3, _), (8, _), (9, _), (10, _), (46, _), (47, _), (48, _), (49, _), (50, _), (51, _), (52, _), (53, _), (54, _), (55, _), (56, _), (57, _), (58, _), (59, _), (60, _), (61, _), (62, _), (63, _), (64, _), (65, _), (66, _), (67, _), (68, _), (69, _), (70, _), (71, _), (72, _), (73, _), (74, _), (75, _), (76, _), (77, _)]) ⟨rfl, rfl, rfl, rfl, rfl, rfl, rfl, rfl, rfl, rfl, rfl, rfl, rfl, rfl, rfl, rfl, rfl, rfl, rfl, rfl, rfl, rfl, rfl, rfl, rfl, rfl, rfl, rfl, rfl, rfl, rfl, rfl, rfl, rfl, rfl, rfl, rfl, rfl, trivial⟩ ?_
                      refine ARH.skip rfl ?_
                      refine ARH.skip rfl ?_
                      refine ARH.skip rfl ?_
                      refine ARH.drop (frx := [(1, _), (2, _), (3, _), (8, _), (9, _), (10, _), (46, _), (47, _), (48, _), (49, _), (50, _), (51, _), (52, _), (53, _), (54, _), (55, _), (56, _), (57, _), (58, _), (59, _), (60, _), (61, _), (62, _), (63, _), (64, _), (65, _), (66, _), (67, _), (68, _), (69, _), (70, _), (71, _), (72, _), (73, _), (74, _), (75, _), (76, _), (77, _), (78, _), (79, _), (80, _)]) ⟨rfl, rfl, rfl, rfl, rfl, rfl, rfl, rfl, rfl, rfl, rfl, rfl, rfl, rfl, rfl, rfl, rfl, rfl, rfl, rfl, rfl, rfl, rfl, rfl, rfl, rfl, rfl, rfl, rfl, rfl, rfl, rfl, rfl, rfl, rfl, rfl, rfl, rfl, rfl, rfl, rfl, trivial⟩ ?_
                      refine ARH.skip rfl ?_
                      refine ARH.skip rfl ?_
                      refine ARH.skip rfl ?_
                      refine ARH.drop (frx := [(1, _), (2, _), (3, _), (8, _), (9, _), (10, _), (46, _), (47, _), (48, _), (49, _), (50, _), (51, _), (52, _), (53, _), (54, _), (55, _), (56, _), (57, _), (58, _), (59, _), (60, _), (61, _), (62, _), (63, _), (64, _), (65, _), (66, _), (67, _), (68, _), (69, _), (70, _), (71, _), (72, _), (73, _), (74, _), (75, _), (76, _), (77, _), (78, _), (79, _), (80, _), (81, _), (82, _), (83, _)]) ⟨rfl, rfl, rfl, rfl, rfl, rfl, rfl, rfl, rfl, rfl, rfl, rfl, rfl, rfl, rfl, rfl, rfl, rfl, rfl, rfl, rfl, rfl, rfl, rfl, rfl, rfl, rfl, rfl, rfl, rfl, rfl, rfl, rfl, rfl, rfl, rfl, rfl, rfl, rfl, rfl, rfl, rfl, rfl, rfl, trivial⟩ ?_
                      refine ARH.skip rfl ?_
                      refine ARH.skip rfl ?_
                      refine ARH.skip rfl ?_
                      refine ARH.drop (frx := [(1, _), (2, _), (3, _), (8, _), (9, _), (10, _), (46, _), (47, _), (48, _), (49, _), (50, _), (51, _), (52, _), (53, _), (54, _), (55, _), (56, _), (57, _), (58, _), (59, _), (60, _), (61, _), (62, _), (63, _), (64, _), (65, _), (66, _), (67, _), (68, _), (69, _), (70, _), (71, _), (72, _), (73, _), (74, _), (75, _), (76, _), (77, _), (78, _), (79, _), (80, _), (81, _), (82, _), (83, _), (84, _), (85, _), (86, _)]) ⟨rfl, rfl, rfl, rfl, rfl, rfl, rfl, rfl, rfl, rfl, rfl, rfl, rfl, rfl, rfl, rfl, rfl, rfl, rfl, rfl, rfl, rfl, rfl, rfl, rfl, rfl, rfl, rfl, rfl, rfl, rfl, rfl, rfl, rfl, rfl, rfl, rfl, rfl, rfl, rfl, rfl, rfl, rfl, rfl, rfl, rfl, rfl, trivial⟩ ?_
                      refine ARH.skip rfl ?_
                      refine ARH.skip rfl ?_
                      refine ARH.skip rfl ?_
                      refine ARH.drop (frx := [(1, _), (2, _), (3, _), (8, _), (9, _), (10, _), (46, _), (47, _), (48, _), (49, _), (50, _), (51, _), (52, _), (53, _), (54, _), (55, _), (56, _), (57, _), (58, _), (59, _), (60, _), (61, _), (62, _), (63, _), (64, _), (65, _), (66, _), (67, _), (68, _), (69, _), (70, _), (71, _), (72, _), (73, _), (74, _), (75, _), (76, _), (77, _), (78, _), (79, _), (80, _), (81, _), (82, _), (83, _), (84, _), (85, _), (86, _), (87, _), (88, _), (89, _)]) ⟨rfl, rfl, rfl, rfl, rfl, rfl, rfl, rfl, rfl, rfl, rfl, rfl, rfl, rfl, rfl, rfl, rfl, rfl, rfl, rfl, rfl, rfl, rfl, rfl, rfl, rfl, rfl, rfl, rfl, rfl, rfl, rfl, rfl, rfl, rfl, rfl, rfl, rfl, rfl, rfl, rfl, rfl, rfl, rfl, rfl, rfl, rfl, rfl, rfl, rfl, trivial⟩ ?_
                      refine ARH.dry (r := bl false) rfl (fun _ => aop_pick rfl rfl rfl) ?_
                      refine ARH.dry (r := bl false) rfl (fun _ => aop_pick rfl rfl rfl) ?_
                      refine ARH.nil ?_
                      exact hK19 false _ h (Weak.re (fr' := [(1, i64 a_1), (2, i64 b_2), (3, .ref 0 0 0), (8, .sl (List.map G.graph_Edge.av r116)), (9, bl in283), (10, i64 i284), (91, bl false)]) (H' := ⟨1, [(0, (2, [G.graph_Graph.av g_0]))]⟩) [(0, 0)] [] rfl rfl rfl (.cons rfl rfl (.one (.same _ (by simp)) rfl) (of_decide_eq_true rfl) (trivial)) ⟨⟨_, rfl, .same _ (by simp)⟩, ⟨_, rfl, .same _ (by simp)⟩, ⟨_, rfl, .ref rfl⟩, ⟨.sl (List.map G.graph_Edge.av r116), rfl, .same _ (by simp)⟩, ⟨_, rfl, .same _ (by simp)⟩, ⟨_, rfl, .same _ (by simp)⟩, ⟨_, rfl, .same _ (by simp)⟩, trivial⟩)
            · replace h := Sh.if_f h hb285
              refine awp_exit ?_
              replace h := Sh.exit_eq h hx1
              exact hK12 in283 _ h (Weak.re (fr' := [(1, i64 a_1), (2, i64 b_2), (3, .ref 0 0 0), (8, .sl (List.map G.graph_Edge.av r116)), (9, bl in283)]) (H' := ⟨1, [(0, (2, [G.graph_Graph.av g_0]))]⟩) [(0, 0)] [] rfl rfl rfl (.cons rfl rfl (.one (.same _ (by simp)) rfl) (of_decide_eq_true rfl) (trivial)) ⟨⟨_, rfl, .same _ (by simp)⟩, ⟨_, rfl, .same _ (by simp)⟩, ⟨_, rfl, .ref rfl⟩, ⟨.sl (List.map G.graph_Edge.av r116), rfl, .same _ (by simp)⟩, ⟨_, rfl, .same _ (by simp)⟩, trivial⟩)
    · intro K20 hK20
      refine awp_reg rfl ?_
      refine AR.op rfl (aop_field_ref rfl rfl rfl fd24_1 (by decide)) ?_
      refine AR.op (r := .sl (List.map u64 g_0.Rows)) rfl (aop_load_ref rfl rfl rfl rfl sz22 rfl) ?_
      refine AR.op (r := i64 (Sh.len g_0.Rows)) rfl (t_len_sl u64 g_0.Rows rfl rfl el22) ?_
      refine AR.drop (frx := [(1, _), (2, _), (3, _), (18, _)]) ⟨rfl, rfl, rfl, rfl, trivial⟩ ?_
      refine AR.op (r := bl (decide ((70 : Int) < (Sh.len g_0.Rows)))) rfl (aop_gtr rfl rfl rfl) ?_
      refine AR.op (r := bl (decide ((70 : Int) < (Sh.len g_0.Rows)))) rfl (aop_move (.inl rfl) rfl) ?_
      rcases Bool.eq_false_or_eq_true (decide ((70 : Int) < (Sh.len g_0.Rows))) with hb387 | hb387
      · rw [hb387]
        replace h := Sh.if_t h hb387
        refine AR.skip rfl ?_
        refine AR.drop (frx := [(1, _), (2, _), (3, _), (20, _), (21, _)]) ⟨rfl, rfl, rfl, rfl, rfl, trivial⟩ ?_
        refine AR.skip rfl ?_
        refine AR.skip rfl ?_
        refine AR.op (r := bl true) rfl (aop_pick rfl rfl rfl) ?_
        refine AR.nil ?_
        exact hK20 true _ h (Weak.re (fr' := [(1, i64 a_1), (2, i64 b_2), (3, .ref 0 0 0), (24, bl true)]) (H' := ⟨1, [(0, (2, [G.graph_Graph.av g_0]))]⟩) [(0, 0)] [] rfl rfl rfl (.cons rfl rfl (.one (.same _ (by simp)) rfl) (of_decide_eq_true rfl) (trivial)) ⟨⟨_, rfl, .same _ (by simp)⟩, ⟨_, rfl, .same _ (by simp)⟩, ⟨_, rfl, .ref rfl⟩, ⟨_, rfl, .same _ (by simp)⟩, trivial⟩)
      · rw [hb387]
        replace h := Sh.if_f h hb387
        refine AR.op (r := G.graph_Graph.av g_0) rfl (aop_load_ref rfl rfl rfl rfl sz24 rfl) ?_
        refine AR.drop (frx := [(1, _), (2, _), (3, _), (20, _), (21, _)]) ⟨rfl, rfl, rfl, rfl, rfl, trivial⟩ ?_
        obtain ⟨r388, hr388, h⟩ := Sh.bind_some' h
        refine AR.op (r := bl r388) rfl (aop_call1 rfl rfl (by simp) (graph_Right_ok hT hr388)) ?_
        refine AR.op (r := bl (!r388)) rfl (aop_not rfl rfl) ?_
        refine AR.op (r := bl (!r388)) rfl (aop_pick rfl rfl rfl) ?_
        refine AR.nil ?_
        exact hK20 (!r388) _ h (Weak.re (fr' := [(1, i64 a_1), (2, i64 b_2), (3, .ref 0 0 0), (24, bl (!r388))]) (H' := ⟨1, [(0, (2, [G.graph_Graph.av g_0]))]⟩) [(0, 0)] [] rfl rfl rfl (.cons rfl rfl (.one (.same _ (by simp)) rfl) (of_decide_eq_true rfl) (trivial)) ⟨⟨_, rfl, .same _ (by simp)⟩, ⟨_, rfl, .same _ (by simp)⟩, ⟨_, rfl, .ref rfl⟩, ⟨_, rfl, .same _ (by simp)⟩, trivial⟩)
theorem inquestlaw12_GraphEdges_ok {W0 : World} (hT : Tab W0) {g_0 : G.graph_Graph} {a_1 : Int} {b_2 : Int} {r : Bool} (h : G.inquestlaw12_GraphEdges g_0 a_1 b_2 = some r) : Fun1 Tryd.prog W0 4 [G.graph_Graph.av g_0, i64 a_1, i64 b_2] (bl r) := Fun1.two (inquestlaw12_GraphEdges_ok0 hT h) (by simp)

end Wk
