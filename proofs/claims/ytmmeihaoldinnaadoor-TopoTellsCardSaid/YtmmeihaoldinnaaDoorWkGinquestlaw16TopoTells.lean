/- That a statement does what its plain function says. -/
import Derived.Test.YtmmeihaoldinnaaDoorWkGinquestlaw16
open Go Go.Av Go.Proofs
set_option linter.unusedVariables false
namespace Wk
set_option maxHeartbeats 8000000 in
theorem inquestlaw16_TopoTells_ok0 {W0 : World} (hT : Tab W0) {g_0 : G.graph_Graph} {l_1 : List Int} {r : Bool} (h : G.inquestlaw16_TopoTells g_0 l_1 = some r) : Fun2 Tryd.prog W0 9 [G.graph_Graph.av g_0, .sl (List.map i64 l_1)] (bl r) .empty := by
  refine fun2_of_awp Tryd.func9 rfl (by kernel_rfl) Tryd.ntmps9 (by simp) ?_
  unfold G.inquestlaw16_TopoTells at h
  show AWP _ _ _ _ ⟨[(0, G.graph_Graph.av g_0), (1, .sl (List.map i64 l_1))], .empty⟩ _
  refine awp_seqK fun K1 hK1 => ?_
  refine awp_reg rfl ?_
  refine AR.op (r := .ref 0 0 0) rfl (aop_box 2 [G.graph_Graph.av g_0] rfl rfl rfl (.inl ⟨rfl, rfl⟩)) ?_
  refine AR.op (r := bl false) rfl (aop_move (.inr rfl) rfl) ?_
  refine AR.nil ?_
  refine hK1 _ (AWP.weak (Weak.re (fr' := [(1, .sl (List.map i64 l_1)), (2, .ref 0 0 0)]) (H' := ⟨1, [(0, (2, [G.graph_Graph.av g_0]))]⟩) [(0, 0)] [] rfl rfl rfl (.cons rfl rfl (.one (.same _ (by simp)) rfl) (of_decide_eq_true rfl) (trivial)) ⟨⟨.sl (List.map i64 l_1), rfl, .same _ (by simp)⟩, ⟨_, rfl, .ref rfl⟩, trivial⟩) ?_)
  clear hK1 K1
  refine awp_seqK fun K2 hK2 => ?_
  refine awp_reg rfl ?_
  obtain ⟨r17, hr17, h⟩ := Sh.bind_some' h
  refine AR.op (r := bl r17) rfl (aop_call1 rfl rfl (by simp) (inquestlaw16_awake_ok hT hr17)) ?_
  refine AR.op (r := bl r17) rfl (aop_move (.inr rfl) rfl) ?_
  refine AR.nil ?_
  refine hK2 _ (AWP.weak (Weak.re (fr' := [(1, .sl (List.map i64 l_1)), (2, .ref 0 0 0), (5, bl r17)]) (H' := ⟨1, [(0, (2, [G.graph_Graph.av g_0]))]⟩) [(0, 0)] [] rfl rfl rfl (.cons rfl rfl (.one (.same _ (by simp)) rfl) (of_decide_eq_true rfl) (trivial)) ⟨⟨.sl (List.map i64 l_1), rfl, .same _ (by simp)⟩, ⟨_, rfl, .ref rfl⟩, ⟨_, rfl, .same _ (by simp)⟩, trivial⟩) ?_)
  clear hK2 K2
  refine awp_seqK fun K3 hK3 => ?_
  refine awp_seqK fun K4 hK4 => ?_
  refine awp_reg rfl ?_
  refine AR.op (r := bl r17) rfl (aop_move (.inl rfl) rfl) ?_
  refine AR.op (r := bl (!r17)) rfl (aop_not rfl rfl) ?_
  refine AR.nil ?_
  refine hK4 _ (AWP.weak (Weak.re (fr' := [(1, .sl (List.map i64 l_1)), (2, .ref 0 0 0), (14, bl (!r17))]) (H' := ⟨1, [(0, (2, [G.graph_Graph.av g_0]))]⟩) [(0, 0)] [] rfl rfl rfl (.cons rfl rfl (.one (.same _ (by simp)) rfl) (of_decide_eq_true rfl) (trivial)) ⟨⟨.sl (List.map i64 l_1), rfl, .same _ (by simp)⟩, ⟨_, rfl, .ref rfl⟩, ⟨_, rfl, .same _ (by simp)⟩, trivial⟩) ?_)
  clear hK4 K4
  refine awp_cond rfl (fun hb18 => ?_) (fun hb18 => ?_)
  · replace h := Sh.if_t h hb18
    refine awp_seqK fun K5 hK5 => ?_
    refine awp_reg rfl ?_
    refine AR.op (r := bl false) rfl (aop_move (.inr rfl) rfl) ?_
    refine AR.nil ?_
    refine hK5 _ (AWP.weak (Weak.re (fr' := [(4, bl false)]) (H' := .empty) [] [] rfl rfl rfl (trivial) ⟨⟨_, rfl, .same _ (by simp)⟩, trivial⟩) ?_)
    clear hK5 K5
    refine awp_ret ?_
    obtain rfl := Option.some.inj h
    refine ⟨.inr rfl, bl false, rfl, ?_⟩
    exact Weak.re [] [] rfl rfl rfl (trivial) ⟨⟨_, rfl, .same _ (by simp)⟩, trivial⟩
  · replace h := Sh.if_f h hb18
    refine awp_skip ?_
    refine hK3 _ (AWP.weak (Weak.re (fr' := [(1, .sl (List.map i64 l_1)), (2, .ref 0 0 0)]) (H' := ⟨1, [(0, (2, [G.graph_Graph.av g_0]))]⟩) [(0, 0)] [] rfl rfl rfl (.cons rfl rfl (.one (.same _ (by simp)) rfl) (of_decide_eq_true rfl) (trivial)) ⟨⟨.sl (List.map i64 l_1), rfl, .same _ (by simp)⟩, ⟨_, rfl, .ref rfl⟩, trivial⟩) ?_)
    clear hK3 K3
    refine awp_seqK fun K6 hK6 => ?_
    refine awp_reg rfl ?_
    refine AR.op (r := G.graph_Graph.av g_0) rfl (aop_load_ref rfl rfl rfl rfl sz24 rfl) ?_
    obtain ⟨r20, hr20, h⟩ := Sh.bind_some' h
    refine AR.op (r := G.inquestref12_G.av r20) rfl (aop_call1 rfl rfl (by simp) (inquestlaw16_plain_ok hT hr20)) ?_
    refine AR.op (r := .ref 1 0 0) rfl (aop_alloc 2 [.agg [i64 0, nilS]] rfl zr26 (by kernel_rfl) (.inl ⟨rfl, rfl⟩)) ?_
    refine AR.drop (frx := [(1, _), (2, _), (16, _), (6, _)]) ⟨rfl, rfl, rfl, rfl, trivial⟩ ?_
    refine AR.op rfl (aop_store (e' := G.inquestref12_G.av r20) rfl rfl rfl rfl rfl rfl sz26 rfl (of_decide_eq_true rfl) rfl) ?_
    refine AR.nil ?_
    refine hK6 _ (AWP.weak (Weak.re (fr' := [(1, .sl (List.map i64 l_1)), (2, .ref 0 0 0), (6, .ref 1 0 0)]) (H' := ⟨2, [(0, (2, [G.graph_Graph.av g_0])), (1, (2, [G.inquestref12_G.av r20]))]⟩) [(0, 0), (1, 1)] [] rfl rfl rfl (.cons rfl rfl (.one (.same _ (by simp)) rfl) (of_decide_eq_true rfl) (.cons rfl rfl (.one (.same _ (by simp)) rfl) (of_decide_eq_true rfl) (trivial))) ⟨⟨.sl (List.map i64 l_1), rfl, .same _ (by simp)⟩, ⟨_, rfl, .ref rfl⟩, ⟨_, rfl, .ref rfl⟩, trivial⟩) ?_)
    clear hK6 K6
    refine awp_seqK fun K7 hK7 => ?_
    refine awp_seqJ (fun (p : Bool) => (⟨[(1, .sl (List.map i64 l_1)), (2, .ref 0 0 0), (6, .ref 1 0 0), (25, bl p)], ⟨2, [(0, (2, [G.graph_Graph.av g_0])), (1, (2, [G.inquestref12_G.av r20]))]⟩⟩ : St)) (fun (p : Bool) => G.inquestlaw16_TopoTells_j1 g_0 l_1 r20 p = some r) ?_ ?_
    · rintro v24 h
      replace h : G.inquestlaw16_TopoTells_j1 g_0 l_1 r20 v24 = some r := h
      unfold G.inquestlaw16_TopoTells_j1 at h
      show AWP _ _ _ _ ⟨[(1, .sl (List.map i64 l_1)), (2, .ref 0 0 0), (6, .ref 1 0 0), (25, bl v24)], ⟨2, [(0, (2, [G.graph_Graph.av g_0])), (1, (2, [G.inquestref12_G.av r20]))]⟩⟩ _
      refine awp_cond rfl (fun hb25 => ?_) (fun hb25 => ?_)
      · replace h := Sh.if_t h hb25
        refine awp_seqK fun K8 hK8 => ?_
        refine awp_reg rfl ?_
        refine AR.op (r := bl true) rfl (aop_move (.inr rfl) rfl) ?_
        refine AR.nil ?_
        refine hK8 _ (AWP.weak (Weak.re (fr' := [(4, bl true)]) (H' := .empty) [] [] rfl rfl rfl (trivial) ⟨⟨_, rfl, .same _ (by simp)⟩, trivial⟩) ?_)
        clear hK8 K8
        refine awp_ret ?_
        obtain rfl := Option.some.inj h
        refine ⟨.inr rfl, bl true, rfl, ?_⟩
        exact Weak.re [] [] rfl rfl rfl (trivial) ⟨⟨_, rfl, .same _ (by simp)⟩, trivial⟩
      · replace h := Sh.if_f h hb25
        refine awp_skip ?_
        refine hK7 _ (AWP.weak (Weak.re (fr' := [(1, .sl (List.map i64 l_1)), (2, .ref 0 0 0), (6, .ref 1 0 0)]) (H' := ⟨2, [(0, (2, [G.graph_Graph.av g_0])), (1, (2, [G.inquestref12_G.av r20]))]⟩) [(0, 0), (1, 1)] [] rfl rfl rfl (.cons rfl rfl (.one (.same _ (by simp)) rfl) (of_decide_eq_true rfl) (.cons rfl rfl (.one (.same _ (by simp)) rfl) (of_decide_eq_true rfl) (trivial))) ⟨⟨.sl (List.map i64 l_1), rfl, .same _ (by simp)⟩, ⟨_, rfl, .ref rfl⟩, ⟨_, rfl, .ref rfl⟩, trivial⟩) ?_)
        clear hK7 K7
        refine awp_seqK fun K9 hK9 => ?_
        refine awp_reg rfl ?_
        refine AR.op (r := G.inquestref12_G.av r20) rfl (aop_load_ref rfl rfl rfl rfl sz26 rfl) ?_
        obtain ⟨r27, hr27, h⟩ := Sh.bind_some' h
        refine AR.op (r := bl r27) rfl (aop_call1 rfl rfl (by simp) (inquestref12_Right_ok hT hr27)) ?_
        refine AR.op (r := bl r27) rfl (aop_move (.inr rfl) rfl) ?_
        refine AR.nil ?_
        refine hK9 _ (AWP.weak (Weak.re (fr' := [(1, .sl (List.map i64 l_1)), (2, .ref 0 0 0), (6, .ref 1 0 0), (7, bl r27)]) (H' := ⟨2, [(0, (2, [G.graph_Graph.av g_0])), (1, (2, [G.inquestref12_G.av r20]))]⟩) [(0, 0), (1, 1)] [] rfl rfl rfl (.cons rfl rfl (.one (.same _ (by simp)) rfl) (of_decide_eq_true rfl) (.cons rfl rfl (.one (.same _ (by simp)) rfl) (of_decide_eq_true rfl) (trivial))) ⟨⟨.sl (List.map i64 l_1), rfl, .same _ (by simp)⟩, ⟨_, rfl, .ref rfl⟩, ⟨_, rfl, .ref rfl⟩, ⟨_, rfl, .same _ (by simp)⟩, trivial⟩) ?_)
        clear hK9 K9
        refine awp_seqK fun K10 hK10 => ?_
        refine awp_seqJ (fun (p : Bool) => (⟨[(1, .sl (List.map i64 l_1)), (2, .ref 0 0 0), (6, .ref 1 0 0), (33, bl p)], ⟨2, [(0, (2, [G.graph_Graph.av g_0])), (1, (2, [G.inquestref12_G.av r20]))]⟩⟩ : St)) (fun (p : Bool) => G.inquestlaw16_TopoTells_j2 g_0 l_1 r20 p = some r) ?_ ?_
        · rintro v31 h
          replace h : G.inquestlaw16_TopoTells_j2 g_0 l_1 r20 v31 = some r := h
          unfold G.inquestlaw16_TopoTells_j2 at h
          show AWP _ _ _ _ ⟨[(1, .sl (List.map i64 l_1)), (2, .ref 0 0 0), (6, .ref 1 0 0), (33, bl v31)], ⟨2, [(0, (2, [G.graph_Graph.av g_0])), (1, (2, [G.inquestref12_G.av r20]))]⟩⟩ _
          refine awp_cond rfl (fun hb32 => ?_) (fun hb32 => ?_)
          · replace h := Sh.if_t h hb32
            refine awp_seqK fun K11 hK11 => ?_
            refine awp_reg rfl ?_
            refine AR.op (r := bl true) rfl (aop_move (.inr rfl) rfl) ?_
            refine AR.nil ?_
            refine hK11 _ (AWP.weak (Weak.re (fr' := [(4, bl true)]) (H' := .empty) [] [] rfl rfl rfl (trivial) ⟨⟨_, rfl, .same _ (by simp)⟩, trivial⟩) ?_)
            clear hK11 K11
            refine awp_ret ?_
            obtain rfl := Option.some.inj h
            refine ⟨.inr rfl, bl true, rfl, ?_⟩
            exact Weak.re [] [] rfl rfl rfl (trivial) ⟨⟨_, rfl, .same _ (by simp)⟩, trivial⟩
          · replace h := Sh.if_f h hb32
            refine awp_skip ?_
            refine hK10 _ (AWP.weak (Weak.re (fr' := [(1, .sl (List.map i64 l_1)), (2, .ref 0 0 0), (6, .ref 1 0 0)]) (H' := ⟨2, [(0, (2, [G.graph_Graph.av g_0])), (1, (2, [G.inquestref12_G.av r20]))]⟩) [(0, 0), (1, 1)] [] rfl rfl rfl (.cons rfl rfl (.one (.same _ (by simp)) rfl) (of_decide_eq_true rfl) (.cons rfl rfl (.one (.same _ (by simp)) rfl) (of_decide_eq_true rfl) (trivial))) ⟨⟨.sl (List.map i64 l_1), rfl, .same _ (by simp)⟩, ⟨_, rfl, .ref rfl⟩, ⟨_, rfl, .ref rfl⟩, trivial⟩) ?_)
            clear hK10 K10
            refine awp_seqK fun K12 hK12 => ?_
            refine awp_reg rfl ?_
            refine AR.op (r := G.graph_Graph.av g_0) rfl (aop_load_ref rfl rfl rfl rfl sz24 rfl) ?_
            obtain ⟨r34, hr34, h⟩ := Sh.bind_some' h
            refine AR.op (r := .tuple [.sl (List.map i64 r34.1), bl r34.2]) rfl (aop_call1 rfl rfl (by simp) (topo_Order_ok hT hr34)) ?_
            refine AR.op (r := .tuple [.sl (List.map i64 r34.1), bl r34.2]) rfl (aop_move (.inl rfl) rfl) ?_
            refine AR.drop (frx := [(1, _), (2, _), (6, _), (34, _)]) ⟨rfl, rfl, rfl, rfl, trivial⟩ ?_
            refine AR.op (r := .sl (List.map i64 r34.1)) rfl (aop_extract rfl rfl rfl) ?_
            refine AR.op (r := bl r34.2) rfl (aop_extract rfl rfl rfl) ?_
            refine AR.op (r := .sl (List.map i64 r34.1)) rfl (aop_move (.inr rfl) rfl) ?_
            refine AR.drop (frx := [(1, _), (2, _), (6, _), (38, _), (8, _)]) ⟨rfl, rfl, rfl, rfl, rfl, trivial⟩ ?_
            refine AR.op (r := bl r34.2) rfl (aop_move (.inr rfl) rfl) ?_
            refine AR.nil ?_
            refine hK12 _ (AWP.weak (Weak.re (fr' := [(1, .sl (List.map i64 l_1)), (2, .ref 0 0 0), (6, .ref 1 0 0), (8, .sl (List.map i64 r34.1)), (9, bl r34.2)]) (H' := ⟨2, [(0, (2, [G.graph_Graph.av g_0])), (1, (2, [G.inquestref12_G.av r20]))]⟩) [(0, 0), (1, 1)] [] rfl rfl rfl (.cons rfl rfl (.one (.same _ (by simp)) rfl) (of_decide_eq_true rfl) (.cons rfl rfl (.one (.same _ (by simp)) rfl) (of_decide_eq_true rfl) (trivial))) ⟨⟨.sl (List.map i64 l_1), rfl, .same _ (by simp)⟩, ⟨_, rfl, .ref rfl⟩, ⟨_, rfl, .ref rfl⟩, ⟨.sl (List.map i64 r34.1), rfl, .same _ (by simp)⟩, ⟨_, rfl, .same _ (by simp)⟩, trivial⟩) ?_)
            clear hK12 K12
            refine awp_seqK fun K13 hK13 => ?_
            refine awp_reg rfl ?_
            refine AR.op (r := G.inquestref12_G.av r20) rfl (aop_load_ref rfl rfl rfl rfl sz26 rfl) ?_
            obtain ⟨r36, hr36, h⟩ := Sh.bind_some' h
            refine AR.op (r := .tuple [.sl (List.map i64 r36.1), bl r36.2]) rfl (aop_call1 rfl rfl (by simp) (inquestref16_Order_ok hT hr36)) ?_
            refine AR.op (r := .tuple [.sl (List.map i64 r36.1), bl r36.2]) rfl (aop_move (.inl rfl) rfl) ?_
            refine AR.drop (frx := [(1, _), (2, _), (6, _), (8, _), (9, _), (39, _)]) ⟨rfl, rfl, rfl, rfl, rfl, rfl, trivial⟩ ?_
            refine AR.op (r := .sl (List.map i64 r36.1)) rfl (aop_extract rfl rfl rfl) ?_
            refine AR.op (r := bl r36.2) rfl (aop_extract rfl rfl rfl) ?_
            refine AR.op (r := .sl (List.map i64 r36.1)) rfl (aop_move (.inr rfl) rfl) ?_
            refine AR.drop (frx := [(1, _), (2, _), (6, _), (8, _), (9, _), (43, _), (10, _)]) ⟨rfl, rfl, rfl, rfl, rfl, rfl, rfl, trivial⟩ ?_
            refine AR.op (r := bl r36.2) rfl (aop_move (.inr rfl) rfl) ?_
            refine AR.nil ?_
            refine hK13 _ (AWP.weak (Weak.re (fr' := [(1, .sl (List.map i64 l_1)), (2, .ref 0 0 0), (6, .ref 1 0 0), (8, .sl (List.map i64 r34.1)), (9, bl r34.2), (10, .sl (List.map i64 r36.1)), (11, bl r36.2)]) (H' := ⟨2, [(0, (2, [G.graph_Graph.av g_0])), (1, (2, [G.inquestref12_G.av r20]))]⟩) [(0, 0), (1, 1)] [] rfl rfl rfl (.cons rfl rfl (.one (.same _ (by simp)) rfl) (of_decide_eq_true rfl) (.cons rfl rfl (.one (.same _ (by simp)) rfl) (of_decide_eq_true rfl) (trivial))) ⟨⟨.sl (List.map i64 l_1), rfl, .same _ (by simp)⟩, ⟨_, rfl, .ref rfl⟩, ⟨_, rfl, .ref rfl⟩, ⟨.sl (List.map i64 r34.1), rfl, .same _ (by simp)⟩, ⟨_, rfl, .same _ (by simp)⟩, ⟨.sl (List.map i64 r36.1), rfl, .same _ (by simp)⟩, ⟨_, rfl, .same _ (by simp)⟩, trivial⟩) ?_)
            clear hK13 K13
            refine awp_seqK fun K14 hK14 => ?_
            refine awp_any (by kernel_rfl) (by kernel_rfl) rfl ?_
            refine ARH.dry (r := .sl (List.map i64 r34.1)) rfl (fun _ => aop_move (.inl rfl) rfl) ?_
            refine ARH.dry (r := .sl (List.map i64 r36.1)) rfl (fun _ => aop_move (.inl rfl) rfl) ?_
            obtain ⟨r42, hr42, h⟩ := Sh.bind_some' h
            refine ARH.op (r := bl r42) rfl rfl (aop_call1 rfl rfl (by simp) (inquestref07_Ints_ok hT hr42)) ?_
            refine ARH.drop (frx := [(1, _), (2, _), (6, _), (9, _), (11, _), (46, _)]) ⟨rfl, rfl, rfl, rfl, rfl, rfl, trivial⟩ ?_
            refine ARH.dry (r := bl r42) rfl (fun _ => aop_move (.inl rfl) rfl) ?_
            rcases Bool.eq_false_or_eq_true (r42) with hb43 | hb43
            · rw [hb43]
              replace h := Sh.if_t h hb43
              refine ARH.dry (r := bl r34.2) rfl (fun _ => aop_move (.inl rfl) rfl) ?_
              refine ARH.dry (r := bl r36.2) rfl (fun _ => aop_move (.inl rfl) rfl) ?_
              refine ARH.drop (frx := [(1, _), (2, _), (6, _), (47, _), (48, _), (49, _)]) ⟨rfl, rfl, rfl, rfl, rfl, rfl, trivial⟩ ?_
              refine ARH.dry (r := bl (r34.2 == r36.2)) rfl (fun _ => aop_eqb rfl rfl rfl Tryd.underlying4) ?_
              refine ARH.dry (r := bl (r34.2 == r36.2)) rfl (fun _ => aop_pick rfl rfl rfl) ?_
              refine ARH.dry (r := bl (r34.2 == r36.2)) rfl (fun _ => aop_move (.inl rfl) rfl) ?_
              refine ARH.drop (frx := [(1, _), (2, _), (6, _), (52, _)]) ⟨rfl, rfl, rfl, rfl, trivial⟩ ?_
              rcases Bool.eq_false_or_eq_true (r34.2 == r36.2) with hb44 | hb44
              · rw [hb44]
                replace h := Sh.if_t h hb44
                refine ARH.op (r := G.graph_Graph.av g_0) rfl rfl (aop_load_ref rfl rfl rfl rfl sz24 rfl) ?_
                refine ARH.dry (r := .sl (List.map i64 l_1)) rfl (fun _ => aop_move (.inl rfl) rfl) ?_
                obtain ⟨r45, hr45, h⟩ := Sh.bind_some' h
                refine ARH.op (r := bl r45) rfl rfl (aop_call1 rfl rfl (by simp) (topo_Is_ok hT hr45)) ?_
                refine ARH.drop (frx := [(1, _), (6, _), (52, _), (55, _)]) ⟨rfl, rfl, rfl, rfl, trivial⟩ ?_
                refine ARH.op (r := G.inquestref12_G.av r20) rfl rfl (aop_load_ref rfl rfl rfl rfl sz26 rfl) ?_
                refine ARH.dry (r := .sl (List.map i64 l_1)) rfl (fun _ => aop_move (.inl rfl) rfl) ?_
                obtain ⟨r46, hr46, h⟩ := Sh.bind_some' h
                refine ARH.op (r := bl r46) rfl rfl (aop_call1 rfl rfl (by simp) (inquestref16_Is_ok hT hr46)) ?_
                refine ARH.drop (frx := [(52, _), (55, _), (58, _)]) ⟨rfl, rfl, rfl, trivial⟩ ?_
                refine ARH.dry (r := bl (r45 == r46)) rfl (fun _ => aop_eqb rfl rfl rfl Tryd.underlying4) ?_
                refine ARH.dry (r := bl (r45 == r46)) rfl (fun _ => aop_pick rfl rfl rfl) ?_
                refine ARH.dry (r := bl (r45 == r46)) rfl (fun _ => aop_move (.inr rfl) rfl) ?_
                refine ARH.nil ?_
                refine hK14 _ (AWP.weak (Weak.re (fr' := [(4, bl (r45 == r46))]) (H' := .empty) [] [] rfl rfl rfl (trivial) ⟨⟨_, rfl, .same _ (by simp)⟩, trivial⟩) ?_)
                clear hK14 K14
                refine awp_ret ?_
                obtain rfl := Option.some.inj h
                refine ⟨.inr rfl, bl (r45 == r46), rfl, ?_⟩
                exact Weak.re [] [] rfl rfl rfl (trivial) ⟨⟨_, rfl, .same _ (by simp)⟩, trivial⟩
              · rw [hb44]
                replace h := Sh.if_f h hb44
                refine ARH.skip rfl ?_
                refine ARH.skip rfl ?_
                refine ARH.skip rfl ?_
                refine ARH.drop (frx := [(1, _), (6, _), (52, _), (55, _)]) ⟨rfl, rfl, rfl, rfl, trivial⟩ ?_
                refine ARH.skip rfl ?_
                refine ARH.skip rfl ?_
                refine ARH.skip rfl ?_
                refine ARH.drop (frx := [(52, _), (55, _), (58, _)]) ⟨rfl, rfl, rfl, trivial⟩ ?_
                refine ARH.skip rfl ?_
                refine ARH.dry (r := bl false) rfl (fun _ => aop_pick rfl rfl rfl) ?_
                refine ARH.dry (r := bl false) rfl (fun _ => aop_move (.inr rfl) rfl) ?_
                refine ARH.nil ?_
                refine hK14 _ (AWP.weak (Weak.re (fr' := [(4, bl false)]) (H' := .empty) [] [] rfl rfl rfl (trivial) ⟨⟨_, rfl, .same _ (by simp)⟩, trivial⟩) ?_)
                clear hK14 K14
                refine awp_ret ?_
                obtain rfl := Option.some.inj h
                refine ⟨.inr rfl, bl false, rfl, ?_⟩
                exact Weak.re [] [] rfl rfl rfl (trivial) ⟨⟨_, rfl, .same _ (by simp)⟩, trivial⟩
            · rw [hb43]
              replace h := Sh.if_f h hb43
              refine ARH.skip rfl ?_
              refine ARH.skip rfl ?_
              refine ARH.drop (frx := [(1, _), (2, _), (6, _), (47, _), (48, _), (49, _)]) ⟨rfl, rfl, rfl, rfl, rfl, rfl, trivial⟩ ?_
              refine ARH.skip rfl ?_
              refine ARH.dry (r := bl false) rfl (fun _ => aop_pick rfl rfl rfl) ?_
              refine ARH.dry (r := bl false) rfl (fun _ => aop_move (.inl rfl) rfl) ?_
              refine ARH.drop (frx := [(1, _), (2, _), (6, _), (52, _)]) ⟨rfl, rfl, rfl, rfl, trivial⟩ ?_
              refine ARH.skip rfl ?_
              refine ARH.skip rfl ?_
              refine ARH.skip rfl ?_
              refine ARH.drop (frx := [(1, _), (6, _), (52, _), (55, _)]) ⟨rfl, rfl, rfl, rfl, trivial⟩ ?_
              refine ARH.skip rfl ?_
              refine ARH.skip rfl ?_
              refine ARH.skip rfl ?_
              refine ARH.drop (frx := [(52, _), (55, _), (58, _)]) ⟨rfl, rfl, rfl, trivial⟩ ?_
              refine ARH.skip rfl ?_
              refine ARH.dry (r := bl false) rfl (fun _ => aop_pick rfl rfl rfl) ?_
              refine ARH.dry (r := bl false) rfl (fun _ => aop_move (.inr rfl) rfl) ?_
              refine ARH.nil ?_
              refine hK14 _ (AWP.weak (Weak.re (fr' := [(4, bl false)]) (H' := .empty) [] [] rfl rfl rfl (trivial) ⟨⟨_, rfl, .same _ (by simp)⟩, trivial⟩) ?_)
              clear hK14 K14
              refine awp_ret ?_
              obtain rfl := Option.some.inj h
              refine ⟨.inr rfl, bl false, rfl, ?_⟩
              exact Weak.re [] [] rfl rfl rfl (trivial) ⟨⟨_, rfl, .same _ (by simp)⟩, trivial⟩
        · intro K15 hK15
          refine awp_reg rfl ?_
          refine AR.op (r := bl r27) rfl (aop_move (.inl rfl) rfl) ?_
          refine AR.op (r := bl r27) rfl (aop_move (.inl rfl) rfl) ?_
          rcases Bool.eq_false_or_eq_true (r27) with hb47 | hb47
          · rw [hb47]
            replace h := Sh.if_t h hb47
            refine AR.op rfl (aop_field_ref rfl rfl rfl fd24_0 (by decide)) ?_
            refine AR.drop (frx := [(1, _), (2, _), (6, _), (29, _), (30, _)]) ⟨rfl, rfl, rfl, rfl, rfl, trivial⟩ ?_
            refine AR.op (r := i64 g_0.N) rfl (aop_load_ref rfl rfl rfl rfl sz3 rfl) ?_
            refine AR.op (r := bl (decide ((16 : Int) < g_0.N))) rfl (aop_gtr rfl rfl rfl) ?_
            refine AR.op (r := bl (decide ((16 : Int) < g_0.N))) rfl (aop_pick rfl rfl rfl) ?_
            refine AR.nil ?_
            exact hK15 (decide ((16 : Int) < g_0.N)) _ h (Weak.re (fr' := [(1, .sl (List.map i64 l_1)), (2, .ref 0 0 0), (6, .ref 1 0 0), (33, bl (decide ((16 : Int) < g_0.N)))]) (H' := ⟨2, [(0, (2, [G.graph_Graph.av g_0])), (1, (2, [G.inquestref12_G.av r20]))]⟩) [(0, 0), (1, 1)] [] rfl rfl rfl (.cons rfl rfl (.one (.same _ (by simp)) rfl) (of_decide_eq_true rfl) (.cons rfl rfl (.one (.same _ (by simp)) rfl) (of_decide_eq_true rfl) (trivial))) ⟨⟨.sl (List.map i64 l_1), rfl, .same _ (by simp)⟩, ⟨_, rfl, .ref rfl⟩, ⟨_, rfl, .ref rfl⟩, ⟨_, rfl, .same _ (by simp)⟩, trivial⟩)
          · rw [hb47]
            replace h := Sh.if_f h hb47
            refine AR.skip rfl ?_
            refine AR.drop (frx := [(1, _), (2, _), (6, _), (29, _), (30, _)]) ⟨rfl, rfl, rfl, rfl, rfl, trivial⟩ ?_
            refine AR.skip rfl ?_
            refine AR.skip rfl ?_
            refine AR.op (r := bl false) rfl (aop_pick rfl rfl rfl) ?_
            refine AR.nil ?_
            exact hK15 false _ h (Weak.re (fr' := [(1, .sl (List.map i64 l_1)), (2, .ref 0 0 0), (6, .ref 1 0 0), (33, bl false)]) (H' := ⟨2, [(0, (2, [G.graph_Graph.av g_0])), (1, (2, [G.inquestref12_G.av r20]))]⟩) [(0, 0), (1, 1)] [] rfl rfl rfl (.cons rfl rfl (.one (.same _ (by simp)) rfl) (of_decide_eq_true rfl) (.cons rfl rfl (.one (.same _ (by simp)) rfl) (of_decide_eq_true rfl) (trivial))) ⟨⟨.sl (List.map i64 l_1), rfl, .same _ (by simp)⟩, ⟨_, rfl, .ref rfl⟩, ⟨_, rfl, .ref rfl⟩, ⟨_, rfl, .same _ (by simp)⟩, trivial⟩)
    · intro K16 hK16
      refine awp_reg rfl ?_
      refine AR.op rfl (aop_field_ref rfl rfl rfl fd24_1 (by decide)) ?_
      refine AR.op (r := .sl (List.map u64 g_0.Rows)) rfl (aop_load_ref rfl rfl rfl rfl sz22 rfl) ?_
      refine AR.op (r := i64 (Sh.len g_0.Rows)) rfl (t_len_sl u64 g_0.Rows rfl rfl el22) ?_
      refine AR.drop (frx := [(1, _), (2, _), (6, _), (19, _)]) ⟨rfl, rfl, rfl, rfl, trivial⟩ ?_
      refine AR.op (r := bl (decide ((70 : Int) < (Sh.len g_0.Rows)))) rfl (aop_gtr rfl rfl rfl) ?_
      refine AR.op (r := bl (decide ((70 : Int) < (Sh.len g_0.Rows)))) rfl (aop_move (.inl rfl) rfl) ?_
      rcases Bool.eq_false_or_eq_true (decide ((70 : Int) < (Sh.len g_0.Rows))) with hb48 | hb48
      · rw [hb48]
        replace h := Sh.if_t h hb48
        refine AR.skip rfl ?_
        refine AR.drop (frx := [(1, _), (2, _), (6, _), (21, _), (22, _)]) ⟨rfl, rfl, rfl, rfl, rfl, trivial⟩ ?_
        refine AR.skip rfl ?_
        refine AR.skip rfl ?_
        refine AR.op (r := bl true) rfl (aop_pick rfl rfl rfl) ?_
        refine AR.nil ?_
        exact hK16 true _ h (Weak.re (fr' := [(1, .sl (List.map i64 l_1)), (2, .ref 0 0 0), (6, .ref 1 0 0), (25, bl true)]) (H' := ⟨2, [(0, (2, [G.graph_Graph.av g_0])), (1, (2, [G.inquestref12_G.av r20]))]⟩) [(0, 0), (1, 1)] [] rfl rfl rfl (.cons rfl rfl (.one (.same _ (by simp)) rfl) (of_decide_eq_true rfl) (.cons rfl rfl (.one (.same _ (by simp)) rfl) (of_decide_eq_true rfl) (trivial))) ⟨⟨.sl (List.map i64 l_1), rfl, .same _ (by simp)⟩, ⟨_, rfl, .ref rfl⟩, ⟨_, rfl, .ref rfl⟩, ⟨_, rfl, .same _ (by simp)⟩, trivial⟩)
      · rw [hb48]
        replace h := Sh.if_f h hb48
        refine AR.op (r := .sl (List.map i64 l_1)) rfl (aop_move (.inl rfl) rfl) ?_
        refine AR.drop (frx := [(1, _), (2, _), (6, _), (21, _), (22, _)]) ⟨rfl, rfl, rfl, rfl, rfl, trivial⟩ ?_
        refine AR.op (r := i64 (Sh.len l_1)) rfl (t_len_sl i64 l_1 rfl rfl el50) ?_
        refine AR.op (r := bl (decide ((100 : Int) < (Sh.len l_1)))) rfl (aop_gtr rfl rfl rfl) ?_
        refine AR.op (r := bl (decide ((100 : Int) < (Sh.len l_1)))) rfl (aop_pick rfl rfl rfl) ?_
        refine AR.nil ?_
        exact hK16 (decide ((100 : Int) < (Sh.len l_1))) _ h (Weak.re (fr' := [(1, .sl (List.map i64 l_1)), (2, .ref 0 0 0), (6, .ref 1 0 0), (25, bl (decide ((100 : Int) < (Sh.len l_1))))]) (H' := ⟨2, [(0, (2, [G.graph_Graph.av g_0])), (1, (2, [G.inquestref12_G.av r20]))]⟩) [(0, 0), (1, 1)] [] rfl rfl rfl (.cons rfl rfl (.one (.same _ (by simp)) rfl) (of_decide_eq_true rfl) (.cons rfl rfl (.one (.same _ (by simp)) rfl) (of_decide_eq_true rfl) (trivial))) ⟨⟨.sl (List.map i64 l_1), rfl, .same _ (by simp)⟩, ⟨_, rfl, .ref rfl⟩, ⟨_, rfl, .ref rfl⟩, ⟨_, rfl, .same _ (by simp)⟩, trivial⟩)
theorem inquestlaw16_TopoTells_ok {W0 : World} (hT : Tab W0) {g_0 : G.graph_Graph} {l_1 : List Int} {r : Bool} (h : G.inquestlaw16_TopoTells g_0 l_1 = some r) : Fun1 Tryd.prog W0 9 [G.graph_Graph.av g_0, .sl (List.map i64 l_1)] (bl r) := Fun1.two (inquestlaw16_TopoTells_ok0 hT h) (by simp)

end Wk
