/- That a statement does what its plain function says. -/
import Derived.Test.YtmmeihaoldinnaaDoorWkGinquestlaw16
open Go Go.Av Go.Proofs
set_option linter.unusedVariables false
namespace Wk
set_option maxHeartbeats 8000000 in
theorem inquestlaw16_TopoHas_ok0 {W0 : World} (hT : Tab W0) {g_0 : G.graph_Graph} {r : Bool} (h : G.inquestlaw16_TopoHas g_0 = some r) : Fun2 Tryd.prog W0 13 [G.graph_Graph.av g_0] (bl r) .empty := by
  refine fun2_of_awp Tryd.func13 rfl (by kernel_rfl) Tryd.ntmps13 (by simp) ?_
  unfold G.inquestlaw16_TopoHas at h
  show AWP _ _ _ _ ⟨[(0, G.graph_Graph.av g_0)], .empty⟩ _
  refine awp_seqK fun K1 hK1 => ?_
  refine awp_reg rfl ?_
  refine AR.op (r := .ref 0 0 0) rfl (aop_box 2 [G.graph_Graph.av g_0] rfl rfl rfl (.inl ⟨rfl, rfl⟩)) ?_
  refine AR.op (r := bl false) rfl (aop_move (.inr rfl) rfl) ?_
  refine AR.nil ?_
  refine hK1 _ (AWP.weak (Weak.re (fr' := [(1, .ref 0 0 0)]) (H' := ⟨1, [(0, (2, [G.graph_Graph.av g_0]))]⟩) [(0, 0)] [] rfl rfl rfl (.cons rfl rfl (.one (.same _ (by simp)) rfl) (of_decide_eq_true rfl) (trivial)) ⟨⟨_, rfl, .ref rfl⟩, trivial⟩) ?_)
  clear hK1 K1
  refine awp_seqK fun K2 hK2 => ?_
  refine awp_reg rfl ?_
  obtain ⟨r13, hr13, h⟩ := Sh.bind_some' h
  refine AR.op (r := bl r13) rfl (aop_call1 rfl rfl (by simp) (inquestlaw16_awake_ok hT hr13)) ?_
  refine AR.op (r := bl r13) rfl (aop_move (.inr rfl) rfl) ?_
  refine AR.nil ?_
  refine hK2 _ (AWP.weak (Weak.re (fr' := [(1, .ref 0 0 0), (3, bl r13)]) (H' := ⟨1, [(0, (2, [G.graph_Graph.av g_0]))]⟩) [(0, 0)] [] rfl rfl rfl (.cons rfl rfl (.one (.same _ (by simp)) rfl) (of_decide_eq_true rfl) (trivial)) ⟨⟨_, rfl, .ref rfl⟩, ⟨_, rfl, .same _ (by simp)⟩, trivial⟩) ?_)
  clear hK2 K2
  refine awp_seqK fun K3 hK3 => ?_
  refine awp_seqK fun K4 hK4 => ?_
  refine awp_reg rfl ?_
  refine AR.op (r := bl r13) rfl (aop_move (.inl rfl) rfl) ?_
  refine AR.op (r := bl (!r13)) rfl (aop_not rfl rfl) ?_
  refine AR.nil ?_
  refine hK4 _ (AWP.weak (Weak.re (fr' := [(1, .ref 0 0 0), (8, bl (!r13))]) (H' := ⟨1, [(0, (2, [G.graph_Graph.av g_0]))]⟩) [(0, 0)] [] rfl rfl rfl (.cons rfl rfl (.one (.same _ (by simp)) rfl) (of_decide_eq_true rfl) (trivial)) ⟨⟨_, rfl, .ref rfl⟩, ⟨_, rfl, .same _ (by simp)⟩, trivial⟩) ?_)
  clear hK4 K4
  refine awp_cond rfl (fun hb14 => ?_) (fun hb14 => ?_)
  · replace h := Sh.if_t h hb14
    refine awp_seqK fun K5 hK5 => ?_
    refine awp_reg rfl ?_
    refine AR.op (r := bl false) rfl (aop_move (.inr rfl) rfl) ?_
    refine AR.nil ?_
    refine hK5 _ (AWP.weak (Weak.re (fr' := [(2, bl false)]) (H' := .empty) [] [] rfl rfl rfl (trivial) ⟨⟨_, rfl, .same _ (by simp)⟩, trivial⟩) ?_)
    clear hK5 K5
    refine awp_ret ?_
    obtain rfl := Option.some.inj h
    refine ⟨.inr rfl, bl false, rfl, ?_⟩
    exact Weak.re [] [] rfl rfl rfl (trivial) ⟨⟨_, rfl, .same _ (by simp)⟩, trivial⟩
  · replace h := Sh.if_f h hb14
    refine awp_skip ?_
    refine hK3 _ (AWP.weak (Weak.re (fr' := [(1, .ref 0 0 0)]) (H' := ⟨1, [(0, (2, [G.graph_Graph.av g_0]))]⟩) [(0, 0)] [] rfl rfl rfl (.cons rfl rfl (.one (.same _ (by simp)) rfl) (of_decide_eq_true rfl) (trivial)) ⟨⟨_, rfl, .ref rfl⟩, trivial⟩) ?_)
    clear hK3 K3
    refine awp_seqK fun K6 hK6 => ?_
    refine awp_seqK fun K7 hK7 => ?_
    refine awp_reg rfl ?_
    refine AR.op rfl (aop_field_ref rfl rfl rfl fd24_1 (by decide)) ?_
    refine AR.op (r := .sl (List.map u64 g_0.Rows)) rfl (aop_load_ref rfl rfl rfl rfl sz22 rfl) ?_
    refine AR.op (r := i64 (Sh.len g_0.Rows)) rfl (t_len_sl u64 g_0.Rows rfl rfl el22) ?_
    refine AR.drop (frx := [(1, _), (11, _)]) ⟨rfl, rfl, trivial⟩ ?_
    refine AR.op (r := bl (decide ((70 : Int) < (Sh.len g_0.Rows)))) rfl (aop_gtr rfl rfl rfl) ?_
    refine AR.nil ?_
    refine hK7 _ (AWP.weak (Weak.re (fr' := [(1, .ref 0 0 0), (12, bl (decide ((70 : Int) < (Sh.len g_0.Rows))))]) (H' := ⟨1, [(0, (2, [G.graph_Graph.av g_0]))]⟩) [(0, 0)] [] rfl rfl rfl (.cons rfl rfl (.one (.same _ (by simp)) rfl) (of_decide_eq_true rfl) (trivial)) ⟨⟨_, rfl, .ref rfl⟩, ⟨_, rfl, .same _ (by simp)⟩, trivial⟩) ?_)
    clear hK7 K7
    refine awp_cond rfl (fun hb15 => ?_) (fun hb15 => ?_)
    · replace h := Sh.if_t h hb15
      refine awp_seqK fun K8 hK8 => ?_
      refine awp_reg rfl ?_
      refine AR.op (r := bl true) rfl (aop_move (.inr rfl) rfl) ?_
      refine AR.nil ?_
      refine hK8 _ (AWP.weak (Weak.re (fr' := [(2, bl true)]) (H' := .empty) [] [] rfl rfl rfl (trivial) ⟨⟨_, rfl, .same _ (by simp)⟩, trivial⟩) ?_)
      clear hK8 K8
      refine awp_ret ?_
      obtain rfl := Option.some.inj h
      refine ⟨.inr rfl, bl true, rfl, ?_⟩
      exact Weak.re [] [] rfl rfl rfl (trivial) ⟨⟨_, rfl, .same _ (by simp)⟩, trivial⟩
    · replace h := Sh.if_f h hb15
      refine awp_skip ?_
      refine hK6 _ (AWP.weak (Weak.re (fr' := [(1, .ref 0 0 0)]) (H' := ⟨1, [(0, (2, [G.graph_Graph.av g_0]))]⟩) [(0, 0)] [] rfl rfl rfl (.cons rfl rfl (.one (.same _ (by simp)) rfl) (of_decide_eq_true rfl) (trivial)) ⟨⟨_, rfl, .ref rfl⟩, trivial⟩) ?_)
      clear hK6 K6
      refine awp_seqK fun K9 hK9 => ?_
      refine awp_reg rfl ?_
      refine AR.op (r := G.graph_Graph.av g_0) rfl (aop_load_ref rfl rfl rfl rfl sz24 rfl) ?_
      obtain ⟨r17, hr17, h⟩ := Sh.bind_some' h
      refine AR.op (r := .tuple [.sl (List.map i64 r17.1), bl r17.2]) rfl (aop_call1 rfl rfl (by simp) (topo_Order_ok hT hr17)) ?_
      refine AR.op (r := .tuple [.sl (List.map i64 r17.1), bl r17.2]) rfl (aop_move (.inl rfl) rfl) ?_
      refine AR.drop (frx := [(1, _), (13, _)]) ⟨rfl, rfl, trivial⟩ ?_
      refine AR.op (r := .sl (List.map i64 r17.1)) rfl (aop_extract rfl rfl rfl) ?_
      refine AR.op (r := bl r17.2) rfl (aop_extract rfl rfl rfl) ?_
      refine AR.op (r := .sl (List.map i64 r17.1)) rfl (aop_move (.inr rfl) rfl) ?_
      refine AR.drop (frx := [(1, _), (17, _), (4, _)]) ⟨rfl, rfl, rfl, trivial⟩ ?_
      refine AR.op (r := bl r17.2) rfl (aop_move (.inr rfl) rfl) ?_
      refine AR.nil ?_
      refine hK9 _ (AWP.weak (Weak.re (fr' := [(1, .ref 0 0 0), (4, .sl (List.map i64 r17.1)), (5, bl r17.2)]) (H' := ⟨1, [(0, (2, [G.graph_Graph.av g_0]))]⟩) [(0, 0)] [] rfl rfl rfl (.cons rfl rfl (.one (.same _ (by simp)) rfl) (of_decide_eq_true rfl) (trivial)) ⟨⟨_, rfl, .ref rfl⟩, ⟨.sl (List.map i64 r17.1), rfl, .same _ (by simp)⟩, ⟨_, rfl, .same _ (by simp)⟩, trivial⟩) ?_)
      clear hK9 K9
      refine awp_seqK fun K10 hK10 => ?_
      refine awp_seqJ (fun (p : Bool) => (⟨[(1, .ref 0 0 0), (4, .sl (List.map i64 r17.1)), (5, bl r17.2), (24, bl p)], ⟨1, [(0, (2, [G.graph_Graph.av g_0]))]⟩⟩ : St)) (fun (p : Bool) => G.inquestlaw16_TopoHas_j1 g_0 r17 p = some r) ?_ ?_
      · rintro v27 h
        replace h : G.inquestlaw16_TopoHas_j1 g_0 r17 v27 = some r := h
        unfold G.inquestlaw16_TopoHas_j1 at h
        show AWP _ _ _ _ ⟨[(1, .ref 0 0 0), (4, .sl (List.map i64 r17.1)), (5, bl r17.2), (24, bl v27)], ⟨1, [(0, (2, [G.graph_Graph.av g_0]))]⟩⟩ _
        refine awp_cond rfl (fun hb28 => ?_) (fun hb28 => ?_)
        · replace h := Sh.if_t h hb28
          refine awp_seqK fun K11 hK11 => ?_
          refine awp_reg rfl ?_
          refine AR.op (r := bl r17.2) rfl (aop_move (.inl rfl) rfl) ?_
          refine AR.op (r := bl (!r17.2)) rfl (aop_not rfl rfl) ?_
          refine AR.op (r := bl (!r17.2)) rfl (aop_move (.inl rfl) rfl) ?_
          refine AR.drop (frx := [(4, _), (27, _)]) ⟨rfl, rfl, trivial⟩ ?_
          rcases Bool.eq_false_or_eq_true (!r17.2) with hb30 | hb30
          · rw [hb30]
            replace h := Sh.if_t h hb30
            refine AR.op (r := .sl (List.map i64 r17.1)) rfl (aop_move (.inl rfl) rfl) ?_
            refine AR.op (r := i64 (Sh.len r17.1)) rfl (t_len_sl i64 r17.1 rfl rfl el50) ?_
            refine AR.op (r := bl (decide ((Sh.len r17.1) = 0))) rfl (aop_eql rfl rfl rfl) ?_
            refine AR.drop (frx := [(27, _), (30, _)]) ⟨rfl, rfl, trivial⟩ ?_
            refine AR.op (r := bl (decide ((Sh.len r17.1) = 0))) rfl (aop_pick rfl rfl rfl) ?_
            refine AR.op (r := bl (decide ((Sh.len r17.1) = 0))) rfl (aop_move (.inr rfl) rfl) ?_
            refine AR.nil ?_
            refine hK11 _ (AWP.weak (Weak.re (fr' := [(2, bl (decide ((Sh.len r17.1) = 0)))]) (H' := .empty) [] [] rfl rfl rfl (trivial) ⟨⟨_, rfl, .same _ (by simp)⟩, trivial⟩) ?_)
            clear hK11 K11
            refine awp_ret ?_
            obtain rfl := Option.some.inj h
            refine ⟨.inr rfl, bl (decide ((Sh.len r17.1) = 0)), rfl, ?_⟩
            exact Weak.re [] [] rfl rfl rfl (trivial) ⟨⟨_, rfl, .same _ (by simp)⟩, trivial⟩
          · rw [hb30]
            replace h := Sh.if_f h hb30
            refine AR.skip rfl ?_
            refine AR.skip rfl ?_
            refine AR.skip rfl ?_
            refine AR.drop (frx := [(27, _), (30, _)]) ⟨rfl, rfl, trivial⟩ ?_
            refine AR.op (r := bl false) rfl (aop_pick rfl rfl rfl) ?_
            refine AR.op (r := bl false) rfl (aop_move (.inr rfl) rfl) ?_
            refine AR.nil ?_
            refine hK11 _ (AWP.weak (Weak.re (fr' := [(2, bl false)]) (H' := .empty) [] [] rfl rfl rfl (trivial) ⟨⟨_, rfl, .same _ (by simp)⟩, trivial⟩) ?_)
            clear hK11 K11
            refine awp_ret ?_
            obtain rfl := Option.some.inj h
            refine ⟨.inr rfl, bl false, rfl, ?_⟩
            exact Weak.re [] [] rfl rfl rfl (trivial) ⟨⟨_, rfl, .same _ (by simp)⟩, trivial⟩
        · replace h := Sh.if_f h hb28
          refine awp_skip ?_
          refine hK10 _ (AWP.weak (Weak.re (fr' := [(1, .ref 0 0 0), (4, .sl (List.map i64 r17.1)), (5, bl r17.2)]) (H' := ⟨1, [(0, (2, [G.graph_Graph.av g_0]))]⟩) [(0, 0)] [] rfl rfl rfl (.cons rfl rfl (.one (.same _ (by simp)) rfl) (of_decide_eq_true rfl) (trivial)) ⟨⟨_, rfl, .ref rfl⟩, ⟨.sl (List.map i64 r17.1), rfl, .same _ (by simp)⟩, ⟨_, rfl, .same _ (by simp)⟩, trivial⟩) ?_)
          clear hK10 K10
          refine awp_seqK fun K12 hK12 => ?_
          refine awp_reg rfl ?_
          refine AR.op (r := bl r17.2) rfl (aop_move (.inl rfl) rfl) ?_
          refine AR.op (r := bl r17.2) rfl (aop_move (.inl rfl) rfl) ?_
          rcases Bool.eq_false_or_eq_true (r17.2) with hb33 | hb33
          · rw [hb33]
            replace h := Sh.if_t h hb33
            refine AR.op (r := G.graph_Graph.av g_0) rfl (aop_load_ref rfl rfl rfl rfl sz24 rfl) ?_
            refine AR.drop (frx := [(4, _), (33, _), (34, _)]) ⟨rfl, rfl, rfl, trivial⟩ ?_
            refine AR.op (r := .sl (List.map i64 r17.1)) rfl (aop_move (.inl rfl) rfl) ?_
            obtain ⟨r34, hr34, h⟩ := Sh.bind_some' h
            refine AR.op (r := bl r34) rfl (aop_call1 rfl rfl (by simp) (topo_Is_ok hT hr34)) ?_
            refine AR.op (r := bl r34) rfl (aop_pick rfl rfl rfl) ?_
            refine AR.drop (frx := [(37, _)]) ⟨rfl, trivial⟩ ?_
            refine AR.op (r := bl r34) rfl (aop_move (.inr rfl) rfl) ?_
            refine AR.nil ?_
            refine hK12 _ (AWP.weak (Weak.re (fr' := [(2, bl r34)]) (H' := .empty) [] [] rfl rfl rfl (trivial) ⟨⟨_, rfl, .same _ (by simp)⟩, trivial⟩) ?_)
            clear hK12 K12
            refine awp_ret ?_
            obtain rfl := Option.some.inj h
            refine ⟨.inr rfl, bl r34, rfl, ?_⟩
            exact Weak.re [] [] rfl rfl rfl (trivial) ⟨⟨_, rfl, .same _ (by simp)⟩, trivial⟩
          · rw [hb33]
            replace h := Sh.if_f h hb33
            refine AR.skip rfl ?_
            refine AR.drop (frx := [(4, _), (33, _), (34, _)]) ⟨rfl, rfl, rfl, trivial⟩ ?_
            refine AR.skip rfl ?_
            refine AR.skip rfl ?_
            refine AR.op (r := bl false) rfl (aop_pick rfl rfl rfl) ?_
            refine AR.drop (frx := [(37, _)]) ⟨rfl, trivial⟩ ?_
            refine AR.op (r := bl false) rfl (aop_move (.inr rfl) rfl) ?_
            refine AR.nil ?_
            refine hK12 _ (AWP.weak (Weak.re (fr' := [(2, bl false)]) (H' := .empty) [] [] rfl rfl rfl (trivial) ⟨⟨_, rfl, .same _ (by simp)⟩, trivial⟩) ?_)
            clear hK12 K12
            refine awp_ret ?_
            obtain rfl := Option.some.inj h
            refine ⟨.inr rfl, bl false, rfl, ?_⟩
            exact Weak.re [] [] rfl rfl rfl (trivial) ⟨⟨_, rfl, .same _ (by simp)⟩, trivial⟩
      · intro K13 hK13
        refine awp_reg rfl ?_
        refine AR.op (r := G.graph_Graph.av g_0) rfl (aop_load_ref rfl rfl rfl rfl sz24 rfl) ?_
        obtain ⟨r35, hr35, h⟩ := Sh.bind_some' h
        refine AR.op (r := bl r35) rfl (aop_call1 rfl rfl (by simp) (graph_Right_ok hT hr35)) ?_
        refine AR.op (r := bl (!r35)) rfl (aop_not rfl rfl) ?_
        refine AR.drop (frx := [(1, _), (4, _), (5, _), (20, _)]) ⟨rfl, rfl, rfl, rfl, trivial⟩ ?_
        refine AR.op (r := bl (!r35)) rfl (aop_move (.inl rfl) rfl) ?_
        rcases Bool.eq_false_or_eq_true (!r35) with hb36 | hb36
        · rw [hb36]
          replace h := Sh.if_t h hb36
          refine AR.skip rfl ?_
          refine AR.skip rfl ?_
          refine AR.drop (frx := [(1, _), (4, _), (5, _), (21, _), (23, _)]) ⟨rfl, rfl, rfl, rfl, rfl, trivial⟩ ?_
          refine AR.op (r := bl true) rfl (aop_pick rfl rfl rfl) ?_
          refine AR.nil ?_
          exact hK13 true _ h (Weak.re (fr' := [(1, .ref 0 0 0), (4, .sl (List.map i64 r17.1)), (5, bl r17.2), (24, bl true)]) (H' := ⟨1, [(0, (2, [G.graph_Graph.av g_0]))]⟩) [(0, 0)] [] rfl rfl rfl (.cons rfl rfl (.one (.same _ (by simp)) rfl) (of_decide_eq_true rfl) (trivial)) ⟨⟨_, rfl, .ref rfl⟩, ⟨.sl (List.map i64 r17.1), rfl, .same _ (by simp)⟩, ⟨_, rfl, .same _ (by simp)⟩, ⟨_, rfl, .same _ (by simp)⟩, trivial⟩)
        · rw [hb36]
          replace h := Sh.if_f h hb36
          refine AR.op (r := G.graph_Graph.av g_0) rfl (aop_load_ref rfl rfl rfl rfl sz24 rfl) ?_
          obtain ⟨r37, hr37, h⟩ := Sh.bind_some' h
          refine AR.op (r := bl r37) rfl (aop_call1 rfl rfl (by simp) (reach_Cyclic_ok hT hr37)) ?_
          refine AR.drop (frx := [(1, _), (4, _), (5, _), (21, _), (23, _)]) ⟨rfl, rfl, rfl, rfl, rfl, trivial⟩ ?_
          refine AR.op (r := bl r37) rfl (aop_pick rfl rfl rfl) ?_
          refine AR.nil ?_
          exact hK13 r37 _ h (Weak.re (fr' := [(1, .ref 0 0 0), (4, .sl (List.map i64 r17.1)), (5, bl r17.2), (24, bl r37)]) (H' := ⟨1, [(0, (2, [G.graph_Graph.av g_0]))]⟩) [(0, 0)] [] rfl rfl rfl (.cons rfl rfl (.one (.same _ (by simp)) rfl) (of_decide_eq_true rfl) (trivial)) ⟨⟨_, rfl, .ref rfl⟩, ⟨.sl (List.map i64 r17.1), rfl, .same _ (by simp)⟩, ⟨_, rfl, .same _ (by simp)⟩, ⟨_, rfl, .same _ (by simp)⟩, trivial⟩)
theorem inquestlaw16_TopoHas_ok {W0 : World} (hT : Tab W0) {g_0 : G.graph_Graph} {r : Bool} (h : G.inquestlaw16_TopoHas g_0 = some r) : Fun1 Tryd.prog W0 13 [G.graph_Graph.av g_0] (bl r) := Fun1.two (inquestlaw16_TopoHas_ok0 hT h) (by simp)

end Wk
