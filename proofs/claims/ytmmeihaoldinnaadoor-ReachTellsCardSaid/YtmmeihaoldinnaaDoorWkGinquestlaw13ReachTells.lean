/- That a statement does what its plain function says. -/
import Derived.Test.YtmmeihaoldinnaaDoorWkGinquestlaw13
open Go Go.Av Go.Proofs
set_option linter.unusedVariables false
namespace Wk
set_option maxHeartbeats 8000000 in
theorem inquestlaw13_ReachTells_ok0 {W0 : World} (hT : Tab W0) {g_0 : G.graph_Graph} {a_1 : Int} {b_2 : Int} {r : Bool} (h : G.inquestlaw13_ReachTells g_0 a_1 b_2 = some r) : Fun2 Tryd.prog W0 5 [G.graph_Graph.av g_0, i64 a_1, i64 b_2] (bl r) .empty := by
  refine fun2_of_awp Tryd.func5 rfl (by kernel_rfl) Tryd.ntmps5 (by simp) ?_
  unfold G.inquestlaw13_ReachTells at h
  show AWP _ _ _ _ ⟨[(0, G.graph_Graph.av g_0), (1, i64 a_1), (2, i64 b_2)], .empty⟩ _
  refine awp_seqK fun K1 hK1 => ?_
  refine awp_reg rfl ?_
  refine AR.op (r := .ref 0 0 0) rfl (aop_box 2 [G.graph_Graph.av g_0] rfl rfl rfl (.inl ⟨rfl, rfl⟩)) ?_
  refine AR.op (r := bl false) rfl (aop_move (.inr rfl) rfl) ?_
  refine AR.nil ?_
  refine hK1 _ (AWP.weak (Weak.re (fr' := [(1, i64 a_1), (2, i64 b_2), (3, .ref 0 0 0)]) (H' := ⟨1, [(0, (2, [G.graph_Graph.av g_0]))]⟩) [(0, 0)] [] rfl rfl rfl (.cons rfl rfl (.one (.same _ (by simp)) rfl) (of_decide_eq_true rfl) (trivial)) ⟨⟨_, rfl, .same _ (by simp)⟩, ⟨_, rfl, .same _ (by simp)⟩, ⟨_, rfl, .ref rfl⟩, trivial⟩) ?_)
  clear hK1 K1
  refine awp_seqK fun K2 hK2 => ?_
  refine awp_reg rfl ?_
  obtain ⟨r44, hr44, h⟩ := Sh.bind_some' h
  refine AR.op (r := bl r44) rfl (aop_call1 rfl rfl (by simp) (inquestlaw13_awake_ok hT hr44)) ?_
  refine AR.op (r := bl r44) rfl (aop_move (.inr rfl) rfl) ?_
  refine AR.nil ?_
  refine hK2 _ (AWP.weak (Weak.re (fr' := [(1, i64 a_1), (2, i64 b_2), (3, .ref 0 0 0), (7, bl r44)]) (H' := ⟨1, [(0, (2, [G.graph_Graph.av g_0]))]⟩) [(0, 0)] [] rfl rfl rfl (.cons rfl rfl (.one (.same _ (by simp)) rfl) (of_decide_eq_true rfl) (trivial)) ⟨⟨_, rfl, .same _ (by simp)⟩, ⟨_, rfl, .same _ (by simp)⟩, ⟨_, rfl, .ref rfl⟩, ⟨_, rfl, .same _ (by simp)⟩, trivial⟩) ?_)
  clear hK2 K2
  refine awp_seqK fun K3 hK3 => ?_
  refine awp_seqK fun K4 hK4 => ?_
  refine awp_reg rfl ?_
  refine AR.op (r := bl r44) rfl (aop_move (.inl rfl) rfl) ?_
  refine AR.op (r := bl (!r44)) rfl (aop_not rfl rfl) ?_
  refine AR.nil ?_
  refine hK4 _ (AWP.weak (Weak.re (fr' := [(1, i64 a_1), (2, i64 b_2), (3, .ref 0 0 0), (17, bl (!r44))]) (H' := ⟨1, [(0, (2, [G.graph_Graph.av g_0]))]⟩) [(0, 0)] [] rfl rfl rfl (.cons rfl rfl (.one (.same _ (by simp)) rfl) (of_decide_eq_true rfl) (trivial)) ⟨⟨_, rfl, .same _ (by simp)⟩, ⟨_, rfl, .same _ (by simp)⟩, ⟨_, rfl, .ref rfl⟩, ⟨_, rfl, .same _ (by simp)⟩, trivial⟩) ?_)
  clear hK4 K4
  refine awp_cond rfl (fun hb45 => ?_) (fun hb45 => ?_)
  · replace h := Sh.if_t h hb45
    refine awp_seqK fun K5 hK5 => ?_
    refine awp_reg rfl ?_
    refine AR.op (r := bl false) rfl (aop_move (.inr rfl) rfl) ?_
    refine AR.nil ?_
    refine hK5 _ (AWP.weak (Weak.re (fr' := [(6, bl false)]) (H' := .empty) [] [] rfl rfl rfl (trivial) ⟨⟨_, rfl, .same _ (by simp)⟩, trivial⟩) ?_)
    clear hK5 K5
    refine awp_ret ?_
    obtain rfl := Option.some.inj h
    refine ⟨.inr rfl, bl false, rfl, ?_⟩
    exact Weak.re [] [] rfl rfl rfl (trivial) ⟨⟨_, rfl, .same _ (by simp)⟩, trivial⟩
  · replace h := Sh.if_f h hb45
    refine awp_skip ?_
    refine hK3 _ (AWP.weak (Weak.re (fr' := [(1, i64 a_1), (2, i64 b_2), (3, .ref 0 0 0)]) (H' := ⟨1, [(0, (2, [G.graph_Graph.av g_0]))]⟩) [(0, 0)] [] rfl rfl rfl (.cons rfl rfl (.one (.same _ (by simp)) rfl) (of_decide_eq_true rfl) (trivial)) ⟨⟨_, rfl, .same _ (by simp)⟩, ⟨_, rfl, .same _ (by simp)⟩, ⟨_, rfl, .ref rfl⟩, trivial⟩) ?_)
    clear hK3 K3
    refine awp_seqK fun K6 hK6 => ?_
    refine awp_reg rfl ?_
    refine AR.op (r := G.graph_Graph.av g_0) rfl (aop_load_ref rfl rfl rfl rfl sz24 rfl) ?_
    obtain ⟨r47, hr47, h⟩ := Sh.bind_some' h
    refine AR.op (r := G.inquestref12_G.av r47) rfl (aop_call1 rfl rfl (by simp) (inquestlaw13_plain_ok hT hr47)) ?_
    refine AR.op (r := .ref 1 0 0) rfl (aop_alloc 2 [.agg [i64 0, nilS]] rfl zr26 (by kernel_rfl) (.inl ⟨rfl, rfl⟩)) ?_
    refine AR.drop (frx := [(1, _), (2, _), (3, _), (19, _), (8, _)]) ⟨rfl, rfl, rfl, rfl, rfl, trivial⟩ ?_
    refine AR.op rfl (aop_store (e' := G.inquestref12_G.av r47) rfl rfl rfl rfl rfl rfl sz26 rfl (of_decide_eq_true rfl) rfl) ?_
    refine AR.nil ?_
    refine hK6 _ (AWP.weak (Weak.re (fr' := [(1, i64 a_1), (2, i64 b_2), (3, .ref 0 0 0), (8, .ref 1 0 0)]) (H' := ⟨2, [(0, (2, [G.graph_Graph.av g_0])), (1, (2, [G.inquestref12_G.av r47]))]⟩) [(0, 0), (1, 1)] [] rfl rfl rfl (.cons rfl rfl (.one (.same _ (by simp)) rfl) (of_decide_eq_true rfl) (.cons rfl rfl (.one (.same _ (by simp)) rfl) (of_decide_eq_true rfl) (trivial))) ⟨⟨_, rfl, .same _ (by simp)⟩, ⟨_, rfl, .same _ (by simp)⟩, ⟨_, rfl, .ref rfl⟩, ⟨_, rfl, .ref rfl⟩, trivial⟩) ?_)
    clear hK6 K6
    refine awp_seqK fun K7 hK7 => ?_
    refine awp_seqK fun K8 hK8 => ?_
    refine awp_reg rfl ?_
    refine AR.op rfl (aop_field_ref rfl rfl rfl fd24_1 (by decide)) ?_
    refine AR.op (r := .sl (List.map u64 g_0.Rows)) rfl (aop_load_ref rfl rfl rfl rfl sz22 rfl) ?_
    refine AR.op (r := i64 (Sh.len g_0.Rows)) rfl (t_len_sl u64 g_0.Rows rfl rfl el22) ?_
    refine AR.drop (frx := [(1, _), (2, _), (3, _), (8, _), (22, _)]) ⟨rfl, rfl, rfl, rfl, rfl, trivial⟩ ?_
    refine AR.op (r := bl (decide ((70 : Int) < (Sh.len g_0.Rows)))) rfl (aop_gtr rfl rfl rfl) ?_
    refine AR.nil ?_
    refine hK8 _ (AWP.weak (Weak.re (fr' := [(1, i64 a_1), (2, i64 b_2), (3, .ref 0 0 0), (8, .ref 1 0 0), (23, bl (decide ((70 : Int) < (Sh.len g_0.Rows))))]) (H' := ⟨2, [(0, (2, [G.graph_Graph.av g_0])), (1, (2, [G.inquestref12_G.av r47]))]⟩) [(0, 0), (1, 1)] [] rfl rfl rfl (.cons rfl rfl (.one (.same _ (by simp)) rfl) (of_decide_eq_true rfl) (.cons rfl rfl (.one (.same _ (by simp)) rfl) (of_decide_eq_true rfl) (trivial))) ⟨⟨_, rfl, .same _ (by simp)⟩, ⟨_, rfl, .same _ (by simp)⟩, ⟨_, rfl, .ref rfl⟩, ⟨_, rfl, .ref rfl⟩, ⟨_, rfl, .same _ (by simp)⟩, trivial⟩) ?_)
    clear hK8 K8
    refine awp_cond rfl (fun hb48 => ?_) (fun hb48 => ?_)
    · replace h := Sh.if_t h hb48
      refine awp_seqK fun K9 hK9 => ?_
      refine awp_reg rfl ?_
      refine AR.op (r := bl true) rfl (aop_move (.inr rfl) rfl) ?_
      refine AR.nil ?_
      refine hK9 _ (AWP.weak (Weak.re (fr' := [(6, bl true)]) (H' := .empty) [] [] rfl rfl rfl (trivial) ⟨⟨_, rfl, .same _ (by simp)⟩, trivial⟩) ?_)
      clear hK9 K9
      refine awp_ret ?_
      obtain rfl := Option.some.inj h
      refine ⟨.inr rfl, bl true, rfl, ?_⟩
      exact Weak.re [] [] rfl rfl rfl (trivial) ⟨⟨_, rfl, .same _ (by simp)⟩, trivial⟩
    · replace h := Sh.if_f h hb48
      refine awp_skip ?_
      refine hK7 _ (AWP.weak (Weak.re (fr' := [(1, i64 a_1), (2, i64 b_2), (3, .ref 0 0 0), (8, .ref 1 0 0)]) (H' := ⟨2, [(0, (2, [G.graph_Graph.av g_0])), (1, (2, [G.inquestref12_G.av r47]))]⟩) [(0, 0), (1, 1)] [] rfl rfl rfl (.cons rfl rfl (.one (.same _ (by simp)) rfl) (of_decide_eq_true rfl) (.cons rfl rfl (.one (.same _ (by simp)) rfl) (of_decide_eq_true rfl) (trivial))) ⟨⟨_, rfl, .same _ (by simp)⟩, ⟨_, rfl, .same _ (by simp)⟩, ⟨_, rfl, .ref rfl⟩, ⟨_, rfl, .ref rfl⟩, trivial⟩) ?_)
      clear hK7 K7
      refine awp_seqK fun K10 hK10 => ?_
      refine awp_reg rfl ?_
      refine AR.op (r := G.inquestref12_G.av r47) rfl (aop_load_ref rfl rfl rfl rfl sz26 rfl) ?_
      obtain ⟨r50, hr50, h⟩ := Sh.bind_some' h
      refine AR.op (r := bl r50) rfl (aop_call1 rfl rfl (by simp) (inquestref12_Right_ok hT hr50)) ?_
      refine AR.op (r := bl r50) rfl (aop_move (.inr rfl) rfl) ?_
      refine AR.nil ?_
      refine hK10 _ (AWP.weak (Weak.re (fr' := [(1, i64 a_1), (2, i64 b_2), (3, .ref 0 0 0), (8, .ref 1 0 0), (9, bl r50)]) (H' := ⟨2, [(0, (2, [G.graph_Graph.av g_0])), (1, (2, [G.inquestref12_G.av r47]))]⟩) [(0, 0), (1, 1)] [] rfl rfl rfl (.cons rfl rfl (.one (.same _ (by simp)) rfl) (of_decide_eq_true rfl) (.cons rfl rfl (.one (.same _ (by simp)) rfl) (of_decide_eq_true rfl) (trivial))) ⟨⟨_, rfl, .same _ (by simp)⟩, ⟨_, rfl, .same _ (by simp)⟩, ⟨_, rfl, .ref rfl⟩, ⟨_, rfl, .ref rfl⟩, ⟨_, rfl, .same _ (by simp)⟩, trivial⟩) ?_)
      clear hK10 K10
      refine awp_seqK fun K11 hK11 => ?_
      refine awp_seqJ (fun (p : Bool × Bool) => (⟨[(1, i64 a_1), (2, i64 b_2), (3, .ref 0 0 0), (8, .ref 1 0 0), (9, bl p.1), (31, bl p.2)], ⟨2, [(0, (2, [G.graph_Graph.av g_0])), (1, (2, [G.inquestref12_G.av r47]))]⟩⟩ : St)) (fun (p : Bool × Bool) => G.inquestlaw13_ReachTells_j1 g_0 a_1 b_2 r47 p.1 p.2 = some r) ?_ ?_
      · rintro ⟨right55, v56⟩ h
        replace h : G.inquestlaw13_ReachTells_j1 g_0 a_1 b_2 r47 right55 v56 = some r := h
        unfold G.inquestlaw13_ReachTells_j1 at h
        show AWP _ _ _ _ ⟨[(1, i64 a_1), (2, i64 b_2), (3, .ref 0 0 0), (8, .ref 1 0 0), (9, bl right55), (31, bl v56)], ⟨2, [(0, (2, [G.graph_Graph.av g_0])), (1, (2, [G.inquestref12_G.av r47]))]⟩⟩ _
        refine awp_cond rfl (fun hb57 => ?_) (fun hb57 => ?_)
        · replace h := Sh.if_t h hb57
          refine awp_seqK fun K12 hK12 => ?_
          refine awp_reg rfl ?_
          refine AR.op (r := bl true) rfl (aop_move (.inr rfl) rfl) ?_
          refine AR.nil ?_
          refine hK12 _ (AWP.weak (Weak.re (fr' := [(6, bl true)]) (H' := .empty) [] [] rfl rfl rfl (trivial) ⟨⟨_, rfl, .same _ (by simp)⟩, trivial⟩) ?_)
          clear hK12 K12
          refine awp_ret ?_
          obtain rfl := Option.some.inj h
          refine ⟨.inr rfl, bl true, rfl, ?_⟩
          exact Weak.re [] [] rfl rfl rfl (trivial) ⟨⟨_, rfl, .same _ (by simp)⟩, trivial⟩
        · replace h := Sh.if_f h hb57
          refine awp_skip ?_
          refine hK11 _ (AWP.weak (Weak.re (fr' := [(1, i64 a_1), (2, i64 b_2), (3, .ref 0 0 0), (8, .ref 1 0 0), (9, bl right55)]) (H' := ⟨2, [(0, (2, [G.graph_Graph.av g_0])), (1, (2, [G.inquestref12_G.av r47]))]⟩) [(0, 0), (1, 1)] [] rfl rfl rfl (.cons rfl rfl (.one (.same _ (by simp)) rfl) (of_decide_eq_true rfl) (.cons rfl rfl (.one (.same _ (by simp)) rfl) (of_decide_eq_true rfl) (trivial))) ⟨⟨_, rfl, .same _ (by simp)⟩, ⟨_, rfl, .same _ (by simp)⟩, ⟨_, rfl, .ref rfl⟩, ⟨_, rfl, .ref rfl⟩, ⟨_, rfl, .same _ (by simp)⟩, trivial⟩) ?_)
          clear hK11 K11
          refine awp_seqK fun K13 hK13 => ?_
          refine awp_reg rfl ?_
          refine AR.op (r := G.graph_Graph.av g_0) rfl (aop_load_ref rfl rfl rfl rfl sz24 rfl) ?_
          obtain ⟨r59, hr59, h⟩ := Sh.bind_some' h
          refine AR.op (r := .tuple [G.graph_Graph.av r59.1, i64 r59.2]) rfl (aop_call1 rfl rfl (by simp) (reach_Close_ok hT hr59)) ?_
          refine AR.op (r := .tuple [G.graph_Graph.av r59.1, i64 r59.2]) rfl (aop_move (.inl rfl) rfl) ?_
          refine AR.drop (frx := [(1, _), (2, _), (3, _), (8, _), (9, _), (32, _)]) ⟨rfl, rfl, rfl, rfl, rfl, rfl, trivial⟩ ?_
          refine AR.op (r := G.graph_Graph.av r59.1) rfl (aop_extract rfl rfl rfl) ?_
          refine AR.op (r := i64 r59.2) rfl (aop_extract rfl rfl rfl) ?_
          refine AR.op (r := .ref 2 0 0) rfl (aop_alloc 2 [.agg [i64 0, nilS]] rfl zr24 (by kernel_rfl) (.inl ⟨rfl, rfl⟩)) ?_
          refine AR.drop (frx := [(1, _), (2, _), (3, _), (8, _), (9, _), (35, _), (36, _), (10, _)]) ⟨rfl, rfl, rfl, rfl, rfl, rfl, rfl, rfl, trivial⟩ ?_
          refine AR.op rfl (aop_store (e' := G.graph_Graph.av r59.1) rfl rfl rfl rfl rfl rfl sz24 rfl (of_decide_eq_true rfl) rfl) ?_
          refine AR.op (r := i64 r59.2) rfl (aop_move (.inr rfl) rfl) ?_
          refine AR.nil ?_
          refine hK13 _ (AWP.weak (Weak.re (fr' := [(1, i64 a_1), (2, i64 b_2), (3, .ref 0 0 0), (8, .ref 1 0 0), (9, bl right55), (10, .ref 2 0 0), (11, i64 r59.2)]) (H' := ⟨3, [(0, (2, [G.graph_Graph.av g_0])), (1, (2, [G.inquestref12_G.av r47])), (2, (2, [G.graph_Graph.av r59.1]))]⟩) [(0, 0), (1, 1), (2, 2)] [] rfl rfl rfl (.cons rfl rfl (.one (.same _ (by simp)) rfl) (of_decide_eq_true rfl) (.cons rfl rfl (.one (.same _ (by simp)) rfl) (of_decide_eq_true rfl) (.cons rfl rfl (.one (.same _ (by simp)) rfl) (of_decide_eq_true rfl) (trivial)))) ⟨⟨_, rfl, .same _ (by simp)⟩, ⟨_, rfl, .same _ (by simp)⟩, ⟨_, rfl, .ref rfl⟩, ⟨_, rfl, .ref rfl⟩, ⟨_, rfl, .same _ (by simp)⟩, ⟨_, rfl, .ref rfl⟩, ⟨_, rfl, .same _ (by simp)⟩, trivial⟩) ?_)
          clear hK13 K13
          refine awp_seqK fun K14 hK14 => ?_
          refine awp_reg rfl ?_
          refine AR.op (r := G.graph_Graph.av g_0) rfl (aop_load_ref rfl rfl rfl rfl sz24 rfl) ?_
          refine AR.op (r := i64 a_1) rfl (aop_move (.inl rfl) rfl) ?_
          refine AR.op (r := i64 b_2) rfl (aop_move (.inl rfl) rfl) ?_
          refine AR.drop (frx := [(1, _), (2, _), (3, _), (8, _), (9, _), (10, _), (11, _), (38, _), (39, _), (40, _)]) ⟨rfl, rfl, rfl, rfl, rfl, rfl, rfl, rfl, rfl, rfl, trivial⟩ ?_
          obtain ⟨r61, hr61, h⟩ := Sh.bind_some' h
          refine AR.op (r := .tuple [G.graph_Graph.av r61.1, i64 r61.2]) rfl (aop_call1 rfl rfl (by simp) (reach_More_ok hT hr61)) ?_
          refine AR.op (r := .tuple [G.graph_Graph.av r61.1, i64 r61.2]) rfl (aop_move (.inl rfl) rfl) ?_
          refine AR.op (r := G.graph_Graph.av r61.1) rfl (aop_extract rfl rfl rfl) ?_
          refine AR.drop (frx := [(1, _), (2, _), (3, _), (8, _), (9, _), (10, _), (11, _), (37, _), (42, _)]) ⟨rfl, rfl, rfl, rfl, rfl, rfl, rfl, rfl, rfl, trivial⟩ ?_
          refine AR.op (r := i64 r61.2) rfl (aop_extract rfl rfl rfl) ?_
          refine AR.op (r := .ref 3 0 0) rfl (aop_alloc 2 [.agg [i64 0, nilS]] rfl zr24 (by kernel_rfl) (.inl ⟨rfl, rfl⟩)) ?_
          refine AR.op rfl (aop_store (e' := G.graph_Graph.av r61.1) rfl rfl rfl rfl rfl rfl sz24 rfl (of_decide_eq_true rfl) rfl) ?_
          refine AR.drop (frx := [(1, _), (2, _), (3, _), (8, _), (9, _), (10, _), (11, _), (43, _), (12, _)]) ⟨rfl, rfl, rfl, rfl, rfl, rfl, rfl, rfl, rfl, trivial⟩ ?_
          refine AR.op (r := i64 r61.2) rfl (aop_move (.inr rfl) rfl) ?_
          refine AR.nil ?_
          refine hK14 _ (AWP.weak (Weak.re (fr' := [(1, i64 a_1), (2, i64 b_2), (3, .ref 0 0 0), (8, .ref 1 0 0), (9, bl right55), (10, .ref 2 0 0), (11, i64 r59.2), (12, .ref 3 0 0), (13, i64 r61.2)]) (H' := ⟨4, [(0, (2, [G.graph_Graph.av g_0])), (1, (2, [G.inquestref12_G.av r47])), (2, (2, [G.graph_Graph.av r59.1])), (3, (2, [G.graph_Graph.av r61.1]))]⟩) [(0, 0), (1, 1), (2, 2), (3, 3)] [] rfl rfl rfl (.cons rfl rfl (.one (.same _ (by simp)) rfl) (of_decide_eq_true rfl) (.cons rfl rfl (.one (.same _ (by simp)) rfl) (of_decide_eq_true rfl) (.cons rfl rfl (.one (.same _ (by simp)) rfl) (of_decide_eq_true rfl) (.cons rfl rfl (.one (.same _ (by simp)) rfl) (of_decide_eq_true rfl) (trivial))))) ⟨⟨_, rfl, .same _ (by simp)⟩, ⟨_, rfl, .same _ (by simp)⟩, ⟨_, rfl, .ref rfl⟩, ⟨_, rfl, .ref rfl⟩, ⟨_, rfl, .same _ (by simp)⟩, ⟨_, rfl, .ref rfl⟩, ⟨_, rfl, .same _ (by simp)⟩, ⟨_, rfl, .ref rfl⟩, ⟨_, rfl, .same _ (by simp)⟩, trivial⟩) ?_)
          clear hK14 K14
          refine awp_seqK fun K15 hK15 => ?_
          refine awp_seqK fun K16 hK16 => ?_
          refine awp_reg rfl ?_
          refine AR.op (r := bl right55) rfl (aop_move (.inl rfl) rfl) ?_
          refine AR.op (r := bl (!right55)) rfl (aop_not rfl rfl) ?_
          refine AR.nil ?_
          refine hK16 _ (AWP.weak (Weak.re (fr' := [(1, i64 a_1), (2, i64 b_2), (3, .ref 0 0 0), (8, .ref 1 0 0), (10, .ref 2 0 0), (11, i64 r59.2), (12, .ref 3 0 0), (13, i64 r61.2), (45, bl (!right55))]) (H' := ⟨4, [(0, (2, [G.graph_Graph.av g_0])), (1, (2, [G.inquestref12_G.av r47])), (2, (2, [G.graph_Graph.av r59.1])), (3, (2, [G.graph_Graph.av r61.1]))]⟩) [(0, 0), (1, 1), (2, 2), (3, 3)] [] rfl rfl rfl (.cons rfl rfl (.one (.same _ (by simp)) rfl) (of_decide_eq_true rfl) (.cons rfl rfl (.one (.same _ (by simp)) rfl) (of_decide_eq_true rfl) (.cons rfl rfl (.one (.same _ (by simp)) rfl) (of_decide_eq_true rfl) (.cons rfl rfl (.one (.same _ (by simp)) rfl) (of_decide_eq_true rfl) (trivial))))) ⟨⟨_, rfl, .same _ (by simp)⟩, ⟨_, rfl, .same _ (by simp)⟩, ⟨_, rfl, .ref rfl⟩, ⟨_, rfl, .ref rfl⟩, ⟨_, rfl, .ref rfl⟩, ⟨_, rfl, .same _ (by simp)⟩, ⟨_, rfl, .ref rfl⟩, ⟨_, rfl, .same _ (by simp)⟩, ⟨_, rfl, .same _ (by simp)⟩, trivial⟩) ?_)
          clear hK16 K16
          refine awp_cond rfl (fun hb69 => ?_) (fun hb69 => ?_)
          · replace h := Sh.if_t h hb69
            refine awp_seqK fun K17 hK17 => ?_
            refine awp_reg rfl ?_
            refine AR.op (r := i64 r59.2) rfl (aop_move (.inl rfl) rfl) ?_
            refine AR.op (r := bl (decide (r59.2 = 1))) rfl (aop_eql rfl rfl rfl) ?_
            refine AR.op (r := bl (decide (r59.2 = 1))) rfl (aop_move (.inl rfl) rfl) ?_
            refine AR.drop (frx := [(1, _), (3, _), (10, _), (12, _), (13, _), (48, _)]) ⟨rfl, rfl, rfl, rfl, rfl, rfl, trivial⟩ ?_
            rcases Bool.eq_false_or_eq_true (decide (r59.2 = 1)) with hb76 | hb76
            · rw [hb76]
              replace h := Sh.if_t h hb76
              refine AR.op (r := i64 r61.2) rfl (aop_move (.inl rfl) rfl) ?_
              refine AR.op (r := bl (decide (r61.2 = 1))) rfl (aop_eql rfl rfl rfl) ?_
              refine AR.op (r := bl (decide (r61.2 = 1))) rfl (aop_pick rfl rfl rfl) ?_
              refine AR.drop (frx := [(1, _), (3, _), (10, _), (12, _), (51, _)]) ⟨rfl, rfl, rfl, rfl, rfl, trivial⟩ ?_
              refine AR.op (r := bl (decide (r61.2 = 1))) rfl (aop_move (.inl rfl) rfl) ?_
              rcases Bool.eq_false_or_eq_true (decide (r61.2 = 1)) with hb77 | hb77
              · rw [hb77]
                replace h := Sh.if_t h hb77
                refine AR.op rfl (aop_field_ref rfl rfl rfl fd24_1 (by decide)) ?_
                refine AR.op (r := .sl (List.map u64 r59.1.Rows)) rfl (aop_load_ref rfl rfl rfl rfl sz22 rfl) ?_
                refine AR.drop (frx := [(1, _), (3, _), (12, _), (52, _), (54, _)]) ⟨rfl, rfl, rfl, rfl, rfl, trivial⟩ ?_
                refine AR.op (r := i64 (Sh.len r59.1.Rows)) rfl (t_len_sl u64 r59.1.Rows rfl rfl el22) ?_
                refine AR.op rfl (aop_field_ref rfl rfl rfl fd24_1 (by decide)) ?_
                refine AR.op (r := .sl (List.map u64 r61.1.Rows)) rfl (aop_load_ref rfl rfl rfl rfl sz22 rfl) ?_
                refine AR.drop (frx := [(1, _), (3, _), (52, _), (55, _), (57, _)]) ⟨rfl, rfl, rfl, rfl, rfl, trivial⟩ ?_
                refine AR.op (r := i64 (Sh.len r61.1.Rows)) rfl (t_len_sl u64 r61.1.Rows rfl rfl el22) ?_
                refine AR.op (r := i64 (w64 ((Sh.len r59.1.Rows) + (Sh.len r61.1.Rows)))) rfl (aop_add rfl rfl rfl rfl) ?_
                refine AR.op (r := bl (decide ((w64 ((Sh.len r59.1.Rows) + (Sh.len r61.1.Rows))) = 0))) rfl (aop_eql rfl rfl rfl) ?_
                refine AR.drop (frx := [(1, _), (3, _), (52, _), (60, _)]) ⟨rfl, rfl, rfl, rfl, trivial⟩ ?_
                refine AR.op (r := bl (decide ((w64 ((Sh.len r59.1.Rows) + (Sh.len r61.1.Rows))) = 0))) rfl (aop_pick rfl rfl rfl) ?_
                refine AR.op (r := bl (decide ((w64 ((Sh.len r59.1.Rows) + (Sh.len r61.1.Rows))) = 0))) rfl (aop_move (.inl rfl) rfl) ?_
                rcases Bool.eq_false_or_eq_true (decide ((w64 ((Sh.len r59.1.Rows) + (Sh.len r61.1.Rows))) = 0)) with hb78 | hb78
                · rw [hb78]
                  replace h := Sh.if_t h hb78
                  refine AR.op (r := G.graph_Graph.av g_0) rfl (aop_load_ref rfl rfl rfl rfl sz24 rfl) ?_
                  refine AR.drop (frx := [(1, _), (3, _), (62, _), (63, _)]) ⟨rfl, rfl, rfl, rfl, trivial⟩ ?_
                  obtain ⟨r79, hr79, h⟩ := Sh.bind_some' h
                  refine AR.op (r := bl r79) rfl (aop_call1 rfl rfl (by simp) (reach_Cyclic_ok hT hr79)) ?_
                  refine AR.op (r := bl (!r79)) rfl (aop_not rfl rfl) ?_
                  refine AR.op (r := bl (!r79)) rfl (aop_pick rfl rfl rfl) ?_
                  refine AR.drop (frx := [(1, _), (3, _), (66, _)]) ⟨rfl, rfl, rfl, trivial⟩ ?_
                  refine AR.op (r := bl (!r79)) rfl (aop_move (.inl rfl) rfl) ?_
                  rcases Bool.eq_false_or_eq_true (!r79) with hb80 | hb80
                  · rw [hb80]
                    replace h := Sh.if_t h hb80
                    refine AR.op (r := G.graph_Graph.av g_0) rfl (aop_load_ref rfl rfl rfl rfl sz24 rfl) ?_
                    refine AR.op (r := i64 a_1) rfl (aop_move (.inl rfl) rfl) ?_
                    refine AR.drop (frx := [(67, _), (68, _), (69, _)]) ⟨rfl, rfl, rfl, trivial⟩ ?_
                    obtain ⟨r81, hr81, h⟩ := Sh.bind_some' h
                    refine AR.op (r := u64 r81) rfl (aop_call1 rfl rfl (by simp) (reach_From_ok hT hr81)) ?_
                    refine AR.op (r := bl (decide (r81 = 0#64))) rfl (aop_eql64 (a := r81) (b := 0#64) rfl rfl rfl) ?_
                    refine AR.op (r := bl (decide (r81 = 0#64))) rfl (aop_pick rfl rfl rfl) ?_
                    refine AR.drop (frx := [(72, _)]) ⟨rfl, trivial⟩ ?_
                    refine AR.op (r := bl (decide (r81 = 0#64))) rfl (aop_move (.inr rfl) rfl) ?_
                    refine AR.nil ?_
                    refine hK17 _ (AWP.weak (Weak.re (fr' := [(6, bl (decide (r81 = 0#64)))]) (H' := .empty) [] [] rfl rfl rfl (trivial) ⟨⟨_, rfl, .same _ (by simp)⟩, trivial⟩) ?_)
                    clear hK17 K17
                    refine awp_ret ?_
                    obtain rfl := Option.some.inj h
                    refine ⟨.inr rfl, bl (decide (r81 = 0#64)), rfl, ?_⟩
                    exact Weak.re [] [] rfl rfl rfl (trivial) ⟨⟨_, rfl, .same _ (by simp)⟩, trivial⟩
                  · rw [hb80]
                    replace h := Sh.if_f h hb80
                    refine AR.skip rfl ?_
                    refine AR.skip rfl ?_
                    refine AR.drop (frx := [(67, _), (68, _), (69, _)]) ⟨rfl, rfl, rfl, trivial⟩ ?_
                    refine AR.skip rfl ?_
                    refine AR.skip rfl ?_
                    refine AR.op (r := bl false) rfl (aop_pick rfl rfl rfl) ?_
                    refine AR.drop (frx := [(72, _)]) ⟨rfl, trivial⟩ ?_
                    refine AR.op (r := bl false) rfl (aop_move (.inr rfl) rfl) ?_
                    refine AR.nil ?_
                    refine hK17 _ (AWP.weak (Weak.re (fr' := [(6, bl false)]) (H' := .empty) [] [] rfl rfl rfl (trivial) ⟨⟨_, rfl, .same _ (by simp)⟩, trivial⟩) ?_)
                    clear hK17 K17
                    refine awp_ret ?_
                    obtain rfl := Option.some.inj h
                    refine ⟨.inr rfl, bl false, rfl, ?_⟩
                    exact Weak.re [] [] rfl rfl rfl (trivial) ⟨⟨_, rfl, .same _ (by simp)⟩, trivial⟩
                · rw [hb78]
                  replace h := Sh.if_f h hb78
                  refine AR.skip rfl ?_
                  refine AR.drop (frx := [(1, _), (3, _), (62, _), (63, _)]) ⟨rfl, rfl, rfl, rfl, trivial⟩ ?_
                  refine AR.skip rfl ?_
                  refine AR.skip rfl ?_
                  refine AR.op (r := bl false) rfl (aop_pick rfl rfl rfl) ?_
                  refine AR.drop (frx := [(1, _), (3, _), (66, _)]) ⟨rfl, rfl, rfl, trivial⟩ ?_
                  refine AR.op (r := bl false) rfl (aop_move (.inl rfl) rfl) ?_
                  refine AR.skip rfl ?_
                  refine AR.skip rfl ?_
                  refine AR.drop (frx := [(67, _), (68, _), (69, _)]) ⟨rfl, rfl, rfl, trivial⟩ ?_
                  refine AR.skip rfl ?_
                  refine AR.skip rfl ?_
                  refine AR.op (r := bl false) rfl (aop_pick rfl rfl rfl) ?_
                  refine AR.drop (frx := [(72, _)]) ⟨rfl, trivial⟩ ?_
                  refine AR.op (r := bl false) rfl (aop_move (.inr rfl) rfl) ?_
                  refine AR.nil ?_
                  refine hK17 _ (AWP.weak (Weak.re (fr' := [(6, bl false)]) (H' := .empty) [] [] rfl rfl rfl (trivial) ⟨⟨_, rfl, .same _ (by simp)⟩, trivial⟩) ?_)
                  clear hK17 K17
                  refine awp_ret ?_
                  obtain rfl := Option.some.inj h
                  refine ⟨.inr rfl, bl false, rfl, ?_⟩
                  exact Weak.re [] [] rfl rfl rfl (trivial) ⟨⟨_, rfl, .same _ (by simp)⟩, trivial⟩
              · rw [hb77]
                replace h := Sh.if_f h hb77
                refine AR.skip rfl ?_
                refine AR.skip rfl ?_
                refine AR.drop (frx := [(1, _), (3, _), (12, _), (52, _), (54, _)]) ⟨rfl, rfl, rfl, rfl, rfl, trivial⟩ ?_
                refine AR.skip rfl ?_
                refine AR.skip rfl ?_
                refine AR.skip rfl ?_
                refine AR.drop (frx := [(1, _), (3, _), (52, _), (55, _), (57, _)]) ⟨rfl, rfl, rfl, rfl, rfl, trivial⟩ ?_
                refine AR.skip rfl ?_
                refine AR.skip rfl ?_
                refine AR.skip rfl ?_
                refine AR.drop (frx := [(1, _), (3, _), (52, _), (60, _)]) ⟨rfl, rfl, rfl, rfl, trivial⟩ ?_
                refine AR.op (r := bl false) rfl (aop_pick rfl rfl rfl) ?_
                refine AR.op (r := bl false) rfl (aop_move (.inl rfl) rfl) ?_
                refine AR.skip rfl ?_
                refine AR.drop (frx := [(1, _), (3, _), (62, _), (63, _)]) ⟨rfl, rfl, rfl, rfl, trivial⟩ ?_
                refine AR.skip rfl ?_
                refine AR.skip rfl ?_
                refine AR.op (r := bl false) rfl (aop_pick rfl rfl rfl) ?_
                refine AR.drop (frx := [(1, _), (3, _), (66, _)]) ⟨rfl, rfl, rfl, trivial⟩ ?_
                refine AR.op (r := bl false) rfl (aop_move (.inl rfl) rfl) ?_
                refine AR.skip rfl ?_
                refine AR.skip rfl ?_
                refine AR.drop (frx := [(67, _), (68, _), (69, _)]) ⟨rfl, rfl, rfl, trivial⟩ ?_
                refine AR.skip rfl ?_
                refine AR.skip rfl ?_
                refine AR.op (r := bl false) rfl (aop_pick rfl rfl rfl) ?_
                refine AR.drop (frx := [(72, _)]) ⟨rfl, trivial⟩ ?_
                refine AR.op (r := bl false) rfl (aop_move (.inr rfl) rfl) ?_
                refine AR.nil ?_
                refine hK17 _ (AWP.weak (Weak.re (fr' := [(6, bl false)]) (H' := .empty) [] [] rfl rfl rfl (trivial) ⟨⟨_, rfl, .same _ (by simp)⟩, trivial⟩) ?_)
                clear hK17 K17
                refine awp_ret ?_
                obtain rfl := Option.some.inj h
                refine ⟨.inr rfl, bl false, rfl, ?_⟩
                exact Weak.re [] [] rfl rfl rfl (trivial) ⟨⟨_, rfl, .same _ (by simp)⟩, trivial⟩
            · rw [hb76]
              replace h := Sh.if_f h hb76
              refine AR.skip rfl ?_
              refine AR.skip rfl ?_
              refine AR.op (r := bl false) rfl (aop_pick rfl rfl rfl) ?_
              refine AR.drop (frx := [(1, _), (3, _), (10, _), (12, _), (51, _)]) ⟨rfl, rfl, rfl, rfl, rfl, trivial⟩ ?_
              refine AR.op (r := bl false) rfl (aop_move (.inl rfl) rfl) ?_
              refine AR.skip rfl ?_
              refine AR.skip rfl ?_
              refine AR.drop (frx := [(1, _), (3, _), (12, _), (52, _), (54, _)]) ⟨rfl, rfl, rfl, rfl, rfl, trivial⟩ ?_
              refine AR.skip rfl ?_
              refine AR.skip rfl ?_
              refine AR.skip rfl ?_
              refine AR.drop (frx := [(1, _), (3, _), (52, _), (55, _), (57, _)]) ⟨rfl, rfl, rfl, rfl, rfl, trivial⟩ ?_
              refine AR.skip rfl ?_
              refine AR.skip rfl ?_
              refine AR.skip rfl ?_
              refine AR.drop (frx := [(1, _), (3, _), (52, _), (60, _)]) ⟨rfl, rfl, rfl, rfl, trivial⟩ ?_
              refine AR.op (r := bl false) rfl (aop_pick rfl rfl rfl) ?_
              refine AR.op (r := bl false) rfl (aop_move (.inl rfl) rfl) ?_
              refine AR.skip rfl ?_
              refine AR.drop (frx := [(1, _), (3, _), (62, _), (63, _)]) ⟨rfl, rfl, rfl, rfl, trivial⟩ ?_
              refine AR.skip rfl ?_
              refine AR.skip rfl ?_
              refine AR.op (r := bl false) rfl (aop_pick rfl rfl rfl) ?_
              refine AR.drop (frx := [(1, _), (3, _), (66, _)]) ⟨rfl, rfl, rfl, trivial⟩ ?_
              refine AR.op (r := bl false) rfl (aop_move (.inl rfl) rfl) ?_
              refine AR.skip rfl ?_
              refine AR.skip rfl ?_
              refine AR.drop (frx := [(67, _), (68, _), (69, _)]) ⟨rfl, rfl, rfl, trivial⟩ ?_
              refine AR.skip rfl ?_
              refine AR.skip rfl ?_
              refine AR.op (r := bl false) rfl (aop_pick rfl rfl rfl) ?_
              refine AR.drop (frx := [(72, _)]) ⟨rfl, trivial⟩ ?_
              refine AR.op (r := bl false) rfl (aop_move (.inr rfl) rfl) ?_
              refine AR.nil ?_
              refine hK17 _ (AWP.weak (Weak.re (fr' := [(6, bl false)]) (H' := .empty) [] [] rfl rfl rfl (trivial) ⟨⟨_, rfl, .same _ (by simp)⟩, trivial⟩) ?_)
              clear hK17 K17
              refine awp_ret ?_
              obtain rfl := Option.some.inj h
              refine ⟨.inr rfl, bl false, rfl, ?_⟩
              exact Weak.re [] [] rfl rfl rfl (trivial) ⟨⟨_, rfl, .same _ (by simp)⟩, trivial⟩
          · replace h := Sh.if_f h hb69
            refine awp_skip ?_
            refine hK15 _ (AWP.weak (Weak.re (fr' := [(1, i64 a_1), (2, i64 b_2), (3, .ref 0 0 0), (8, .ref 1 0 0), (10, .ref 2 0 0), (11, i64 r59.2), (12, .ref 3 0 0), (13, i64 r61.2)]) (H' := ⟨4, [(0, (2, [G.graph_Graph.av g_0])), (1, (2, [G.inquestref12_G.av r47])), (2, (2, [G.graph_Graph.av r59.1])), (3, (2, [G.graph_Graph.av r61.1]))]⟩) [(0, 0), (1, 1), (2, 2), (3, 3)] [] rfl rfl rfl (.cons rfl rfl (.one (.same _ (by simp)) rfl) (of_decide_eq_true rfl) (.cons rfl rfl (.one (.same _ (by simp)) rfl) (of_decide_eq_true rfl) (.cons rfl rfl (.one (.same _ (by simp)) rfl) (of_decide_eq_true rfl) (.cons rfl rfl (.one (.same _ (by simp)) rfl) (of_decide_eq_true rfl) (trivial))))) ⟨⟨_, rfl, .same _ (by simp)⟩, ⟨_, rfl, .same _ (by simp)⟩, ⟨_, rfl, .ref rfl⟩, ⟨_, rfl, .ref rfl⟩, ⟨_, rfl, .ref rfl⟩, ⟨_, rfl, .same _ (by simp)⟩, ⟨_, rfl, .ref rfl⟩, ⟨_, rfl, .same _ (by simp)⟩, trivial⟩) ?_)
            clear hK15 K15
            refine awp_seqK fun K18 hK18 => ?_
            refine awp_reg rfl ?_
            refine AR.op (r := G.inquestref12_G.av r47) rfl (aop_load_ref rfl rfl rfl rfl sz26 rfl) ?_
            obtain ⟨r83, hr83, h⟩ := Sh.bind_some' h
            refine AR.op (r := G.inquestref12_G.av r83) rfl (aop_call1 rfl rfl (by simp) (inquestref13_Close_ok hT hr83)) ?_
            refine AR.op (r := .ref 4 0 0) rfl (aop_alloc 2 [.agg [i64 0, nilS]] rfl zr26 (by kernel_rfl) (.inl ⟨rfl, rfl⟩)) ?_
            refine AR.drop (frx := [(1, _), (2, _), (3, _), (8, _), (10, _), (11, _), (12, _), (13, _), (74, _), (14, _)]) ⟨rfl, rfl, rfl, rfl, rfl, rfl, rfl, rfl, rfl, rfl, trivial⟩ ?_
            refine AR.op rfl (aop_store (e' := G.inquestref12_G.av r83) rfl rfl rfl rfl rfl rfl sz26 rfl (of_decide_eq_true rfl) rfl) ?_
            refine AR.nil ?_
            refine hK18 _ (AWP.weak (Weak.re (fr' := [(1, i64 a_1), (2, i64 b_2), (3, .ref 0 0 0), (8, .ref 1 0 0), (10, .ref 2 0 0), (11, i64 r59.2), (12, .ref 3 0 0), (13, i64 r61.2), (14, .ref 4 0 0)]) (H' := ⟨5, [(0, (2, [G.graph_Graph.av g_0])), (1, (2, [G.inquestref12_G.av r47])), (2, (2, [G.graph_Graph.av r59.1])), (3, (2, [G.graph_Graph.av r61.1])), (4, (2, [G.inquestref12_G.av r83]))]⟩) [(0, 0), (1, 1), (2, 2), (3, 3), (4, 4)] [] rfl rfl rfl (.cons rfl rfl (.one (.same _ (by simp)) rfl) (of_decide_eq_true rfl) (.cons rfl rfl (.one (.same _ (by simp)) rfl) (of_decide_eq_true rfl) (.cons rfl rfl (.one (.same _ (by simp)) rfl) (of_decide_eq_true rfl) (.cons rfl rfl (.one (.same _ (by simp)) rfl) (of_decide_eq_true rfl) (.cons rfl rfl (.one (.same _ (by simp)) rfl) (of_decide_eq_true rfl) (trivial)))))) ⟨⟨_, rfl, .same _ (by simp)⟩, ⟨_, rfl, .same _ (by simp)⟩, ⟨_, rfl, .ref rfl⟩, ⟨_, rfl, .ref rfl⟩, ⟨_, rfl, .ref rfl⟩, ⟨_, rfl, .same _ (by simp)⟩, ⟨_, rfl, .ref rfl⟩, ⟨_, rfl, .same _ (by simp)⟩, ⟨_, rfl, .ref rfl⟩, trivial⟩) ?_)
            clear hK18 K18
            refine awp_seqK fun K19 hK19 => ?_
            refine awp_seqJ (fun (p : Bool) => (⟨[(1, i64 a_1), (2, i64 b_2), (3, .ref 0 0 0), (8, .ref 1 0 0), (12, .ref 2 0 0), (13, i64 r61.2), (14, .ref 3 0 0), (90, bl p)], ⟨4, [(0, (2, [G.graph_Graph.av g_0])), (1, (2, [G.inquestref12_G.av r47])), (2, (2, [G.graph_Graph.av r61.1])), (3, (2, [G.inquestref12_G.av r83]))]⟩⟩ : St)) (fun (p : Bool) => G.inquestlaw13_ReachTells_j2 g_0 a_1 b_2 r47 r61 r83 p = some r) ?_ ?_
            · rintro v97 h
              replace h : G.inquestlaw13_ReachTells_j2 g_0 a_1 b_2 r47 r61 r83 v97 = some r := h
              unfold G.inquestlaw13_ReachTells_j2 at h
              show AWP _ _ _ _ ⟨[(1, i64 a_1), (2, i64 b_2), (3, .ref 0 0 0), (8, .ref 1 0 0), (12, .ref 2 0 0), (13, i64 r61.2), (14, .ref 3 0 0), (90, bl v97)], ⟨4, [(0, (2, [G.graph_Graph.av g_0])), (1, (2, [G.inquestref12_G.av r47])), (2, (2, [G.graph_Graph.av r61.1])), (3, (2, [G.inquestref12_G.av r83]))]⟩⟩ _
              refine awp_cond rfl (fun hb98 => ?_) (fun hb98 => ?_)
              · replace h := Sh.if_t h hb98
                refine awp_seqK fun K20 hK20 => ?_
                refine awp_reg rfl ?_
                refine AR.op (r := bl false) rfl (aop_move (.inr rfl) rfl) ?_
                refine AR.nil ?_
                refine hK20 _ (AWP.weak (Weak.re (fr' := [(6, bl false)]) (H' := .empty) [] [] rfl rfl rfl (trivial) ⟨⟨_, rfl, .same _ (by simp)⟩, trivial⟩) ?_)
                clear hK20 K20
                refine awp_ret ?_
                obtain rfl := Option.some.inj h
                refine ⟨.inr rfl, bl false, rfl, ?_⟩
                exact Weak.re [] [] rfl rfl rfl (trivial) ⟨⟨_, rfl, .same _ (by simp)⟩, trivial⟩
              · replace h := Sh.if_f h hb98
                refine awp_skip ?_
                refine hK19 _ (AWP.weak (Weak.re (fr' := [(1, i64 a_1), (2, i64 b_2), (3, .ref 0 0 0), (8, .ref 1 0 0), (12, .ref 2 0 0), (13, i64 r61.2), (14, .ref 3 0 0)]) (H' := ⟨4, [(0, (2, [G.graph_Graph.av g_0])), (1, (2, [G.inquestref12_G.av r47])), (2, (2, [G.graph_Graph.av r61.1])), (3, (2, [G.inquestref12_G.av r83]))]⟩) [(0, 0), (1, 1), (2, 2), (3, 3)] [] rfl rfl rfl (.cons rfl rfl (.one (.same _ (by simp)) rfl) (of_decide_eq_true rfl) (.cons rfl rfl (.one (.same _ (by simp)) rfl) (of_decide_eq_true rfl) (.cons rfl rfl (.one (.same _ (by simp)) rfl) (of_decide_eq_true rfl) (.cons rfl rfl (.one (.same _ (by simp)) rfl) (of_decide_eq_true rfl) (trivial))))) ⟨⟨_, rfl, .same _ (by simp)⟩, ⟨_, rfl, .same _ (by simp)⟩, ⟨_, rfl, .ref rfl⟩, ⟨_, rfl, .ref rfl⟩, ⟨_, rfl, .ref rfl⟩, ⟨_, rfl, .same _ (by simp)⟩, ⟨_, rfl, .ref rfl⟩, trivial⟩) ?_)
                clear hK19 K19
                refine awp_seqK fun K21 hK21 => ?_
                refine awp_seqJ (fun (p : Bool) => (⟨[(1, i64 a_1), (2, i64 b_2), (3, .ref 0 0 0), (8, .ref 1 0 0), (12, .ref 2 0 0), (13, i64 r61.2), (14, .ref 3 0 0), (100, bl p)], ⟨4, [(0, (2, [G.graph_Graph.av g_0])), (1, (2, [G.inquestref12_G.av r47])), (2, (2, [G.graph_Graph.av r61.1])), (3, (2, [G.inquestref12_G.av r83]))]⟩⟩ : St)) (fun (p : Bool) => G.inquestlaw13_ReachTells_j3 g_0 a_1 b_2 r47 r61 r83 p = some r) ?_ ?_
                · rintro v112 h
                  replace h : G.inquestlaw13_ReachTells_j3 g_0 a_1 b_2 r47 r61 r83 v112 = some r := h
                  unfold G.inquestlaw13_ReachTells_j3 at h
                  show AWP _ _ _ _ ⟨[(1, i64 a_1), (2, i64 b_2), (3, .ref 0 0 0), (8, .ref 1 0 0), (12, .ref 2 0 0), (13, i64 r61.2), (14, .ref 3 0 0), (100, bl v112)], ⟨4, [(0, (2, [G.graph_Graph.av g_0])), (1, (2, [G.inquestref12_G.av r47])), (2, (2, [G.graph_Graph.av r61.1])), (3, (2, [G.inquestref12_G.av r83]))]⟩⟩ _
                  refine awp_cond rfl (fun hb113 => ?_) (fun hb113 => ?_)
                  · replace h := Sh.if_t h hb113
                    refine awp_seqK fun K22 hK22 => ?_
                    refine awp_reg rfl ?_
                    refine AR.op (r := i64 r61.2) rfl (aop_move (.inl rfl) rfl) ?_
                    refine AR.op (r := bl (decide (r61.2 = 1))) rfl (aop_eql rfl rfl rfl) ?_
                    refine AR.op (r := bl (decide (r61.2 = 1))) rfl (aop_move (.inl rfl) rfl) ?_
                    refine AR.drop (frx := [(1, _), (3, _), (8, _), (12, _), (103, _)]) ⟨rfl, rfl, rfl, rfl, rfl, trivial⟩ ?_
                    rcases Bool.eq_false_or_eq_true (decide (r61.2 = 1)) with hb119 | hb119
                    · rw [hb119]
                      replace h := Sh.if_t h hb119
                      refine AR.op rfl (aop_field_ref rfl rfl rfl fd24_1 (by decide)) ?_
                      refine AR.op (r := .sl (List.map u64 r61.1.Rows)) rfl (aop_load_ref rfl rfl rfl rfl sz22 rfl) ?_
                      refine AR.op (r := i64 (Sh.len r61.1.Rows)) rfl (t_len_sl u64 r61.1.Rows rfl rfl el22) ?_
                      refine AR.drop (frx := [(1, _), (3, _), (8, _), (103, _), (106, _)]) ⟨rfl, rfl, rfl, rfl, rfl, trivial⟩ ?_
                      refine AR.op (r := bl (decide ((Sh.len r61.1.Rows) = 0))) rfl (aop_eql rfl rfl rfl) ?_
                      refine AR.op (r := bl (decide ((Sh.len r61.1.Rows) = 0))) rfl (aop_pick rfl rfl rfl) ?_
                      refine AR.op (r := bl (decide ((Sh.len r61.1.Rows) = 0))) rfl (aop_move (.inl rfl) rfl) ?_
                      refine AR.drop (frx := [(1, _), (3, _), (8, _), (109, _)]) ⟨rfl, rfl, rfl, rfl, trivial⟩ ?_
                      rcases Bool.eq_false_or_eq_true (decide ((Sh.len r61.1.Rows) = 0)) with hb120 | hb120
                      · rw [hb120]
                        replace h := Sh.if_t h hb120
                        refine AR.op (r := G.inquestref12_G.av r47) rfl (aop_load_ref rfl rfl rfl rfl sz26 rfl) ?_
                        refine AR.op (r := i64 a_1) rfl (aop_move (.inl rfl) rfl) ?_
                        obtain ⟨r121, hr121, h⟩ := Sh.bind_some' h
                        refine AR.op (r := bl r121) rfl (aop_call1 rfl rfl (by simp) (inquestref12_Node_ok hT hr121)) ?_
                        refine AR.drop (frx := [(1, _), (3, _), (109, _), (112, _)]) ⟨rfl, rfl, rfl, rfl, trivial⟩ ?_
                        refine AR.op (r := bl r121) rfl (aop_move (.inl rfl) rfl) ?_
                        rcases Bool.eq_false_or_eq_true (r121) with hb122 | hb122
                        · rw [hb122]
                          replace h := Sh.if_t h hb122
                          refine AR.skip rfl ?_
                          refine AR.skip rfl ?_
                          refine AR.drop (frx := [(109, _), (113, _), (114, _), (115, _)]) ⟨rfl, rfl, rfl, rfl, trivial⟩ ?_
                          refine AR.skip rfl ?_
                          refine AR.skip rfl ?_
                          refine AR.op (r := bl true) rfl (aop_pick rfl rfl rfl) ?_
                          refine AR.drop (frx := [(109, _), (118, _)]) ⟨rfl, rfl, trivial⟩ ?_
                          refine AR.op (r := bl true) rfl (aop_pick rfl rfl rfl) ?_
                          refine AR.op (r := bl true) rfl (aop_move (.inr rfl) rfl) ?_
                          refine AR.nil ?_
                          refine hK22 _ (AWP.weak (Weak.re (fr' := [(6, bl true)]) (H' := .empty) [] [] rfl rfl rfl (trivial) ⟨⟨_, rfl, .same _ (by simp)⟩, trivial⟩) ?_)
                          clear hK22 K22
                          refine awp_ret ?_
                          obtain rfl := Option.some.inj h
                          refine ⟨.inr rfl, bl true, rfl, ?_⟩
                          exact Weak.re [] [] rfl rfl rfl (trivial) ⟨⟨_, rfl, .same _ (by simp)⟩, trivial⟩
                        · rw [hb122]
                          replace h := Sh.if_f h hb122
                          refine AR.op (r := G.graph_Graph.av g_0) rfl (aop_load_ref rfl rfl rfl rfl sz24 rfl) ?_
                          refine AR.op (r := i64 a_1) rfl (aop_move (.inl rfl) rfl) ?_
                          refine AR.drop (frx := [(109, _), (113, _), (114, _), (115, _)]) ⟨rfl, rfl, rfl, rfl, trivial⟩ ?_
                          obtain ⟨r123, hr123, h⟩ := Sh.bind_some' h
                          refine AR.op (r := u64 r123) rfl (aop_call1 rfl rfl (by simp) (reach_From_ok hT hr123)) ?_
                          refine AR.op (r := bl (decide (r123 = 0#64))) rfl (aop_eql64 (a := r123) (b := 0#64) rfl rfl rfl) ?_
                          refine AR.op (r := bl (decide (r123 = 0#64))) rfl (aop_pick rfl rfl rfl) ?_
                          refine AR.drop (frx := [(109, _), (118, _)]) ⟨rfl, rfl, trivial⟩ ?_
                          refine AR.op (r := bl (decide (r123 = 0#64))) rfl (aop_pick rfl rfl rfl) ?_
                          refine AR.op (r := bl (decide (r123 = 0#64))) rfl (aop_move (.inr rfl) rfl) ?_
                          refine AR.nil ?_
                          refine hK22 _ (AWP.weak (Weak.re (fr' := [(6, bl (decide (r123 = 0#64)))]) (H' := .empty) [] [] rfl rfl rfl (trivial) ⟨⟨_, rfl, .same _ (by simp)⟩, trivial⟩) ?_)
                          clear hK22 K22
                          refine awp_ret ?_
                          obtain rfl := Option.some.inj h
                          refine ⟨.inr rfl, bl (decide (r123 = 0#64)), rfl, ?_⟩
                          exact Weak.re [] [] rfl rfl rfl (trivial) ⟨⟨_, rfl, .same _ (by simp)⟩, trivial⟩
                      · rw [hb120]
                        replace h := Sh.if_f h hb120
                        refine AR.skip rfl ?_
                        refine AR.skip rfl ?_
                        refine AR.skip rfl ?_
                        refine AR.drop (frx := [(1, _), (3, _), (109, _), (112, _)]) ⟨rfl, rfl, rfl, rfl, trivial⟩ ?_
                        refine AR.skip rfl ?_
                        refine AR.skip rfl ?_
                        refine AR.skip rfl ?_
                        refine AR.drop (frx := [(109, _), (113, _), (114, _), (115, _)]) ⟨rfl, rfl, rfl, rfl, trivial⟩ ?_
                        refine AR.skip rfl ?_
                        refine AR.skip rfl ?_
                        refine AR.skip rfl ?_
                        refine AR.drop (frx := [(109, _), (118, _)]) ⟨rfl, rfl, trivial⟩ ?_
                        refine AR.op (r := bl false) rfl (aop_pick rfl rfl rfl) ?_
                        refine AR.op (r := bl false) rfl (aop_move (.inr rfl) rfl) ?_
                        refine AR.nil ?_
                        refine hK22 _ (AWP.weak (Weak.re (fr' := [(6, bl false)]) (H' := .empty) [] [] rfl rfl rfl (trivial) ⟨⟨_, rfl, .same _ (by simp)⟩, trivial⟩) ?_)
                        clear hK22 K22
                        refine awp_ret ?_
                        obtain rfl := Option.some.inj h
                        refine ⟨.inr rfl, bl false, rfl, ?_⟩
                        exact Weak.re [] [] rfl rfl rfl (trivial) ⟨⟨_, rfl, .same _ (by simp)⟩, trivial⟩
                    · rw [hb119]
                      replace h := Sh.if_f h hb119
                      refine AR.skip rfl ?_
                      refine AR.skip rfl ?_
                      refine AR.skip rfl ?_
                      refine AR.drop (frx := [(1, _), (3, _), (8, _), (103, _), (106, _)]) ⟨rfl, rfl, rfl, rfl, rfl, trivial⟩ ?_
                      refine AR.skip rfl ?_
                      refine AR.op (r := bl false) rfl (aop_pick rfl rfl rfl) ?_
                      refine AR.op (r := bl false) rfl (aop_move (.inl rfl) rfl) ?_
                      refine AR.drop (frx := [(1, _), (3, _), (8, _), (109, _)]) ⟨rfl, rfl, rfl, rfl, trivial⟩ ?_
                      refine AR.skip rfl ?_
                      refine AR.skip rfl ?_
                      refine AR.skip rfl ?_
                      refine AR.drop (frx := [(1, _), (3, _), (109, _), (112, _)]) ⟨rfl, rfl, rfl, rfl, trivial⟩ ?_
                      refine AR.skip rfl ?_
                      refine AR.skip rfl ?_
                      refine AR.skip rfl ?_
                      refine AR.drop (frx := [(109, _), (113, _), (114, _), (115, _)]) ⟨rfl, rfl, rfl, rfl, trivial⟩ ?_
                      refine AR.skip rfl ?_
                      refine AR.skip rfl ?_
                      refine AR.skip rfl ?_
                      refine AR.drop (frx := [(109, _), (118, _)]) ⟨rfl, rfl, trivial⟩ ?_
                      refine AR.op (r := bl false) rfl (aop_pick rfl rfl rfl) ?_
                      refine AR.op (r := bl false) rfl (aop_move (.inr rfl) rfl) ?_
                      refine AR.nil ?_
                      refine hK22 _ (AWP.weak (Weak.re (fr' := [(6, bl false)]) (H' := .empty) [] [] rfl rfl rfl (trivial) ⟨⟨_, rfl, .same _ (by simp)⟩, trivial⟩) ?_)
                      clear hK22 K22
                      refine awp_ret ?_
                      obtain rfl := Option.some.inj h
                      refine ⟨.inr rfl, bl false, rfl, ?_⟩
                      exact Weak.re [] [] rfl rfl rfl (trivial) ⟨⟨_, rfl, .same _ (by simp)⟩, trivial⟩
                  · replace h := Sh.if_f h hb113
                    refine awp_skip ?_
                    refine hK21 _ (AWP.weak (Weak.re (fr' := [(1, i64 a_1), (2, i64 b_2), (3, .ref 0 0 0), (8, .ref 1 0 0), (12, .ref 2 0 0), (13, i64 r61.2), (14, .ref 3 0 0)]) (H' := ⟨4, [(0, (2, [G.graph_Graph.av g_0])), (1, (2, [G.inquestref12_G.av r47])), (2, (2, [G.graph_Graph.av r61.1])), (3, (2, [G.inquestref12_G.av r83]))]⟩) [(0, 0), (1, 1), (2, 2), (3, 3)] [] rfl rfl rfl (.cons rfl rfl (.one (.same _ (by simp)) rfl) (of_decide_eq_true rfl) (.cons rfl rfl (.one (.same _ (by simp)) rfl) (of_decide_eq_true rfl) (.cons rfl rfl (.one (.same _ (by simp)) rfl) (of_decide_eq_true rfl) (.cons rfl rfl (.one (.same _ (by simp)) rfl) (of_decide_eq_true rfl) (trivial))))) ⟨⟨_, rfl, .same _ (by simp)⟩, ⟨_, rfl, .same _ (by simp)⟩, ⟨_, rfl, .ref rfl⟩, ⟨_, rfl, .ref rfl⟩, ⟨_, rfl, .ref rfl⟩, ⟨_, rfl, .same _ (by simp)⟩, ⟨_, rfl, .ref rfl⟩, trivial⟩) ?_)
                    clear hK21 K21
                    refine awp_seqK fun K23 hK23 => ?_
                    refine awp_any (by kernel_rfl) (by kernel_rfl) rfl ?_
                    refine ARH.dry (r := i64 r61.2) rfl (fun _ => aop_move (.inl rfl) rfl) ?_
                    refine ARH.dry (r := bl (decide (r61.2 = 0))) rfl (fun _ => aop_eql rfl rfl rfl) ?_
                    refine ARH.dry (r := bl (decide (r61.2 = 0))) rfl (fun _ => aop_move (.inl rfl) rfl) ?_
                    refine ARH.drop (frx := [(1, _), (2, _), (3, _), (8, _), (12, _), (14, _), (122, _)]) ⟨rfl, rfl, rfl, rfl, rfl, rfl, rfl, trivial⟩ ?_
                    rcases Bool.eq_false_or_eq_true (decide (r61.2 = 0)) with hb132 | hb132
                    · rw [hb132]
                      replace h := Sh.if_t h hb132
                      refine ARH.op (r := G.graph_Graph.av r61.1) rfl rfl (aop_load_ref rfl rfl rfl rfl sz24 rfl) ?_
                      obtain ⟨r133, hr133, h⟩ := Sh.bind_some' h
                      refine ARH.op (r := G.inquestref12_G.av r133) rfl rfl (aop_call1 rfl rfl (by simp) (inquestlaw13_plain_ok hT hr133)) ?_
                      refine ARH.op (r := G.inquestref12_G.av r47) rfl rfl (aop_load_ref rfl rfl rfl rfl sz26 rfl) ?_
                      refine ARH.drop (frx := [(1, _), (2, _), (3, _), (14, _), (122, _), (124, _), (125, _)]) ⟨rfl, rfl, rfl, rfl, rfl, rfl, rfl, trivial⟩ ?_
                      refine ARH.dry (r := i64 a_1) rfl (fun _ => aop_move (.inl rfl) rfl) ?_
                      refine ARH.dry (r := i64 b_2) rfl (fun _ => aop_move (.inl rfl) rfl) ?_
                      obtain ⟨r134, hr134, h⟩ := Sh.bind_some' h
                      refine ARH.op (r := G.inquestref12_G.av r134) rfl rfl (aop_call1 rfl rfl (by simp) (inquestref13_More_ok hT hr134)) ?_
                      refine ARH.drop (frx := [(1, _), (3, _), (14, _), (122, _), (124, _), (128, _)]) ⟨rfl, rfl, rfl, rfl, rfl, rfl, trivial⟩ ?_
                      obtain ⟨r135, hr135, h⟩ := Sh.bind_some' h
                      refine ARH.op (r := bl r135) rfl rfl (aop_call1 rfl rfl (by simp) (inquestref12_Same_ok hT hr135)) ?_
                      refine ARH.dry (r := bl r135) rfl (fun _ => aop_pick rfl rfl rfl) ?_
                      refine ARH.dry (r := bl r135) rfl (fun _ => aop_move (.inl rfl) rfl) ?_
                      refine ARH.drop (frx := [(1, _), (3, _), (14, _), (131, _)]) ⟨rfl, rfl, rfl, rfl, trivial⟩ ?_
                      rcases Bool.eq_false_or_eq_true (r135) with hb136 | hb136
                      · rw [hb136]
                        replace h := Sh.if_t h hb136
                        refine ARH.op (r := G.graph_Graph.av g_0) rfl rfl (aop_load_ref rfl rfl rfl rfl sz24 rfl) ?_
                        refine ARH.dry (r := i64 a_1) rfl (fun _ => aop_move (.inl rfl) rfl) ?_
                        obtain ⟨r137, hr137, h⟩ := Sh.bind_some' h
                        refine ARH.op (r := u64 r137) rfl rfl (aop_call1 rfl rfl (by simp) (reach_From_ok hT hr137)) ?_
                        refine ARH.drop (frx := [(1, _), (14, _), (131, _), (134, _)]) ⟨rfl, rfl, rfl, rfl, trivial⟩ ?_
                        refine ARH.op rfl rfl (aop_field_ref rfl rfl rfl fd26_1 (by decide)) ?_
                        refine ARH.op (r := .sl (List.map u64 r83.Rows)) rfl rfl (aop_load_ref rfl rfl rfl rfl sz22 rfl) ?_
                        refine ARH.dry (r := i64 a_1) rfl (fun _ => aop_move (.inl rfl) rfl) ?_
                        refine ARH.drop (frx := [(131, _), (134, _), (136, _), (137, _)]) ⟨rfl, rfl, rfl, rfl, trivial⟩ ?_
                        obtain ⟨x138, hx138, h⟩ := Sh.bind_some' h
                        obtain ⟨k139, hi139, hl139⟩ := Sh.idx_some hx138
                        refine ARH.op rfl rfl (t_index_sl u64 r83.Rows hi139 hl139 rfl rfl rfl el22 rfl) ?_
                        refine ARH.op (r := u64 x138) rfl rfl (aop_load_pp rfl rfl sz45 rfl) ?_
                        refine ARH.dry (r := bl (decide (r137 = x138))) rfl (fun _ => aop_eql64 (a := r137) (b := x138) rfl rfl rfl) ?_
                        refine ARH.drop (frx := [(131, _), (140, _)]) ⟨rfl, rfl, trivial⟩ ?_
                        refine ARH.dry (r := bl (decide (r137 = x138))) rfl (fun _ => aop_pick rfl rfl rfl) ?_
                        refine ARH.dry (r := bl (decide (r137 = x138))) rfl (fun _ => aop_move (.inr rfl) rfl) ?_
                        refine ARH.nil ?_
                        refine hK23 _ (AWP.weak (Weak.re (fr' := [(6, bl (decide (r137 = x138)))]) (H' := .empty) [] [] rfl rfl rfl (trivial) ⟨⟨_, rfl, .same _ (by simp)⟩, trivial⟩) ?_)
                        clear hK23 K23
                        refine awp_ret ?_
                        obtain rfl := Option.some.inj h
                        refine ⟨.inr rfl, bl (decide (r137 = x138)), rfl, ?_⟩
                        exact Weak.re [] [] rfl rfl rfl (trivial) ⟨⟨_, rfl, .same _ (by simp)⟩, trivial⟩
                      · rw [hb136]
                        replace h := Sh.if_f h hb136
                        refine ARH.skip rfl ?_
                        refine ARH.skip rfl ?_
                        refine ARH.skip rfl ?_
                        refine ARH.drop (frx := [(1, _), (14, _), (131, _), (134, _)]) ⟨rfl, rfl, rfl, rfl, trivial⟩ ?_
                        refine ARH.skip rfl ?_
                        refine ARH.skip rfl ?_
                        refine ARH.skip rfl ?_
                        refine ARH.drop (frx := [(131, _), (134, _), (136, _), (137, _)]) ⟨rfl, rfl, rfl, rfl, trivial⟩ ?_
                        refine ARH.skip rfl ?_
                        refine ARH.skip rfl ?_
                        refine ARH.skip rfl ?_
                        refine ARH.drop (frx := [(131, _), (140, _)]) ⟨rfl, rfl, trivial⟩ ?_
                        refine ARH.dry (r := bl false) rfl (fun _ => aop_pick rfl rfl rfl) ?_
                        refine ARH.dry (r := bl false) rfl (fun _ => aop_move (.inr rfl) rfl) ?_
                        refine ARH.nil ?_
                        refine hK23 _ (AWP.weak (Weak.re (fr' := [(6, bl false)]) (H' := .empty) [] [] rfl rfl rfl (trivial) ⟨⟨_, rfl, .same _ (by simp)⟩, trivial⟩) ?_)
                        clear hK23 K23
                        refine awp_ret ?_
                        obtain rfl := Option.some.inj h
                        refine ⟨.inr rfl, bl false, rfl, ?_⟩
                        exact Weak.re [] [] rfl rfl rfl (trivial) ⟨⟨_, rfl, .same _ (by simp)⟩, trivial⟩
                    · rw [hb132]
                      replace h := Sh.if_f h hb132
                      refine ARH.skip rfl ?_
                      refine ARH.skip rfl ?_
                      refine ARH.skip rfl ?_
                      refine ARH.drop (frx := [(1, _), (2, _), (3, _), (14, _), (122, _), (124, _), (125, _)]) ⟨rfl, rfl, rfl, rfl, rfl, rfl, rfl, trivial⟩ ?_
                      refine ARH.skip rfl ?_
                      refine ARH.skip rfl ?_
                      refine ARH.skip rfl ?_
                      refine ARH.drop (frx := [(1, _), (3, _), (14, _), (122, _), (124, _), (128, _)]) ⟨rfl, rfl, rfl, rfl, rfl, rfl, trivial⟩ ?_
                      refine ARH.skip rfl ?_
                      refine ARH.dry (r := bl false) rfl (fun _ => aop_pick rfl rfl rfl) ?_
                      refine ARH.dry (r := bl false) rfl (fun _ => aop_move (.inl rfl) rfl) ?_
                      refine ARH.drop (frx := [(1, _), (3, _), (14, _), (131, _)]) ⟨rfl, rfl, rfl, rfl, trivial⟩ ?_
                      refine ARH.skip rfl ?_
                      refine ARH.skip rfl ?_
                      refine ARH.skip rfl ?_
                      refine ARH.drop (frx := [(1, _), (14, _), (131, _), (134, _)]) ⟨rfl, rfl, rfl, rfl, trivial⟩ ?_
                      refine ARH.skip rfl ?_
                      refine ARH.skip rfl ?_
                      refine ARH.skip rfl ?_
                      refine ARH.drop (frx := [(131, _), (134, _), (136, _), (137, _)]) ⟨rfl, rfl, rfl, rfl, trivial⟩ ?_
                      refine ARH.skip rfl ?_
                      refine ARH.skip rfl ?_
                      refine ARH.skip rfl ?_
                      refine ARH.drop (frx := [(131, _), (140, _)]) ⟨rfl, rfl, trivial⟩ ?_
                      refine ARH.dry (r := bl false) rfl (fun _ => aop_pick rfl rfl rfl) ?_
                      refine ARH.dry (r := bl false) rfl (fun _ => aop_move (.inr rfl) rfl) ?_
                      refine ARH.nil ?_
                      refine hK23 _ (AWP.weak (Weak.re (fr' := [(6, bl false)]) (H' := .empty) [] [] rfl rfl rfl (trivial) ⟨⟨_, rfl, .same _ (by simp)⟩, trivial⟩) ?_)
                      clear hK23 K23
                      refine awp_ret ?_
                      obtain rfl := Option.some.inj h
                      refine ⟨.inr rfl, bl false, rfl, ?_⟩
                      exact Weak.re [] [] rfl rfl rfl (trivial) ⟨⟨_, rfl, .same _ (by simp)⟩, trivial⟩
                · intro K24 hK24
                  refine awp_reg rfl ?_
                  refine AR.op (r := G.inquestref12_G.av r47) rfl (aop_load_ref rfl rfl rfl rfl sz26 rfl) ?_
                  refine AR.op (r := i64 a_1) rfl (aop_move (.inl rfl) rfl) ?_
                  obtain ⟨r140, hr140, h⟩ := Sh.bind_some' h
                  refine AR.op (r := bl r140) rfl (aop_call1 rfl rfl (by simp) (inquestref12_Node_ok hT hr140)) ?_
                  refine AR.drop (frx := [(1, _), (2, _), (3, _), (8, _), (12, _), (13, _), (14, _), (93, _)]) ⟨rfl, rfl, rfl, rfl, rfl, rfl, rfl, rfl, trivial⟩ ?_
                  refine AR.op (r := bl (!r140)) rfl (aop_not rfl rfl) ?_
                  refine AR.op (r := bl (!r140)) rfl (aop_move (.inl rfl) rfl) ?_
                  rcases Bool.eq_false_or_eq_true (!r140) with hb141 | hb141
                  · rw [hb141]
                    replace h := Sh.if_t h hb141
                    refine AR.skip rfl ?_
                    refine AR.drop (frx := [(1, _), (2, _), (3, _), (8, _), (12, _), (13, _), (14, _), (95, _), (96, _)]) ⟨rfl, rfl, rfl, rfl, rfl, rfl, rfl, rfl, rfl, trivial⟩ ?_
                    refine AR.skip rfl ?_
                    refine AR.skip rfl ?_
                    refine AR.skip rfl ?_
                    refine AR.drop (frx := [(1, _), (2, _), (3, _), (8, _), (12, _), (13, _), (14, _), (95, _), (99, _)]) ⟨rfl, rfl, rfl, rfl, rfl, rfl, rfl, rfl, rfl, trivial⟩ ?_
                    refine AR.op (r := bl true) rfl (aop_pick rfl rfl rfl) ?_
                    refine AR.nil ?_
                    exact hK24 true _ h (Weak.re (fr' := [(1, i64 a_1), (2, i64 b_2), (3, .ref 0 0 0), (8, .ref 1 0 0), (12, .ref 2 0 0), (13, i64 r61.2), (14, .ref 3 0 0), (100, bl true)]) (H' := ⟨4, [(0, (2, [G.graph_Graph.av g_0])), (1, (2, [G.inquestref12_G.av r47])), (2, (2, [G.graph_Graph.av r61.1])), (3, (2, [G.inquestref12_G.av r83]))]⟩) [(0, 0), (1, 1), (2, 2), (3, 3)] [] rfl rfl rfl (.cons rfl rfl (.one (.same _ (by simp)) rfl) (of_decide_eq_true rfl) (.cons rfl rfl (.one (.same _ (by simp)) rfl) (of_decide_eq_true rfl) (.cons rfl rfl (.one (.same _ (by simp)) rfl) (of_decide_eq_true rfl) (.cons rfl rfl (.one (.same _ (by simp)) rfl) (of_decide_eq_true rfl) (trivial))))) ⟨⟨_, rfl, .same _ (by simp)⟩, ⟨_, rfl, .same _ (by simp)⟩, ⟨_, rfl, .ref rfl⟩, ⟨_, rfl, .ref rfl⟩, ⟨_, rfl, .ref rfl⟩, ⟨_, rfl, .same _ (by simp)⟩, ⟨_, rfl, .ref rfl⟩, ⟨_, rfl, .same _ (by simp)⟩, trivial⟩)
                  · rw [hb141]
                    replace h := Sh.if_f h hb141
                    refine AR.op (r := G.inquestref12_G.av r47) rfl (aop_load_ref rfl rfl rfl rfl sz26 rfl) ?_
                    refine AR.drop (frx := [(1, _), (2, _), (3, _), (8, _), (12, _), (13, _), (14, _), (95, _), (96, _)]) ⟨rfl, rfl, rfl, rfl, rfl, rfl, rfl, rfl, rfl, trivial⟩ ?_
                    refine AR.op (r := i64 b_2) rfl (aop_move (.inl rfl) rfl) ?_
                    obtain ⟨r142, hr142, h⟩ := Sh.bind_some' h
                    refine AR.op (r := bl r142) rfl (aop_call1 rfl rfl (by simp) (inquestref12_Node_ok hT hr142)) ?_
                    refine AR.op (r := bl (!r142)) rfl (aop_not rfl rfl) ?_
                    refine AR.drop (frx := [(1, _), (2, _), (3, _), (8, _), (12, _), (13, _), (14, _), (95, _), (99, _)]) ⟨rfl, rfl, rfl, rfl, rfl, rfl, rfl, rfl, rfl, trivial⟩ ?_
                    refine AR.op (r := bl (!r142)) rfl (aop_pick rfl rfl rfl) ?_
                    refine AR.nil ?_
                    exact hK24 (!r142) _ h (Weak.re (fr' := [(1, i64 a_1), (2, i64 b_2), (3, .ref 0 0 0), (8, .ref 1 0 0), (12, .ref 2 0 0), (13, i64 r61.2), (14, .ref 3 0 0), (100, bl (!r142))]) (H' := ⟨4, [(0, (2, [G.graph_Graph.av g_0])), (1, (2, [G.inquestref12_G.av r47])), (2, (2, [G.graph_Graph.av r61.1])), (3, (2, [G.inquestref12_G.av r83]))]⟩) [(0, 0), (1, 1), (2, 2), (3, 3)] [] rfl rfl rfl (.cons rfl rfl (.one (.same _ (by simp)) rfl) (of_decide_eq_true rfl) (.cons rfl rfl (.one (.same _ (by simp)) rfl) (of_decide_eq_true rfl) (.cons rfl rfl (.one (.same _ (by simp)) rfl) (of_decide_eq_true rfl) (.cons rfl rfl (.one (.same _ (by simp)) rfl) (of_decide_eq_true rfl) (trivial))))) ⟨⟨_, rfl, .same _ (by simp)⟩, ⟨_, rfl, .same _ (by simp)⟩, ⟨_, rfl, .ref rfl⟩, ⟨_, rfl, .ref rfl⟩, ⟨_, rfl, .ref rfl⟩, ⟨_, rfl, .same _ (by simp)⟩, ⟨_, rfl, .ref rfl⟩, ⟨_, rfl, .same _ (by simp)⟩, trivial⟩)
            · intro K25 hK25
              refine awp_any (by kernel_rfl) (by kernel_rfl) rfl ?_
              refine ARH.dry (r := i64 r59.2) rfl (fun _ => aop_move (.inl rfl) rfl) ?_
              refine ARH.dry (r := bl (decide (r59.2 ≠ 0))) rfl (fun _ => aop_neq rfl rfl rfl) ?_
              refine ARH.dry (r := bl (decide (r59.2 ≠ 0))) rfl (fun _ => aop_move (.inl rfl) rfl) ?_
              refine ARH.drop (frx := [(1, _), (2, _), (3, _), (8, _), (10, _), (12, _), (13, _), (14, _), (77, _)]) ⟨rfl, rfl, rfl, rfl, rfl, rfl, rfl, rfl, rfl, trivial⟩ ?_
              rcases Bool.eq_false_or_eq_true (decide (r59.2 ≠ 0)) with hb143 | hb143
              · rw [hb143]
                replace h := Sh.if_t h hb143
                refine ARH.skip rfl ?_
                refine ARH.skip rfl ?_
                refine ARH.skip rfl ?_
                refine ARH.drop (frx := [(1, _), (2, _), (3, _), (8, _), (12, _), (13, _), (14, _), (77, _), (79, _), (80, _)]) ⟨rfl, rfl, rfl, rfl, rfl, rfl, rfl, rfl, rfl, rfl, trivial⟩ ?_
                refine ARH.skip rfl ?_
                refine ARH.skip rfl ?_
                refine ARH.dry (r := bl true) rfl (fun _ => aop_pick rfl rfl rfl) ?_
                refine ARH.drop (frx := [(1, _), (2, _), (3, _), (8, _), (12, _), (13, _), (14, _), (83, _)]) ⟨rfl, rfl, rfl, rfl, rfl, rfl, rfl, rfl, trivial⟩ ?_
                refine ARH.dry (r := bl true) rfl (fun _ => aop_move (.inl rfl) rfl) ?_
                refine ARH.skip rfl ?_
                refine ARH.skip rfl ?_
                refine ARH.drop (frx := [(1, _), (2, _), (3, _), (8, _), (12, _), (13, _), (14, _), (84, _), (86, _)]) ⟨rfl, rfl, rfl, rfl, rfl, rfl, rfl, rfl, rfl, trivial⟩ ?_
                refine ARH.skip rfl ?_
                refine ARH.skip rfl ?_
                refine ARH.skip rfl ?_
                refine ARH.drop (frx := [(1, _), (2, _), (3, _), (8, _), (12, _), (13, _), (14, _), (84, _), (89, _)]) ⟨rfl, rfl, rfl, rfl, rfl, rfl, rfl, rfl, rfl, trivial⟩ ?_
                refine ARH.dry (r := bl true) rfl (fun _ => aop_pick rfl rfl rfl) ?_
                refine ARH.nil ?_
                exact hK25 true _ h (Weak.re (fr' := [(1, i64 a_1), (2, i64 b_2), (3, .ref 0 0 0), (8, .ref 1 0 0), (12, .ref 2 0 0), (13, i64 r61.2), (14, .ref 3 0 0), (90, bl true)]) (H' := ⟨4, [(0, (2, [G.graph_Graph.av g_0])), (1, (2, [G.inquestref12_G.av r47])), (2, (2, [G.graph_Graph.av r61.1])), (3, (2, [G.inquestref12_G.av r83]))]⟩) [(0, 0), (1, 1), (2, 3), (3, 4)] [] rfl rfl rfl (.cons rfl rfl (.one (.same _ (by simp)) rfl) (of_decide_eq_true rfl) (.cons rfl rfl (.one (.same _ (by simp)) rfl) (of_decide_eq_true rfl) (.cons rfl rfl (.one (.same _ (by simp)) rfl) (of_decide_eq_true rfl) (.cons rfl rfl (.one (.same _ (by simp)) rfl) (of_decide_eq_true rfl) (trivial))))) ⟨⟨_, rfl, .same _ (by simp)⟩, ⟨_, rfl, .same _ (by simp)⟩, ⟨_, rfl, .ref rfl⟩, ⟨_, rfl, .ref rfl⟩, ⟨_, rfl, .ref rfl⟩, ⟨_, rfl, .same _ (by simp)⟩, ⟨_, rfl, .ref rfl⟩, ⟨_, rfl, .same _ (by simp)⟩, trivial⟩)
              · rw [hb143]
                replace h := Sh.if_f h hb143
                refine ARH.op (r := G.graph_Graph.av r59.1) rfl rfl (aop_load_ref rfl rfl rfl rfl sz24 rfl) ?_
                obtain ⟨r144, hr144, h⟩ := Sh.bind_some' h
                refine ARH.op (r := G.inquestref12_G.av r144) rfl rfl (aop_call1 rfl rfl (by simp) (inquestlaw13_plain_ok hT hr144)) ?_
                refine ARH.op (r := G.inquestref12_G.av r83) rfl rfl (aop_load_ref rfl rfl rfl rfl sz26 rfl) ?_
                refine ARH.drop (frx := [(1, _), (2, _), (3, _), (8, _), (12, _), (13, _), (14, _), (77, _), (79, _), (80, _)]) ⟨rfl, rfl, rfl, rfl, rfl, rfl, rfl, rfl, rfl, rfl, trivial⟩ ?_
                obtain ⟨r145, hr145, h⟩ := Sh.bind_some' h
                refine ARH.op (r := bl r145) rfl rfl (aop_call1 rfl rfl (by simp) (inquestref12_Same_ok hT hr145)) ?_
                refine ARH.dry (r := bl (!r145)) rfl (fun _ => aop_not rfl rfl) ?_
                refine ARH.dry (r := bl (!r145)) rfl (fun _ => aop_pick rfl rfl rfl) ?_
                refine ARH.drop (frx := [(1, _), (2, _), (3, _), (8, _), (12, _), (13, _), (14, _), (83, _)]) ⟨rfl, rfl, rfl, rfl, rfl, rfl, rfl, rfl, trivial⟩ ?_
                refine ARH.dry (r := bl (!r145)) rfl (fun _ => aop_move (.inl rfl) rfl) ?_
                rcases Bool.eq_false_or_eq_true (!r145) with hb146 | hb146
                · rw [hb146]
                  replace h := Sh.if_t h hb146
                  refine ARH.skip rfl ?_
                  refine ARH.skip rfl ?_
                  refine ARH.drop (frx := [(1, _), (2, _), (3, _), (8, _), (12, _), (13, _), (14, _), (84, _), (86, _)]) ⟨rfl, rfl, rfl, rfl, rfl, rfl, rfl, rfl, rfl, trivial⟩ ?_
                  refine ARH.skip rfl ?_
                  refine ARH.skip rfl ?_
                  refine ARH.skip rfl ?_
                  refine ARH.drop (frx := [(1, _), (2, _), (3, _), (8, _), (12, _), (13, _), (14, _), (84, _), (89, _)]) ⟨rfl, rfl, rfl, rfl, rfl, rfl, rfl, rfl, rfl, trivial⟩ ?_
                  refine ARH.dry (r := bl true) rfl (fun _ => aop_pick rfl rfl rfl) ?_
                  refine ARH.nil ?_
                  exact hK25 true _ h (Weak.re (fr' := [(1, i64 a_1), (2, i64 b_2), (3, .ref 0 0 0), (8, .ref 1 0 0), (12, .ref 2 0 0), (13, i64 r61.2), (14, .ref 3 0 0), (90, bl true)]) (H' := ⟨4, [(0, (2, [G.graph_Graph.av g_0])), (1, (2, [G.inquestref12_G.av r47])), (2, (2, [G.graph_Graph.av r61.1])), (3, (2, [G.inquestref12_G.av r83]))]⟩) [(0, 0), (1, 1), (2, 3), (3, 4)] [] rfl rfl rfl (.cons rfl rfl (.one (.same _ (by simp)) rfl) (of_decide_eq_true rfl) (.cons rfl rfl (.one (.same _ (by simp)) rfl) (of_decide_eq_true rfl) (.cons rfl rfl (.one (.same _ (by simp)) rfl) (of_decide_eq_true rfl) (.cons rfl rfl (.one (.same _ (by simp)) rfl) (of_decide_eq_true rfl) (trivial))))) ⟨⟨_, rfl, .same _ (by simp)⟩, ⟨_, rfl, .same _ (by simp)⟩, ⟨_, rfl, .ref rfl⟩, ⟨_, rfl, .ref rfl⟩, ⟨_, rfl, .ref rfl⟩, ⟨_, rfl, .same _ (by simp)⟩, ⟨_, rfl, .ref rfl⟩, ⟨_, rfl, .same _ (by simp)⟩, trivial⟩)
                · rw [hb146]
                  replace h := Sh.if_f h hb146
                  refine ARH.op (r := G.graph_Graph.av g_0) rfl rfl (aop_load_ref rfl rfl rfl rfl sz24 rfl) ?_
                  obtain ⟨r147, hr147, h⟩ := Sh.bind_some' h
                  refine ARH.op (r := bl r147) rfl rfl (aop_call1 rfl rfl (by simp) (reach_Cyclic_ok hT hr147)) ?_
                  refine ARH.drop (frx := [(1, _), (2, _), (3, _), (8, _), (12, _), (13, _), (14, _), (84, _), (86, _)]) ⟨rfl, rfl, rfl, rfl, rfl, rfl, rfl, rfl, rfl, trivial⟩ ?_
                  refine ARH.op (r := G.inquestref12_G.av r47) rfl rfl (aop_load_ref rfl rfl rfl rfl sz26 rfl) ?_
                  obtain ⟨r148, hr148, h⟩ := Sh.bind_some' h
                  refine ARH.op (r := bl r148) rfl rfl (aop_call1 rfl rfl (by simp) (inquestref13_Cyclic_ok hT hr148)) ?_
                  refine ARH.dry (r := bl (!(r147 == r148))) rfl (fun _ => aop_neb rfl rfl rfl Tryd.underlying4) ?_
                  refine ARH.drop (frx := [(1, _), (2, _), (3, _), (8, _), (12, _), (13, _), (14, _), (84, _), (89, _)]) ⟨rfl, rfl, rfl, rfl, rfl, rfl, rfl, rfl, rfl, trivial⟩ ?_
                  refine ARH.dry (r := bl (!(r147 == r148))) rfl (fun _ => aop_pick rfl rfl rfl) ?_
                  refine ARH.nil ?_
                  exact hK25 (!(r147 == r148)) _ h (Weak.re (fr' := [(1, i64 a_1), (2, i64 b_2), (3, .ref 0 0 0), (8, .ref 1 0 0), (12, .ref 2 0 0), (13, i64 r61.2), (14, .ref 3 0 0), (90, bl (!(r147 == r148)))]) (H' := ⟨4, [(0, (2, [G.graph_Graph.av g_0])), (1, (2, [G.inquestref12_G.av r47])), (2, (2, [G.graph_Graph.av r61.1])), (3, (2, [G.inquestref12_G.av r83]))]⟩) [(0, 0), (1, 1), (2, 3), (3, 4)] [] rfl rfl rfl (.cons rfl rfl (.one (.same _ (by simp)) rfl) (of_decide_eq_true rfl) (.cons rfl rfl (.one (.same _ (by simp)) rfl) (of_decide_eq_true rfl) (.cons rfl rfl (.one (.same _ (by simp)) rfl) (of_decide_eq_true rfl) (.cons rfl rfl (.one (.same _ (by simp)) rfl) (of_decide_eq_true rfl) (trivial))))) ⟨⟨_, rfl, .same _ (by simp)⟩, ⟨_, rfl, .same _ (by simp)⟩, ⟨_, rfl, .ref rfl⟩, ⟨_, rfl, .ref rfl⟩, ⟨_, rfl, .ref rfl⟩, ⟨_, rfl, .same _ (by simp)⟩, ⟨_, rfl, .ref rfl⟩, ⟨_, rfl, .same _ (by simp)⟩, trivial⟩)
      · intro K26 hK26
        refine awp_reg rfl ?_
        refine AR.op (r := bl r50) rfl (aop_move (.inl rfl) rfl) ?_
        refine AR.op (r := bl r50) rfl (aop_move (.inl rfl) rfl) ?_
        rcases Bool.eq_false_or_eq_true (r50) with hb149 | hb149
        · rw [hb149]
          replace h := Sh.if_t h hb149
          refine AR.op rfl (aop_field_ref rfl rfl rfl fd24_0 (by decide)) ?_
          refine AR.drop (frx := [(1, _), (2, _), (3, _), (8, _), (9, _), (27, _), (28, _)]) ⟨rfl, rfl, rfl, rfl, rfl, rfl, rfl, trivial⟩ ?_
          refine AR.op (r := i64 g_0.N) rfl (aop_load_ref rfl rfl rfl rfl sz3 rfl) ?_
          refine AR.op (r := bl (decide ((12 : Int) < g_0.N))) rfl (aop_gtr rfl rfl rfl) ?_
          refine AR.op (r := bl (decide ((12 : Int) < g_0.N))) rfl (aop_pick rfl rfl rfl) ?_
          refine AR.nil ?_
          exact hK26 (true, decide ((12 : Int) < g_0.N)) _ h (Weak.re (fr' := [(1, i64 a_1), (2, i64 b_2), (3, .ref 0 0 0), (8, .ref 1 0 0), (9, bl true), (31, bl (decide ((12 : Int) < g_0.N)))]) (H' := ⟨2, [(0, (2, [G.graph_Graph.av g_0])), (1, (2, [G.inquestref12_G.av r47]))]⟩) [(0, 0), (1, 1)] [] rfl rfl rfl (.cons rfl rfl (.one (.same _ (by simp)) rfl) (of_decide_eq_true rfl) (.cons rfl rfl (.one (.same _ (by simp)) rfl) (of_decide_eq_true rfl) (trivial))) ⟨⟨_, rfl, .same _ (by simp)⟩, ⟨_, rfl, .same _ (by simp)⟩, ⟨_, rfl, .ref rfl⟩, ⟨_, rfl, .ref rfl⟩, ⟨_, rfl, .same _ (by simp)⟩, ⟨_, rfl, .same _ (by simp)⟩, trivial⟩)
        · rw [hb149]
          replace h := Sh.if_f h hb149
          refine AR.skip rfl ?_
          refine AR.drop (frx := [(1, _), (2, _), (3, _), (8, _), (9, _), (27, _), (28, _)]) ⟨rfl, rfl, rfl, rfl, rfl, rfl, rfl, trivial⟩ ?_
          refine AR.skip rfl ?_
          refine AR.skip rfl ?_
          refine AR.op (r := bl false) rfl (aop_pick rfl rfl rfl) ?_
          refine AR.nil ?_
          exact hK26 (false, false) _ h (Weak.re (fr' := [(1, i64 a_1), (2, i64 b_2), (3, .ref 0 0 0), (8, .ref 1 0 0), (9, bl false), (31, bl false)]) (H' := ⟨2, [(0, (2, [G.graph_Graph.av g_0])), (1, (2, [G.inquestref12_G.av r47]))]⟩) [(0, 0), (1, 1)] [] rfl rfl rfl (.cons rfl rfl (.one (.same _ (by simp)) rfl) (of_decide_eq_true rfl) (.cons rfl rfl (.one (.same _ (by simp)) rfl) (of_decide_eq_true rfl) (trivial))) ⟨⟨_, rfl, .same _ (by simp)⟩, ⟨_, rfl, .same _ (by simp)⟩, ⟨_, rfl, .ref rfl⟩, ⟨_, rfl, .ref rfl⟩, ⟨_, rfl, .same _ (by simp)⟩, ⟨_, rfl, .same _ (by simp)⟩, trivial⟩)
theorem inquestlaw13_ReachTells_ok {W0 : World} (hT : Tab W0) {g_0 : G.graph_Graph} {a_1 : Int} {b_2 : Int} {r : Bool} (h : G.inquestlaw13_ReachTells g_0 a_1 b_2 = some r) : Fun1 Tryd.prog W0 5 [G.graph_Graph.av g_0, i64 a_1, i64 b_2] (bl r) := Fun1.two (inquestlaw13_ReachTells_ok0 hT h) (by simp)

end Wk
