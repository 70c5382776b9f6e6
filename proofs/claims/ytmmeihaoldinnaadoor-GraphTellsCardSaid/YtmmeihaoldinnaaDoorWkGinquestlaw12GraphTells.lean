/- That a statement does what its plain function says. -/
import Derived.Test.YtmmeihaoldinnaaDoorWkGinquestlaw12
open Go Go.Av Go.Proofs
set_option linter.unusedVariables false
namespace Wk
set_option maxHeartbeats 8000000 in
theorem inquestlaw12_GraphTells_ok0 {W0 : World} (hT : Tab W0) {g_0 : G.graph_Graph} {a_1 : Int} {b_2 : Int} {r : Bool} (h : G.inquestlaw12_GraphTells g_0 a_1 b_2 = some r) : Fun2 Tryd.prog W0 3 [G.graph_Graph.av g_0, i64 a_1, i64 b_2] (bl r) .empty := by
  refine fun2_of_awp Tryd.func3 rfl (by kernel_rfl) Tryd.ntmps3 (by simp) ?_
  unfold G.inquestlaw12_GraphTells at h
  show AWP _ _ _ _ ⟨[(0, G.graph_Graph.av g_0), (1, i64 a_1), (2, i64 b_2)], .empty⟩ _
  refine awp_seqK fun K1 hK1 => ?_
  refine awp_reg rfl ?_
  refine AR.op (r := .ref 0 0 0) rfl (aop_box 2 [G.graph_Graph.av g_0] rfl rfl rfl (.inl ⟨rfl, rfl⟩)) ?_
  refine AR.op (r := bl false) rfl (aop_move (.inr rfl) rfl) ?_
  refine AR.nil ?_
  refine hK1 _ (AWP.weak (Weak.re (fr' := [(1, i64 a_1), (2, i64 b_2), (3, .ref 0 0 0)]) (H' := ⟨1, [(0, (2, [G.graph_Graph.av g_0]))]⟩) [(0, 0)] [] rfl rfl rfl (.cons rfl rfl (.one (.same _ (by simp)) rfl) (of_decide_eq_true rfl) (trivial)) ⟨⟨_, rfl, .same _ (by simp)⟩, ⟨_, rfl, .same _ (by simp)⟩, ⟨_, rfl, .ref rfl⟩, trivial⟩) ?_)
  clear hK1 K1
  refine awp_seqK fun K2 hK2 => ?_
  refine awp_reg rfl ?_
  obtain ⟨r42, hr42, h⟩ := Sh.bind_some' h
  refine AR.op (r := bl r42) rfl (aop_call1 rfl rfl (by simp) (inquestlaw12_awake_ok hT hr42)) ?_
  refine AR.op (r := bl r42) rfl (aop_move (.inr rfl) rfl) ?_
  refine AR.nil ?_
  refine hK2 _ (AWP.weak (Weak.re (fr' := [(1, i64 a_1), (2, i64 b_2), (3, .ref 0 0 0), (7, bl r42)]) (H' := ⟨1, [(0, (2, [G.graph_Graph.av g_0]))]⟩) [(0, 0)] [] rfl rfl rfl (.cons rfl rfl (.one (.same _ (by simp)) rfl) (of_decide_eq_true rfl) (trivial)) ⟨⟨_, rfl, .same _ (by simp)⟩, ⟨_, rfl, .same _ (by simp)⟩, ⟨_, rfl, .ref rfl⟩, ⟨_, rfl, .same _ (by simp)⟩, trivial⟩) ?_)
  clear hK2 K2
  refine awp_seqK fun K3 hK3 => ?_
  refine awp_seqK fun K4 hK4 => ?_
  refine awp_reg rfl ?_
  refine AR.op (r := bl r42) rfl (aop_move (.inl rfl) rfl) ?_
  refine AR.op (r := bl (!r42)) rfl (aop_not rfl rfl) ?_
  refine AR.nil ?_
  refine hK4 _ (AWP.weak (Weak.re (fr' := [(1, i64 a_1), (2, i64 b_2), (3, .ref 0 0 0), (17, bl (!r42))]) (H' := ⟨1, [(0, (2, [G.graph_Graph.av g_0]))]⟩) [(0, 0)] [] rfl rfl rfl (.cons rfl rfl (.one (.same _ (by simp)) rfl) (of_decide_eq_true rfl) (trivial)) ⟨⟨_, rfl, .same _ (by simp)⟩, ⟨_, rfl, .same _ (by simp)⟩, ⟨_, rfl, .ref rfl⟩, ⟨_, rfl, .same _ (by simp)⟩, trivial⟩) ?_)
  clear hK4 K4
  refine awp_cond rfl (fun hb43 => ?_) (fun hb43 => ?_)
  · replace h := Sh.if_t h hb43
    refine awp_seqK fun K5 hK5 => ?_
    refine awp_reg rfl ?_
    refine AR.op (r := bl false) rfl (aop_move (.inr rfl) rfl) ?_
    refine AR.nil ?_
    refine hK5 _ (AWP.weak (Weak.re (fr' := [(6, bl false)]) (H' := .empty) [] [] rfl rfl rfl (trivial) ⟨⟨_, rfl, .same _ (by simp)⟩, trivial⟩) ?_)
    clear hK5 K5
    refine awp_ret ?_
    obtain rfl := Option.some.inj h
    refine ⟨.inr rfl, bl false, rfl, ?_⟩
    exact Weak.re [] [] rfl rfl rfl (trivial) ⟨⟨_, rfl, .same _ (by simp)⟩, trivial⟩
  · replace h := Sh.if_f h hb43
    refine awp_skip ?_
    refine hK3 _ (AWP.weak (Weak.re (fr' := [(1, i64 a_1), (2, i64 b_2), (3, .ref 0 0 0)]) (H' := ⟨1, [(0, (2, [G.graph_Graph.av g_0]))]⟩) [(0, 0)] [] rfl rfl rfl (.cons rfl rfl (.one (.same _ (by simp)) rfl) (of_decide_eq_true rfl) (trivial)) ⟨⟨_, rfl, .same _ (by simp)⟩, ⟨_, rfl, .same _ (by simp)⟩, ⟨_, rfl, .ref rfl⟩, trivial⟩) ?_)
    clear hK3 K3
    refine awp_seqK fun K6 hK6 => ?_
    refine awp_seqK fun K7 hK7 => ?_
    refine awp_reg rfl ?_
    refine AR.op rfl (aop_field_ref rfl rfl rfl fd24_1 (by decide)) ?_
    refine AR.op (r := .sl (List.map u64 g_0.Rows)) rfl (aop_load_ref rfl rfl rfl rfl sz22 rfl) ?_
    refine AR.op (r := i64 (Sh.len g_0.Rows)) rfl (t_len_sl u64 g_0.Rows rfl rfl el22) ?_
    refine AR.drop (frx := [(1, _), (2, _), (3, _), (20, _)]) ⟨rfl, rfl, rfl, rfl, trivial⟩ ?_
    refine AR.op (r := bl (decide ((70 : Int) < (Sh.len g_0.Rows)))) rfl (aop_gtr rfl rfl rfl) ?_
    refine AR.nil ?_
    refine hK7 _ (AWP.weak (Weak.re (fr' := [(1, i64 a_1), (2, i64 b_2), (3, .ref 0 0 0), (21, bl (decide ((70 : Int) < (Sh.len g_0.Rows))))]) (H' := ⟨1, [(0, (2, [G.graph_Graph.av g_0]))]⟩) [(0, 0)] [] rfl rfl rfl (.cons rfl rfl (.one (.same _ (by simp)) rfl) (of_decide_eq_true rfl) (trivial)) ⟨⟨_, rfl, .same _ (by simp)⟩, ⟨_, rfl, .same _ (by simp)⟩, ⟨_, rfl, .ref rfl⟩, ⟨_, rfl, .same _ (by simp)⟩, trivial⟩) ?_)
    clear hK7 K7
    refine awp_cond rfl (fun hb44 => ?_) (fun hb44 => ?_)
    · replace h := Sh.if_t h hb44
      refine awp_seqK fun K8 hK8 => ?_
      refine awp_reg rfl ?_
      refine AR.op (r := bl true) rfl (aop_move (.inr rfl) rfl) ?_
      refine AR.nil ?_
      refine hK8 _ (AWP.weak (Weak.re (fr' := [(6, bl true)]) (H' := .empty) [] [] rfl rfl rfl (trivial) ⟨⟨_, rfl, .same _ (by simp)⟩, trivial⟩) ?_)
      clear hK8 K8
      refine awp_ret ?_
      obtain rfl := Option.some.inj h
      refine ⟨.inr rfl, bl true, rfl, ?_⟩
      exact Weak.re [] [] rfl rfl rfl (trivial) ⟨⟨_, rfl, .same _ (by simp)⟩, trivial⟩
    · replace h := Sh.if_f h hb44
      refine awp_skip ?_
      refine hK6 _ (AWP.weak (Weak.re (fr' := [(1, i64 a_1), (2, i64 b_2), (3, .ref 0 0 0)]) (H' := ⟨1, [(0, (2, [G.graph_Graph.av g_0]))]⟩) [(0, 0)] [] rfl rfl rfl (.cons rfl rfl (.one (.same _ (by simp)) rfl) (of_decide_eq_true rfl) (trivial)) ⟨⟨_, rfl, .same _ (by simp)⟩, ⟨_, rfl, .same _ (by simp)⟩, ⟨_, rfl, .ref rfl⟩, trivial⟩) ?_)
      clear hK6 K6
      refine awp_seqK fun K9 hK9 => ?_
      refine awp_reg rfl ?_
      refine AR.op (r := .ref 1 0 0) rfl (aop_alloc 2 [.agg [i64 0, nilS]] rfl zr24 (by kernel_rfl) (.inl ⟨rfl, rfl⟩)) ?_
      refine AR.nil ?_
      refine hK9 _ ?_
      clear hK9 K9
      refine awp_seqK fun K10 hK10 => ?_
      refine awp_reg rfl ?_
      refine AR.op rfl (aop_field_ref rfl rfl rfl fd24_0 (by decide)) ?_
      refine AR.op (r := i64 g_0.N) rfl (aop_load_ref rfl rfl rfl rfl sz3 rfl) ?_
      refine AR.op rfl (aop_field_ref rfl rfl rfl fd24_0 (by decide)) ?_
      refine AR.drop (frx := [(1, _), (2, _), (3, _), (8, _), (23, _), (24, _)]) ⟨rfl, rfl, rfl, rfl, rfl, rfl, trivial⟩ ?_
      refine AR.op rfl (aop_store (e' := .agg [i64 g_0.N, nilS]) rfl rfl rfl rfl rfl rfl sz3 rfl (of_decide_eq_true rfl) rfl) ?_
      refine AR.nil ?_
      refine hK10 _ (AWP.weak (Weak.re (fr' := [(1, i64 a_1), (2, i64 b_2), (3, .ref 0 0 0), (8, .ref 1 0 0)]) (H' := ⟨2, [(0, (2, [G.graph_Graph.av g_0])), (1, (2, [.agg [i64 g_0.N, nilS]]))]⟩) [(0, 0), (1, 1)] [] rfl rfl rfl (.cons rfl rfl (.one (.same _ (by simp)) rfl) (of_decide_eq_true rfl) (.cons rfl rfl (.one (.same _ (by simp)) rfl) (of_decide_eq_true rfl) (trivial))) ⟨⟨_, rfl, .same _ (by simp)⟩, ⟨_, rfl, .same _ (by simp)⟩, ⟨_, rfl, .ref rfl⟩, ⟨_, rfl, .ref rfl⟩, trivial⟩) ?_)
      clear hK10 K10
      refine awp_seqK fun K11 hK11 => ?_
      refine awp_reg rfl ?_
      refine AR.op rfl (aop_field_ref rfl rfl rfl fd24_1 (by decide)) ?_
      refine AR.op (r := nilS) rfl (aop_load_ref rfl rfl rfl rfl sz22 rfl) ?_
      refine AR.op rfl (aop_field_ref rfl rfl rfl fd24_1 (by decide)) ?_
      refine AR.drop (frx := [(1, _), (2, _), (3, _), (8, _), (26, _), (27, _)]) ⟨rfl, rfl, rfl, rfl, rfl, rfl, trivial⟩ ?_
      refine AR.op (r := .sl (List.map u64 g_0.Rows)) rfl (aop_load_ref rfl rfl rfl rfl sz22 rfl) ?_
      obtain ⟨l46, hl46, h⟩ := Sh.bind_some' h
      refine AR.op (r := .view 2 0 (List.map u64 l46).length) rfl (t_app_nil u64 g_0.Rows l46 hl46 et22 (fun _ => rfl) rfl rfl rfl rfl rfl) ?_
      refine AR.op rfl (aop_field_ref rfl rfl rfl fd24_1 (by decide)) ?_
      refine AR.drop (frx := [(1, _), (2, _), (3, _), (8, _), (29, _), (30, _)]) ⟨rfl, rfl, rfl, rfl, rfl, rfl, trivial⟩ ?_
      refine AR.op rfl (aop_store (e' := .agg [i64 g_0.N, .view 2 0 (List.map u64 l46).length]) rfl rfl rfl rfl rfl rfl sz22 rfl (of_decide_eq_true rfl) rfl) ?_
      refine AR.nil ?_
      refine hK11 _ (AWP.weak (Weak.re (fr' := [(1, i64 a_1), (2, i64 b_2), (3, .ref 0 0 0), (8, .ref 1 0 0)]) (H' := ⟨2, [(0, (2, [G.graph_Graph.av g_0])), (1, (2, [.agg [i64 g_0.N, .sl (List.map u64 l46)]]))]⟩) [(0, 0), (1, 1)] [] rfl rfl rfl (.cons rfl rfl (.one (.same _ (by simp)) rfl) (of_decide_eq_true rfl) (.cons rfl rfl (.one (.ag ⟨.same _ (by simp), .lendAll rfl rfl (by simp), trivial⟩) rfl) (of_decide_eq_true rfl) (trivial))) ⟨⟨_, rfl, .same _ (by simp)⟩, ⟨_, rfl, .same _ (by simp)⟩, ⟨_, rfl, .ref rfl⟩, ⟨_, rfl, .ref rfl⟩, trivial⟩) ?_)
      clear hK11 K11
      refine awp_seqK fun K12 hK12 => ?_
      refine awp_reg rfl ?_
      refine AR.op (r := .agg [i64 g_0.N, .sl (List.map u64 l46)]) rfl (aop_load_ref rfl rfl rfl rfl sz24 rfl) ?_
      obtain ⟨r48, hr48, h⟩ := Sh.bind_some' h
      refine AR.op (r := G.inquestref12_G.av r48) rfl (aop_callN rfl (ys := [.agg [i64 g_0.N, .sl (List.map u64 l46)]]) (xs := [G.graph_Graph.av (G.graph_Graph.mk g_0.N l46)]) rfl (Weak.re (fr' := argsFr 0 [G.graph_Graph.av (G.graph_Graph.mk g_0.N l46)]) (H' := .empty) [] [] rfl rfl rfl trivial ⟨⟨.agg [i64 g_0.N, .sl (List.map u64 l46)], rfl, .same _ (by simp)⟩, trivial⟩) rfl (by simp) (inquestlaw12_Plain_ok hT hr48)) ?_
      refine AR.op (r := .ref 2 0 0) rfl (aop_alloc 2 [.agg [i64 0, nilS]] rfl zr26 (by kernel_rfl) (.inl ⟨rfl, rfl⟩)) ?_
      refine AR.drop (frx := [(1, _), (2, _), (3, _), (32, _), (9, _)]) ⟨rfl, rfl, rfl, rfl, rfl, trivial⟩ ?_
      refine AR.op rfl (aop_store (e' := G.inquestref12_G.av r48) rfl rfl rfl rfl rfl rfl sz26 rfl (of_decide_eq_true rfl) rfl) ?_
      refine AR.nil ?_
      refine hK12 _ (AWP.weak (Weak.re (fr' := [(1, i64 a_1), (2, i64 b_2), (3, .ref 0 0 0), (9, .ref 1 0 0)]) (H' := ⟨2, [(0, (2, [G.graph_Graph.av g_0])), (1, (2, [G.inquestref12_G.av r48]))]⟩) [(0, 0), (1, 2)] [] rfl rfl rfl (.cons rfl rfl (.one (.same _ (by simp)) rfl) (of_decide_eq_true rfl) (.cons rfl rfl (.one (.same _ (by simp)) rfl) (of_decide_eq_true rfl) (trivial))) ⟨⟨_, rfl, .same _ (by simp)⟩, ⟨_, rfl, .same _ (by simp)⟩, ⟨_, rfl, .ref rfl⟩, ⟨_, rfl, .ref rfl⟩, trivial⟩) ?_)
      clear hK12 K12
      refine awp_seqK fun K13 hK13 => ?_
      refine awp_reg rfl ?_
      refine AR.op (r := G.inquestref12_G.av r48) rfl (aop_load_ref rfl rfl rfl rfl sz26 rfl) ?_
      obtain ⟨r50, hr50, h⟩ := Sh.bind_some' h
      refine AR.op (r := bl r50) rfl (aop_call1 rfl rfl (by simp) (inquestref12_Right_ok hT hr50)) ?_
      refine AR.op (r := bl r50) rfl (aop_move (.inr rfl) rfl) ?_
      refine AR.nil ?_
      refine hK13 _ (AWP.weak (Weak.re (fr' := [(1, i64 a_1), (2, i64 b_2), (3, .ref 0 0 0), (9, .ref 1 0 0), (10, bl r50)]) (H' := ⟨2, [(0, (2, [G.graph_Graph.av g_0])), (1, (2, [G.inquestref12_G.av r48]))]⟩) [(0, 0), (1, 1)] [] rfl rfl rfl (.cons rfl rfl (.one (.same _ (by simp)) rfl) (of_decide_eq_true rfl) (.cons rfl rfl (.one (.same _ (by simp)) rfl) (of_decide_eq_true rfl) (trivial))) ⟨⟨_, rfl, .same _ (by simp)⟩, ⟨_, rfl, .same _ (by simp)⟩, ⟨_, rfl, .ref rfl⟩, ⟨_, rfl, .ref rfl⟩, ⟨_, rfl, .same _ (by simp)⟩, trivial⟩) ?_)
      clear hK13 K13
      refine awp_seqK fun K14 hK14 => ?_
      refine awp_reg rfl ?_
      refine AR.op (r := G.graph_Graph.av g_0) rfl (aop_load_ref rfl rfl rfl rfl sz24 rfl) ?_
      refine AR.op (r := i64 a_1) rfl (aop_move (.inl rfl) rfl) ?_
      refine AR.op (r := i64 b_2) rfl (aop_move (.inl rfl) rfl) ?_
      refine AR.drop (frx := [(1, _), (2, _), (3, _), (9, _), (10, _), (36, _), (37, _), (38, _)]) ⟨rfl, rfl, rfl, rfl, rfl, rfl, rfl, rfl, trivial⟩ ?_
      obtain ⟨r52, hr52, h⟩ := Sh.bind_some' h
      refine AR.op (r := .tuple [G.graph_Graph.av r52.1, i64 r52.2]) rfl (aop_call1 rfl rfl (by simp) (graph_Add_ok hT hr52)) ?_
      refine AR.op (r := .tuple [G.graph_Graph.av r52.1, i64 r52.2]) rfl (aop_move (.inl rfl) rfl) ?_
      refine AR.op (r := G.graph_Graph.av r52.1) rfl (aop_extract rfl rfl rfl) ?_
      refine AR.drop (frx := [(1, _), (2, _), (3, _), (9, _), (10, _), (35, _), (40, _)]) ⟨rfl, rfl, rfl, rfl, rfl, rfl, rfl, trivial⟩ ?_
      refine AR.op (r := i64 r52.2) rfl (aop_extract rfl rfl rfl) ?_
      refine AR.op (r := .ref 2 0 0) rfl (aop_alloc 2 [.agg [i64 0, nilS]] rfl zr24 (by kernel_rfl) (.inl ⟨rfl, rfl⟩)) ?_
      refine AR.op rfl (aop_store (e' := G.graph_Graph.av r52.1) rfl rfl rfl rfl rfl rfl sz24 rfl (of_decide_eq_true rfl) rfl) ?_
      refine AR.drop (frx := [(1, _), (2, _), (3, _), (9, _), (10, _), (41, _), (11, _)]) ⟨rfl, rfl, rfl, rfl, rfl, rfl, rfl, trivial⟩ ?_
      refine AR.op (r := i64 r52.2) rfl (aop_move (.inr rfl) rfl) ?_
      refine AR.nil ?_
      refine hK14 _ (AWP.weak (Weak.re (fr' := [(1, i64 a_1), (2, i64 b_2), (3, .ref 0 0 0), (9, .ref 1 0 0), (10, bl r50), (11, .ref 2 0 0), (12, i64 r52.2)]) (H' := ⟨3, [(0, (2, [G.graph_Graph.av g_0])), (1, (2, [G.inquestref12_G.av r48])), (2, (2, [G.graph_Graph.av r52.1]))]⟩) [(0, 0), (1, 1), (2, 2)] [] rfl rfl rfl (.cons rfl rfl (.one (.same _ (by simp)) rfl) (of_decide_eq_true rfl) (.cons rfl rfl (.one (.same _ (by simp)) rfl) (of_decide_eq_true rfl) (.cons rfl rfl (.one (.same _ (by simp)) rfl) (of_decide_eq_true rfl) (trivial)))) ⟨⟨_, rfl, .same _ (by simp)⟩, ⟨_, rfl, .same _ (by simp)⟩, ⟨_, rfl, .ref rfl⟩, ⟨_, rfl, .ref rfl⟩, ⟨_, rfl, .same _ (by simp)⟩, ⟨_, rfl, .ref rfl⟩, ⟨_, rfl, .same _ (by simp)⟩, trivial⟩) ?_)
      clear hK14 K14
      refine awp_seqK fun K15 hK15 => ?_
      refine awp_reg rfl ?_
      refine AR.op (r := G.graph_Graph.av g_0) rfl (aop_load_ref rfl rfl rfl rfl sz24 rfl) ?_
      obtain ⟨r54, hr54, h⟩ := Sh.bind_some' h
      refine AR.op (r := .tuple [G.graph_Graph.av r54.1, i64 r54.2]) rfl (aop_call1 rfl rfl (by simp) (graph_Turn_ok hT hr54)) ?_
      refine AR.op (r := .tuple [G.graph_Graph.av r54.1, i64 r54.2]) rfl (aop_move (.inl rfl) rfl) ?_
      refine AR.drop (frx := [(1, _), (2, _), (3, _), (9, _), (10, _), (11, _), (12, _), (42, _)]) ⟨rfl, rfl, rfl, rfl, rfl, rfl, rfl, rfl, trivial⟩ ?_
      refine AR.op (r := G.graph_Graph.av r54.1) rfl (aop_extract rfl rfl rfl) ?_
      refine AR.op (r := i64 r54.2) rfl (aop_extract rfl rfl rfl) ?_
      refine AR.op (r := .ref 3 0 0) rfl (aop_alloc 2 [.agg [i64 0, nilS]] rfl zr24 (by kernel_rfl) (.inl ⟨rfl, rfl⟩)) ?_
      refine AR.drop (frx := [(1, _), (2, _), (3, _), (9, _), (10, _), (11, _), (12, _), (45, _), (46, _), (13, _)]) ⟨rfl, rfl, rfl, rfl, rfl, rfl, rfl, rfl, rfl, rfl, trivial⟩ ?_
      refine AR.op rfl (aop_store (e' := G.graph_Graph.av r54.1) rfl rfl rfl rfl rfl rfl sz24 rfl (of_decide_eq_true rfl) rfl) ?_
      refine AR.op (r := i64 r54.2) rfl (aop_move (.inr rfl) rfl) ?_
      refine AR.nil ?_
      refine hK15 _ (AWP.weak (Weak.re (fr' := [(1, i64 a_1), (2, i64 b_2), (3, .ref 0 0 0), (9, .ref 1 0 0), (10, bl r50), (11, .ref 2 0 0), (12, i64 r52.2), (13, .ref 3 0 0), (14, i64 r54.2)]) (H' := ⟨4, [(0, (2, [G.graph_Graph.av g_0])), (1, (2, [G.inquestref12_G.av r48])), (2, (2, [G.graph_Graph.av r52.1])), (3, (2, [G.graph_Graph.av r54.1]))]⟩) [(0, 0), (1, 1), (2, 2), (3, 3)] [] rfl rfl rfl (.cons rfl rfl (.one (.same _ (by simp)) rfl) (of_decide_eq_true rfl) (.cons rfl rfl (.one (.same _ (by simp)) rfl) (of_decide_eq_true rfl) (.cons rfl rfl (.one (.same _ (by simp)) rfl) (of_decide_eq_true rfl) (.cons rfl rfl (.one (.same _ (by simp)) rfl) (of_decide_eq_true rfl) (trivial))))) ⟨⟨_, rfl, .same _ (by simp)⟩, ⟨_, rfl, .same _ (by simp)⟩, ⟨_, rfl, .ref rfl⟩, ⟨_, rfl, .ref rfl⟩, ⟨_, rfl, .same _ (by simp)⟩, ⟨_, rfl, .ref rfl⟩, ⟨_, rfl, .same _ (by simp)⟩, ⟨_, rfl, .ref rfl⟩, ⟨_, rfl, .same _ (by simp)⟩, trivial⟩) ?_)
      clear hK15 K15
      refine awp_seqK fun K16 hK16 => ?_
      refine awp_seqJ (fun (p : Bool) => (⟨[(1, i64 a_1), (2, i64 b_2), (3, .ref 0 0 0), (9, .ref 1 0 0), (10, bl r50), (11, .ref 2 0 0), (12, i64 r52.2), (13, .ref 3 0 0), (14, i64 r54.2), (57, bl p)], ⟨4, [(0, (2, [G.graph_Graph.av g_0])), (1, (2, [G.inquestref12_G.av r48])), (2, (2, [G.graph_Graph.av r52.1])), (3, (2, [G.graph_Graph.av r54.1]))]⟩⟩ : St)) (fun (p : Bool) => G.inquestlaw12_GraphTells_j1 g_0 a_1 b_2 r48 r50 r52 r54 p = some r) ?_ ?_
      · rintro v64 h
        replace h : G.inquestlaw12_GraphTells_j1 g_0 a_1 b_2 r48 r50 r52 r54 v64 = some r := h
        unfold G.inquestlaw12_GraphTells_j1 at h
        show AWP _ _ _ _ ⟨[(1, i64 a_1), (2, i64 b_2), (3, .ref 0 0 0), (9, .ref 1 0 0), (10, bl r50), (11, .ref 2 0 0), (12, i64 r52.2), (13, .ref 3 0 0), (14, i64 r54.2), (57, bl v64)], ⟨4, [(0, (2, [G.graph_Graph.av g_0])), (1, (2, [G.inquestref12_G.av r48])), (2, (2, [G.graph_Graph.av r52.1])), (3, (2, [G.graph_Graph.av r54.1]))]⟩⟩ _
        refine awp_cond rfl (fun hb65 => ?_) (fun hb65 => ?_)
        · replace h := Sh.if_t h hb65
          refine awp_seqK fun K17 hK17 => ?_
          refine awp_reg rfl ?_
          refine AR.op (r := bl false) rfl (aop_move (.inr rfl) rfl) ?_
          refine AR.nil ?_
          refine hK17 _ (AWP.weak (Weak.re (fr' := [(6, bl false)]) (H' := .empty) [] [] rfl rfl rfl (trivial) ⟨⟨_, rfl, .same _ (by simp)⟩, trivial⟩) ?_)
          clear hK17 K17
          refine awp_ret ?_
          obtain rfl := Option.some.inj h
          refine ⟨.inr rfl, bl false, rfl, ?_⟩
          exact Weak.re [] [] rfl rfl rfl (trivial) ⟨⟨_, rfl, .same _ (by simp)⟩, trivial⟩
        · replace h := Sh.if_f h hb65
          refine awp_skip ?_
          refine hK16 _ (AWP.weak (Weak.re (fr' := [(1, i64 a_1), (2, i64 b_2), (3, .ref 0 0 0), (9, .ref 1 0 0), (10, bl r50), (11, .ref 2 0 0), (12, i64 r52.2), (13, .ref 3 0 0), (14, i64 r54.2)]) (H' := ⟨4, [(0, (2, [G.graph_Graph.av g_0])), (1, (2, [G.inquestref12_G.av r48])), (2, (2, [G.graph_Graph.av r52.1])), (3, (2, [G.graph_Graph.av r54.1]))]⟩) [(0, 0), (1, 1), (2, 2), (3, 3)] [] rfl rfl rfl (.cons rfl rfl (.one (.same _ (by simp)) rfl) (of_decide_eq_true rfl) (.cons rfl rfl (.one (.same _ (by simp)) rfl) (of_decide_eq_true rfl) (.cons rfl rfl (.one (.same _ (by simp)) rfl) (of_decide_eq_true rfl) (.cons rfl rfl (.one (.same _ (by simp)) rfl) (of_decide_eq_true rfl) (trivial))))) ⟨⟨_, rfl, .same _ (by simp)⟩, ⟨_, rfl, .same _ (by simp)⟩, ⟨_, rfl, .ref rfl⟩, ⟨_, rfl, .ref rfl⟩, ⟨_, rfl, .same _ (by simp)⟩, ⟨_, rfl, .ref rfl⟩, ⟨_, rfl, .same _ (by simp)⟩, ⟨_, rfl, .ref rfl⟩, ⟨_, rfl, .same _ (by simp)⟩, trivial⟩) ?_)
          clear hK16 K16
          refine awp_seqK fun K18 hK18 => ?_
          refine awp_seqK fun K19 hK19 => ?_
          refine awp_reg rfl ?_
          refine AR.op (r := bl r50) rfl (aop_move (.inl rfl) rfl) ?_
          refine AR.op (r := bl (!r50)) rfl (aop_not rfl rfl) ?_
          refine AR.nil ?_
          refine hK19 _ (AWP.weak (Weak.re (fr' := [(1, i64 a_1), (2, i64 b_2), (3, .ref 0 0 0), (9, .ref 1 0 0), (11, .ref 2 0 0), (12, i64 r52.2), (13, .ref 3 0 0), (14, i64 r54.2), (59, bl (!r50))]) (H' := ⟨4, [(0, (2, [G.graph_Graph.av g_0])), (1, (2, [G.inquestref12_G.av r48])), (2, (2, [G.graph_Graph.av r52.1])), (3, (2, [G.graph_Graph.av r54.1]))]⟩) [(0, 0), (1, 1), (2, 2), (3, 3)] [] rfl rfl rfl (.cons rfl rfl (.one (.same _ (by simp)) rfl) (of_decide_eq_true rfl) (.cons rfl rfl (.one (.same _ (by simp)) rfl) (of_decide_eq_true rfl) (.cons rfl rfl (.one (.same _ (by simp)) rfl) (of_decide_eq_true rfl) (.cons rfl rfl (.one (.same _ (by simp)) rfl) (of_decide_eq_true rfl) (trivial))))) ⟨⟨_, rfl, .same _ (by simp)⟩, ⟨_, rfl, .same _ (by simp)⟩, ⟨_, rfl, .ref rfl⟩, ⟨_, rfl, .ref rfl⟩, ⟨_, rfl, .ref rfl⟩, ⟨_, rfl, .same _ (by simp)⟩, ⟨_, rfl, .ref rfl⟩, ⟨_, rfl, .same _ (by simp)⟩, ⟨_, rfl, .same _ (by simp)⟩, trivial⟩) ?_)
          clear hK19 K19
          refine awp_cond rfl (fun hb73 => ?_) (fun hb73 => ?_)
          · replace h := Sh.if_t h hb73
            refine awp_seqK fun K20 hK20 => ?_
            refine awp_reg rfl ?_
            refine AR.op (r := i64 r52.2) rfl (aop_move (.inl rfl) rfl) ?_
            refine AR.op (r := bl (decide (r52.2 = 1))) rfl (aop_eql rfl rfl rfl) ?_
            refine AR.op (r := bl (decide (r52.2 = 1))) rfl (aop_move (.inl rfl) rfl) ?_
            refine AR.drop (frx := [(1, _), (2, _), (3, _), (11, _), (13, _), (14, _), (62, _)]) ⟨rfl, rfl, rfl, rfl, rfl, rfl, rfl, trivial⟩ ?_
            rcases Bool.eq_false_or_eq_true (decide (r52.2 = 1)) with hb80 | hb80
            · rw [hb80]
              replace h := Sh.if_t h hb80
              refine AR.op (r := i64 r54.2) rfl (aop_move (.inl rfl) rfl) ?_
              refine AR.op (r := bl (decide (r54.2 = 1))) rfl (aop_eql rfl rfl rfl) ?_
              refine AR.op (r := bl (decide (r54.2 = 1))) rfl (aop_pick rfl rfl rfl) ?_
              refine AR.drop (frx := [(1, _), (2, _), (3, _), (11, _), (13, _), (65, _)]) ⟨rfl, rfl, rfl, rfl, rfl, rfl, trivial⟩ ?_
              refine AR.op (r := bl (decide (r54.2 = 1))) rfl (aop_move (.inl rfl) rfl) ?_
              rcases Bool.eq_false_or_eq_true (decide (r54.2 = 1)) with hb81 | hb81
              · rw [hb81]
                replace h := Sh.if_t h hb81
                refine AR.op rfl (aop_field_ref rfl rfl rfl fd24_1 (by decide)) ?_
                refine AR.op (r := .sl (List.map u64 r52.1.Rows)) rfl (aop_load_ref rfl rfl rfl rfl sz22 rfl) ?_
                refine AR.drop (frx := [(1, _), (2, _), (3, _), (13, _), (66, _), (68, _)]) ⟨rfl, rfl, rfl, rfl, rfl, rfl, trivial⟩ ?_
                refine AR.op (r := i64 (Sh.len r52.1.Rows)) rfl (t_len_sl u64 r52.1.Rows rfl rfl el22) ?_
                refine AR.op rfl (aop_field_ref rfl rfl rfl fd24_1 (by decide)) ?_
                refine AR.op (r := .sl (List.map u64 r54.1.Rows)) rfl (aop_load_ref rfl rfl rfl rfl sz22 rfl) ?_
                refine AR.drop (frx := [(1, _), (2, _), (3, _), (66, _), (69, _), (71, _)]) ⟨rfl, rfl, rfl, rfl, rfl, rfl, trivial⟩ ?_
                refine AR.op (r := i64 (Sh.len r54.1.Rows)) rfl (t_len_sl u64 r54.1.Rows rfl rfl el22) ?_
                refine AR.op (r := i64 (w64 ((Sh.len r52.1.Rows) + (Sh.len r54.1.Rows)))) rfl (aop_add rfl rfl rfl rfl) ?_
                refine AR.op (r := bl (decide ((w64 ((Sh.len r52.1.Rows) + (Sh.len r54.1.Rows))) = 0))) rfl (aop_eql rfl rfl rfl) ?_
                refine AR.drop (frx := [(1, _), (2, _), (3, _), (66, _), (74, _)]) ⟨rfl, rfl, rfl, rfl, rfl, trivial⟩ ?_
                refine AR.op (r := bl (decide ((w64 ((Sh.len r52.1.Rows) + (Sh.len r54.1.Rows))) = 0))) rfl (aop_pick rfl rfl rfl) ?_
                refine AR.op (r := bl (decide ((w64 ((Sh.len r52.1.Rows) + (Sh.len r54.1.Rows))) = 0))) rfl (aop_move (.inl rfl) rfl) ?_
                rcases Bool.eq_false_or_eq_true (decide ((w64 ((Sh.len r52.1.Rows) + (Sh.len r54.1.Rows))) = 0)) with hb82 | hb82
                · rw [hb82]
                  replace h := Sh.if_t h hb82
                  refine AR.op (r := G.graph_Graph.av g_0) rfl (aop_load_ref rfl rfl rfl rfl sz24 rfl) ?_
                  refine AR.drop (frx := [(1, _), (2, _), (3, _), (76, _), (77, _)]) ⟨rfl, rfl, rfl, rfl, rfl, trivial⟩ ?_
                  refine AR.op (r := i64 a_1) rfl (aop_move (.inl rfl) rfl) ?_
                  refine AR.op (r := i64 b_2) rfl (aop_move (.inl rfl) rfl) ?_
                  obtain ⟨r83, hr83, h⟩ := Sh.bind_some' h
                  refine AR.op (r := bl r83) rfl (aop_call1 rfl rfl (by simp) (graph_Has_ok hT hr83)) ?_
                  refine AR.drop (frx := [(3, _), (76, _), (80, _)]) ⟨rfl, rfl, rfl, trivial⟩ ?_
                  refine AR.op (r := bl (!r83)) rfl (aop_not rfl rfl) ?_
                  refine AR.op (r := bl (!r83)) rfl (aop_pick rfl rfl rfl) ?_
                  refine AR.op (r := bl (!r83)) rfl (aop_move (.inl rfl) rfl) ?_
                  refine AR.drop (frx := [(3, _), (83, _)]) ⟨rfl, rfl, trivial⟩ ?_
                  rcases Bool.eq_false_or_eq_true (!r83) with hb84 | hb84
                  · rw [hb84]
                    replace h := Sh.if_t h hb84
                    refine AR.op (r := G.graph_Graph.av g_0) rfl (aop_load_ref rfl rfl rfl rfl sz24 rfl) ?_
                    obtain ⟨r85, hr85, h⟩ := Sh.bind_some' h
                    refine AR.op (r := .sl (List.map G.graph_Edge.av r85)) rfl (aop_call1 rfl rfl (by simp) (graph_Edges_ok hT hr85)) ?_
                    refine AR.op (r := i64 (Sh.len r85)) rfl (t_len_sl G.graph_Edge.av r85 rfl rfl el36) ?_
                    refine AR.drop (frx := [(83, _), (86, _)]) ⟨rfl, rfl, trivial⟩ ?_
                    refine AR.op (r := bl (decide ((Sh.len r85) = 0))) rfl (aop_eql rfl rfl rfl) ?_
                    refine AR.op (r := bl (decide ((Sh.len r85) = 0))) rfl (aop_pick rfl rfl rfl) ?_
                    refine AR.op (r := bl (decide ((Sh.len r85) = 0))) rfl (aop_move (.inr rfl) rfl) ?_
                    refine AR.nil ?_
                    refine hK20 _ (AWP.weak (Weak.re (fr' := [(6, bl (decide ((Sh.len r85) = 0)))]) (H' := .empty) [] [] rfl rfl rfl (trivial) ⟨⟨_, rfl, .same _ (by simp)⟩, trivial⟩) ?_)
                    clear hK20 K20
                    refine awp_ret ?_
                    obtain rfl := Option.some.inj h
                    refine ⟨.inr rfl, bl (decide ((Sh.len r85) = 0)), rfl, ?_⟩
                    exact Weak.re [] [] rfl rfl rfl (trivial) ⟨⟨_, rfl, .same _ (by simp)⟩, trivial⟩
                  · rw [hb84]
                    replace h := Sh.if_f h hb84
                    refine AR.skip rfl ?_
                    refine AR.skip rfl ?_
                    refine AR.skip rfl ?_
                    refine AR.drop (frx := [(83, _), (86, _)]) ⟨rfl, rfl, trivial⟩ ?_
                    refine AR.skip rfl ?_
                    refine AR.op (r := bl false) rfl (aop_pick rfl rfl rfl) ?_
                    refine AR.op (r := bl false) rfl (aop_move (.inr rfl) rfl) ?_
                    refine AR.nil ?_
                    refine hK20 _ (AWP.weak (Weak.re (fr' := [(6, bl false)]) (H' := .empty) [] [] rfl rfl rfl (trivial) ⟨⟨_, rfl, .same _ (by simp)⟩, trivial⟩) ?_)
                    clear hK20 K20
                    refine awp_ret ?_
                    obtain rfl := Option.some.inj h
                    refine ⟨.inr rfl, bl false, rfl, ?_⟩
                    exact Weak.re [] [] rfl rfl rfl (trivial) ⟨⟨_, rfl, .same _ (by simp)⟩, trivial⟩
                · rw [hb82]
                  replace h := Sh.if_f h hb82
                  refine AR.skip rfl ?_
                  refine AR.drop (frx := [(1, _), (2, _), (3, _), (76, _), (77, _)]) ⟨rfl, rfl, rfl, rfl, rfl, trivial⟩ ?_
                  refine AR.skip rfl ?_
                  refine AR.skip rfl ?_
                  refine AR.skip rfl ?_
                  refine AR.drop (frx := [(3, _), (76, _), (80, _)]) ⟨rfl, rfl, rfl, trivial⟩ ?_
                  refine AR.skip rfl ?_
                  refine AR.op (r := bl false) rfl (aop_pick rfl rfl rfl) ?_
                  refine AR.op (r := bl false) rfl (aop_move (.inl rfl) rfl) ?_
                  refine AR.drop (frx := [(3, _), (83, _)]) ⟨rfl, rfl, trivial⟩ ?_
                  refine AR.skip rfl ?_
                  refine AR.skip rfl ?_
                  refine AR.skip rfl ?_
                  refine AR.drop (frx := [(83, _), (86, _)]) ⟨rfl, rfl, trivial⟩ ?_
                  refine AR.skip rfl ?_
                  refine AR.op (r := bl false) rfl (aop_pick rfl rfl rfl) ?_
                  refine AR.op (r := bl false) rfl (aop_move (.inr rfl) rfl) ?_
                  refine AR.nil ?_
                  refine hK20 _ (AWP.weak (Weak.re (fr' := [(6, bl false)]) (H' := .empty) [] [] rfl rfl rfl (trivial) ⟨⟨_, rfl, .same _ (by simp)⟩, trivial⟩) ?_)
                  clear hK20 K20
                  refine awp_ret ?_
                  obtain rfl := Option.some.inj h
                  refine ⟨.inr rfl, bl false, rfl, ?_⟩
                  exact Weak.re [] [] rfl rfl rfl (trivial) ⟨⟨_, rfl, .same _ (by simp)⟩, trivial⟩
              · rw [hb81]
                replace h := Sh.if_f h hb81
                refine AR.skip rfl ?_
                refine AR.skip rfl ?_
                refine AR.drop (frx := [(1, _), (2, _), (3, _), (13, _), (66, _), (68, _)]) ⟨rfl, rfl, rfl, rfl, rfl, rfl, trivial⟩ ?_
                refine AR.skip rfl ?_
                refine AR.skip rfl ?_
                refine AR.skip rfl ?_
                refine AR.drop (frx := [(1, _), (2, _), (3, _), (66, _), (69, _), (71, _)]) ⟨rfl, rfl, rfl, rfl, rfl, rfl, trivial⟩ ?_
                refine AR.skip rfl ?_
                refine AR.skip rfl ?_
                refine AR.skip rfl ?_
                refine AR.drop (frx := [(1, _), (2, _), (3, _), (66, _), (74, _)]) ⟨rfl, rfl, rfl, rfl, rfl, trivial⟩ ?_
                refine AR.op (r := bl false) rfl (aop_pick rfl rfl rfl) ?_
                refine AR.op (r := bl false) rfl (aop_move (.inl rfl) rfl) ?_
                refine AR.skip rfl ?_
                refine AR.drop (frx := [(1, _), (2, _), (3, _), (76, _), (77, _)]) ⟨rfl, rfl, rfl, rfl, rfl, trivial⟩ ?_
                refine AR.skip rfl ?_
                refine AR.skip rfl ?_
                refine AR.skip rfl ?_
                refine AR.drop (frx := [(3, _), (76, _), (80, _)]) ⟨rfl, rfl, rfl, trivial⟩ ?_
                refine AR.skip rfl ?_
                refine AR.op (r := bl false) rfl (aop_pick rfl rfl rfl) ?_
                refine AR.op (r := bl false) rfl (aop_move (.inl rfl) rfl) ?_
                refine AR.drop (frx := [(3, _), (83, _)]) ⟨rfl, rfl, trivial⟩ ?_
                refine AR.skip rfl ?_
                refine AR.skip rfl ?_
                refine AR.skip rfl ?_
                refine AR.drop (frx := [(83, _), (86, _)]) ⟨rfl, rfl, trivial⟩ ?_
                refine AR.skip rfl ?_
                refine AR.op (r := bl false) rfl (aop_pick rfl rfl rfl) ?_
                refine AR.op (r := bl false) rfl (aop_move (.inr rfl) rfl) ?_
                refine AR.nil ?_
                refine hK20 _ (AWP.weak (Weak.re (fr' := [(6, bl false)]) (H' := .empty) [] [] rfl rfl rfl (trivial) ⟨⟨_, rfl, .same _ (by simp)⟩, trivial⟩) ?_)
                clear hK20 K20
                refine awp_ret ?_
                obtain rfl := Option.some.inj h
                refine ⟨.inr rfl, bl false, rfl, ?_⟩
                exact Weak.re [] [] rfl rfl rfl (trivial) ⟨⟨_, rfl, .same _ (by simp)⟩, trivial⟩
            · rw [hb80]
              replace h := Sh.if_f h hb80
              refine AR.skip rfl ?_
              refine AR.skip rfl ?_
              refine AR.op (r := bl false) rfl (aop_pick rfl rfl rfl) ?_
              refine AR.drop (frx := [(1, _), (2, _), (3, _), (11, _), (13, _), (65, _)]) ⟨rfl, rfl, rfl, rfl, rfl, rfl, trivial⟩ ?_
              refine AR.op (r := bl false) rfl (aop_move (.inl rfl) rfl) ?_
              refine AR.skip rfl ?_
              refine AR.skip rfl ?_
              refine AR.drop (frx := [(1, _), (2, _), (3, _), (13, _), (66, _), (68, _)]) ⟨rfl, rfl, rfl, rfl, rfl, rfl, trivial⟩ ?_
              refine AR.skip rfl ?_
              refine AR.skip rfl ?_
              refine AR.skip rfl ?_
              refine AR.drop (frx := [(1, _), (2, _), (3, _), (66, _), (69, _), (71, _)]) ⟨rfl, rfl, rfl, rfl, rfl, rfl, trivial⟩ ?_
              refine AR.skip rfl ?_
              refine AR.skip rfl ?_
              refine AR.skip rfl ?_
              refine AR.drop (frx := [(1, _), (2, _), (3, _), (66, _), (74, _)]) ⟨rfl, rfl, rfl, rfl, rfl, trivial⟩ ?_
              refine AR.op (r := bl false) rfl (aop_pick rfl rfl rfl) ?_
              refine AR.op (r := bl false) rfl (aop_move (.inl rfl) rfl) ?_
              refine AR.skip rfl ?_
              refine AR.drop (frx := [(1, _), (2, _), (3, _), (76, _), (77, _)]) ⟨rfl, rfl, rfl, rfl, rfl, trivial⟩ ?_
              refine AR.skip rfl ?_
              refine AR.skip rfl ?_
              refine AR.skip rfl ?_
              refine AR.drop (frx := [(3, _), (76, _), (80, _)]) ⟨rfl, rfl, rfl, trivial⟩ ?_
              refine AR.skip rfl ?_
              refine AR.op (r := bl false) rfl (aop_pick rfl rfl rfl) ?_
              refine AR.op (r := bl false) rfl (aop_move (.inl rfl) rfl) ?_
              refine AR.drop (frx := [(3, _), (83, _)]) ⟨rfl, rfl, trivial⟩ ?_
              refine AR.skip rfl ?_
              refine AR.skip rfl ?_
              refine AR.skip rfl ?_
              refine AR.drop (frx := [(83, _), (86, _)]) ⟨rfl, rfl, trivial⟩ ?_
              refine AR.skip rfl ?_
              refine AR.op (r := bl false) rfl (aop_pick rfl rfl rfl) ?_
              refine AR.op (r := bl false) rfl (aop_move (.inr rfl) rfl) ?_
              refine AR.nil ?_
              refine hK20 _ (AWP.weak (Weak.re (fr' := [(6, bl false)]) (H' := .empty) [] [] rfl rfl rfl (trivial) ⟨⟨_, rfl, .same _ (by simp)⟩, trivial⟩) ?_)
              clear hK20 K20
              refine awp_ret ?_
              obtain rfl := Option.some.inj h
              refine ⟨.inr rfl, bl false, rfl, ?_⟩
              exact Weak.re [] [] rfl rfl rfl (trivial) ⟨⟨_, rfl, .same _ (by simp)⟩, trivial⟩
          · replace h := Sh.if_f h hb73
            refine awp_skip ?_
            refine hK18 _ (AWP.weak (Weak.re (fr' := [(1, i64 a_1), (2, i64 b_2), (3, .ref 0 0 0), (9, .ref 1 0 0), (11, .ref 2 0 0), (12, i64 r52.2), (13, .ref 3 0 0), (14, i64 r54.2)]) (H' := ⟨4, [(0, (2, [G.graph_Graph.av g_0])), (1, (2, [G.inquestref12_G.av r48])), (2, (2, [G.graph_Graph.av r52.1])), (3, (2, [G.graph_Graph.av r54.1]))]⟩) [(0, 0), (1, 1), (2, 2), (3, 3)] [] rfl rfl rfl (.cons rfl rfl (.one (.same _ (by simp)) rfl) (of_decide_eq_true rfl) (.cons rfl rfl (.one (.same _ (by simp)) rfl) (of_decide_eq_true rfl) (.cons rfl rfl (.one (.same _ (by simp)) rfl) (of_decide_eq_true rfl) (.cons rfl rfl (.one (.same _ (by simp)) rfl) (of_decide_eq_true rfl) (trivial))))) ⟨⟨_, rfl, .same _ (by simp)⟩, ⟨_, rfl, .same _ (by simp)⟩, ⟨_, rfl, .ref rfl⟩, ⟨_, rfl, .ref rfl⟩, ⟨_, rfl, .ref rfl⟩, ⟨_, rfl, .same _ (by simp)⟩, ⟨_, rfl, .ref rfl⟩, ⟨_, rfl, .same _ (by simp)⟩, trivial⟩) ?_)
            clear hK18 K18
            refine awp_seqK fun K21 hK21 => ?_
            refine awp_seqJ (fun (p : Bool) => (⟨[(1, i64 a_1), (2, i64 b_2), (3, .ref 0 0 0), (9, .ref 1 0 0), (11, .ref 2 0 0), (12, i64 r52.2), (98, bl p)], ⟨3, [(0, (2, [G.graph_Graph.av g_0])), (1, (2, [G.inquestref12_G.av r48])), (2, (2, [G.graph_Graph.av r52.1]))]⟩⟩ : St)) (fun (p : Bool) => G.inquestlaw12_GraphTells_j2 g_0 a_1 b_2 r48 r52 p = some r) ?_ ?_
            · rintro v95 h
              replace h : G.inquestlaw12_GraphTells_j2 g_0 a_1 b_2 r48 r52 v95 = some r := h
              unfold G.inquestlaw12_GraphTells_j2 at h
              show AWP _ _ _ _ ⟨[(1, i64 a_1), (2, i64 b_2), (3, .ref 0 0 0), (9, .ref 1 0 0), (11, .ref 2 0 0), (12, i64 r52.2), (98, bl v95)], ⟨3, [(0, (2, [G.graph_Graph.av g_0])), (1, (2, [G.inquestref12_G.av r48])), (2, (2, [G.graph_Graph.av r52.1]))]⟩⟩ _
              refine awp_cond rfl (fun hb96 => ?_) (fun hb96 => ?_)
              · replace h := Sh.if_t h hb96
                refine awp_seqK fun K22 hK22 => ?_
                refine awp_reg rfl ?_
                refine AR.op (r := bl false) rfl (aop_move (.inr rfl) rfl) ?_
                refine AR.nil ?_
                refine hK22 _ (AWP.weak (Weak.re (fr' := [(6, bl false)]) (H' := .empty) [] [] rfl rfl rfl (trivial) ⟨⟨_, rfl, .same _ (by simp)⟩, trivial⟩) ?_)
                clear hK22 K22
                refine awp_ret ?_
                obtain rfl := Option.some.inj h
                refine ⟨.inr rfl, bl false, rfl, ?_⟩
                exact Weak.re [] [] rfl rfl rfl (trivial) ⟨⟨_, rfl, .same _ (by simp)⟩, trivial⟩
              · replace h := Sh.if_f h hb96
                refine awp_skip ?_
                refine hK21 _ (AWP.weak (Weak.re (fr' := [(1, i64 a_1), (2, i64 b_2), (3, .ref 0 0 0), (9, .ref 1 0 0), (11, .ref 2 0 0), (12, i64 r52.2)]) (H' := ⟨3, [(0, (2, [G.graph_Graph.av g_0])), (1, (2, [G.inquestref12_G.av r48])), (2, (2, [G.graph_Graph.av r52.1]))]⟩) [(0, 0), (1, 1), (2, 2)] [] rfl rfl rfl (.cons rfl rfl (.one (.same _ (by simp)) rfl) (of_decide_eq_true rfl) (.cons rfl rfl (.one (.same _ (by simp)) rfl) (of_decide_eq_true rfl) (.cons rfl rfl (.one (.same _ (by simp)) rfl) (of_decide_eq_true rfl) (trivial)))) ⟨⟨_, rfl, .same _ (by simp)⟩, ⟨_, rfl, .same _ (by simp)⟩, ⟨_, rfl, .ref rfl⟩, ⟨_, rfl, .ref rfl⟩, ⟨_, rfl, .ref rfl⟩, ⟨_, rfl, .same _ (by simp)⟩, trivial⟩) ?_)
                clear hK21 K21
                refine awp_seqK fun K23 hK23 => ?_
                refine awp_seqJ (fun (p : Bool) => (⟨[(1, i64 a_1), (2, i64 b_2), (3, .ref 0 0 0), (9, .ref 1 0 0), (11, .ref 2 0 0), (12, i64 r52.2), (108, bl p)], ⟨3, [(0, (2, [G.graph_Graph.av g_0])), (1, (2, [G.inquestref12_G.av r48])), (2, (2, [G.graph_Graph.av r52.1]))]⟩⟩ : St)) (fun (p : Bool) => G.inquestlaw12_GraphTells_j3 g_0 a_1 b_2 r48 r52 p = some r) ?_ ?_
                · rintro v109 h
                  replace h : G.inquestlaw12_GraphTells_j3 g_0 a_1 b_2 r48 r52 v109 = some r := h
                  unfold G.inquestlaw12_GraphTells_j3 at h
                  show AWP _ _ _ _ ⟨[(1, i64 a_1), (2, i64 b_2), (3, .ref 0 0 0), (9, .ref 1 0 0), (11, .ref 2 0 0), (12, i64 r52.2), (108, bl v109)], ⟨3, [(0, (2, [G.graph_Graph.av g_0])), (1, (2, [G.inquestref12_G.av r48])), (2, (2, [G.graph_Graph.av r52.1]))]⟩⟩ _
                  refine awp_cond rfl (fun hb110 => ?_) (fun hb110 => ?_)
                  · replace h := Sh.if_t h hb110
                    refine awp_seqK fun K24 hK24 => ?_
                    refine awp_reg rfl ?_
                    refine AR.op (r := i64 r52.2) rfl (aop_move (.inl rfl) rfl) ?_
                    refine AR.op (r := bl (decide (r52.2 = 1))) rfl (aop_eql rfl rfl rfl) ?_
                    refine AR.op (r := bl (decide (r52.2 = 1))) rfl (aop_move (.inl rfl) rfl) ?_
                    refine AR.drop (frx := [(1, _), (2, _), (3, _), (11, _), (111, _)]) ⟨rfl, rfl, rfl, rfl, rfl, trivial⟩ ?_
                    rcases Bool.eq_false_or_eq_true (decide (r52.2 = 1)) with hb115 | hb115
                    · rw [hb115]
                      replace h := Sh.if_t h hb115
                      refine AR.op rfl (aop_field_ref rfl rfl rfl fd24_0 (by decide)) ?_
                      refine AR.op (r := i64 r52.1.N) rfl (aop_load_ref rfl rfl rfl rfl sz3 rfl) ?_
                      refine AR.op (r := bl (decide (r52.1.N = 0))) rfl (aop_eql rfl rfl rfl) ?_
                      refine AR.drop (frx := [(1, _), (2, _), (3, _), (11, _), (111, _), (114, _)]) ⟨rfl, rfl, rfl, rfl, rfl, rfl, trivial⟩ ?_
                      refine AR.op (r := bl (decide (r52.1.N = 0))) rfl (aop_pick rfl rfl rfl) ?_
                      refine AR.op (r := bl (decide (r52.1.N = 0))) rfl (aop_move (.inl rfl) rfl) ?_
                      rcases Bool.eq_false_or_eq_true (decide (r52.1.N = 0)) with hb116 | hb116
                      · rw [hb116]
                        replace h := Sh.if_t h hb116
                        refine AR.op rfl (aop_field_ref rfl rfl rfl fd24_1 (by decide)) ?_
                        refine AR.drop (frx := [(1, _), (2, _), (3, _), (116, _), (117, _)]) ⟨rfl, rfl, rfl, rfl, rfl, trivial⟩ ?_
                        refine AR.op (r := .sl (List.map u64 r52.1.Rows)) rfl (aop_load_ref rfl rfl rfl rfl sz22 rfl) ?_
                        refine AR.op (r := i64 (Sh.len r52.1.Rows)) rfl (t_len_sl u64 r52.1.Rows rfl rfl el22) ?_
                        refine AR.op (r := bl (decide ((Sh.len r52.1.Rows) = 0))) rfl (aop_eql rfl rfl rfl) ?_
                        refine AR.drop (frx := [(1, _), (2, _), (3, _), (116, _), (120, _)]) ⟨rfl, rfl, rfl, rfl, rfl, trivial⟩ ?_
                        refine AR.op (r := bl (decide ((Sh.len r52.1.Rows) = 0))) rfl (aop_pick rfl rfl rfl) ?_
                        refine AR.op (r := bl (decide ((Sh.len r52.1.Rows) = 0))) rfl (aop_move (.inl rfl) rfl) ?_
                        rcases Bool.eq_false_or_eq_true (decide ((Sh.len r52.1.Rows) = 0)) with hb117 | hb117
                        · rw [hb117]
                          replace h := Sh.if_t h hb117
                          refine AR.op (r := G.graph_Graph.av g_0) rfl (aop_load_ref rfl rfl rfl rfl sz24 rfl) ?_
                          refine AR.drop (frx := [(1, _), (2, _), (122, _), (123, _)]) ⟨rfl, rfl, rfl, rfl, trivial⟩ ?_
                          refine AR.op (r := i64 a_1) rfl (aop_move (.inl rfl) rfl) ?_
                          refine AR.op (r := i64 b_2) rfl (aop_move (.inl rfl) rfl) ?_
                          obtain ⟨r118, hr118, h⟩ := Sh.bind_some' h
                          refine AR.op (r := bl r118) rfl (aop_call1 rfl rfl (by simp) (graph_Has_ok hT hr118)) ?_
                          refine AR.drop (frx := [(122, _), (126, _)]) ⟨rfl, rfl, trivial⟩ ?_
                          refine AR.op (r := bl (!r118)) rfl (aop_not rfl rfl) ?_
                          refine AR.op (r := bl (!r118)) rfl (aop_pick rfl rfl rfl) ?_
                          refine AR.op (r := bl (!r118)) rfl (aop_move (.inr rfl) rfl) ?_
                          refine AR.nil ?_
                          refine hK24 _ (AWP.weak (Weak.re (fr' := [(6, bl (!r118))]) (H' := .empty) [] [] rfl rfl rfl (trivial) ⟨⟨_, rfl, .same _ (by simp)⟩, trivial⟩) ?_)
                          clear hK24 K24
                          refine awp_ret ?_
                          obtain rfl := Option.some.inj h
                          refine ⟨.inr rfl, bl (!r118), rfl, ?_⟩
                          exact Weak.re [] [] rfl rfl rfl (trivial) ⟨⟨_, rfl, .same _ (by simp)⟩, trivial⟩
                        · rw [hb117]
                          replace h := Sh.if_f h hb117
                          refine AR.skip rfl ?_
                          refine AR.drop (frx := [(1, _), (2, _), (122, _), (123, _)]) ⟨rfl, rfl, rfl, rfl, trivial⟩ ?_
                          refine AR.skip rfl ?_
                          refine AR.skip rfl ?_
                          refine AR.skip rfl ?_
                          refine AR.drop (frx := [(122, _), (126, _)]) ⟨rfl, rfl, trivial⟩ ?_
                          refine AR.skip rfl ?_
                          refine AR.op (r := bl false) rfl (aop_pick rfl rfl rfl) ?_
                          refine AR.op (r := bl false) rfl (aop_move (.inr rfl) rfl) ?_
                          refine AR.nil ?_
                          refine hK24 _ (AWP.weak (Weak.re (fr' := [(6, bl false)]) (H' := .empty) [] [] rfl rfl rfl (trivial) ⟨⟨_, rfl, .same _ (by simp)⟩, trivial⟩) ?_)
                          clear hK24 K24
                          refine awp_ret ?_
                          obtain rfl := Option.some.inj h
                          refine ⟨.inr rfl, bl false, rfl, ?_⟩
                          exact Weak.re [] [] rfl rfl rfl (trivial) ⟨⟨_, rfl, .same _ (by simp)⟩, trivial⟩
                      · rw [hb116]
                        replace h := Sh.if_f h hb116
                        refine AR.skip rfl ?_
                        refine AR.drop (frx := [(1, _), (2, _), (3, _), (116, _), (117, _)]) ⟨rfl, rfl, rfl, rfl, rfl, trivial⟩ ?_
                        refine AR.skip rfl ?_
                        refine AR.skip rfl ?_
                        refine AR.skip rfl ?_
                        refine AR.drop (frx := [(1, _), (2, _), (3, _), (116, _), (120, _)]) ⟨rfl, rfl, rfl, rfl, rfl, trivial⟩ ?_
                        refine AR.op (r := bl false) rfl (aop_pick rfl rfl rfl) ?_
                        refine AR.op (r := bl false) rfl (aop_move (.inl rfl) rfl) ?_
                        refine AR.skip rfl ?_
                        refine AR.drop (frx := [(1, _), (2, _), (122, _), (123, _)]) ⟨rfl, rfl, rfl, rfl, trivial⟩ ?_
                        refine AR.skip rfl ?_
                        refine AR.skip rfl ?_
                        refine AR.skip rfl ?_
                        refine AR.drop (frx := [(122, _), (126, _)]) ⟨rfl, rfl, trivial⟩ ?_
                        refine AR.skip rfl ?_
                        refine AR.op (r := bl false) rfl (aop_pick rfl rfl rfl) ?_
                        refine AR.op (r := bl false) rfl (aop_move (.inr rfl) rfl) ?_
                        refine AR.nil ?_
                        refine hK24 _ (AWP.weak (Weak.re (fr' := [(6, bl false)]) (H' := .empty) [] [] rfl rfl rfl (trivial) ⟨⟨_, rfl, .same _ (by simp)⟩, trivial⟩) ?_)
                        clear hK24 K24
                        refine awp_ret ?_
                        obtain rfl := Option.some.inj h
                        refine ⟨.inr rfl, bl false, rfl, ?_⟩
                        exact Weak.re [] [] rfl rfl rfl (trivial) ⟨⟨_, rfl, .same _ (by simp)⟩, trivial⟩
                    · rw [hb115]
                      replace h := Sh.if_f h hb115
                      refine AR.skip rfl ?_
                      refine AR.skip rfl ?_
                      refine AR.skip rfl ?_
                      refine AR.drop (frx := [(1, _), (2, _), (3, _), (11, _), (111, _), (114, _)]) ⟨rfl, rfl, rfl, rfl, rfl, rfl, trivial⟩ ?_
                      refine AR.op (r := bl false) rfl (aop_pick rfl rfl rfl) ?_
                      refine AR.op (r := bl false) rfl (aop_move (.inl rfl) rfl) ?_
                      refine AR.skip rfl ?_
                      refine AR.drop (frx := [(1, _), (2, _), (3, _), (116, _), (117, _)]) ⟨rfl, rfl, rfl, rfl, rfl, trivial⟩ ?_
                      refine AR.skip rfl ?_
                      refine AR.skip rfl ?_
                      refine AR.skip rfl ?_
                      refine AR.drop (frx := [(1, _), (2, _), (3, _), (116, _), (120, _)]) ⟨rfl, rfl, rfl, rfl, rfl, trivial⟩ ?_
                      refine AR.op (r := bl false) rfl (aop_pick rfl rfl rfl) ?_
                      refine AR.op (r := bl false) rfl (aop_move (.inl rfl) rfl) ?_
                      refine AR.skip rfl ?_
                      refine AR.drop (frx := [(1, _), (2, _), (122, _), (123, _)]) ⟨rfl, rfl, rfl, rfl, trivial⟩ ?_
                      refine AR.skip rfl ?_
                      refine AR.skip rfl ?_
                      refine AR.skip rfl ?_
                      refine AR.drop (frx := [(122, _), (126, _)]) ⟨rfl, rfl, trivial⟩ ?_
                      refine AR.skip rfl ?_
                      refine AR.op (r := bl false) rfl (aop_pick rfl rfl rfl) ?_
                      refine AR.op (r := bl false) rfl (aop_move (.inr rfl) rfl) ?_
                      refine AR.nil ?_
                      refine hK24 _ (AWP.weak (Weak.re (fr' := [(6, bl false)]) (H' := .empty) [] [] rfl rfl rfl (trivial) ⟨⟨_, rfl, .same _ (by simp)⟩, trivial⟩) ?_)
                      clear hK24 K24
                      refine awp_ret ?_
                      obtain rfl := Option.some.inj h
                      refine ⟨.inr rfl, bl false, rfl, ?_⟩
                      exact Weak.re [] [] rfl rfl rfl (trivial) ⟨⟨_, rfl, .same _ (by simp)⟩, trivial⟩
                  · replace h := Sh.if_f h hb110
                    refine awp_skip ?_
                    refine hK23 _ (AWP.weak (Weak.re (fr' := [(1, i64 a_1), (2, i64 b_2), (3, .ref 0 0 0), (9, .ref 1 0 0), (11, .ref 2 0 0), (12, i64 r52.2)]) (H' := ⟨3, [(0, (2, [G.graph_Graph.av g_0])), (1, (2, [G.inquestref12_G.av r48])), (2, (2, [G.graph_Graph.av r52.1]))]⟩) [(0, 0), (1, 1), (2, 2)] [] rfl rfl rfl (.cons rfl rfl (.one (.same _ (by simp)) rfl) (of_decide_eq_true rfl) (.cons rfl rfl (.one (.same _ (by simp)) rfl) (of_decide_eq_true rfl) (.cons rfl rfl (.one (.same _ (by simp)) rfl) (of_decide_eq_true rfl) (trivial)))) ⟨⟨_, rfl, .same _ (by simp)⟩, ⟨_, rfl, .same _ (by simp)⟩, ⟨_, rfl, .ref rfl⟩, ⟨_, rfl, .ref rfl⟩, ⟨_, rfl, .ref rfl⟩, ⟨_, rfl, .same _ (by simp)⟩, trivial⟩) ?_)
                    clear hK23 K23
                    refine awp_seqK fun K25 hK25 => ?_
                    refine awp_any (by kernel_rfl) (by kernel_rfl) rfl ?_
                    refine ARH.dry (r := i64 r52.2) rfl (fun _ => aop_move (.inl rfl) rfl) ?_
                    refine ARH.dry (r := bl (decide (r52.2 = 0))) rfl (fun _ => aop_eql rfl rfl rfl) ?_
                    refine ARH.dry (r := bl (decide (r52.2 = 0))) rfl (fun _ => aop_move (.inl rfl) rfl) ?_
                    refine ARH.drop (frx := [(1, _), (2, _), (3, _), (9, _), (11, _), (131, _)]) ⟨rfl, rfl, rfl, rfl, rfl, rfl, trivial⟩ ?_
                    rcases Bool.eq_false_or_eq_true (decide (r52.2 = 0)) with hb126 | hb126
                    · rw [hb126]
                      replace h := Sh.if_t h hb126
                      refine ARH.op (r := G.graph_Graph.av r52.1) rfl rfl (aop_load_ref rfl rfl rfl rfl sz24 rfl) ?_
                      obtain ⟨r127, hr127, h⟩ := Sh.bind_some' h
                      refine ARH.op (r := G.inquestref12_G.av r127) rfl rfl (aop_call1 rfl rfl (by simp) (inquestlaw12_Plain_ok hT hr127)) ?_
                      refine ARH.op (r := G.inquestref12_G.av r48) rfl rfl (aop_load_ref rfl rfl rfl rfl sz26 rfl) ?_
                      refine ARH.drop (frx := [(1, _), (2, _), (3, _), (9, _), (131, _), (133, _), (134, _)]) ⟨rfl, rfl, rfl, rfl, rfl, rfl, rfl, trivial⟩ ?_
                      refine ARH.dry (r := i64 a_1) rfl (fun _ => aop_move (.inl rfl) rfl) ?_
                      refine ARH.dry (r := i64 b_2) rfl (fun _ => aop_move (.inl rfl) rfl) ?_
                      obtain ⟨r128, hr128, h⟩ := Sh.bind_some' h
                      refine ARH.op (r := G.inquestref12_G.av r128) rfl rfl (aop_call1 rfl rfl (by simp) (inquestref12_Set_ok hT hr128)) ?_
                      refine ARH.drop (frx := [(1, _), (2, _), (3, _), (9, _), (131, _), (133, _), (137, _)]) ⟨rfl, rfl, rfl, rfl, rfl, rfl, rfl, trivial⟩ ?_
                      obtain ⟨r129, hr129, h⟩ := Sh.bind_some' h
                      refine ARH.op (r := bl r129) rfl rfl (aop_call1 rfl rfl (by simp) (inquestref12_Same_ok hT hr129)) ?_
                      refine ARH.dry (r := bl r129) rfl (fun _ => aop_pick rfl rfl rfl) ?_
                      refine ARH.dry (r := bl r129) rfl (fun _ => aop_move (.inl rfl) rfl) ?_
                      refine ARH.drop (frx := [(1, _), (2, _), (3, _), (9, _), (140, _)]) ⟨rfl, rfl, rfl, rfl, rfl, trivial⟩ ?_
                      rcases Bool.eq_false_or_eq_true (r129) with hb130 | hb130
                      · rw [hb130]
                        replace h := Sh.if_t h hb130
                        refine ARH.op (r := G.graph_Graph.av g_0) rfl rfl (aop_load_ref rfl rfl rfl rfl sz24 rfl) ?_
                        refine ARH.dry (r := i64 a_1) rfl (fun _ => aop_move (.inl rfl) rfl) ?_
                        refine ARH.dry (r := i64 b_2) rfl (fun _ => aop_move (.inl rfl) rfl) ?_
                        refine ARH.drop (frx := [(1, _), (2, _), (9, _), (140, _), (141, _), (142, _), (143, _)]) ⟨rfl, rfl, rfl, rfl, rfl, rfl, rfl, trivial⟩ ?_
                        obtain ⟨r131, hr131, h⟩ := Sh.bind_some' h
                        refine ARH.op (r := bl r131) rfl rfl (aop_call1 rfl rfl (by simp) (graph_Has_ok hT hr131)) ?_
                        refine ARH.op (r := G.inquestref12_G.av r48) rfl rfl (aop_load_ref rfl rfl rfl rfl sz26 rfl) ?_
                        refine ARH.dry (r := i64 a_1) rfl (fun _ => aop_move (.inl rfl) rfl) ?_
                        refine ARH.drop (frx := [(2, _), (140, _), (144, _), (145, _), (146, _)]) ⟨rfl, rfl, rfl, rfl, rfl, trivial⟩ ?_
                        refine ARH.dry (r := i64 b_2) rfl (fun _ => aop_move (.inl rfl) rfl) ?_
                        obtain ⟨r132, hr132, h⟩ := Sh.bind_some' h
                        refine ARH.op (r := bl r132) rfl rfl (aop_call1 rfl rfl (by simp) (inquestref12_Has_ok hT hr132)) ?_
                        refine ARH.dry (r := bl (r131 == r132)) rfl (fun _ => aop_eqb rfl rfl rfl Tryd.underlying4) ?_
                        refine ARH.drop (frx := [(140, _), (149, _)]) ⟨rfl, rfl, trivial⟩ ?_
                        refine ARH.dry (r := bl (r131 == r132)) rfl (fun _ => aop_pick rfl rfl rfl) ?_
                        refine ARH.dry (r := bl (r131 == r132)) rfl (fun _ => aop_move (.inr rfl) rfl) ?_
                        refine ARH.nil ?_
                        refine hK25 _ (AWP.weak (Weak.re (fr' := [(6, bl (r131 == r132))]) (H' := .empty) [] [] rfl rfl rfl (trivial) ⟨⟨_, rfl, .same _ (by simp)⟩, trivial⟩) ?_)
                        clear hK25 K25
                        refine awp_ret ?_
                        obtain rfl := Option.some.inj h
                        refine ⟨.inr rfl, bl (r131 == r132), rfl, ?_⟩
                        exact Weak.re [] [] rfl rfl rfl (trivial) ⟨⟨_, rfl, .same _ (by simp)⟩, trivial⟩
                      · rw [hb130]
                        replace h := Sh.if_f h hb130
                        refine ARH.skip rfl ?_
                        refine ARH.skip rfl ?_
                        refine ARH.skip rfl ?_
                        refine ARH.drop (frx := [(1, _), (2, _), (9, _), (140, _), (141, _), (142, _), (143, _)]) ⟨rfl, rfl, rfl, rfl, rfl, rfl, rfl, trivial⟩ ?_
                        refine ARH.skip rfl ?_
                        refine ARH.skip rfl ?_
                        refine ARH.skip rfl ?_
                        refine ARH.drop (frx := [(2, _), (140, _), (144, _), (145, _), (146, _)]) ⟨rfl, rfl, rfl, rfl, rfl, trivial⟩ ?_
                        refine ARH.skip rfl ?_
                        refine ARH.skip rfl ?_
                        refine ARH.skip rfl ?_
                        refine ARH.drop (frx := [(140, _), (149, _)]) ⟨rfl, rfl, trivial⟩ ?_
                        refine ARH.dry (r := bl false) rfl (fun _ => aop_pick rfl rfl rfl) ?_
                        refine ARH.dry (r := bl false) rfl (fun _ => aop_move (.inr rfl) rfl) ?_
                        refine ARH.nil ?_
                        refine hK25 _ (AWP.weak (Weak.re (fr' := [(6, bl false)]) (H' := .empty) [] [] rfl rfl rfl (trivial) ⟨⟨_, rfl, .same _ (by simp)⟩, trivial⟩) ?_)
                        clear hK25 K25
                        refine awp_ret ?_
                        obtain rfl := Option.some.inj h
                        refine ⟨.inr rfl, bl false, rfl, ?_⟩
                        exact Weak.re [] [] rfl rfl rfl (trivial) ⟨⟨_, rfl, .same _ (by simp)⟩, trivial⟩
                    · rw [hb126]
                      replace h := Sh.if_f h hb126
                      refine ARH.skip rfl ?_
                      refine ARH.skip rfl ?_
                      refine ARH.skip rfl ?_
                      refine ARH.drop (frx := [(1, _), (2, _), (3, _), (9, _), (131, _), (133, _), (134, _)]) ⟨rfl, rfl, rfl, rfl, rfl, rfl, rfl, trivial⟩ ?_
                      refine ARH.skip rfl ?_
                      refine ARH.skip rfl ?_
                      refine ARH.skip rfl ?_
                      refine ARH.drop (frx := [(1, _), (2, _), (3, _), (9, _), (131, _), (133, _), (137, _)]) ⟨rfl, rfl, rfl, rfl, rfl, rfl, rfl, trivial⟩ ?_
                      refine ARH.skip rfl ?_
                      refine ARH.dry (r := bl false) rfl (fun _ => aop_pick rfl rfl rfl) ?_
                      refine ARH.dry (r := bl false) rfl (fun _ => aop_move (.inl rfl) rfl) ?_
                      refine ARH.drop (frx := [(1, _), (2, _), (3, _), (9, _), (140, _)]) ⟨rfl, rfl, rfl, rfl, rfl, trivial⟩ ?_
                      refine ARH.skip rfl ?_
                      refine ARH.skip rfl ?_
                      refine ARH.skip rfl ?_
                      refine ARH.drop (frx := [(1, _), (2, _), (9, _), (140, _), (141, _), (142, _), (143, _)]) ⟨rfl, rfl, rfl, rfl, rfl, rfl, rfl, trivial⟩ ?_
                      refine ARH.skip rfl ?_
                      refine ARH.skip rfl ?_
                      refine ARH.skip rfl ?_
                      refine ARH.drop (frx := [(2, _), (140, _), (144, _), (145, _), (146, _)]) ⟨rfl, rfl, rfl, rfl, rfl, trivial⟩ ?_
                      refine ARH.skip rfl ?_
                      refine ARH.skip rfl ?_
                      refine ARH.skip rfl ?_
                      refine ARH.drop (frx := [(140, _), (149, _)]) ⟨rfl, rfl, trivial⟩ ?_
                      refine ARH.dry (r := bl false) rfl (fun _ => aop_pick rfl rfl rfl) ?_
                      refine ARH.dry (r := bl false) rfl (fun _ => aop_move (.inr rfl) rfl) ?_
                      refine ARH.nil ?_
                      refine hK25 _ (AWP.weak (Weak.re (fr' := [(6, bl false)]) (H' := .empty) [] [] rfl rfl rfl (trivial) ⟨⟨_, rfl, .same _ (by simp)⟩, trivial⟩) ?_)
                      clear hK25 K25
                      refine awp_ret ?_
                      obtain rfl := Option.some.inj h
                      refine ⟨.inr rfl, bl false, rfl, ?_⟩
                      exact Weak.re [] [] rfl rfl rfl (trivial) ⟨⟨_, rfl, .same _ (by simp)⟩, trivial⟩
                · intro K26 hK26
                  refine awp_reg rfl ?_
                  refine AR.op (r := G.inquestref12_G.av r48) rfl (aop_load_ref rfl rfl rfl rfl sz26 rfl) ?_
                  refine AR.op (r := i64 a_1) rfl (aop_move (.inl rfl) rfl) ?_
                  obtain ⟨r133, hr133, h⟩ := Sh.bind_some' h
                  refine AR.op (r := bl r133) rfl (aop_call1 rfl rfl (by simp) (inquestref12_Node_ok hT hr133)) ?_
                  refine AR.drop (frx := [(1, _), (2, _), (3, _), (9, _), (11, _), (12, _), (101, _)]) ⟨rfl, rfl, rfl, rfl, rfl, rfl, rfl, trivial⟩ ?_
                  refine AR.op (r := bl (!r133)) rfl (aop_not rfl rfl) ?_
                  refine AR.op (r := bl (!r133)) rfl (aop_move (.inl rfl) rfl) ?_
                  rcases Bool.eq_false_or_eq_true (!r133) with hb134 | hb134
                  · rw [hb134]
                    replace h := Sh.if_t h hb134
                    refine AR.skip rfl ?_
                    refine AR.drop (frx := [(1, _), (2, _), (3, _), (9, _), (11, _), (12, _), (103, _), (104, _)]) ⟨rfl, rfl, rfl, rfl, rfl, rfl, rfl, rfl, trivial⟩ ?_
                    refine AR.skip rfl ?_
                    refine AR.skip rfl ?_
                    refine AR.skip rfl ?_
                    refine AR.drop (frx := [(1, _), (2, _), (3, _), (9, _), (11, _), (12, _), (103, _), (107, _)]) ⟨rfl, rfl, rfl, rfl, rfl, rfl, rfl, rfl, trivial⟩ ?_
                    refine AR.op (r := bl true) rfl (aop_pick rfl rfl rfl) ?_
                    refine AR.nil ?_
                    exact hK26 true _ h (Weak.re (fr' := [(1, i64 a_1), (2, i64 b_2), (3, .ref 0 0 0), (9, .ref 1 0 0), (11, .ref 2 0 0), (12, i64 r52.2), (108, bl true)]) (H' := ⟨3, [(0, (2, [G.graph_Graph.av g_0])), (1, (2, [G.inquestref12_G.av r48])), (2, (2, [G.graph_Graph.av r52.1]))]⟩) [(0, 0), (1, 1), (2, 2)] [] rfl rfl rfl (.cons rfl rfl (.one (.same _ (by simp)) rfl) (of_decide_eq_true rfl) (.cons rfl rfl (.one (.same _ (by simp)) rfl) (of_decide_eq_true rfl) (.cons rfl rfl (.one (.same _ (by simp)) rfl) (of_decide_eq_true rfl) (trivial)))) ⟨⟨_, rfl, .same _ (by simp)⟩, ⟨_, rfl, .same _ (by simp)⟩, ⟨_, rfl, .ref rfl⟩, ⟨_, rfl, .ref rfl⟩, ⟨_, rfl, .ref rfl⟩, ⟨_, rfl, .same _ (by simp)⟩, ⟨_, rfl, .same _ (by simp)⟩, trivial⟩)
                  · rw [hb134]
                    replace h := Sh.if_f h hb134
                    refine AR.op (r := G.inquestref12_G.av r48) rfl (aop_load_ref rfl rfl rfl rfl sz26 rfl) ?_
                    refine AR.drop (frx := [(1, _), (2, _), (3, _), (9, _), (11, _), (12, _), (103, _), (104, _)]) ⟨rfl, rfl, rfl, rfl, rfl, rfl, rfl, rfl, trivial⟩ ?_
                    refine AR.op (r := i64 b_2) rfl (aop_move (.inl rfl) rfl) ?_
                    obtain ⟨r135, hr135, h⟩ := Sh.bind_some' h
                    refine AR.op (r := bl r135) rfl (aop_call1 rfl rfl (by simp) (inquestref12_Node_ok hT hr135)) ?_
                    refine AR.op (r := bl (!r135)) rfl (aop_not rfl rfl) ?_
                    refine AR.drop (frx := [(1, _), (2, _), (3, _), (9, _), (11, _), (12, _), (103, _), (107, _)]) ⟨rfl, rfl, rfl, rfl, rfl, rfl, rfl, rfl, trivial⟩ ?_
                    refine AR.op (r := bl (!r135)) rfl (aop_pick rfl rfl rfl) ?_
                    refine AR.nil ?_
                    exact hK26 (!r135) _ h (Weak.re (fr' := [(1, i64 a_1), (2, i64 b_2), (3, .ref 0 0 0), (9, .ref 1 0 0), (11, .ref 2 0 0), (12, i64 r52.2), (108, bl (!r135))]) (H' := ⟨3, [(0, (2, [G.graph_Graph.av g_0])), (1, (2, [G.inquestref12_G.av r48])), (2, (2, [G.graph_Graph.av r52.1]))]⟩) [(0, 0), (1, 1), (2, 2)] [] rfl rfl rfl (.cons rfl rfl (.one (.same _ (by simp)) rfl) (of_decide_eq_true rfl) (.cons rfl rfl (.one (.same _ (by simp)) rfl) (of_decide_eq_true rfl) (.cons rfl rfl (.one (.same _ (by simp)) rfl) (of_decide_eq_true rfl) (trivial)))) ⟨⟨_, rfl, .same _ (by simp)⟩, ⟨_, rfl, .same _ (by simp)⟩, ⟨_, rfl, .ref rfl⟩, ⟨_, rfl, .ref rfl⟩, ⟨_, rfl, .ref rfl⟩, ⟨_, rfl, .same _ (by simp)⟩, ⟨_, rfl, .same _ (by simp)⟩, trivial⟩)
            · intro K27 hK27
              refine awp_any (by kernel_rfl) (by kernel_rfl) rfl ?_
              refine ARH.dry (r := i64 r54.2) rfl (fun _ => aop_move (.inl rfl) rfl) ?_
              refine ARH.dry (r := bl (decide (r54.2 ≠ 0))) rfl (fun _ => aop_neq rfl rfl rfl) ?_
              refine ARH.dry (r := bl (decide (r54.2 ≠ 0))) rfl (fun _ => aop_move (.inl rfl) rfl) ?_
              refine ARH.drop (frx := [(1, _), (2, _), (3, _), (9, _), (11, _), (12, _), (13, _), (91, _)]) ⟨rfl, rfl, rfl, rfl, rfl, rfl, rfl, rfl, trivial⟩ ?_
              rcases Bool.eq_false_or_eq_true (decide (r54.2 ≠ 0)) with hb136 | hb136
              · rw [hb136]
                replace h := Sh.if_t h hb136
                refine ARH.skip rfl ?_
                refine ARH.skip rfl ?_
                refine ARH.skip rfl ?_
                refine ARH.drop (frx := [(1, _), (2, _), (3, _), (9, _), (11, _), (12, _), (91, _), (93, _), (94, _)]) ⟨rfl, rfl, rfl, rfl, rfl, rfl, rfl, rfl, rfl, trivial⟩ ?_
                refine ARH.skip rfl ?_
                refine ARH.skip rfl ?_
                refine ARH.skip rfl ?_
                refine ARH.drop (frx := [(1, _), (2, _), (3, _), (9, _), (11, _), (12, _), (91, _), (97, _)]) ⟨rfl, rfl, rfl, rfl, rfl, rfl, rfl, rfl, trivial⟩ ?_
                refine ARH.dry (r := bl true) rfl (fun _ => aop_pick rfl rfl rfl) ?_
                refine ARH.nil ?_
                exact hK27 true _ h (Weak.re (fr' := [(1, i64 a_1), (2, i64 b_2), (3, .ref 0 0 0), (9, .ref 1 0 0), (11, .ref 2 0 0), (12, i64 r52.2), (98, bl true)]) (H' := ⟨3, [(0, (2, [G.graph_Graph.av g_0])), (1, (2, [G.inquestref12_G.av r48])), (2, (2, [G.graph_Graph.av r52.1]))]⟩) [(0, 0), (1, 1), (2, 2)] [] rfl rfl rfl (.cons rfl rfl (.one (.same _ (by simp)) rfl) (of_decide_eq_true rfl) (.cons rfl rfl (.one (.same _ (by simp)) rfl) (of_decide_eq_true rfl) (.cons rfl rfl (.one (.same _ (by simp)) rfl) (of_decide_eq_true rfl) (trivial)))) ⟨⟨_, rfl, .same _ (by simp)⟩, ⟨_, rfl, .same _ (by simp)⟩, ⟨_, rfl, .ref rfl⟩, ⟨_, rfl, .ref rfl⟩, ⟨_, rfl, .ref rfl⟩, ⟨_, rfl, .same _ (by simp)⟩, ⟨_, rfl, .same _ (by simp)⟩, trivial⟩)
              · rw [hb136]
                replace h := Sh.if_f h hb136
                refine ARH.op (r := G.graph_Graph.av r54.1) rfl rfl (aop_load_ref rfl rfl rfl rfl sz24 rfl) ?_
                obtain ⟨r137, hr137, h⟩ := Sh.bind_some' h
                refine ARH.op (r := G.inquestref12_G.av r137) rfl rfl (aop_call1 rfl rfl (by simp) (inquestlaw12_Plain_ok hT hr137)) ?_
                refine ARH.op (r := G.inquestref12_G.av r48) rfl rfl (aop_load_ref rfl rfl rfl rfl sz26 rfl) ?_
                refine ARH.drop (frx := [(1, _), (2, _), (3, _), (9, _), (11, _), (12, _), (91, _), (93, _), (94, _)]) ⟨rfl, rfl, rfl, rfl, rfl, rfl, rfl, rfl, rfl, trivial⟩ ?_
                obtain ⟨r138, hr138, h⟩ := Sh.bind_some' h
                refine ARH.op (r := G.inquestref12_G.av r138) rfl rfl (aop_call1 rfl rfl (by simp) (inquestref12_Turn_ok hT hr138)) ?_
                obtain ⟨r139, hr139, h⟩ := Sh.bind_some' h
                refine ARH.op (r := bl r139) rfl rfl (aop_call1 rfl rfl (by simp) (inquestref12_Same_ok hT hr139)) ?_
                refine ARH.dry (r := bl (!r139)) rfl (fun _ => aop_not rfl rfl) ?_
                refine ARH.drop (frx := [(1, _), (2, _), (3, _), (9, _), (11, _), (12, _), (91, _), (97, _)]) ⟨rfl, rfl, rfl, rfl, rfl, rfl, rfl, rfl, trivial⟩ ?_
                refine ARH.dry (r := bl (!r139)) rfl (fun _ => aop_pick rfl rfl rfl) ?_
                refine ARH.nil ?_
                exact hK27 (!r139) _ h (Weak.re (fr' := [(1, i64 a_1), (2, i64 b_2), (3, .ref 0 0 0), (9, .ref 1 0 0), (11, .ref 2 0 0), (12, i64 r52.2), (98, bl (!r139))]) (H' := ⟨3, [(0, (2, [G.graph_Graph.av g_0])), (1, (2, [G.inquestref12_G.av r48])), (2, (2, [G.graph_Graph.av r52.1]))]⟩) [(0, 0), (1, 1), (2, 2)] [] rfl rfl rfl (.cons rfl rfl (.one (.same _ (by simp)) rfl) (of_decide_eq_true rfl) (.cons rfl rfl (.one (.same _ (by simp)) rfl) (of_decide_eq_true rfl) (.cons rfl rfl (.one (.same _ (by simp)) rfl) (of_decide_eq_true rfl) (trivial)))) ⟨⟨_, rfl, .same _ (by simp)⟩, ⟨_, rfl, .same _ (by simp)⟩, ⟨_, rfl, .ref rfl⟩, ⟨_, rfl, .ref rfl⟩, ⟨_, rfl, .ref rfl⟩, ⟨_, rfl, .same _ (by simp)⟩, ⟨_, rfl, .same _ (by simp)⟩, trivial⟩)
      · intro K28 hK28
        refine awp_any (by kernel_rfl) (by kernel_rfl) rfl ?_
        refine ARH.op (r := G.graph_Graph.av g_0) rfl rfl (aop_load_ref rfl rfl rfl rfl sz24 rfl) ?_
        obtain ⟨r140, hr140, h⟩ := Sh.bind_some' h
        refine ARH.op (r := bl r140) rfl rfl (aop_call1 rfl rfl (by simp) (graph_Right_ok hT hr140)) ?_
        refine ARH.dry (r := bl r50) rfl (fun _ => aop_move (.inl rfl) rfl) ?_
        refine ARH.drop (frx := [(1, _), (2, _), (3, _), (9, _), (10, _), (11, _), (12, _), (13, _), (14, _), (48, _), (49, _)]) ⟨rfl, rfl, rfl, rfl, rfl, rfl, rfl, rfl, rfl, rfl, rfl, trivial⟩ ?_
        refine ARH.dry (r := bl (!(r140 == r50))) rfl (fun _ => aop_neb rfl rfl rfl Tryd.underlying4) ?_
        refine ARH.dry (r := bl (!(r140 == r50))) rfl (fun _ => aop_move (.inl rfl) rfl) ?_
        rcases Bool.eq_false_or_eq_true (!(r140 == r50)) with hb141 | hb141
        · rw [hb141]
          replace h := Sh.if_t h hb141
          refine ARH.skip rfl ?_
          refine ARH.drop (frx := [(1, _), (2, _), (3, _), (9, _), (10, _), (11, _), (12, _), (13, _), (14, _), (51, _), (52, _)]) ⟨rfl, rfl, rfl, rfl, rfl, rfl, rfl, rfl, rfl, rfl, rfl, trivial⟩ ?_
          refine ARH.skip rfl ?_
          refine ARH.skip rfl ?_
          refine ARH.skip rfl ?_
          refine ARH.drop (frx := [(1, _), (2, _), (3, _), (9, _), (10, _), (11, _), (12, _), (13, _), (14, _), (51, _), (55, _)]) ⟨rfl, rfl, rfl, rfl, rfl, rfl, rfl, rfl, rfl, rfl, rfl, trivial⟩ ?_
          refine ARH.skip rfl ?_
          refine ARH.dry (r := bl true) rfl (fun _ => aop_pick rfl rfl rfl) ?_
          refine ARH.nil ?_
          exact hK28 true _ h (Weak.re (fr' := [(1, i64 a_1), (2, i64 b_2), (3, .ref 0 0 0), (9, .ref 1 0 0), (10, bl r50), (11, .ref 2 0 0), (12, i64 r52.2), (13, .ref 3 0 0), (14, i64 r54.2), (57, bl true)]) (H' := ⟨4, [(0, (2, [G.graph_Graph.av g_0])), (1, (2, [G.inquestref12_G.av r48])), (2, (2, [G.graph_Graph.av r52.1])), (3, (2, [G.graph_Graph.av r54.1]))]⟩) [(0, 0), (1, 1), (2, 2), (3, 3)] [] rfl rfl rfl (.cons rfl rfl (.one (.same _ (by simp)) rfl) (of_decide_eq_true rfl) (.cons rfl rfl (.one (.same _ (by simp)) rfl) (of_decide_eq_true rfl) (.cons rfl rfl (.one (.same _ (by simp)) rfl) (of_decide_eq_true rfl) (.cons rfl rfl (.one (.same _ (by simp)) rfl) (of_decide_eq_true rfl) (trivial))))) ⟨⟨_, rfl, .same _ (by simp)⟩, ⟨_, rfl, .same _ (by simp)⟩, ⟨_, rfl, .ref rfl⟩, ⟨_, rfl, .ref rfl⟩, ⟨_, rfl, .same _ (by simp)⟩, ⟨_, rfl, .ref rfl⟩, ⟨_, rfl, .same _ (by simp)⟩, ⟨_, rfl, .ref rfl⟩, ⟨_, rfl, .same _ (by simp)⟩, ⟨_, rfl, .same _ (by simp)⟩, trivial⟩)
        · rw [hb141]
          replace h := Sh.if_f h hb141
          refine ARH.op (r := G.graph_Graph.av g_0) rfl rfl (aop_load_ref rfl rfl rfl rfl sz24 rfl) ?_
          refine ARH.drop (frx := [(1, _), (2, _), (3, _), (9, _), (10, _), (11, _), (12, _), (13, _), (14, _), (51, _), (52, _)]) ⟨rfl, rfl, rfl, rfl, rfl, rfl, rfl, rfl, rfl, rfl, rfl, trivial⟩ ?_
          obtain ⟨r142, hr142, h⟩ := Sh.bind_some' h
          refine ARH.op (r := G.inquestref12_G.av r142) rfl rfl (aop_call1 rfl rfl (by simp) (inquestlaw12_Plain_ok hT hr142)) ?_
          refine ARH.op (r := G.inquestref12_G.av r48) rfl rfl (aop_load_ref rfl rfl rfl rfl sz26 rfl) ?_
          obtain ⟨r143, hr143, h⟩ := Sh.bind_some' h
          refine ARH.op (r := bl r143) rfl rfl (aop_call1 rfl rfl (by simp) (inquestref12_Same_ok hT hr143)) ?_
          refine ARH.drop (frx := [(1, _), (2, _), (3, _), (9, _), (10, _), (11, _), (12, _), (13, _), (14, _), (51, _), (55, _)]) ⟨rfl, rfl, rfl, rfl, rfl, rfl, rfl, rfl, rfl, rfl, rfl, trivial⟩ ?_
          refine ARH.dry (r := bl (!r143)) rfl (fun _ => aop_not rfl rfl) ?_
          refine ARH.dry (r := bl (!r143)) rfl (fun _ => aop_pick rfl rfl rfl) ?_
          refine ARH.nil ?_
          exact hK28 (!r143) _ h (Weak.re (fr' := [(1, i64 a_1), (2, i64 b_2), (3, .ref 0 0 0), (9, .ref 1 0 0), (10, bl r50), (11, .ref 2 0 0), (12, i64 r52.2), (13, .ref 3 0 0), (14, i64 r54.2), (57, bl (!r143))]) (H' := ⟨4, [(0, (2, [G.graph_Graph.av g_0])), (1, (2, [G.inquestref12_G.av r48])), (2, (2, [G.graph_Graph.av r52.1])), (3, (2, [G.graph_Graph.av r54.1]))]⟩) [(0, 0), (1, 1), (2, 2), (3, 3)] [] rfl rfl rfl (.cons rfl rfl (.one (.same _ (by simp)) rfl) (of_decide_eq_true rfl) (.cons rfl rfl (.one (.same _ (by simp)) rfl) (of_decide_eq_true rfl) (.cons rfl rfl (.one (.same _ (by simp)) rfl) (of_decide_eq_true rfl) (.cons rfl rfl (.one (.same _ (by simp)) rfl) (of_decide_eq_true rfl) (trivial))))) ⟨⟨_, rfl, .same _ (by simp)⟩, ⟨_, rfl, .same _ (by simp)⟩, ⟨_, rfl, .ref rfl⟩, ⟨_, rfl, .ref rfl⟩, ⟨_, rfl, .same _ (by simp)⟩, ⟨_, rfl, .ref rfl⟩, ⟨_, rfl, .same _ (by simp)⟩, ⟨_, rfl, .ref rfl⟩, ⟨_, rfl, .same _ (by simp)⟩, ⟨_, rfl, .same _ (by simp)⟩, trivial⟩)
theorem inquestlaw12_GraphTells_ok {W0 : World} (hT : Tab W0) {g_0 : G.graph_Graph} {a_1 : Int} {b_2 : Int} {r : Bool} (h : G.inquestlaw12_GraphTells g_0 a_1 b_2 = some r) : Fun1 Tryd.prog W0 3 [G.graph_Graph.av g_0, i64 a_1, i64 b_2] (bl r) := Fun1.two (inquestlaw12_GraphTells_ok0 hT h) (by simp)

end Wk
