/- That a statement does what its plain function says. -/
import Derived.Test.YtkiiigfefobdlaaDoorWkCinquestlaw15
open Go Go.Av Go.Proofs
set_option linter.unusedVariables false
namespace Wk
set_option maxHeartbeats 8000000 in
set_option maxRecDepth 20000 in
theorem inquestlaw15_CycleShort_ok0 {W0 : World} (hT : Tab W0) {g_0 : G.graph_Graph} {r : Bool} (h : G.inquestlaw15_CycleShort g_0 = some r) : Fun2 Tryd.prog W0 5 [G.graph_Graph.av g_0] (bl r) .empty := by
  refine fun2_of_awp Tryd.func5 rfl (by kernel_rfl) Tryd.ntmps5 (by simp) ?_
  unfold G.inquestlaw15_CycleShort at h
  show AWP _ _ _ _ ⟨[(0, G.graph_Graph.av g_0)], .empty⟩ _
  refine awp_seqK fun K1 hK1 => ?_
  refine awp_reg rfl ?_
  refine AR.op (r := .ref 0 0 0) rfl (aop_box 2 [G.graph_Graph.av g_0] rfl rfl rfl (.inl ⟨rfl, rfl⟩)) ?_
  refine AR.op (r := bl false) rfl (aop_move (.inr rfl) rfl) ?_
  refine AR.nil ?_
  refine hK1 _ (AWP.weak (Weak.re (fr' := [(1, .ref 0 0 0)]) (H' := ⟨1, [(0, (2, [G.graph_Graph.av g_0]))]⟩) [(0, 0)] [] rfl rfl rfl (.cons rfl rfl (.one (.same _ (by simp)) rfl) (of_decide_eq_true rfl) (trivial)) ⟨⟨_, rfl, .ref rfl⟩, trivial⟩) ?_)
  clear hK1 K1
  refine awp_seqK fun K2 hK2 => ?_
  refine awp_reg rfl ?_
  obtain ⟨r31, hr31, h⟩ := Sh.bind_some' h
  refine AR.op (r := bl r31) rfl (aop_call1 rfl rfl (by simp) (inquestlaw15_awake_ok hT hr31)) ?_
  refine AR.op (r := bl r31) rfl (aop_move (.inr rfl) rfl) ?_
  refine AR.nil ?_
  refine hK2 _ (AWP.weak (Weak.re (fr' := [(1, .ref 0 0 0), (3, bl r31)]) (H' := ⟨1, [(0, (2, [G.graph_Graph.av g_0]))]⟩) [(0, 0)] [] rfl rfl rfl (.cons rfl rfl (.one (.same _ (by simp)) rfl) (of_decide_eq_true rfl) (trivial)) ⟨⟨_, rfl, .ref rfl⟩, ⟨_, rfl, .same _ (by simp)⟩, trivial⟩) ?_)
  clear hK2 K2
  refine awp_seqK fun K3 hK3 => ?_
  refine awp_seqK fun K4 hK4 => ?_
  refine awp_reg rfl ?_
  refine AR.op (r := bl r31) rfl (aop_move (.inl rfl) rfl) ?_
  refine AR.op (r := bl (!r31)) rfl (aop_not rfl rfl) ?_
  refine AR.nil ?_
  refine hK4 _ (AWP.weak (Weak.re (fr' := [(1, .ref 0 0 0), (11, bl (!r31))]) (H' := ⟨1, [(0, (2, [G.graph_Graph.av g_0]))]⟩) [(0, 0)] [] rfl rfl rfl (.cons rfl rfl (.one (.same _ (by simp)) rfl) (of_decide_eq_true rfl) (trivial)) ⟨⟨_, rfl, .ref rfl⟩, ⟨_, rfl, .same _ (by simp)⟩, trivial⟩) ?_)
  clear hK4 K4
  refine awp_cond rfl (fun hb32 => ?_) (fun hb32 => ?_)
  · replace h := Sh.if_t h hb32
    refine awp_seqK fun K5 hK5 => ?_
    refine awp_reg rfl ?_
    refine AR.op (r := bl false) rfl (aop_move (.inr rfl) rfl) ?_
    refine AR.nil ?_
    refine hK5 _ (AWP.weak (Weak.re (fr' := [(2, bl false)]) (H' := .empty) [] [] rfl rfl rfl (trivial) ⟨⟨_, rfl, .same _ (by simp)⟩, trivial⟩) ?_)
    clear hK5 K5
    refine awp_ret ?_
    obtain rfl := Option.some.inj h
    refine ⟨.inr rfl, bl false, rfl, ?_⟩
    exact Weak.re [] [] rfl rfl rfl (trivial) ⟨⟨_, rfl, .same _ (by simp)⟩, trivial⟩
  · replace h := Sh.if_f h hb32
    refine awp_skip ?_
    refine hK3 _ (AWP.weak (Weak.re (fr' := [(1, .ref 0 0 0)]) (H' := ⟨1, [(0, (2, [G.graph_Graph.av g_0]))]⟩) [(0, 0)] [] rfl rfl rfl (.cons rfl rfl (.one (.same _ (by simp)) rfl) (of_decide_eq_true rfl) (trivial)) ⟨⟨_, rfl, .ref rfl⟩, trivial⟩) ?_)
    clear hK3 K3
    refine awp_seqK fun K6 hK6 => ?_
    refine awp_seqK fun K7 hK7 => ?_
    refine awp_reg rfl ?_
    refine AR.op rfl (aop_field_ref rfl rfl rfl fd24_1 (by decide)) ?_
    refine AR.op (r := .sl (List.map u64 g_0.Rows)) rfl (aop_load_ref rfl rfl rfl rfl sz22 rfl) ?_
    refine AR.op (r := i64 (Sh.len g_0.Rows)) rfl (t_len_sl u64 g_0.Rows rfl rfl el22) ?_
    refine AR.drop (frx := [(1, _), (14, _)]) ⟨rfl, rfl, trivial⟩ ?_
    refine AR.op (r := bl (decide ((24 : Int) < (Sh.len g_0.Rows)))) rfl (aop_gtr rfl rfl rfl) ?_
    refine AR.nil ?_
    refine hK7 _ (AWP.weak (Weak.re (fr' := [(1, .ref 0 0 0), (15, bl (decide ((24 : Int) < (Sh.len g_0.Rows))))]) (H' := ⟨1, [(0, (2, [G.graph_Graph.av g_0]))]⟩) [(0, 0)] [] rfl rfl rfl (.cons rfl rfl (.one (.same _ (by simp)) rfl) (of_decide_eq_true rfl) (trivial)) ⟨⟨_, rfl, .ref rfl⟩, ⟨_, rfl, .same _ (by simp)⟩, trivial⟩) ?_)
    clear hK7 K7
    refine awp_cond rfl (fun hb33 => ?_) (fun hb33 => ?_)
    · replace h := Sh.if_t h hb33
      refine awp_seqK fun K8 hK8 => ?_
      refine awp_reg rfl ?_
      refine AR.op (r := bl true) rfl (aop_move (.inr rfl) rfl) ?_
      refine AR.nil ?_
      refine hK8 _ (AWP.weak (Weak.re (fr' := [(2, bl true)]) (H' := .empty) [] [] rfl rfl rfl (trivial) ⟨⟨_, rfl, .same _ (by simp)⟩, trivial⟩) ?_)
      clear hK8 K8
      refine awp_ret ?_
      obtain rfl := Option.some.inj h
      refine ⟨.inr rfl, bl true, rfl, ?_⟩
      exact Weak.re [] [] rfl rfl rfl (trivial) ⟨⟨_, rfl, .same _ (by simp)⟩, trivial⟩
    · replace h := Sh.if_f h hb33
      refine awp_skip ?_
      refine hK6 _ (AWP.weak (Weak.re (fr' := [(1, .ref 0 0 0)]) (H' := ⟨1, [(0, (2, [G.graph_Graph.av g_0]))]⟩) [(0, 0)] [] rfl rfl rfl (.cons rfl rfl (.one (.same _ (by simp)) rfl) (of_decide_eq_true rfl) (trivial)) ⟨⟨_, rfl, .ref rfl⟩, trivial⟩) ?_)
      clear hK6 K6
      refine awp_seqK fun K9 hK9 => ?_
      refine awp_reg rfl ?_
      refine AR.op (r := G.graph_Graph.av g_0) rfl (aop_load_ref rfl rfl rfl rfl sz24 rfl) ?_
      obtain ⟨r35, hr35, h⟩ := Sh.bind_some' h
      refine AR.op (r := .sl (List.map i64 r35)) rfl (aop_call1 rfl rfl (by simp) (cycle_Find_ok hT hr35)) ?_
      refine AR.op (r := .sl (List.map i64 r35)) rfl (aop_move (.inr rfl) rfl) ?_
      refine AR.nil ?_
      refine hK9 _ (AWP.weak (Weak.re (fr' := [(1, .ref 0 0 0), (4, .sl (List.map i64 r35))]) (H' := ⟨1, [(0, (2, [G.graph_Graph.av g_0]))]⟩) [(0, 0)] [] rfl rfl rfl (.cons rfl rfl (.one (.same _ (by simp)) rfl) (of_decide_eq_true rfl) (trivial)) ⟨⟨_, rfl, .ref rfl⟩, ⟨.sl (List.map i64 r35), rfl, .same _ (by simp)⟩, trivial⟩) ?_)
      clear hK9 K9
      refine awp_seqK fun K10 hK10 => ?_
      refine awp_seqK fun K11 hK11 => ?_
      refine awp_reg rfl ?_
      refine AR.op (r := .sl (List.map i64 r35)) rfl (aop_move (.inl rfl) rfl) ?_
      refine AR.op (r := i64 (Sh.len r35)) rfl (t_len_sl i64 r35 rfl rfl el25) ?_
      refine AR.op (r := bl (decide ((Sh.len r35) = 0))) rfl (aop_eql rfl rfl rfl) ?_
      refine AR.nil ?_
      refine hK11 _ (AWP.weak (Weak.re (fr' := [(1, .ref 0 0 0), (4, .sl (List.map i64 r35)), (20, bl (decide ((Sh.len r35) = 0)))]) (H' := ⟨1, [(0, (2, [G.graph_Graph.av g_0]))]⟩) [(0, 0)] [] rfl rfl rfl (.cons rfl rfl (.one (.same _ (by simp)) rfl) (of_decide_eq_true rfl) (trivial)) ⟨⟨_, rfl, .ref rfl⟩, ⟨.sl (List.map i64 r35), rfl, .same _ (by simp)⟩, ⟨_, rfl, .same _ (by simp)⟩, trivial⟩) ?_)
      clear hK11 K11
      refine awp_cond rfl (fun hb36 => ?_) (fun hb36 => ?_)
      · replace h := Sh.if_t h hb36
        refine awp_seqK fun K12 hK12 => ?_
        refine awp_reg rfl ?_
        refine AR.op (r := bl true) rfl (aop_move (.inr rfl) rfl) ?_
        refine AR.nil ?_
        refine hK12 _ (AWP.weak (Weak.re (fr' := [(2, bl true)]) (H' := .empty) [] [] rfl rfl rfl (trivial) ⟨⟨_, rfl, .same _ (by simp)⟩, trivial⟩) ?_)
        clear hK12 K12
        refine awp_ret ?_
        obtain rfl := Option.some.inj h
        refine ⟨.inr rfl, bl true, rfl, ?_⟩
        exact Weak.re [] [] rfl rfl rfl (trivial) ⟨⟨_, rfl, .same _ (by simp)⟩, trivial⟩
      · replace h := Sh.if_f h hb36
        refine awp_skip ?_
        refine hK10 _ (AWP.weak (Weak.re (fr' := [(1, .ref 0 0 0), (4, .sl (List.map i64 r35))]) (H' := ⟨1, [(0, (2, [G.graph_Graph.av g_0]))]⟩) [(0, 0)] [] rfl rfl rfl (.cons rfl rfl (.one (.same _ (by simp)) rfl) (of_decide_eq_true rfl) (trivial)) ⟨⟨_, rfl, .ref rfl⟩, ⟨.sl (List.map i64 r35), rfl, .same _ (by simp)⟩, trivial⟩) ?_)
        clear hK10 K10
        refine awp_seqK fun K13 hK13 => ?_
        refine awp_reg rfl ?_
        refine AR.op (r := G.graph_Graph.av g_0) rfl (aop_load_ref rfl rfl rfl rfl sz24 rfl) ?_
        refine AR.op (r := .ref 1 0 0) rfl (aop_alloc 2 [.agg [i64 0, nilS]] rfl zr24 (by kernel_rfl) (.inl ⟨rfl, rfl⟩)) ?_
        refine AR.op rfl (aop_store (e' := G.graph_Graph.av g_0) rfl rfl rfl rfl rfl rfl sz24 rfl (of_decide_eq_true rfl) rfl) ?_
        refine AR.nil ?_
        refine hK13 _ (AWP.weak (Weak.re (fr' := [(1, .ref 0 0 0), (4, .sl (List.map i64 r35)), (5, .ref 1 0 0)]) (H' := ⟨2, [(0, (2, [G.graph_Graph.av g_0])), (1, (2, [G.graph_Graph.av g_0]))]⟩) [(0, 0), (1, 1)] [] rfl rfl rfl (.cons rfl rfl (.one (.same _ (by simp)) rfl) (of_decide_eq_true rfl) (.cons rfl rfl (.one (.same _ (by simp)) rfl) (of_decide_eq_true rfl) (trivial))) ⟨⟨_, rfl, .ref rfl⟩, ⟨.sl (List.map i64 r35), rfl, .same _ (by simp)⟩, ⟨_, rfl, .ref rfl⟩, trivial⟩) ?_)
        clear hK13 K13
        refine awp_seqJ (fun (p : G.graph_Graph) => (⟨[(4, .sl (List.map i64 r35)), (5, .ref 0 0 0)], ⟨1, [(0, (2, [G.graph_Graph.av p]))]⟩⟩ : St)) (fun (p : G.graph_Graph) => G.inquestlaw15_CycleShort_j1 r35 p = some r) ?_ ?_
        · rintro v59 h
          replace h : G.inquestlaw15_CycleShort_j1 r35 v59 = some r := h
          unfold G.inquestlaw15_CycleShort_j1 at h
          show AWP _ _ _ _ ⟨[(4, .sl (List.map i64 r35)), (5, .ref 0 0 0)], ⟨1, [(0, (2, [G.graph_Graph.av v59]))]⟩⟩ _
          refine awp_seqK fun K14 hK14 => ?_
          refine awp_any (by kernel_rfl) (by kernel_rfl) rfl ?_
          refine ARH.op (r := G.graph_Graph.av v59) rfl rfl (aop_load_ref rfl rfl rfl rfl sz24 rfl) ?_
          refine ARH.dry (r := .sl (List.map i64 r35)) rfl (fun _ => aop_move (.inl rfl) rfl) ?_
          obtain ⟨x65, hx65, h⟩ := Sh.bind_some' h
          obtain ⟨k66, hi66, hl66⟩ := Sh.idx_some hx65
          refine ARH.op rfl rfl (t_index_sl i64 r35 hi66 hl66 rfl rfl rfl el25 rfl) ?_
          refine ARH.drop (frx := [(4, _), (45, _), (47, _)]) ⟨rfl, rfl, rfl, trivial⟩ ?_
          refine ARH.op (r := i64 x65) rfl rfl (aop_load_pp rfl rfl sz3 rfl) ?_
          refine ARH.dry (r := .sl (List.map i64 r35)) rfl (fun _ => aop_move (.inl rfl) rfl) ?_
          obtain ⟨x67, hx67, h⟩ := Sh.bind_some' h
          obtain ⟨k68, hi68, hl68⟩ := Sh.idx_some hx67
          refine ARH.op rfl rfl (t_index_sl i64 r35 hi68 hl68 rfl rfl rfl el25 rfl) ?_
          refine ARH.drop (frx := [(45, _), (48, _), (50, _)]) ⟨rfl, rfl, rfl, trivial⟩ ?_
          refine ARH.op (r := i64 x67) rfl rfl (aop_load_pp rfl rfl sz3 rfl) ?_
          obtain ⟨r69, hr69, h⟩ := Sh.bind_some' h
          refine ARH.op (r := bl r69) rfl rfl (aop_call1 rfl rfl (by simp) (graph_Has_ok hT hr69)) ?_
          refine ARH.dry (r := bl r69) rfl (fun _ => aop_move (.inr rfl) rfl) ?_
          refine ARH.nil ?_
          refine hK14 _ (AWP.weak (Weak.re (fr' := [(2, bl r69)]) (H' := .empty) [] [] rfl rfl rfl (trivial) ⟨⟨_, rfl, .same _ (by simp)⟩, trivial⟩) ?_)
          clear hK14 K14
          refine awp_ret ?_
          obtain rfl := Option.some.inj h
          refine ⟨.inr rfl, bl r69, rfl, ?_⟩
          exact Weak.re [] [] rfl rfl rfl (trivial) ⟨⟨_, rfl, .same _ (by simp)⟩, trivial⟩
        · intro K15 hK15
          refine awp_seqK fun K16 hK16 => ?_
          refine awp_reg rfl ?_
          refine AR.op (r := i64 1) rfl (aop_move (.inr rfl) rfl) ?_
          refine AR.nil ?_
          refine hK16 _ ?_
          clear hK16 K16
          refine awp_block ?_
          refine awp_iter (fun (p : G.graph_Graph × Int) => G.inquestlaw15_CycleShort_b1 g_0 r35 p.1 p.2) (fun (p : G.graph_Graph × Int) => (⟨[(1, .ref 0 0 0), (4, .sl (List.map i64 r35)), (5, .ref 1 0 0), (6, i64 p.2)], ⟨2, [(0, (2, [G.graph_Graph.av g_0])), (1, (2, [G.graph_Graph.av p.1]))]⟩⟩ : St)) h (Weak.re (fr' := [(1, .ref 0 0 0), (4, .sl (List.map i64 r35)), (5, .ref 1 0 0), (6, i64 1)]) (H' := ⟨2, [(0, (2, [G.graph_Graph.av g_0])), (1, (2, [G.graph_Graph.av g_0]))]⟩) [(0, 0), (1, 1)] [] rfl rfl rfl (.cons rfl rfl (.one (.same _ (by simp)) rfl) (of_decide_eq_true rfl) (.cons rfl rfl (.one (.same _ (by simp)) rfl) (of_decide_eq_true rfl) (trivial))) ⟨⟨_, rfl, .ref rfl⟩, ⟨.sl (List.map i64 r35), rfl, .same _ (by simp)⟩, ⟨_, rfl, .ref rfl⟩, ⟨_, rfl, .same _ (by simp)⟩, trivial⟩) ?_
          · skip
            rintro ⟨p84, k85⟩ o1 h hx1
            replace h : G.inquestlaw15_CycleShort_b1 g_0 r35 p84 k85 = some o1 := h
            unfold G.inquestlaw15_CycleShort_b1 at h
            show AWP _ _ _ _ ⟨[(1, .ref 0 0 0), (4, .sl (List.map i64 r35)), (5, .ref 1 0 0), (6, i64 k85)], ⟨2, [(0, (2, [G.graph_Graph.av g_0])), (1, (2, [G.graph_Graph.av p84]))]⟩⟩ _
            refine awp_seqK fun K17 hK17 => ?_
            refine awp_seqK fun K18 hK18 => ?_
            refine awp_reg rfl ?_
            refine AR.op (r := i64 k85) rfl (aop_move (.inl rfl) rfl) ?_
            refine AR.op (r := .sl (List.map i64 r35)) rfl (aop_move (.inl rfl) rfl) ?_
            refine AR.op (r := i64 (Sh.len r35)) rfl (t_len_sl i64 r35 rfl rfl el25) ?_
            refine AR.drop (frx := [(1, _), (4, _), (5, _), (6, _), (22, _), (24, _)]) ⟨rfl, rfl, rfl, rfl, rfl, rfl, trivial⟩ ?_
            refine AR.op (r := bl (decide (k85 < (Sh.len r35)))) rfl (aop_lss rfl rfl rfl) ?_
            refine AR.nil ?_
            refine hK18 _ (AWP.weak (Weak.re (fr' := [(1, .ref 0 0 0), (4, .sl (List.map i64 r35)), (5, .ref 1 0 0), (6, i64 k85), (25, bl (decide (k85 < (Sh.len r35))))]) (H' := ⟨2, [(0, (2, [G.graph_Graph.av g_0])), (1, (2, [G.graph_Graph.av p84]))]⟩) [(0, 0), (1, 1)] [] rfl rfl rfl (.cons rfl rfl (.one (.same _ (by simp)) rfl) (of_decide_eq_true rfl) (.cons rfl rfl (.one (.same _ (by simp)) rfl) (of_decide_eq_true rfl) (trivial))) ⟨⟨_, rfl, .ref rfl⟩, ⟨.sl (List.map i64 r35), rfl, .same _ (by simp)⟩, ⟨_, rfl, .ref rfl⟩, ⟨_, rfl, .same _ (by simp)⟩, ⟨_, rfl, .same _ (by simp)⟩, trivial⟩) ?_)
            clear hK18 K18
            refine awp_cond rfl (fun hb86 => ?_) (fun hb86 => ?_)
            · replace h := Sh.if_t h hb86
              refine awp_skip ?_
              refine hK17 _ (AWP.weak (Weak.re (fr' := [(1, .ref 0 0 0), (4, .sl (List.map i64 r35)), (5, .ref 1 0 0), (6, i64 k85)]) (H' := ⟨2, [(0, (2, [G.graph_Graph.av g_0])), (1, (2, [G.graph_Graph.av p84]))]⟩) [(0, 0), (1, 1)] [] rfl rfl rfl (.cons rfl rfl (.one (.same _ (by simp)) rfl) (of_decide_eq_true rfl) (.cons rfl rfl (.one (.same _ (by simp)) rfl) (of_decide_eq_true rfl) (trivial))) ⟨⟨_, rfl, .ref rfl⟩, ⟨.sl (List.map i64 r35), rfl, .same _ (by simp)⟩, ⟨_, rfl, .ref rfl⟩, ⟨_, rfl, .same _ (by simp)⟩, trivial⟩) ?_)
              clear hK17 K17
              refine awp_seqK fun K19 hK19 => ?_
              refine awp_block ?_
              refine awp_seqK fun K20 hK20 => ?_
              refine awp_seqK fun K21 hK21 => ?_
              refine awp_any (by kernel_rfl) (by kernel_rfl) rfl ?_
              refine ARH.op (r := G.graph_Graph.av p84) rfl rfl (aop_load_ref rfl rfl rfl rfl sz24 rfl) ?_
              refine ARH.dry (r := .sl (List.map i64 r35)) rfl (fun _ => aop_move (.inl rfl) rfl) ?_
              obtain ⟨x103, hx103, h⟩ := Sh.bind_some' h
              obtain ⟨k104, hi104, hl104⟩ := Sh.idx_some hx103
              refine ARH.op rfl rfl (t_index_sl i64 r35 hi104 hl104 rfl rfl rfl el25 rfl) ?_
              refine ARH.drop (frx := [(1, _), (4, _), (5, _), (6, _), (28, _), (30, _)]) ⟨rfl, rfl, rfl, rfl, rfl, rfl, trivial⟩ ?_
              refine ARH.op (r := i64 x103) rfl rfl (aop_load_pp rfl rfl sz3 rfl) ?_
              refine ARH.dry (r := .sl (List.map i64 r35)) rfl (fun _ => aop_move (.inl rfl) rfl) ?_
              obtain ⟨x105, hx105, h⟩ := Sh.bind_some' h
              obtain ⟨k106, hi106, hl106⟩ := Sh.idx_some hx105
              refine ARH.op rfl rfl (t_index_sl i64 r35 hi106 hl106 rfl rfl rfl el25 rfl) ?_
              refine ARH.drop (frx := [(1, _), (4, _), (5, _), (6, _), (28, _), (31, _), (33, _)]) ⟨rfl, rfl, rfl, rfl, rfl, rfl, rfl, trivial⟩ ?_
              refine ARH.op (r := i64 x105) rfl rfl (aop_load_pp rfl rfl sz3 rfl) ?_
              obtain ⟨r107, hr107, h⟩ := Sh.bind_some' h
              refine ARH.op (r := bl r107) rfl rfl (aop_call1 rfl rfl (by simp) (graph_Has_ok hT hr107)) ?_
              refine ARH.nil ?_
              refine hK21 _ (AWP.weak (Weak.re (fr' := [(1, .ref 0 0 0), (4, .sl (List.map i64 r35)), (5, .ref 1 0 0), (6, i64 k85), (35, bl r107)]) (H' := ⟨2, [(0, (2, [G.graph_Graph.av g_0])), (1, (2, [G.graph_Graph.av p84]))]⟩) [(0, 0), (1, 1)] [] rfl rfl rfl (.cons rfl rfl (.one (.same _ (by simp)) rfl) (of_decide_eq_true rfl) (.cons rfl rfl (.one (.same _ (by simp)) rfl) (of_decide_eq_true rfl) (trivial))) ⟨⟨_, rfl, .ref rfl⟩, ⟨.sl (List.map i64 r35), rfl, .same _ (by simp)⟩, ⟨_, rfl, .ref rfl⟩, ⟨_, rfl, .same _ (by simp)⟩, ⟨_, rfl, .same _ (by simp)⟩, trivial⟩) ?_)
              clear hK21 K21
              refine awp_cond rfl (fun hb108 => ?_) (fun hb108 => ?_)
              · replace h := Sh.if_t h hb108
                refine awp_seqK fun K22 hK22 => ?_
                refine awp_reg rfl ?_
                refine AR.op (r := bl false) rfl (aop_move (.inr rfl) rfl) ?_
                refine AR.nil ?_
                refine hK22 _ (AWP.weak (Weak.re (fr' := [(2, bl false)]) (H' := .empty) [] [] rfl rfl rfl (trivial) ⟨⟨_, rfl, .same _ (by simp)⟩, trivial⟩) ?_)
                clear hK22 K22
                refine awp_ret ?_
                replace h := Sh.exit_eq h hx1
                obtain rfl := Option.some.inj h
                refine ⟨.inr rfl, bl false, rfl, ?_⟩
                exact Weak.re [] [] rfl rfl rfl (trivial) ⟨⟨_, rfl, .same _ (by simp)⟩, trivial⟩
              · replace h := Sh.if_f h hb108
                refine awp_skip ?_
                refine hK20 _ (AWP.weak (Weak.re (fr' := [(1, .ref 0 0 0), (4, .sl (List.map i64 r35)), (5, .ref 1 0 0), (6, i64 k85)]) (H' := ⟨2, [(0, (2, [G.graph_Graph.av g_0])), (1, (2, [G.graph_Graph.av p84]))]⟩) [(0, 0), (1, 1)] [] rfl rfl rfl (.cons rfl rfl (.one (.same _ (by simp)) rfl) (of_decide_eq_true rfl) (.cons rfl rfl (.one (.same _ (by simp)) rfl) (of_decide_eq_true rfl) (trivial))) ⟨⟨_, rfl, .ref rfl⟩, ⟨.sl (List.map i64 r35), rfl, .same _ (by simp)⟩, ⟨_, rfl, .ref rfl⟩, ⟨_, rfl, .same _ (by simp)⟩, trivial⟩) ?_)
                clear hK20 K20
                refine awp_seqK fun K23 hK23 => ?_
                refine awp_reg rfl ?_
                refine AR.op (r := G.graph_Graph.av p84) rfl (aop_load_ref rfl rfl rfl rfl sz24 rfl) ?_
                refine AR.op (r := G.graph_Graph.av g_0) rfl (aop_load_ref rfl rfl rfl rfl sz24 rfl) ?_
                obtain ⟨r110, hr110, h⟩ := Sh.bind_some' h
                refine AR.op (r := .tuple [G.graph_Graph.av r110.1, i64 r110.2]) rfl (aop_call1 rfl rfl (by simp) (graph_Compose_ok hT hr110)) ?_
                refine AR.drop (frx := [(1, _), (4, _), (5, _), (6, _), (39, _)]) ⟨rfl, rfl, rfl, rfl, rfl, trivial⟩ ?_
                refine AR.op (r := .tuple [G.graph_Graph.av r110.1, i64 r110.2]) rfl (aop_move (.inl rfl) rfl) ?_
                refine AR.op (r := G.graph_Graph.av r110.1) rfl (aop_extract rfl rfl rfl) ?_
                refine AR.op (r := i64 r110.2) rfl (aop_extract rfl rfl rfl) ?_
                refine AR.drop (frx := [(1, _), (4, _), (5, _), (6, _), (40, _), (41, _)]) ⟨rfl, rfl, rfl, rfl, rfl, rfl, trivial⟩ ?_
                refine AR.op (r := .ref 2 0 0) rfl (aop_alloc 2 [.agg [i64 0, nilS]] rfl zr24 (by kernel_rfl) (.inl ⟨rfl, rfl⟩)) ?_
                refine AR.op rfl (aop_store (e' := G.graph_Graph.av r110.1) rfl rfl rfl rfl rfl rfl sz24 rfl (of_decide_eq_true rfl) rfl) ?_
                refine AR.op (r := i64 r110.2) rfl (aop_move (.inr rfl) rfl) ?_
                refine AR.nil ?_
                refine hK23 _ (AWP.weak (Weak.re (fr' := [(1, .ref 0 0 0), (4, .sl (List.map i64 r35)), (5, .ref 1 0 0), (6, i64 k85), (7, .ref 2 0 0), (8, i64 r110.2)]) (H' := ⟨3, [(0, (2, [G.graph_Graph.av g_0])), (1, (2, [G.graph_Graph.av p84])), (2, (2, [G.graph_Graph.av r110.1]))]⟩) [(0, 0), (1, 1), (2, 2)] [] rfl rfl rfl (.cons rfl rfl (.one (.same _ (by simp)) rfl) (of_decide_eq_true rfl) (.cons rfl rfl (.one (.same _ (by simp)) rfl) (of_decide_eq_true rfl) (.cons rfl rfl (.one (.same _ (by simp)) rfl) (of_decide_eq_true rfl) (trivial)))) ⟨⟨_, rfl, .ref rfl⟩, ⟨.sl (List.map i64 r35), rfl, .same _ (by simp)⟩, ⟨_, rfl, .ref rfl⟩, ⟨_, rfl, .same _ (by simp)⟩, ⟨_, rfl, .ref rfl⟩, ⟨_, rfl, .same _ (by simp)⟩, trivial⟩) ?_)
                clear hK23 K23
                refine awp_seqK fun K24 hK24 => ?_
                refine awp_seqK fun K25 hK25 => ?_
                refine awp_reg rfl ?_
                refine AR.op (r := i64 r110.2) rfl (aop_move (.inl rfl) rfl) ?_
                refine AR.op (r := bl (decide (r110.2 ≠ 0))) rfl (aop_neq rfl rfl rfl) ?_
                refine AR.nil ?_
                refine hK25 _ (AWP.weak (Weak.re (fr' := [(1, .ref 0 0 0), (4, .sl (List.map i64 r35)), (5, .ref 1 0 0), (6, i64 k85), (7, .ref 2 0 0), (43, bl (decide (r110.2 ≠ 0)))]) (H' := ⟨3, [(0, (2, [G.graph_Graph.av g_0])), (1, (2, [G.graph_Graph.av p84])), (2, (2, [G.graph_Graph.av r110.1]))]⟩) [(0, 0), (1, 1), (2, 2)] [] rfl rfl rfl (.cons rfl rfl (.one (.same _ (by simp)) rfl) (of_decide_eq_true rfl) (.cons rfl rfl (.one (.same _ (by simp)) rfl) (of_decide_eq_true rfl) (.cons rfl rfl (.one (.same _ (by simp)) rfl) (of_decide_eq_true rfl) (trivial)))) ⟨⟨_, rfl, .ref rfl⟩, ⟨.sl (List.map i64 r35), rfl, .same _ (by simp)⟩, ⟨_, rfl, .ref rfl⟩, ⟨_, rfl, .same _ (by simp)⟩, ⟨_, rfl, .ref rfl⟩, ⟨_, rfl, .same _ (by simp)⟩, trivial⟩) ?_)
                clear hK25 K25
                refine awp_cond rfl (fun hb111 => ?_) (fun hb111 => ?_)
                · replace h := Sh.if_t h hb111
                  refine awp_seqK fun K26 hK26 => ?_
                  refine awp_reg rfl ?_
                  refine AR.op (r := bl false) rfl (aop_move (.inr rfl) rfl) ?_
                  refine AR.nil ?_
                  refine hK26 _ (AWP.weak (Weak.re (fr' := [(2, bl false)]) (H' := .empty) [] [] rfl rfl rfl (trivial) ⟨⟨_, rfl, .same _ (by simp)⟩, trivial⟩) ?_)
                  clear hK26 K26
                  refine awp_ret ?_
                  replace h := Sh.exit_eq h hx1
                  obtain rfl := Option.some.inj h
                  refine ⟨.inr rfl, bl false, rfl, ?_⟩
                  exact Weak.re [] [] rfl rfl rfl (trivial) ⟨⟨_, rfl, .same _ (by simp)⟩, trivial⟩
                · replace h := Sh.if_f h hb111
                  refine awp_skip ?_
                  refine hK24 _ (AWP.weak (Weak.re (fr' := [(1, .ref 0 0 0), (4, .sl (List.map i64 r35)), (5, .ref 1 0 0), (6, i64 k85), (7, .ref 2 0 0)]) (H' := ⟨3, [(0, (2, [G.graph_Graph.av g_0])), (1, (2, [G.graph_Graph.av p84])), (2, (2, [G.graph_Graph.av r110.1]))]⟩) [(0, 0), (1, 1), (2, 2)] [] rfl rfl rfl (.cons rfl rfl (.one (.same _ (by simp)) rfl) (of_decide_eq_true rfl) (.cons rfl rfl (.one (.same _ (by simp)) rfl) (of_decide_eq_true rfl) (.cons rfl rfl (.one (.same _ (by simp)) rfl) (of_decide_eq_true rfl) (trivial)))) ⟨⟨_, rfl, .ref rfl⟩, ⟨.sl (List.map i64 r35), rfl, .same _ (by simp)⟩, ⟨_, rfl, .ref rfl⟩, ⟨_, rfl, .same _ (by simp)⟩, ⟨_, rfl, .ref rfl⟩, trivial⟩) ?_)
                  clear hK24 K24
                  refine awp_reg rfl ?_
                  refine AR.op (r := G.graph_Graph.av r110.1) rfl (aop_load_ref rfl rfl rfl rfl sz24 rfl) ?_
                  refine AR.op rfl (aop_store (e' := G.graph_Graph.av r110.1) rfl rfl rfl rfl rfl rfl sz24 rfl (of_decide_eq_true rfl) rfl) ?_
                  refine AR.nil ?_
                  refine hK19 _ (AWP.weak (Weak.re (fr' := [(1, .ref 0 0 0), (4, .sl (List.map i64 r35)), (5, .ref 1 0 0), (6, i64 k85)]) (H' := ⟨2, [(0, (2, [G.graph_Graph.av g_0])), (1, (2, [G.graph_Graph.av r110.1]))]⟩) [(0, 0), (1, 1)] [] rfl rfl rfl (.cons rfl rfl (.one (.same _ (by simp)) rfl) (of_decide_eq_true rfl) (.cons rfl rfl (.one (.same _ (by simp)) rfl) (of_decide_eq_true rfl) (trivial))) ⟨⟨_, rfl, .ref rfl⟩, ⟨.sl (List.map i64 r35), rfl, .same _ (by simp)⟩, ⟨_, rfl, .ref rfl⟩, ⟨_, rfl, .same _ (by simp)⟩, trivial⟩) ?_)
                  clear hK19 K19
                  refine awp_reg rfl ?_
                  refine AR.op (r := i64 k85) rfl (aop_move (.inl rfl) rfl) ?_
                  refine AR.op (r := i64 (w64 (k85 + 1))) rfl (aop_add rfl rfl rfl rfl) ?_
                  refine AR.op (r := i64 (w64 (k85 + 1))) rfl (aop_move (.inr rfl) rfl) ?_
                  refine AR.nil ?_
                  replace h := Sh.next_eq h
                  exact ⟨_, h, Weak.re (fr' := [(1, .ref 0 0 0), (4, .sl (List.map i64 r35)), (5, .ref 1 0 0), (6, i64 (w64 (k85 + 1)))]) (H' := ⟨2, [(0, (2, [G.graph_Graph.av g_0])), (1, (2, [G.graph_Graph.av r110.1]))]⟩) [(0, 0), (1, 1)] [] rfl rfl rfl (.cons rfl rfl (.one (.same _ (by simp)) rfl) (of_decide_eq_true rfl) (.cons rfl rfl (.one (.same _ (by simp)) rfl) (of_decide_eq_true rfl) (trivial))) ⟨⟨_, rfl, .ref rfl⟩, ⟨.sl (List.map i64 r35), rfl, .same _ (by simp)⟩, ⟨_, rfl, .ref rfl⟩, ⟨_, rfl, .same _ (by simp)⟩, trivial⟩⟩
            · replace h := Sh.if_f h hb86
              refine awp_exit ?_
              replace h := Sh.exit_eq h hx1
              exact hK15 p84 _ h (Weak.re (fr' := [(4, .sl (List.map i64 r35)), (5, .ref 0 0 0)]) (H' := ⟨1, [(0, (2, [G.graph_Graph.av p84]))]⟩) [(0, 1)] [] rfl rfl rfl (.cons rfl rfl (.one (.same _ (by simp)) rfl) (of_decide_eq_true rfl) (trivial)) ⟨⟨.sl (List.map i64 r35), rfl, .same _ (by simp)⟩, ⟨_, rfl, .ref rfl⟩, trivial⟩)
theorem inquestlaw15_CycleShort_ok {W0 : World} (hT : Tab W0) {g_0 : G.graph_Graph} {r : Bool} (h : G.inquestlaw15_CycleShort g_0 = some r) : Fun1 Tryd.prog W0 5 [G.graph_Graph.av g_0] (bl r) := Fun1.two (inquestlaw15_CycleShort_ok0 hT h) (by simp)

end Wk
