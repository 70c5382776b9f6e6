/- That a statement does what its plain function says. -/
import Derived.Test.YtkiiigfefobdlaaDoorWkCinquestlaw15
open Go Go.Av Go.Proofs
set_option linter.unusedVariables false
namespace Wk
set_option maxHeartbeats 8000000 in
set_option maxRecDepth 20000 in
theorem inquestlaw15_CycleTurns_ok0 {W0 : World} (hT : Tab W0) {g_0 : G.graph_Graph} {l_1 : List Int} {k_2 : Int} {r : Bool} (h : G.inquestlaw15_CycleTurns g_0 l_1 k_2 = some r) : Fun2 Tryd.prog W0 4 [G.graph_Graph.av g_0, .sl (List.map i64 l_1), i64 k_2] (bl r) .empty := by
  refine fun2_of_awp Tryd.func4 rfl (by kernel_rfl) Tryd.ntmps4 (by simp) ?_
  unfold G.inquestlaw15_CycleTurns at h
  show AWP _ _ _ _ ⟨[(0, G.graph_Graph.av g_0), (1, .sl (List.map i64 l_1)), (2, i64 k_2)], .empty⟩ _
  refine awp_seqK fun K1 hK1 => ?_
  refine awp_reg rfl ?_
  refine AR.op (r := .ref 0 0 0) rfl (aop_box 2 [G.graph_Graph.av g_0] rfl rfl rfl (.inl ⟨rfl, rfl⟩)) ?_
  refine AR.op (r := bl false) rfl (aop_move (.inr rfl) rfl) ?_
  refine AR.nil ?_
  refine hK1 _ (AWP.weak (Weak.re (fr' := [(1, .sl (List.map i64 l_1)), (2, i64 k_2), (3, .ref 0 0 0)]) (H' := ⟨1, [(0, (2, [G.graph_Graph.av g_0]))]⟩) [(0, 0)] [] rfl rfl rfl (.cons rfl rfl (.one (.same _ (by simp)) rfl) (of_decide_eq_true rfl) (trivial)) ⟨⟨.sl (List.map i64 l_1), rfl, .same _ (by simp)⟩, ⟨_, rfl, .same _ (by simp)⟩, ⟨_, rfl, .ref rfl⟩, trivial⟩) ?_)
  clear hK1 K1
  refine awp_seqK fun K2 hK2 => ?_
  refine awp_reg rfl ?_
  obtain ⟨r31, hr31, h⟩ := Sh.bind_some' h
  refine AR.op (r := bl r31) rfl (aop_call1 rfl rfl (by simp) (inquestlaw15_awake_ok hT hr31)) ?_
  refine AR.op (r := bl r31) rfl (aop_move (.inr rfl) rfl) ?_
  refine AR.nil ?_
  refine hK2 _ (AWP.weak (Weak.re (fr' := [(1, .sl (List.map i64 l_1)), (2, i64 k_2), (3, .ref 0 0 0), (7, bl r31)]) (H' := ⟨1, [(0, (2, [G.graph_Graph.av g_0]))]⟩) [(0, 0)] [] rfl rfl rfl (.cons rfl rfl (.one (.same _ (by simp)) rfl) (of_decide_eq_true rfl) (trivial)) ⟨⟨.sl (List.map i64 l_1), rfl, .same _ (by simp)⟩, ⟨_, rfl, .same _ (by simp)⟩, ⟨_, rfl, .ref rfl⟩, ⟨_, rfl, .same _ (by simp)⟩, trivial⟩) ?_)
  clear hK2 K2
  refine awp_seqK fun K3 hK3 => ?_
  refine awp_seqK fun K4 hK4 => ?_
  refine awp_reg rfl ?_
  refine AR.op (r := bl r31) rfl (aop_move (.inl rfl) rfl) ?_
  refine AR.op (r := bl (!r31)) rfl (aop_not rfl rfl) ?_
  refine AR.nil ?_
  refine hK4 _ (AWP.weak (Weak.re (fr' := [(1, .sl (List.map i64 l_1)), (2, i64 k_2), (3, .ref 0 0 0), (14, bl (!r31))]) (H' := ⟨1, [(0, (2, [G.graph_Graph.av g_0]))]⟩) [(0, 0)] [] rfl rfl rfl (.cons rfl rfl (.one (.same _ (by simp)) rfl) (of_decide_eq_true rfl) (trivial)) ⟨⟨.sl (List.map i64 l_1), rfl, .same _ (by simp)⟩, ⟨_, rfl, .same _ (by simp)⟩, ⟨_, rfl, .ref rfl⟩, ⟨_, rfl, .same _ (by simp)⟩, trivial⟩) ?_)
  clear hK4 K4
  refine awp_cond rfl (fun hb32 => ?_) (fun hb32 => ?_)
  · replace h := Sh.if_t h hb32
    refine awp_seqK fun K5 hK5 => ?_
    refine awp_reg rfl ?_
    refine AR.op (r := bl false) rfl (aop_move (.inr rfl) rfl) ?_
    refine AR.nil ?_
    refine hK5 _ (AWP.weak (Weak.re (fr' := [(6, bl false)]) (H' := .empty) [] [] rfl rfl rfl (trivial) ⟨⟨_, rfl, .same _ (by simp)⟩, trivial⟩) ?_)
    clear hK5 K5
    refine awp_ret ?_
    obtain rfl := Option.some.inj h
    refine ⟨.inr rfl, bl false, rfl, ?_⟩
    exact Weak.re [] [] rfl rfl rfl (trivial) ⟨⟨_, rfl, .same _ (by simp)⟩, trivial⟩
  · replace h := Sh.if_f h hb32
    refine awp_skip ?_
    refine hK3 _ (AWP.weak (Weak.re (fr' := [(1, .sl (List.map i64 l_1)), (2, i64 k_2), (3, .ref 0 0 0)]) (H' := ⟨1, [(0, (2, [G.graph_Graph.av g_0]))]⟩) [(0, 0)] [] rfl rfl rfl (.cons rfl rfl (.one (.same _ (by simp)) rfl) (of_decide_eq_true rfl) (trivial)) ⟨⟨.sl (List.map i64 l_1), rfl, .same _ (by simp)⟩, ⟨_, rfl, .same _ (by simp)⟩, ⟨_, rfl, .ref rfl⟩, trivial⟩) ?_)
    clear hK3 K3
    refine awp_seqK fun K6 hK6 => ?_
    refine awp_seqJ (fun (p : Bool) => (⟨[(1, .sl (List.map i64 l_1)), (2, i64 k_2), (3, .ref 0 0 0), (33, bl p)], ⟨1, [(0, (2, [G.graph_Graph.av g_0]))]⟩⟩ : St)) (fun (p : Bool) => G.inquestlaw15_CycleTurns_j1 g_0 l_1 k_2 p = some r) ?_ ?_
    · rintro v40 h
      replace h : G.inquestlaw15_CycleTurns_j1 g_0 l_1 k_2 v40 = some r := h
      unfold G.inquestlaw15_CycleTurns_j1 at h
      show AWP _ _ _ _ ⟨[(1, .sl (List.map i64 l_1)), (2, i64 k_2), (3, .ref 0 0 0), (33, bl v40)], ⟨1, [(0, (2, [G.graph_Graph.av g_0]))]⟩⟩ _
      refine awp_cond rfl (fun hb41 => ?_) (fun hb41 => ?_)
      · replace h := Sh.if_t h hb41
        refine awp_seqK fun K7 hK7 => ?_
        refine awp_reg rfl ?_
        refine AR.op (r := bl true) rfl (aop_move (.inr rfl) rfl) ?_
        refine AR.nil ?_
        refine hK7 _ (AWP.weak (Weak.re (fr' := [(6, bl true)]) (H' := .empty) [] [] rfl rfl rfl (trivial) ⟨⟨_, rfl, .same _ (by simp)⟩, trivial⟩) ?_)
        clear hK7 K7
        refine awp_ret ?_
        obtain rfl := Option.some.inj h
        refine ⟨.inr rfl, bl true, rfl, ?_⟩
        exact Weak.re [] [] rfl rfl rfl (trivial) ⟨⟨_, rfl, .same _ (by simp)⟩, trivial⟩
      · replace h := Sh.if_f h hb41
        refine awp_skip ?_
        refine hK6 _ (AWP.weak (Weak.re (fr' := [(1, .sl (List.map i64 l_1)), (2, i64 k_2), (3, .ref 0 0 0)]) (H' := ⟨1, [(0, (2, [G.graph_Graph.av g_0]))]⟩) [(0, 0)] [] rfl rfl rfl (.cons rfl rfl (.one (.same _ (by simp)) rfl) (of_decide_eq_true rfl) (trivial)) ⟨⟨.sl (List.map i64 l_1), rfl, .same _ (by simp)⟩, ⟨_, rfl, .same _ (by simp)⟩, ⟨_, rfl, .ref rfl⟩, trivial⟩) ?_)
        clear hK6 K6
        refine awp_seqK fun K8 hK8 => ?_
        refine awp_reg rfl ?_
        refine AR.op (r := nilS) rfl (aop_move (.inr rfl) rfl) ?_
        refine AR.nil ?_
        refine hK8 _ ?_
        clear hK8 K8
        refine awp_seqK fun K9 hK9 => ?_
        refine awp_reg rfl ?_
        refine AR.op (r := nilS) rfl (aop_move (.inl rfl) rfl) ?_
        refine AR.op (r := .sl (List.map i64 l_1)) rfl (aop_move (.inl rfl) rfl) ?_
        refine AR.op (r := i64 k_2) rfl (aop_move (.inl rfl) rfl) ?_
        refine AR.drop (frx := [(1, _), (2, _), (3, _), (34, _), (35, _), (36, _)]) ⟨rfl, rfl, rfl, rfl, rfl, rfl, trivial⟩ ?_
        obtain ⟨part44, hpart44, h⟩ := Sh.bind_some' h
        refine AR.op (r := .sl (List.map i64 part44)) rfl (t_sub i64 l_1 part44 hpart44 (fun _ => rfl) rfl rfl (.inl rfl) (.inr ⟨_, _, rfl, rfl⟩) (.inl ⟨rfl, rfl⟩) el25) ?_
        obtain ⟨turned45, hturned45, h⟩ := Sh.bind_some' h
        refine AR.op (r := .view 1 0 (List.map i64 turned45).length) rfl (t_app_nil i64 part44 turned45 hturned45 et25 (fun _ => rfl) rfl rfl rfl rfl rfl) ?_
        refine AR.op (r := .view 1 0 (List.map i64 turned45).length) rfl (aop_move (.inr rfl) rfl) ?_
        refine AR.nil ?_
        refine hK9 _ (AWP.weak (Weak.re (fr' := [(1, .sl (List.map i64 l_1)), (2, i64 k_2), (3, .ref 0 0 0), (8, .view 1 0 (List.map i64 turned45).length)]) (H' := ⟨2, [(0, (2, [G.graph_Graph.av g_0])), (1, (1, List.map i64 turned45))]⟩) [(0, 0), (1, 1)] [] rfl rfl rfl (.cons rfl rfl (.one (.same _ (by simp)) rfl) (of_decide_eq_true rfl) (.cons rfl rfl (.same (by simp)) (of_decide_eq_true rfl) (trivial))) ⟨⟨.sl (List.map i64 l_1), rfl, .same _ (by simp)⟩, ⟨_, rfl, .same _ (by simp)⟩, ⟨_, rfl, .ref rfl⟩, ⟨_, rfl, .view rfl⟩, trivial⟩) ?_)
        clear hK9 K9
        refine awp_seqK fun K10 hK10 => ?_
        refine awp_reg rfl ?_
        refine AR.op (r := .view 1 0 (List.map i64 turned45).length) rfl (aop_move (.inl rfl) rfl) ?_
        refine AR.op (r := .sl (List.map i64 l_1)) rfl (aop_move (.inl rfl) rfl) ?_
        refine AR.op (r := i64 k_2) rfl (aop_move (.inl rfl) rfl) ?_
        refine AR.drop (frx := [(1, _), (2, _), (3, _), (39, _), (40, _), (41, _)]) ⟨rfl, rfl, rfl, rfl, rfl, rfl, trivial⟩ ?_
        obtain ⟨part48, hpart48, h⟩ := Sh.bind_some' h
        refine AR.op (r := .sl (List.map i64 part48)) rfl (t_sub i64 l_1 part48 hpart48 (fun _ => rfl) rfl rfl (.inl rfl) (.inl ⟨rfl, rfl⟩) (.inr ⟨_, _, rfl, rfl⟩) el25) ?_
        obtain ⟨turned49, hturned49, h⟩ := Sh.bind_some' h
        refine AR.op (r := .view 2 0 (List.map i64 turned49).length) rfl (t_app_view i64 turned45 part48 turned49 hturned49 rfl et25 (fun _ => rfl) rfl rfl rfl rfl rfl rfl rfl) ?_
        refine AR.op (r := .view 2 0 (List.map i64 turned49).length) rfl (aop_move (.inr rfl) rfl) ?_
        refine AR.nil ?_
        refine hK10 _ (AWP.weak (Weak.re (fr' := [(1, .sl (List.map i64 l_1)), (2, i64 k_2), (3, .ref 0 0 0), (8, .sl (List.map i64 turned49))]) (H' := ⟨1, [(0, (2, [G.graph_Graph.av g_0]))]⟩) [(0, 0)] [] rfl rfl rfl (.cons rfl rfl (.one (.same _ (by simp)) rfl) (of_decide_eq_true rfl) (trivial)) ⟨⟨.sl (List.map i64 l_1), rfl, .same _ (by simp)⟩, ⟨_, rfl, .same _ (by simp)⟩, ⟨_, rfl, .ref rfl⟩, ⟨_, rfl, .lendAll rfl rfl (by simp)⟩, trivial⟩) ?_)
        clear hK10 K10
        refine awp_seqK fun K11 hK11 => ?_
        refine awp_reg rfl ?_
        refine AR.op (r := G.graph_Graph.av g_0) rfl (aop_load_ref rfl rfl rfl rfl sz24 rfl) ?_
        refine AR.op (r := .sl (List.map i64 l_1)) rfl (aop_move (.inl rfl) rfl) ?_
        obtain ⟨r51, hr51, h⟩ := Sh.bind_some' h
        refine AR.op (r := bl r51) rfl (aop_call1 rfl rfl (by simp) (cycle_Is_ok hT hr51)) ?_
        refine AR.drop (frx := [(1, _), (2, _), (3, _), (8, _), (46, _)]) ⟨rfl, rfl, rfl, rfl, rfl, trivial⟩ ?_
        refine AR.op (r := bl r51) rfl (aop_move (.inr rfl) rfl) ?_
        refine AR.nil ?_
        refine hK11 _ (AWP.weak (Weak.re (fr' := [(1, .sl (List.map i64 l_1)), (2, i64 k_2), (3, .ref 0 0 0), (8, .sl (List.map i64 turned49)), (9, bl r51)]) (H' := ⟨1, [(0, (2, [G.graph_Graph.av g_0]))]⟩) [(0, 0)] [] rfl rfl rfl (.cons rfl rfl (.one (.same _ (by simp)) rfl) (of_decide_eq_true rfl) (trivial)) ⟨⟨.sl (List.map i64 l_1), rfl, .same _ (by simp)⟩, ⟨_, rfl, .same _ (by simp)⟩, ⟨_, rfl, .ref rfl⟩, ⟨.sl (List.map i64 turned49), rfl, .same _ (by simp)⟩, ⟨_, rfl, .same _ (by simp)⟩, trivial⟩) ?_)
        clear hK11 K11
        refine awp_seqK fun K12 hK12 => ?_
        refine awp_seqK fun K13 hK13 => ?_
        refine awp_reg rfl ?_
        refine AR.op (r := G.graph_Graph.av g_0) rfl (aop_load_ref rfl rfl rfl rfl sz24 rfl) ?_
        refine AR.op (r := .sl (List.map i64 turned49)) rfl (aop_move (.inl rfl) rfl) ?_
        obtain ⟨r54, hr54, h⟩ := Sh.bind_some' h
        refine AR.op (r := bl r54) rfl (aop_call1 rfl rfl (by simp) (cycle_Is_ok hT hr54)) ?_
        refine AR.drop (frx := [(1, _), (2, _), (3, _), (9, _), (49, _)]) ⟨rfl, rfl, rfl, rfl, rfl, trivial⟩ ?_
        refine AR.op (r := bl r51) rfl (aop_move (.inl rfl) rfl) ?_
        refine AR.op (r := bl (!(r54 == r51))) rfl (aop_neb rfl rfl rfl Tryd.underlying4) ?_
        refine AR.nil ?_
        refine hK13 _ (AWP.weak (Weak.re (fr' := [(1, .sl (List.map i64 l_1)), (2, i64 k_2), (3, .ref 0 0 0), (9, bl r51), (51, bl (!(r54 == r51)))]) (H' := ⟨1, [(0, (2, [G.graph_Graph.av g_0]))]⟩) [(0, 0)] [] rfl rfl rfl (.cons rfl rfl (.one (.same _ (by simp)) rfl) (of_decide_eq_true rfl) (trivial)) ⟨⟨.sl (List.map i64 l_1), rfl, .same _ (by simp)⟩, ⟨_, rfl, .same _ (by simp)⟩, ⟨_, rfl, .ref rfl⟩, ⟨_, rfl, .same _ (by simp)⟩, ⟨_, rfl, .same _ (by simp)⟩, trivial⟩) ?_)
        clear hK13 K13
        refine awp_cond rfl (fun hb55 => ?_) (fun hb55 => ?_)
        · replace h := Sh.if_t h hb55
          refine awp_seqK fun K14 hK14 => ?_
          refine awp_reg rfl ?_
          refine AR.op (r := bl false) rfl (aop_move (.inr rfl) rfl) ?_
          refine AR.nil ?_
          refine hK14 _ (AWP.weak (Weak.re (fr' := [(6, bl false)]) (H' := .empty) [] [] rfl rfl rfl (trivial) ⟨⟨_, rfl, .same _ (by simp)⟩, trivial⟩) ?_)
          clear hK14 K14
          refine awp_ret ?_
          obtain rfl := Option.some.inj h
          refine ⟨.inr rfl, bl false, rfl, ?_⟩
          exact Weak.re [] [] rfl rfl rfl (trivial) ⟨⟨_, rfl, .same _ (by simp)⟩, trivial⟩
        · replace h := Sh.if_f h hb55
          refine awp_skip ?_
          refine hK12 _ (AWP.weak (Weak.re (fr' := [(1, .sl (List.map i64 l_1)), (2, i64 k_2), (3, .ref 0 0 0), (9, bl r51)]) (H' := ⟨1, [(0, (2, [G.graph_Graph.av g_0]))]⟩) [(0, 0)] [] rfl rfl rfl (.cons rfl rfl (.one (.same _ (by simp)) rfl) (of_decide_eq_true rfl) (trivial)) ⟨⟨.sl (List.map i64 l_1), rfl, .same _ (by simp)⟩, ⟨_, rfl, .same _ (by simp)⟩, ⟨_, rfl, .ref rfl⟩, ⟨_, rfl, .same _ (by simp)⟩, trivial⟩) ?_)
          clear hK12 K12
          refine awp_seqK fun K15 hK15 => ?_
          refine awp_seqK fun K16 hK16 => ?_
          refine awp_reg rfl ?_
          refine AR.op (r := bl r51) rfl (aop_move (.inl rfl) rfl) ?_
          refine AR.op (r := bl (!r51)) rfl (aop_not rfl rfl) ?_
          refine AR.nil ?_
          refine hK16 _ (AWP.weak (Weak.re (fr' := [(1, .sl (List.map i64 l_1)), (2, i64 k_2), (3, .ref 0 0 0), (53, bl (!r51))]) (H' := ⟨1, [(0, (2, [G.graph_Graph.av g_0]))]⟩) [(0, 0)] [] rfl rfl rfl (.cons rfl rfl (.one (.same _ (by simp)) rfl) (of_decide_eq_true rfl) (trivial)) ⟨⟨.sl (List.map i64 l_1), rfl, .same _ (by simp)⟩, ⟨_, rfl, .same _ (by simp)⟩, ⟨_, rfl, .ref rfl⟩, ⟨_, rfl, .same _ (by simp)⟩, trivial⟩) ?_)
          clear hK16 K16
          refine awp_cond rfl (fun hb56 => ?_) (fun hb56 => ?_)
          · replace h := Sh.if_t h hb56
            refine awp_seqK fun K17 hK17 => ?_
            refine awp_reg rfl ?_
            refine AR.op (r := bl true) rfl (aop_move (.inr rfl) rfl) ?_
            refine AR.nil ?_
            refine hK17 _ (AWP.weak (Weak.re (fr' := [(6, bl true)]) (H' := .empty) [] [] rfl rfl rfl (trivial) ⟨⟨_, rfl, .same _ (by simp)⟩, trivial⟩) ?_)
            clear hK17 K17
            refine awp_ret ?_
            obtain rfl := Option.some.inj h
            refine ⟨.inr rfl, bl true, rfl, ?_⟩
            exact Weak.re [] [] rfl rfl rfl (trivial) ⟨⟨_, rfl, .same _ (by simp)⟩, trivial⟩
          · replace h := Sh.if_f h hb56
            refine awp_skip ?_
            refine hK15 _ (AWP.weak (Weak.re (fr' := [(1, .sl (List.map i64 l_1)), (2, i64 k_2), (3, .ref 0 0 0)]) (H' := ⟨1, [(0, (2, [G.graph_Graph.av g_0]))]⟩) [(0, 0)] [] rfl rfl rfl (.cons rfl rfl (.one (.same _ (by simp)) rfl) (of_decide_eq_true rfl) (trivial)) ⟨⟨.sl (List.map i64 l_1), rfl, .same _ (by simp)⟩, ⟨_, rfl, .same _ (by simp)⟩, ⟨_, rfl, .ref rfl⟩, trivial⟩) ?_)
            clear hK15 K15
            refine awp_seqK fun K18 hK18 => ?_
            refine awp_seqJ (fun (p : Bool) => (⟨[(1, .sl (List.map i64 l_1)), (2, i64 k_2), (3, .ref 0 0 0), (68, bl p)], ⟨1, [(0, (2, [G.graph_Graph.av g_0]))]⟩⟩ : St)) (fun (p : Bool) => G.inquestlaw15_CycleTurns_j2 g_0 l_1 k_2 p = some r) ?_ ?_
            · rintro v68 h
              replace h : G.inquestlaw15_CycleTurns_j2 g_0 l_1 k_2 v68 = some r := h
              unfold G.inquestlaw15_CycleTurns_j2 at h
              show AWP _ _ _ _ ⟨[(1, .sl (List.map i64 l_1)), (2, i64 k_2), (3, .ref 0 0 0), (68, bl v68)], ⟨1, [(0, (2, [G.graph_Graph.av g_0]))]⟩⟩ _
              refine awp_cond rfl (fun hb69 => ?_) (fun hb69 => ?_)
              · replace h := Sh.if_t h hb69
                refine awp_seqK fun K19 hK19 => ?_
                refine awp_reg rfl ?_
                refine AR.op (r := bl false) rfl (aop_move (.inr rfl) rfl) ?_
                refine AR.nil ?_
                refine hK19 _ (AWP.weak (Weak.re (fr' := [(6, bl false)]) (H' := .empty) [] [] rfl rfl rfl (trivial) ⟨⟨_, rfl, .same _ (by simp)⟩, trivial⟩) ?_)
                clear hK19 K19
                refine awp_ret ?_
                obtain rfl := Option.some.inj h
                refine ⟨.inr rfl, bl false, rfl, ?_⟩
                exact Weak.re [] [] rfl rfl rfl (trivial) ⟨⟨_, rfl, .same _ (by simp)⟩, trivial⟩
              · replace h := Sh.if_f h hb69
                refine awp_skip ?_
                refine hK18 _ (AWP.weak (Weak.re (fr' := [(1, .sl (List.map i64 l_1)), (2, i64 k_2), (3, .ref 0 0 0)]) (H' := ⟨1, [(0, (2, [G.graph_Graph.av g_0]))]⟩) [(0, 0)] [] rfl rfl rfl (.cons rfl rfl (.one (.same _ (by simp)) rfl) (of_decide_eq_true rfl) (trivial)) ⟨⟨.sl (List.map i64 l_1), rfl, .same _ (by simp)⟩, ⟨_, rfl, .same _ (by simp)⟩, ⟨_, rfl, .ref rfl⟩, trivial⟩) ?_)
                clear hK18 K18
                refine awp_seqK fun K20 hK20 => ?_
                refine awp_reg rfl ?_
                refine AR.op (r := .ref 1 0 0) rfl (aop_alloc 2 [.agg [i64 0, nilS]] rfl zr24 (by kernel_rfl) (.inl ⟨rfl, rfl⟩)) ?_
                refine AR.nil ?_
                refine hK20 _ ?_
                clear hK20 K20
                refine awp_seqK fun K21 hK21 => ?_
                refine awp_reg rfl ?_
                refine AR.op rfl (aop_field_ref rfl rfl rfl fd24_0 (by decide)) ?_
                refine AR.op (r := i64 g_0.N) rfl (aop_load_ref rfl rfl rfl rfl sz3 rfl) ?_
                refine AR.op rfl (aop_field_ref rfl rfl rfl fd24_0 (by decide)) ?_
                refine AR.drop (frx := [(1, _), (2, _), (3, _), (10, _), (70, _), (71, _)]) ⟨rfl, rfl, rfl, rfl, rfl, rfl, trivial⟩ ?_
                refine AR.op rfl (aop_store (e' := .agg [i64 g_0.N, nilS]) rfl rfl rfl rfl rfl rfl sz3 rfl (of_decide_eq_true rfl) rfl) ?_
                refine AR.nil ?_
                refine hK21 _ (AWP.weak (Weak.re (fr' := [(1, .sl (List.map i64 l_1)), (2, i64 k_2), (3, .ref 0 0 0), (10, .ref 1 0 0)]) (H' := ⟨2, [(0, (2, [G.graph_Graph.av g_0])), (1, (2, [.agg [i64 g_0.N, nilS]]))]⟩) [(0, 0), (1, 1)] [] rfl rfl rfl (.cons rfl rfl (.one (.same _ (by simp)) rfl) (of_decide_eq_true rfl) (.cons rfl rfl (.one (.same _ (by simp)) rfl) (of_decide_eq_true rfl) (trivial))) ⟨⟨.sl (List.map i64 l_1), rfl, .same _ (by simp)⟩, ⟨_, rfl, .same _ (by simp)⟩, ⟨_, rfl, .ref rfl⟩, ⟨_, rfl, .ref rfl⟩, trivial⟩) ?_)
                clear hK21 K21
                refine awp_seqK fun K22 hK22 => ?_
                refine awp_reg rfl ?_
                refine AR.op rfl (aop_field_ref rfl rfl rfl fd24_1 (by decide)) ?_
                refine AR.op (r := nilS) rfl (aop_load_ref rfl rfl rfl rfl sz22 rfl) ?_
                refine AR.op rfl (aop_field_ref rfl rfl rfl fd24_1 (by decide)) ?_
                refine AR.drop (frx := [(1, _), (2, _), (3, _), (10, _), (73, _), (74, _)]) ⟨rfl, rfl, rfl, rfl, rfl, rfl, trivial⟩ ?_
                refine AR.op (r := .sl (List.map u64 g_0.Rows)) rfl (aop_load_ref rfl rfl rfl rfl sz22 rfl) ?_
                obtain ⟨l71, hl71, h⟩ := Sh.bind_some' h
                refine AR.op (r := .view 2 0 (List.map u64 l71).length) rfl (t_app_nil u64 g_0.Rows l71 hl71 et22 (fun _ => rfl) rfl rfl rfl rfl rfl) ?_
                refine AR.op rfl (aop_field_ref rfl rfl rfl fd24_1 (by decide)) ?_
                refine AR.drop (frx := [(1, _), (2, _), (3, _), (10, _), (76, _), (77, _)]) ⟨rfl, rfl, rfl, rfl, rfl, rfl, trivial⟩ ?_
                refine AR.op rfl (aop_store (e' := .agg [i64 g_0.N, .view 2 0 (List.map u64 l71).length]) rfl rfl rfl rfl rfl rfl sz22 rfl (of_decide_eq_true rfl) rfl) ?_
                refine AR.nil ?_
                refine hK22 _ (AWP.weak (Weak.re (fr' := [(1, .sl (List.map i64 l_1)), (2, i64 k_2), (3, .ref 0 0 0), (10, .ref 1 0 0)]) (H' := ⟨3, [(0, (2, [G.graph_Graph.av g_0])), (1, (2, [.agg [i64 g_0.N, .view 2 0 (List.map u64 l71).length]])), (2, (1, List.map u64 l71))]⟩) [(0, 0), (1, 1), (2, 2)] [] rfl rfl rfl (.cons rfl rfl (.one (.same _ (by simp)) rfl) (of_decide_eq_true rfl) (.cons rfl rfl (.one (.ag ⟨.same _ (by simp), .view rfl, trivial⟩) rfl) (of_decide_eq_true rfl) (.cons rfl rfl (.same (by simp)) (of_decide_eq_true rfl) (trivial)))) ⟨⟨.sl (List.map i64 l_1), rfl, .same _ (by simp)⟩, ⟨_, rfl, .same _ (by simp)⟩, ⟨_, rfl, .ref rfl⟩, ⟨_, rfl, .ref rfl⟩, trivial⟩) ?_)
                clear hK22 K22
                refine awp_seqK fun K23 hK23 => ?_
                refine awp_any (by kernel_rfl) (by kernel_rfl) rfl ?_
                refine ARH.op rfl rfl (aop_field_ref rfl rfl rfl fd24_1 (by decide)) ?_
                refine ARH.op (r := .view 2 0 (List.map u64 l71).length) rfl rfl (aop_load_ref rfl rfl rfl rfl sz22 rfl) ?_
                refine ARH.dry (r := .sl (List.map i64 l_1)) rfl (fun _ => aop_move (.inl rfl) rfl) ?_
                refine ARH.drop (frx := [(1, _), (2, _), (3, _), (10, _), (79, _), (80, _)]) ⟨rfl, rfl, rfl, rfl, rfl, rfl, trivial⟩ ?_
                refine ARH.dry (r := i64 k_2) rfl (fun _ => aop_move (.inl rfl) rfl) ?_
                obtain ⟨x76, hx76, h⟩ := Sh.bind_some' h
                obtain ⟨k77, hi77, hl77⟩ := Sh.idx_some hx76
                refine ARH.op rfl rfl (t_index_sl i64 l_1 hi77 hl77 rfl rfl rfl el25 rfl) ?_
                refine ARH.op (r := i64 x76) rfl rfl (aop_load_pp rfl rfl sz3 rfl) ?_
                refine ARH.drop (frx := [(1, _), (3, _), (10, _), (79, _), (83, _)]) ⟨rfl, rfl, rfl, rfl, rfl, trivial⟩ ?_
                obtain ⟨x78, hx78, h⟩ := Sh.bind_some' h
                obtain ⟨k79, hi79, hl79⟩ := Sh.idx_some hx78
                refine ARH.op (r := .ref 2 k79 0) rfl rfl (t_index_view u64 l71 hi79 hl79 rfl rfl rfl rfl rfl el22 rfl) ?_
                refine ARH.loud rfl rfl rfl (t_store_el u64 l71 0#64 hi79 hl79 rfl rfl rfl rfl rfl sz35 rfl (of_decide_eq_true rfl) rfl) ?_
                refine ARH.nil ?_
                refine hK23 _ (AWP.weak (Weak.re (fr' := [(1, .sl (List.map i64 l_1)), (3, .ref 0 0 0), (10, .ref 1 0 0)]) (H' := ⟨2, [(0, (2, [G.graph_Graph.av g_0])), (1, (2, [.agg [i64 g_0.N, .sl (List.map u64 (Sh.set l71 x76 0#64))]]))]⟩) [(0, 0), (1, 1)] [] rfl rfl rfl (.cons rfl rfl (.one (.same _ (by simp)) rfl) (of_decide_eq_true rfl) (.cons rfl rfl (.one (.ag ⟨.same _ (by simp), .lendL rfl rfl (by simp []) (by simp), trivial⟩) rfl) (of_decide_eq_true rfl) (trivial))) ⟨⟨.sl (List.map i64 l_1), rfl, .same _ (by simp)⟩, ⟨_, rfl, .ref rfl⟩, ⟨_, rfl, .ref rfl⟩, trivial⟩) ?_)
                clear hK23 K23
                refine awp_seqK fun K24 hK24 => ?_
                refine awp_reg rfl ?_
                refine AR.op (r := nilS) rfl (aop_move (.inr rfl) rfl) ?_
                refine AR.nil ?_
                refine hK24 _ ?_
                clear hK24 K24
                refine awp_seqK fun K25 hK25 => ?_
                refine awp_reg rfl ?_
                refine AR.op (r := nilS) rfl (aop_move (.inl rfl) rfl) ?_
                refine AR.op (r := .sl (List.map i64 l_1)) rfl (aop_move (.inl rfl) rfl) ?_
                obtain ⟨twice81, htwice81, h⟩ := Sh.bind_some' h
                refine AR.op (r := .view 2 0 (List.map i64 twice81).length) rfl (t_app_nil i64 l_1 twice81 htwice81 et25 (fun _ => rfl) rfl rfl rfl rfl rfl) ?_
                refine AR.drop (frx := [(1, _), (3, _), (10, _), (87, _)]) ⟨rfl, rfl, rfl, rfl, trivial⟩ ?_
                refine AR.op (r := .view 2 0 (List.map i64 twice81).length) rfl (aop_move (.inr rfl) rfl) ?_
                refine AR.nil ?_
                refine hK25 _ (AWP.weak (Weak.re (fr' := [(1, .sl (List.map i64 l_1)), (3, .ref 0 0 0), (10, .ref 1 0 0), (11, .view 2 0 (List.map i64 twice81).length)]) (H' := ⟨3, [(0, (2, [G.graph_Graph.av g_0])), (1, (2, [.agg [i64 g_0.N, .sl (List.map u64 (Sh.set l71 x76 0#64))]])), (2, (1, List.map i64 twice81))]⟩) [(0, 0), (1, 1), (2, 2)] [] rfl rfl rfl (.cons rfl rfl (.one (.same _ (by simp)) rfl) (of_decide_eq_true rfl) (.cons rfl rfl (.one (.same _ (by simp)) rfl) (of_decide_eq_true rfl) (.cons rfl rfl (.same (by simp)) (of_decide_eq_true rfl) (trivial)))) ⟨⟨.sl (List.map i64 l_1), rfl, .same _ (by simp)⟩, ⟨_, rfl, .ref rfl⟩, ⟨_, rfl, .ref rfl⟩, ⟨_, rfl, .view rfl⟩, trivial⟩) ?_)
                clear hK25 K25
                refine awp_seqK fun K26 hK26 => ?_
                refine awp_reg rfl ?_
                refine AR.op (r := .view 2 0 (List.map i64 twice81).length) rfl (aop_move (.inl rfl) rfl) ?_
                refine AR.op (r := .sl (List.map i64 l_1)) rfl (aop_move (.inl rfl) rfl) ?_
                obtain ⟨twice83, htwice83, h⟩ := Sh.bind_some' h
                refine AR.op (r := .view 3 0 (List.map i64 twice83).length) rfl (t_app_view i64 twice81 l_1 twice83 htwice83 rfl et25 (fun _ => rfl) rfl rfl rfl rfl rfl rfl rfl) ?_
                refine AR.drop (frx := [(1, _), (3, _), (10, _), (90, _)]) ⟨rfl, rfl, rfl, rfl, trivial⟩ ?_
                refine AR.op (r := .view 3 0 (List.map i64 twice83).length) rfl (aop_move (.inr rfl) rfl) ?_
                refine AR.nil ?_
                refine hK26 _ (AWP.weak (Weak.re (fr' := [(1, .sl (List.map i64 l_1)), (3, .ref 0 0 0), (10, .ref 1 0 0), (11, .sl (List.map i64 twice83))]) (H' := ⟨2, [(0, (2, [G.graph_Graph.av g_0])), (1, (2, [.agg [i64 g_0.N, .sl (List.map u64 (Sh.set l71 x76 0#64))]]))]⟩) [(0, 0), (1, 1)] [] rfl rfl rfl (.cons rfl rfl (.one (.same _ (by simp)) rfl) (of_decide_eq_true rfl) (.cons rfl rfl (.one (.same _ (by simp)) rfl) (of_decide_eq_true rfl) (trivial))) ⟨⟨.sl (List.map i64 l_1), rfl, .same _ (by simp)⟩, ⟨_, rfl, .ref rfl⟩, ⟨_, rfl, .ref rfl⟩, ⟨_, rfl, .lendAll rfl rfl (by simp)⟩, trivial⟩) ?_)
                clear hK26 K26
                refine awp_seqK fun K27 hK27 => ?_
                refine awp_reg rfl ?_
                refine AR.op (r := .agg [i64 g_0.N, .sl (List.map u64 (Sh.set l71 x76 0#64))]) rfl (aop_load_ref rfl rfl rfl rfl sz24 rfl) ?_
                refine AR.op (r := .sl (List.map i64 l_1)) rfl (aop_move (.inl rfl) rfl) ?_
                obtain ⟨r88, hr88, h⟩ := Sh.bind_some' h
                refine AR.op (r := bl r88) rfl (aop_callN rfl (ys := [.agg [i64 g_0.N, .sl (List.map u64 (Sh.set l71 x76 0#64))], .sl (List.map i64 l_1)]) (xs := [G.graph_Graph.av (G.graph_Graph.mk g_0.N (Sh.set l71 x76 0#64)), .sl (List.map i64 l_1)]) rfl (Weak.re (fr' := argsFr 0 [G.graph_Graph.av (G.graph_Graph.mk g_0.N (Sh.set l71 x76 0#64)), .sl (List.map i64 l_1)]) (H' := .empty) [] [] rfl rfl rfl trivial ⟨⟨.agg [i64 g_0.N, .sl (List.map u64 (Sh.set l71 x76 0#64))], rfl, .same _ (by simp)⟩, ⟨.sl (List.map i64 l_1), rfl, .same _ (by simp)⟩, trivial⟩) rfl (by simp) (cycle_Is_ok hT hr88)) ?_
                refine AR.drop (frx := [(1, _), (3, _), (11, _), (93, _)]) ⟨rfl, rfl, rfl, rfl, trivial⟩ ?_
                refine AR.op (r := bl (!r88)) rfl (aop_not rfl rfl) ?_
                refine AR.op (r := bl (!r88)) rfl (aop_move (.inl rfl) rfl) ?_
                rcases Bool.eq_false_or_eq_true (!r88) with hb89 | hb89
                · rw [hb89]
                  replace h := Sh.if_t h hb89
                  refine AR.op (r := G.graph_Graph.av g_0) rfl (aop_load_ref rfl rfl rfl rfl sz24 rfl) ?_
                  refine AR.drop (frx := [(1, _), (3, _), (11, _), (95, _), (96, _)]) ⟨rfl, rfl, rfl, rfl, rfl, trivial⟩ ?_
                  refine AR.op (r := .sl (List.map i64 twice83)) rfl (aop_move (.inl rfl) rfl) ?_
                  obtain ⟨r90, hr90, h⟩ := Sh.bind_some' h
                  refine AR.op (r := bl r90) rfl (aop_call1 rfl rfl (by simp) (cycle_Is_ok hT hr90)) ?_
                  refine AR.op (r := bl (!r90)) rfl (aop_not rfl rfl) ?_
                  refine AR.drop (frx := [(1, _), (3, _), (95, _), (99, _)]) ⟨rfl, rfl, rfl, rfl, trivial⟩ ?_
                  refine AR.op (r := bl (!r90)) rfl (aop_pick rfl rfl rfl) ?_
                  refine AR.op (r := bl (!r90)) rfl (aop_move (.inl rfl) rfl) ?_
                  rcases Bool.eq_false_or_eq_true (!r90) with hb91 | hb91
                  · rw [hb91]
                    replace h := Sh.if_t h hb91
                    refine AR.op (r := .sl (List.map i64 l_1)) rfl (aop_move (.inl rfl) rfl) ?_
                    refine AR.drop (frx := [(3, _), (101, _), (102, _)]) ⟨rfl, rfl, rfl, trivial⟩ ?_
                    refine AR.op (r := i64 (Sh.len l_1)) rfl (t_len_sl i64 l_1 rfl rfl el25) ?_
                    refine AR.op rfl (aop_field_ref rfl rfl rfl fd24_0 (by decide)) ?_
                    refine AR.op (r := i64 g_0.N) rfl (aop_load_ref rfl rfl rfl rfl sz3 rfl) ?_
                    refine AR.drop (frx := [(101, _), (103, _), (105, _)]) ⟨rfl, rfl, rfl, trivial⟩ ?_
                    refine AR.op (r := bl (decide ((Sh.len l_1) ≤ g_0.N))) rfl (aop_leq rfl rfl rfl) ?_
                    refine AR.op (r := bl (decide ((Sh.len l_1) ≤ g_0.N))) rfl (aop_pick rfl rfl rfl) ?_
                    refine AR.op (r := bl (decide ((Sh.len l_1) ≤ g_0.N))) rfl (aop_move (.inr rfl) rfl) ?_
                    refine AR.nil ?_
                    refine hK27 _ (AWP.weak (Weak.re (fr' := [(6, bl (decide ((Sh.len l_1) ≤ g_0.N)))]) (H' := .empty) [] [] rfl rfl rfl (trivial) ⟨⟨_, rfl, .same _ (by simp)⟩, trivial⟩) ?_)
                    clear hK27 K27
                    refine awp_ret ?_
                    obtain rfl := Option.some.inj h
                    refine ⟨.inr rfl, bl (decide ((Sh.len l_1) ≤ g_0.N)), rfl, ?_⟩
                    exact Weak.re [] [] rfl rfl rfl (trivial) ⟨⟨_, rfl, .same _ (by simp)⟩, trivial⟩
                  · rw [hb91]
                    replace h := Sh.if_f h hb91
                    refine AR.skip rfl ?_
                    refine AR.drop (frx := [(3, _), (101, _), (102, _)]) ⟨rfl, rfl, rfl, trivial⟩ ?_
                    refine AR.skip rfl ?_
                    refine AR.skip rfl ?_
                    refine AR.skip rfl ?_
                    refine AR.drop (frx := [(101, _), (103, _), (105, _)]) ⟨rfl, rfl, rfl, trivial⟩ ?_
                    refine AR.skip rfl ?_
                    refine AR.op (r := bl false) rfl (aop_pick rfl rfl rfl) ?_
                    refine AR.op (r := bl false) rfl (aop_move (.inr rfl) rfl) ?_
                    refine AR.nil ?_
                    refine hK27 _ (AWP.weak (Weak.re (fr' := [(6, bl false)]) (H' := .empty) [] [] rfl rfl rfl (trivial) ⟨⟨_, rfl, .same _ (by simp)⟩, trivial⟩) ?_)
                    clear hK27 K27
                    refine awp_ret ?_
                    obtain rfl := Option.some.inj h
                    refine ⟨.inr rfl, bl false, rfl, ?_⟩
                    exact Weak.re [] [] rfl rfl rfl (trivial) ⟨⟨_, rfl, .same _ (by simp)⟩, trivial⟩
                · rw [hb89]
                  replace h := Sh.if_f h hb89
                  refine AR.skip rfl ?_
                  refine AR.drop (frx := [(1, _), (3, _), (11, _), (95, _), (96, _)]) ⟨rfl, rfl, rfl, rfl, rfl, trivial⟩ ?_
                  refine AR.skip rfl ?_
                  refine AR.skip rfl ?_
                  refine AR.skip rfl ?_
                  refine AR.drop (frx := [(1, _), (3, _), (95, _), (99, _)]) ⟨rfl, rfl, rfl, rfl, trivial⟩ ?_
                  refine AR.op (r := bl false) rfl (aop_pick rfl rfl rfl) ?_
                  refine AR.op (r := bl false) rfl (aop_move (.inl rfl) rfl) ?_
                  refine AR.skip rfl ?_
                  refine AR.drop (frx := [(3, _), (101, _), (102, _)]) ⟨rfl, rfl, rfl, trivial⟩ ?_
                  refine AR.skip rfl ?_
                  refine AR.skip rfl ?_
                  refine AR.skip rfl ?_
                  refine AR.drop (frx := [(101, _), (103, _), (105, _)]) ⟨rfl, rfl, rfl, trivial⟩ ?_
                  refine AR.skip rfl ?_
                  refine AR.op (r := bl false) rfl (aop_pick rfl rfl rfl) ?_
                  refine AR.op (r := bl false) rfl (aop_move (.inr rfl) rfl) ?_
                  refine AR.nil ?_
                  refine hK27 _ (AWP.weak (Weak.re (fr' := [(6, bl false)]) (H' := .empty) [] [] rfl rfl rfl (trivial) ⟨⟨_, rfl, .same _ (by simp)⟩, trivial⟩) ?_)
                  clear hK27 K27
                  refine awp_ret ?_
                  obtain rfl := Option.some.inj h
                  refine ⟨.inr rfl, bl false, rfl, ?_⟩
                  exact Weak.re [] [] rfl rfl rfl (trivial) ⟨⟨_, rfl, .same _ (by simp)⟩, trivial⟩
            · intro K28 hK28
              refine awp_any (by kernel_rfl) (by kernel_rfl) rfl ?_
              refine ARH.dry (r := .sl (List.map i64 l_1)) rfl (fun _ => aop_move (.inl rfl) rfl) ?_
              refine ARH.dry (r := i64 k_2) rfl (fun _ => aop_move (.inl rfl) rfl) ?_
              obtain ⟨x92, hx92, h⟩ := Sh.bind_some' h
              obtain ⟨k93, hi93, hl93⟩ := Sh.idx_some hx92
              refine ARH.op rfl rfl (t_index_sl i64 l_1 hi93 hl93 rfl rfl rfl el25 rfl) ?_
              refine ARH.drop (frx := [(1, _), (2, _), (3, _), (56, _)]) ⟨rfl, rfl, rfl, rfl, trivial⟩ ?_
              refine ARH.op (r := i64 x92) rfl rfl (aop_load_pp rfl rfl sz3 rfl) ?_
              refine ARH.dry (r := bl (decide (x92 < 0))) rfl (fun _ => aop_lss rfl rfl rfl) ?_
              refine ARH.dry (r := bl (decide (x92 < 0))) rfl (fun _ => aop_move (.inl rfl) rfl) ?_
              refine ARH.drop (frx := [(1, _), (2, _), (3, _), (59, _)]) ⟨rfl, rfl, rfl, rfl, trivial⟩ ?_
              rcases Bool.eq_false_or_eq_true (decide (x92 < 0)) with hb94 | hb94
              · rw [hb94]
                replace h := Sh.if_t h hb94
                refine ARH.skip rfl ?_
                refine ARH.skip rfl ?_
                refine ARH.skip rfl ?_
                refine ARH.drop (frx := [(1, _), (2, _), (3, _), (59, _), (62, _)]) ⟨rfl, rfl, rfl, rfl, rfl, trivial⟩ ?_
                refine ARH.skip rfl ?_
                refine ARH.skip rfl ?_
                refine ARH.skip rfl ?_
                refine ARH.drop (frx := [(1, _), (2, _), (3, _), (59, _), (63, _), (65, _)]) ⟨rfl, rfl, rfl, rfl, rfl, rfl, trivial⟩ ?_
                refine ARH.skip rfl ?_
                refine ARH.skip rfl ?_
                refine ARH.dry (r := bl true) rfl (fun _ => aop_pick rfl rfl rfl) ?_
                refine ARH.nil ?_
                exact hK28 true _ h (Weak.re (fr' := [(1, .sl (List.map i64 l_1)), (2, i64 k_2), (3, .ref 0 0 0), (68, bl true)]) (H' := ⟨1, [(0, (2, [G.graph_Graph.av g_0]))]⟩) [(0, 0)] [] rfl rfl rfl (.cons rfl rfl (.one (.same _ (by simp)) rfl) (of_decide_eq_true rfl) (trivial)) ⟨⟨.sl (List.map i64 l_1), rfl, .same _ (by simp)⟩, ⟨_, rfl, .same _ (by simp)⟩, ⟨_, rfl, .ref rfl⟩, ⟨_, rfl, .same _ (by simp)⟩, trivial⟩)
              · rw [hb94]
                replace h := Sh.if_f h hb94
                refine ARH.dry (r := .sl (List.map i64 l_1)) rfl (fun _ => aop_move (.inl rfl) rfl) ?_
                refine ARH.dry (r := i64 k_2) rfl (fun _ => aop_move (.inl rfl) rfl) ?_
                obtain ⟨x95, hx95, h⟩ := Sh.bind_some' h
                obtain ⟨k96, hi96, hl96⟩ := Sh.idx_some hx95
                refine ARH.op rfl rfl (t_index_sl i64 l_1 hi96 hl96 rfl rfl rfl el25 rfl) ?_
                refine ARH.drop (frx := [(1, _), (2, _), (3, _), (59, _), (62, _)]) ⟨rfl, rfl, rfl, rfl, rfl, trivial⟩ ?_
                refine ARH.op (r := i64 x95) rfl rfl (aop_load_pp rfl rfl sz3 rfl) ?_
                refine ARH.op rfl rfl (aop_field_ref rfl rfl rfl fd24_1 (by decide)) ?_
                refine ARH.op (r := .sl (List.map u64 g_0.Rows)) rfl rfl (aop_load_ref rfl rfl rfl rfl sz22 rfl) ?_
                refine ARH.drop (frx := [(1, _), (2, _), (3, _), (59, _), (63, _), (65, _)]) ⟨rfl, rfl, rfl, rfl, rfl, rfl, trivial⟩ ?_
                refine ARH.op (r := i64 (Sh.len g_0.Rows)) rfl rfl (t_len_sl u64 g_0.Rows rfl rfl el22) ?_
                refine ARH.dry (r := bl (decide ((Sh.len g_0.Rows) ≤ x95))) rfl (fun _ => aop_geq rfl rfl rfl) ?_
                refine ARH.dry (r := bl (decide ((Sh.len g_0.Rows) ≤ x95))) rfl (fun _ => aop_pick rfl rfl rfl) ?_
                refine ARH.nil ?_
                exact hK28 (decide ((Sh.len g_0.Rows) ≤ x95)) _ h (Weak.re (fr' := [(1, .sl (List.map i64 l_1)), (2, i64 k_2), (3, .ref 0 0 0), (68, bl (decide ((Sh.len g_0.Rows) ≤ x95)))]) (H' := ⟨1, [(0, (2, [G.graph_Graph.av g_0]))]⟩) [(0, 0)] [] rfl rfl rfl (.cons rfl rfl (.one (.same _ (by simp)) rfl) (of_decide_eq_true rfl) (trivial)) ⟨⟨.sl (List.map i64 l_1), rfl, .same _ (by simp)⟩, ⟨_, rfl, .same _ (by simp)⟩, ⟨_, rfl, .ref rfl⟩, ⟨_, rfl, .same _ (by simp)⟩, trivial⟩)
    · intro K29 hK29
      refine awp_reg rfl ?_
      refine AR.op rfl (aop_field_ref rfl rfl rfl fd24_1 (by decide)) ?_
      refine AR.op (r := .sl (List.map u64 g_0.Rows)) rfl (aop_load_ref rfl rfl rfl rfl sz22 rfl) ?_
      refine AR.op (r := i64 (Sh.len g_0.Rows)) rfl (t_len_sl u64 g_0.Rows rfl rfl el22) ?_
      refine AR.drop (frx := [(1, _), (2, _), (3, _), (17, _)]) ⟨rfl, rfl, rfl, rfl, trivial⟩ ?_
      refine AR.op (r := bl (decide ((70 : Int) < (Sh.len g_0.Rows)))) rfl (aop_gtr rfl rfl rfl) ?_
      refine AR.op (r := bl (decide ((70 : Int) < (Sh.len g_0.Rows)))) rfl (aop_move (.inl rfl) rfl) ?_
      rcases Bool.eq_false_or_eq_true (decide ((70 : Int) < (Sh.len g_0.Rows))) with hb97 | hb97
      · rw [hb97]
        replace h := Sh.if_t h hb97
        refine AR.skip rfl ?_
        refine AR.drop (frx := [(1, _), (2, _), (3, _), (19, _), (20, _)]) ⟨rfl, rfl, rfl, rfl, rfl, trivial⟩ ?_
        refine AR.skip rfl ?_
        refine AR.skip rfl ?_
        refine AR.op (r := bl true) rfl (aop_pick rfl rfl rfl) ?_
        refine AR.drop (frx := [(1, _), (2, _), (3, _), (23, _)]) ⟨rfl, rfl, rfl, rfl, trivial⟩ ?_
        refine AR.op (r := bl true) rfl (aop_move (.inl rfl) rfl) ?_
        refine AR.skip rfl ?_
        refine AR.skip rfl ?_
        refine AR.drop (frx := [(1, _), (2, _), (3, _), (24, _), (26, _)]) ⟨rfl, rfl, rfl, rfl, rfl, trivial⟩ ?_
        refine AR.op (r := bl true) rfl (aop_pick rfl rfl rfl) ?_
        refine AR.op (r := bl true) rfl (aop_move (.inl rfl) rfl) ?_
        refine AR.skip rfl ?_
        refine AR.drop (frx := [(1, _), (2, _), (3, _), (28, _), (29, _)]) ⟨rfl, rfl, rfl, rfl, rfl, trivial⟩ ?_
        refine AR.skip rfl ?_
        refine AR.skip rfl ?_
        refine AR.skip rfl ?_
        refine AR.drop (frx := [(1, _), (2, _), (3, _), (28, _), (32, _)]) ⟨rfl, rfl, rfl, rfl, rfl, trivial⟩ ?_
        refine AR.op (r := bl true) rfl (aop_pick rfl rfl rfl) ?_
        refine AR.nil ?_
        exact hK29 true _ h (Weak.re (fr' := [(1, .sl (List.map i64 l_1)), (2, i64 k_2), (3, .ref 0 0 0), (33, bl true)]) (H' := ⟨1, [(0, (2, [G.graph_Graph.av g_0]))]⟩) [(0, 0)] [] rfl rfl rfl (.cons rfl rfl (.one (.same _ (by simp)) rfl) (of_decide_eq_true rfl) (trivial)) ⟨⟨.sl (List.map i64 l_1), rfl, .same _ (by simp)⟩, ⟨_, rfl, .same _ (by simp)⟩, ⟨_, rfl, .ref rfl⟩, ⟨_, rfl, .same _ (by simp)⟩, trivial⟩)
      · rw [hb97]
        replace h := Sh.if_f h hb97
        refine AR.op (r := .sl (List.map i64 l_1)) rfl (aop_move (.inl rfl) rfl) ?_
        refine AR.drop (frx := [(1, _), (2, _), (3, _), (19, _), (20, _)]) ⟨rfl, rfl, rfl, rfl, rfl, trivial⟩ ?_
        refine AR.op (r := i64 (Sh.len l_1)) rfl (t_len_sl i64 l_1 rfl rfl el25) ?_
        refine AR.op (r := bl (decide ((70 : Int) < (Sh.len l_1)))) rfl (aop_gtr rfl rfl rfl) ?_
        refine AR.op (r := bl (decide ((70 : Int) < (Sh.len l_1)))) rfl (aop_pick rfl rfl rfl) ?_
        refine AR.drop (frx := [(1, _), (2, _), (3, _), (23, _)]) ⟨rfl, rfl, rfl, rfl, trivial⟩ ?_
        refine AR.op (r := bl (decide ((70 : Int) < (Sh.len l_1)))) rfl (aop_move (.inl rfl) rfl) ?_
        rcases Bool.eq_false_or_eq_true (decide ((70 : Int) < (Sh.len l_1))) with hb98 | hb98
        · rw [hb98]
          replace h := Sh.if_t h hb98
          refine AR.skip rfl ?_
          refine AR.skip rfl ?_
          refine AR.drop (frx := [(1, _), (2, _), (3, _), (24, _), (26, _)]) ⟨rfl, rfl, rfl, rfl, rfl, trivial⟩ ?_
          refine AR.op (r := bl true) rfl (aop_pick rfl rfl rfl) ?_
          refine AR.op (r := bl true) rfl (aop_move (.inl rfl) rfl) ?_
          refine AR.skip rfl ?_
          refine AR.drop (frx := [(1, _), (2, _), (3, _), (28, _), (29, _)]) ⟨rfl, rfl, rfl, rfl, rfl, trivial⟩ ?_
          refine AR.skip rfl ?_
          refine AR.skip rfl ?_
          refine AR.skip rfl ?_
          refine AR.drop (frx := [(1, _), (2, _), (3, _), (28, _), (32, _)]) ⟨rfl, rfl, rfl, rfl, rfl, trivial⟩ ?_
          refine AR.op (r := bl true) rfl (aop_pick rfl rfl rfl) ?_
          refine AR.nil ?_
          exact hK29 true _ h (Weak.re (fr' := [(1, .sl (List.map i64 l_1)), (2, i64 k_2), (3, .ref 0 0 0), (33, bl true)]) (H' := ⟨1, [(0, (2, [G.graph_Graph.av g_0]))]⟩) [(0, 0)] [] rfl rfl rfl (.cons rfl rfl (.one (.same _ (by simp)) rfl) (of_decide_eq_true rfl) (trivial)) ⟨⟨.sl (List.map i64 l_1), rfl, .same _ (by simp)⟩, ⟨_, rfl, .same _ (by simp)⟩, ⟨_, rfl, .ref rfl⟩, ⟨_, rfl, .same _ (by simp)⟩, trivial⟩)
        · rw [hb98]
          replace h := Sh.if_f h hb98
          refine AR.op (r := i64 k_2) rfl (aop_move (.inl rfl) rfl) ?_
          refine AR.op (r := bl (decide (k_2 < 0))) rfl (aop_lss rfl rfl rfl) ?_
          refine AR.drop (frx := [(1, _), (2, _), (3, _), (24, _), (26, _)]) ⟨rfl, rfl, rfl, rfl, rfl, trivial⟩ ?_
          refine AR.op (r := bl (decide (k_2 < 0))) rfl (aop_pick rfl rfl rfl) ?_
          refine AR.op (r := bl (decide (k_2 < 0))) rfl (aop_move (.inl rfl) rfl) ?_
          rcases Bool.eq_false_or_eq_true (decide (k_2 < 0)) with hb99 | hb99
          · rw [hb99]
            replace h := Sh.if_t h hb99
            refine AR.skip rfl ?_
            refine AR.drop (frx := [(1, _), (2, _), (3, _), (28, _), (29, _)]) ⟨rfl, rfl, rfl, rfl, rfl, trivial⟩ ?_
            refine AR.skip rfl ?_
            refine AR.skip rfl ?_
            refine AR.skip rfl ?_
            refine AR.drop (frx := [(1, _), (2, _), (3, _), (28, _), (32, _)]) ⟨rfl, rfl, rfl, rfl, rfl, trivial⟩ ?_
            refine AR.op (r := bl true) rfl (aop_pick rfl rfl rfl) ?_
            refine AR.nil ?_
            exact hK29 true _ h (Weak.re (fr' := [(1, .sl (List.map i64 l_1)), (2, i64 k_2), (3, .ref 0 0 0), (33, bl true)]) (H' := ⟨1, [(0, (2, [G.graph_Graph.av g_0]))]⟩) [(0, 0)] [] rfl rfl rfl (.cons rfl rfl (.one (.same _ (by simp)) rfl) (of_decide_eq_true rfl) (trivial)) ⟨⟨.sl (List.map i64 l_1), rfl, .same _ (by simp)⟩, ⟨_, rfl, .same _ (by simp)⟩, ⟨_, rfl, .ref rfl⟩, ⟨_, rfl, .same _ (by simp)⟩, trivial⟩)
          · rw [hb99]
            replace h := Sh.if_f h hb99
            refine AR.op (r := i64 k_2) rfl (aop_move (.inl rfl) rfl) ?_
            refine AR.drop (frx := [(1, _), (2, _), (3, _), (28, _), (29, _)]) ⟨rfl, rfl, rfl, rfl, rfl, trivial⟩ ?_
            refine AR.op (r := .sl (List.map i64 l_1)) rfl (aop_move (.inl rfl) rfl) ?_
            refine AR.op (r := i64 (Sh.len l_1)) rfl (t_len_sl i64 l_1 rfl rfl el25) ?_
            refine AR.op (r := bl (decide ((Sh.len l_1) ≤ k_2))) rfl (aop_geq rfl rfl rfl) ?_
            refine AR.drop (frx := [(1, _), (2, _), (3, _), (28, _), (32, _)]) ⟨rfl, rfl, rfl, rfl, rfl, trivial⟩ ?_
            refine AR.op (r := bl (decide ((Sh.len l_1) ≤ k_2))) rfl (aop_pick rfl rfl rfl) ?_
            refine AR.nil ?_
            exact hK29 (decide ((Sh.len l_1) ≤ k_2)) _ h (Weak.re (fr' := [(1, .sl (List.map i64 l_1)), (2, i64 k_2), (3, .ref 0 0 0), (33, bl (decide ((Sh.len l_1) ≤ k_2)))]) (H' := ⟨1, [(0, (2, [G.graph_Graph.av g_0]))]⟩) [(0, 0)] [] rfl rfl rfl (.cons rfl rfl (.one (.same _ (by simp)) rfl) (of_decide_eq_true rfl) (trivial)) ⟨⟨.sl (List.map i64 l_1), rfl, .same _ (by simp)⟩, ⟨_, rfl, .same _ (by simp)⟩, ⟨_, rfl, .ref rfl⟩, ⟨_, rfl, .same _ (by simp)⟩, trivial⟩)
theorem inquestlaw15_CycleTurns_ok {W0 : World} (hT : Tab W0) {g_0 : G.graph_Graph} {l_1 : List Int} {k_2 : Int} {r : Bool} (h : G.inquestlaw15_CycleTurns g_0 l_1 k_2 = some r) : Fun1 Tryd.prog W0 4 [G.graph_Graph.av g_0, .sl (List.map i64 l_1), i64 k_2] (bl r) := Fun1.two (inquestlaw15_CycleTurns_ok0 hT h) (by simp)

end Wk
