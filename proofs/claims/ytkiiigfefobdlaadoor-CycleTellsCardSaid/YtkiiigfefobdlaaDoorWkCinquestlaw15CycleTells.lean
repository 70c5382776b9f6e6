/- That a statement does what its plain function says. -/
import Derived.Test.YtkiiigfefobdlaaDoorWkCinquestlaw15
open Go Go.Av Go.Proofs
set_option linter.unusedVariables false
namespace Wk
set_option maxHeartbeats 8000000 in
set_option maxRecDepth 20000 in
theorem inquestlaw15_CycleTells_ok0 {W0 : World} (hT : Tab W0) {g_0 : G.graph_Graph} {l_1 : List Int} {r : Bool} (h : G.inquestlaw15_CycleTells g_0 l_1 = some r) : Fun2 Tryd.prog W0 3 [G.graph_Graph.av g_0, .sl (List.map i64 l_1)] (bl r) .empty := by
  refine fun2_of_awp Tryd.func3 rfl (by kernel_rfl) Tryd.ntmps3 (by simp) ?_
  unfold G.inquestlaw15_CycleTells at h
  show AWP _ _ _ _ ⟨[(0, G.graph_Graph.av g_0), (1, .sl (List.map i64 l_1))], .empty⟩ _
  refine awp_seqK fun K1 hK1 => ?_
  refine awp_reg rfl ?_
  refine AR.op (r := .ref 0 0 0) rfl (aop_box 2 [G.graph_Graph.av g_0] rfl rfl rfl (.inl ⟨rfl, rfl⟩)) ?_
  refine AR.op (r := bl false) rfl (aop_move (.inr rfl) rfl) ?_
  refine AR.nil ?_
  refine hK1 _ (AWP.weak (Weak.re (fr' := [(1, .sl (List.map i64 l_1)), (2, .ref 0 0 0)]) (H' := ⟨1, [(0, (2, [G.graph_Graph.av g_0]))]⟩) [(0, 0)] [] rfl rfl rfl (.cons rfl rfl (.one (.same _ (by simp)) rfl) (of_decide_eq_true rfl) (trivial)) ⟨⟨.sl (List.map i64 l_1), rfl, .same _ (by simp)⟩, ⟨_, rfl, .ref rfl⟩, trivial⟩) ?_)
  clear hK1 K1
  refine awp_seqK fun K2 hK2 => ?_
  refine awp_reg rfl ?_
  obtain ⟨r16, hr16, h⟩ := Sh.bind_some' h
  refine AR.op (r := bl r16) rfl (aop_call1 rfl rfl (by simp) (inquestlaw15_awake_ok hT hr16)) ?_
  refine AR.op (r := bl r16) rfl (aop_move (.inr rfl) rfl) ?_
  refine AR.nil ?_
  refine hK2 _ (AWP.weak (Weak.re (fr' := [(1, .sl (List.map i64 l_1)), (2, .ref 0 0 0), (5, bl r16)]) (H' := ⟨1, [(0, (2, [G.graph_Graph.av g_0]))]⟩) [(0, 0)] [] rfl rfl rfl (.cons rfl rfl (.one (.same _ (by simp)) rfl) (of_decide_eq_true rfl) (trivial)) ⟨⟨.sl (List.map i64 l_1), rfl, .same _ (by simp)⟩, ⟨_, rfl, .ref rfl⟩, ⟨_, rfl, .same _ (by simp)⟩, trivial⟩) ?_)
  clear hK2 K2
  refine awp_seqK fun K3 hK3 => ?_
  refine awp_seqK fun K4 hK4 => ?_
  refine awp_reg rfl ?_
  refine AR.op (r := bl r16) rfl (aop_move (.inl rfl) rfl) ?_
  refine AR.op (r := bl (!r16)) rfl (aop_not rfl rfl) ?_
  refine AR.nil ?_
  refine hK4 _ (AWP.weak (Weak.re (fr' := [(1, .sl (List.map i64 l_1)), (2, .ref 0 0 0), (10, bl (!r16))]) (H' := ⟨1, [(0, (2, [G.graph_Graph.av g_0]))]⟩) [(0, 0)] [] rfl rfl rfl (.cons rfl rfl (.one (.same _ (by simp)) rfl) (of_decide_eq_true rfl) (trivial)) ⟨⟨.sl (List.map i64 l_1), rfl, .same _ (by simp)⟩, ⟨_, rfl, .ref rfl⟩, ⟨_, rfl, .same _ (by simp)⟩, trivial⟩) ?_)
  clear hK4 K4
  refine awp_cond rfl (fun hb17 => ?_) (fun hb17 => ?_)
  · replace h := Sh.if_t h hb17
    refine awp_seqK fun K5 hK5 => ?_
    refine awp_reg rfl ?_
    refine AR.op (r := bl false) rfl (aop_move (.inr rfl) rfl) ?_
    refine AR.nil ?_
    refine hK5 _ (AWP.weak (Weak.re (fr' := [(4, bl false)]) (H' := .empty) [] [] rfl rfl rfl (trivial) ⟨⟨_, rfl, .same _ (by simp)⟩, trivial⟩) ?_)
    clear hK5 K5
    refine awp_ret ?_
    obtain rfl := Option.some.inj h
    refine ⟨.inr rfl, bl false, rfl, ?_⟩
    exact Weak.re [] [] rfl rfl rfl (trivial) ⟨⟨_, rfl, .same _ (by simp)⟩, trivial⟩
  · replace h := Sh.if_f h hb17
    refine awp_skip ?_
    refine hK3 _ (AWP.weak (Weak.re (fr' := [(1, .sl (List.map i64 l_1)), (2, .ref 0 0 0)]) (H' := ⟨1, [(0, (2, [G.graph_Graph.av g_0]))]⟩) [(0, 0)] [] rfl rfl rfl (.cons rfl rfl (.one (.same _ (by simp)) rfl) (of_decide_eq_true rfl) (trivial)) ⟨⟨.sl (List.map i64 l_1), rfl, .same _ (by simp)⟩, ⟨_, rfl, .ref rfl⟩, trivial⟩) ?_)
    clear hK3 K3
    refine awp_seqK fun K6 hK6 => ?_
    refine awp_reg rfl ?_
    refine AR.op (r := G.graph_Graph.av g_0) rfl (aop_load_ref rfl rfl rfl rfl sz24 rfl) ?_
    obtain ⟨r19, hr19, h⟩ := Sh.bind_some' h
    refine AR.op (r := G.inquestref12_G.av r19) rfl (aop_call1 rfl rfl (by simp) (inquestlaw15_plain_ok hT hr19)) ?_
    refine AR.op (r := .ref 1 0 0) rfl (aop_alloc 2 [.agg [i64 0, nilS]] rfl zr27 (by kernel_rfl) (.inl ⟨rfl, rfl⟩)) ?_
    refine AR.drop (frx := [(1, _), (2, _), (12, _), (6, _)]) ⟨rfl, rfl, rfl, rfl, trivial⟩ ?_
    refine AR.op rfl (aop_store (e' := G.inquestref12_G.av r19) rfl rfl rfl rfl rfl rfl sz27 rfl (of_decide_eq_true rfl) rfl) ?_
    refine AR.nil ?_
    refine hK6 _ (AWP.weak (Weak.re (fr' := [(1, .sl (List.map i64 l_1)), (2, .ref 0 0 0), (6, .ref 1 0 0)]) (H' := ⟨2, [(0, (2, [G.graph_Graph.av g_0])), (1, (2, [G.inquestref12_G.av r19]))]⟩) [(0, 0), (1, 1)] [] rfl rfl rfl (.cons rfl rfl (.one (.same _ (by simp)) rfl) (of_decide_eq_true rfl) (.cons rfl rfl (.one (.same _ (by simp)) rfl) (of_decide_eq_true rfl) (trivial))) ⟨⟨.sl (List.map i64 l_1), rfl, .same _ (by simp)⟩, ⟨_, rfl, .ref rfl⟩, ⟨_, rfl, .ref rfl⟩, trivial⟩) ?_)
    clear hK6 K6
    refine awp_seqK fun K7 hK7 => ?_
    refine awp_seqJ (fun (p : Bool) => (⟨[(1, .sl (List.map i64 l_1)), (2, .ref 0 0 0), (6, .ref 1 0 0), (21, bl p)], ⟨2, [(0, (2, [G.graph_Graph.av g_0])), (1, (2, [G.inquestref12_G.av r19]))]⟩⟩ : St)) (fun (p : Bool) => G.inquestlaw15_CycleTells_j1 g_0 l_1 r19 p = some r) ?_ ?_
    · rintro v23 h
      replace h : G.inquestlaw15_CycleTells_j1 g_0 l_1 r19 v23 = some r := h
      unfold G.inquestlaw15_CycleTells_j1 at h
      show AWP _ _ _ _ ⟨[(1, .sl (List.map i64 l_1)), (2, .ref 0 0 0), (6, .ref 1 0 0), (21, bl v23)], ⟨2, [(0, (2, [G.graph_Graph.av g_0])), (1, (2, [G.inquestref12_G.av r19]))]⟩⟩ _
      refine awp_cond rfl (fun hb24 => ?_) (fun hb24 => ?_)
      · replace h := Sh.if_t h hb24
        refine awp_seqK fun K8 hK8 => ?_
        refine awp_reg rfl ?_
        refine AR.op (r := bl true) rfl (aop_move (.inr rfl) rfl) ?_
        refine AR.nil ?_
        refine hK8 _ (AWP.weak (Weak.re (fr' := [(4, bl true)]) (H' := .empty) [] [] rfl rfl rfl (trivial) ⟨⟨_, rfl, .same _ (by simp)⟩, trivial⟩) ?_)
        clear hK8 K8
        refine awp_ret ?_
        obtain rfl := Option.some.inj h
        refine ⟨.inr rfl, bl true, rfl, ?_⟩
        exact Weak.re [] [] rfl rfl rfl (trivial) ⟨⟨_, rfl, .same _ (by simp)⟩, trivial⟩
      · replace h := Sh.if_f h hb24
        refine awp_skip ?_
        refine hK7 _ (AWP.weak (Weak.re (fr' := [(1, .sl (List.map i64 l_1)), (2, .ref 0 0 0), (6, .ref 1 0 0)]) (H' := ⟨2, [(0, (2, [G.graph_Graph.av g_0])), (1, (2, [G.inquestref12_G.av r19]))]⟩) [(0, 0), (1, 1)] [] rfl rfl rfl (.cons rfl rfl (.one (.same _ (by simp)) rfl) (of_decide_eq_true rfl) (.cons rfl rfl (.one (.same _ (by simp)) rfl) (of_decide_eq_true rfl) (trivial))) ⟨⟨.sl (List.map i64 l_1), rfl, .same _ (by simp)⟩, ⟨_, rfl, .ref rfl⟩, ⟨_, rfl, .ref rfl⟩, trivial⟩) ?_)
        clear hK7 K7
        refine awp_seqK fun K9 hK9 => ?_
        refine awp_reg rfl ?_
        refine AR.op (r := G.inquestref12_G.av r19) rfl (aop_load_ref rfl rfl rfl rfl sz27 rfl) ?_
        obtain ⟨r26, hr26, h⟩ := Sh.bind_some' h
        refine AR.op (r := bl r26) rfl (aop_call1 rfl rfl (by simp) (inquestref12_Right_ok hT hr26)) ?_
        refine AR.op (r := bl r26) rfl (aop_move (.inr rfl) rfl) ?_
        refine AR.nil ?_
        refine hK9 _ (AWP.weak (Weak.re (fr' := [(1, .sl (List.map i64 l_1)), (2, .ref 0 0 0), (6, .ref 1 0 0), (7, bl r26)]) (H' := ⟨2, [(0, (2, [G.graph_Graph.av g_0])), (1, (2, [G.inquestref12_G.av r19]))]⟩) [(0, 0), (1, 1)] [] rfl rfl rfl (.cons rfl rfl (.one (.same _ (by simp)) rfl) (of_decide_eq_true rfl) (.cons rfl rfl (.one (.same _ (by simp)) rfl) (of_decide_eq_true rfl) (trivial))) ⟨⟨.sl (List.map i64 l_1), rfl, .same _ (by simp)⟩, ⟨_, rfl, .ref rfl⟩, ⟨_, rfl, .ref rfl⟩, ⟨_, rfl, .same _ (by simp)⟩, trivial⟩) ?_)
        clear hK9 K9
        refine awp_seqK fun K10 hK10 => ?_
        refine awp_seqJ (fun (p : Bool) => (⟨[(1, .sl (List.map i64 l_1)), (2, .ref 0 0 0), (6, .ref 1 0 0), (29, bl p)], ⟨2, [(0, (2, [G.graph_Graph.av g_0])), (1, (2, [G.inquestref12_G.av r19]))]⟩⟩ : St)) (fun (p : Bool) => G.inquestlaw15_CycleTells_j2 g_0 l_1 r19 p = some r) ?_ ?_
        · rintro v30 h
          replace h : G.inquestlaw15_CycleTells_j2 g_0 l_1 r19 v30 = some r := h
          unfold G.inquestlaw15_CycleTells_j2 at h
          show AWP _ _ _ _ ⟨[(1, .sl (List.map i64 l_1)), (2, .ref 0 0 0), (6, .ref 1 0 0), (29, bl v30)], ⟨2, [(0, (2, [G.graph_Graph.av g_0])), (1, (2, [G.inquestref12_G.av r19]))]⟩⟩ _
          refine awp_cond rfl (fun hb31 => ?_) (fun hb31 => ?_)
          · replace h := Sh.if_t h hb31
            refine awp_seqK fun K11 hK11 => ?_
            refine awp_reg rfl ?_
            refine AR.op (r := bl true) rfl (aop_move (.inr rfl) rfl) ?_
            refine AR.nil ?_
            refine hK11 _ (AWP.weak (Weak.re (fr' := [(4, bl true)]) (H' := .empty) [] [] rfl rfl rfl (trivial) ⟨⟨_, rfl, .same _ (by simp)⟩, trivial⟩) ?_)
            clear hK11 K11
            refine awp_ret ?_
            obtain rfl := Option.some.inj h
            refine ⟨.inr rfl, bl true, rfl, ?_⟩
            exact Weak.re [] [] rfl rfl rfl (trivial) ⟨⟨_, rfl, .same _ (by simp)⟩, trivial⟩
          · replace h := Sh.if_f h hb31
            refine awp_skip ?_
            refine hK10 _ (AWP.weak (Weak.re (fr' := [(1, .sl (List.map i64 l_1)), (2, .ref 0 0 0), (6, .ref 1 0 0)]) (H' := ⟨2, [(0, (2, [G.graph_Graph.av g_0])), (1, (2, [G.inquestref12_G.av r19]))]⟩) [(0, 0), (1, 1)] [] rfl rfl rfl (.cons rfl rfl (.one (.same _ (by simp)) rfl) (of_decide_eq_true rfl) (.cons rfl rfl (.one (.same _ (by simp)) rfl) (of_decide_eq_true rfl) (trivial))) ⟨⟨.sl (List.map i64 l_1), rfl, .same _ (by simp)⟩, ⟨_, rfl, .ref rfl⟩, ⟨_, rfl, .ref rfl⟩, trivial⟩) ?_)
            clear hK10 K10
            refine awp_seqK fun K12 hK12 => ?_
            refine awp_any (by kernel_rfl) (by kernel_rfl) rfl ?_
            refine ARH.op (r := G.graph_Graph.av g_0) rfl rfl (aop_load_ref rfl rfl rfl rfl sz24 rfl) ?_
            refine ARH.dry (r := .sl (List.map i64 l_1)) rfl (fun _ => aop_move (.inl rfl) rfl) ?_
            obtain ⟨r38, hr38, h⟩ := Sh.bind_some' h
            refine ARH.op (r := bl r38) rfl rfl (aop_call1 rfl rfl (by simp) (cycle_Is_ok hT hr38)) ?_
            refine ARH.drop (frx := [(1, _), (2, _), (6, _), (32, _)]) ⟨rfl, rfl, rfl, rfl, trivial⟩ ?_
            refine ARH.op (r := G.inquestref12_G.av r19) rfl rfl (aop_load_ref rfl rfl rfl rfl sz27 rfl) ?_
            refine ARH.dry (r := .sl (List.map i64 l_1)) rfl (fun _ => aop_move (.inl rfl) rfl) ?_
            obtain ⟨r39, hr39, h⟩ := Sh.bind_some' h
            refine ARH.op (r := bl r39) rfl rfl (aop_call1 rfl rfl (by simp) (inquestref15_Is_ok hT hr39)) ?_
            refine ARH.drop (frx := [(2, _), (6, _), (32, _), (35, _)]) ⟨rfl, rfl, rfl, rfl, trivial⟩ ?_
            refine ARH.dry (r := bl (r38 == r39)) rfl (fun _ => aop_eqb rfl rfl rfl Tryd.underlying4) ?_
            refine ARH.dry (r := bl (r38 == r39)) rfl (fun _ => aop_move (.inl rfl) rfl) ?_
            rcases Bool.eq_false_or_eq_true (r38 == r39) with hb40 | hb40
            · rw [hb40]
              replace h := Sh.if_t h hb40
              refine ARH.op (r := G.graph_Graph.av g_0) rfl rfl (aop_load_ref rfl rfl rfl rfl sz24 rfl) ?_
              refine ARH.drop (frx := [(6, _), (37, _), (38, _)]) ⟨rfl, rfl, rfl, trivial⟩ ?_
              obtain ⟨r41, hr41, h⟩ := Sh.bind_some' h
              refine ARH.op (r := .sl (List.map i64 r41)) rfl rfl (aop_call1 rfl rfl (by simp) (cycle_Find_ok hT hr41)) ?_
              refine ARH.op (r := G.inquestref12_G.av r19) rfl rfl (aop_load_ref rfl rfl rfl rfl sz27 rfl) ?_
              obtain ⟨r42, hr42, h⟩ := Sh.bind_some' h
              refine ARH.op (r := .sl (List.map i64 r42)) rfl rfl (aop_call1 rfl rfl (by simp) (inquestref15_Find_ok hT hr42)) ?_
              refine ARH.drop (frx := [(37, _), (39, _), (41, _)]) ⟨rfl, rfl, rfl, trivial⟩ ?_
              obtain ⟨r43, hr43, h⟩ := Sh.bind_some' h
              refine ARH.op (r := bl r43) rfl rfl (aop_call1 rfl rfl (by simp) (inquestref07_Ints_ok hT hr43)) ?_
              refine ARH.dry (r := bl r43) rfl (fun _ => aop_pick rfl rfl rfl) ?_
              refine ARH.dry (r := bl r43) rfl (fun _ => aop_move (.inr rfl) rfl) ?_
              refine ARH.nil ?_
              refine hK12 _ (AWP.weak (Weak.re (fr' := [(4, bl r43)]) (H' := .empty) [] [] rfl rfl rfl (trivial) ⟨⟨_, rfl, .same _ (by simp)⟩, trivial⟩) ?_)
              clear hK12 K12
              refine awp_ret ?_
              obtain rfl := Option.some.inj h
              refine ⟨.inr rfl, bl r43, rfl, ?_⟩
              exact Weak.re [] [] rfl rfl rfl (trivial) ⟨⟨_, rfl, .same _ (by simp)⟩, trivial⟩
            · rw [hb40]
              replace h := Sh.if_f h hb40
              refine ARH.skip rfl ?_
              refine ARH.drop (frx := [(6, _), (37, _), (38, _)]) ⟨rfl, rfl, rfl, trivial⟩ ?_
              refine ARH.skip rfl ?_
              refine ARH.skip rfl ?_
              refine ARH.skip rfl ?_
              refine ARH.drop (frx := [(37, _), (39, _), (41, _)]) ⟨rfl, rfl, rfl, trivial⟩ ?_
              refine ARH.skip rfl ?_
              refine ARH.dry (r := bl false) rfl (fun _ => aop_pick rfl rfl rfl) ?_
              refine ARH.dry (r := bl false) rfl (fun _ => aop_move (.inr rfl) rfl) ?_
              refine ARH.nil ?_
              refine hK12 _ (AWP.weak (Weak.re (fr' := [(4, bl false)]) (H' := .empty) [] [] rfl rfl rfl (trivial) ⟨⟨_, rfl, .same _ (by simp)⟩, trivial⟩) ?_)
              clear hK12 K12
              refine awp_ret ?_
              obtain rfl := Option.some.inj h
              refine ⟨.inr rfl, bl false, rfl, ?_⟩
              exact Weak.re [] [] rfl rfl rfl (trivial) ⟨⟨_, rfl, .same _ (by simp)⟩, trivial⟩
        · intro K13 hK13
          refine awp_reg rfl ?_
          refine AR.op (r := bl r26) rfl (aop_move (.inl rfl) rfl) ?_
          refine AR.op (r := bl r26) rfl (aop_move (.inl rfl) rfl) ?_
          rcases Bool.eq_false_or_eq_true (r26) with hb44 | hb44
          · rw [hb44]
            replace h := Sh.if_t h hb44
            refine AR.op rfl (aop_field_ref rfl rfl rfl fd24_0 (by decide)) ?_
            refine AR.drop (frx := [(1, _), (2, _), (6, _), (25, _), (26, _)]) ⟨rfl, rfl, rfl, rfl, rfl, trivial⟩ ?_
            refine AR.op (r := i64 g_0.N) rfl (aop_load_ref rfl rfl rfl rfl sz3 rfl) ?_
            refine AR.op (r := bl (decide ((12 : Int) < g_0.N))) rfl (aop_gtr rfl rfl rfl) ?_
            refine AR.op (r := bl (decide ((12 : Int) < g_0.N))) rfl (aop_pick rfl rfl rfl) ?_
            refine AR.nil ?_
            exact hK13 (decide ((12 : Int) < g_0.N)) _ h (Weak.re (fr' := [(1, .sl (List.map i64 l_1)), (2, .ref 0 0 0), (6, .ref 1 0 0), (29, bl (decide ((12 : Int) < g_0.N)))]) (H' := ⟨2, [(0, (2, [G.graph_Graph.av g_0])), (1, (2, [G.inquestref12_G.av r19]))]⟩) [(0, 0), (1, 1)] [] rfl rfl rfl (.cons rfl rfl (.one (.same _ (by simp)) rfl) (of_decide_eq_true rfl) (.cons rfl rfl (.one (.same _ (by simp)) rfl) (of_decide_eq_true rfl) (trivial))) ⟨⟨.sl (List.map i64 l_1), rfl, .same _ (by simp)⟩, ⟨_, rfl, .ref rfl⟩, ⟨_, rfl, .ref rfl⟩, ⟨_, rfl, .same _ (by simp)⟩, trivial⟩)
          · rw [hb44]
            replace h := Sh.if_f h hb44
            refine AR.skip rfl ?_
            refine AR.drop (frx := [(1, _), (2, _), (6, _), (25, _), (26, _)]) ⟨rfl, rfl, rfl, rfl, rfl, trivial⟩ ?_
            refine AR.skip rfl ?_
            refine AR.skip rfl ?_
            refine AR.op (r := bl false) rfl (aop_pick rfl rfl rfl) ?_
            refine AR.nil ?_
            exact hK13 false _ h (Weak.re (fr' := [(1, .sl (List.map i64 l_1)), (2, .ref 0 0 0), (6, .ref 1 0 0), (29, bl false)]) (H' := ⟨2, [(0, (2, [G.graph_Graph.av g_0])), (1, (2, [G.inquestref12_G.av r19]))]⟩) [(0, 0), (1, 1)] [] rfl rfl rfl (.cons rfl rfl (.one (.same _ (by simp)) rfl) (of_decide_eq_true rfl) (.cons rfl rfl (.one (.same _ (by simp)) rfl) (of_decide_eq_true rfl) (trivial))) ⟨⟨.sl (List.map i64 l_1), rfl, .same _ (by simp)⟩, ⟨_, rfl, .ref rfl⟩, ⟨_, rfl, .ref rfl⟩, ⟨_, rfl, .same _ (by simp)⟩, trivial⟩)
    · intro K14 hK14
      refine awp_reg rfl ?_
      refine AR.op rfl (aop_field_ref rfl rfl rfl fd24_1 (by decide)) ?_
      refine AR.op (r := .sl (List.map u64 g_0.Rows)) rfl (aop_load_ref rfl rfl rfl rfl sz22 rfl) ?_
      refine AR.op (r := i64 (Sh.len g_0.Rows)) rfl (t_len_sl u64 g_0.Rows rfl rfl el22) ?_
      refine AR.drop (frx := [(1, _), (2, _), (6, _), (15, _)]) ⟨rfl, rfl, rfl, rfl, trivial⟩ ?_
      refine AR.op (r := bl (decide ((70 : Int) < (Sh.len g_0.Rows)))) rfl (aop_gtr rfl rfl rfl) ?_
      refine AR.op (r := bl (decide ((70 : Int) < (Sh.len g_0.Rows)))) rfl (aop_move (.inl rfl) rfl) ?_
      rcases Bool.eq_false_or_eq_true (decide ((70 : Int) < (Sh.len g_0.Rows))) with hb45 | hb45
      · rw [hb45]
        replace h := Sh.if_t h hb45
        refine AR.skip rfl ?_
        refine AR.drop (frx := [(1, _), (2, _), (6, _), (17, _), (18, _)]) ⟨rfl, rfl, rfl, rfl, rfl, trivial⟩ ?_
        refine AR.skip rfl ?_
        refine AR.skip rfl ?_
        refine AR.op (r := bl true) rfl (aop_pick rfl rfl rfl) ?_
        refine AR.nil ?_
        exact hK14 true _ h (Weak.re (fr' := [(1, .sl (List.map i64 l_1)), (2, .ref 0 0 0), (6, .ref 1 0 0), (21, bl true)]) (H' := ⟨2, [(0, (2, [G.graph_Graph.av g_0])), (1, (2, [G.inquestref12_G.av r19]))]⟩) [(0, 0), (1, 1)] [] rfl rfl rfl (.cons rfl rfl (.one (.same _ (by simp)) rfl) (of_decide_eq_true rfl) (.cons rfl rfl (.one (.same _ (by simp)) rfl) (of_decide_eq_true rfl) (trivial))) ⟨⟨.sl (List.map i64 l_1), rfl, .same _ (by simp)⟩, ⟨_, rfl, .ref rfl⟩, ⟨_, rfl, .ref rfl⟩, ⟨_, rfl, .same _ (by simp)⟩, trivial⟩)
      · rw [hb45]
        replace h := Sh.if_f h hb45
        refine AR.op (r := .sl (List.map i64 l_1)) rfl (aop_move (.inl rfl) rfl) ?_
        refine AR.drop (frx := [(1, _), (2, _), (6, _), (17, _), (18, _)]) ⟨rfl, rfl, rfl, rfl, rfl, trivial⟩ ?_
        refine AR.op (r := i64 (Sh.len l_1)) rfl (t_len_sl i64 l_1 rfl rfl el25) ?_
        refine AR.op (r := bl (decide ((100 : Int) < (Sh.len l_1)))) rfl (aop_gtr rfl rfl rfl) ?_
        refine AR.op (r := bl (decide ((100 : Int) < (Sh.len l_1)))) rfl (aop_pick rfl rfl rfl) ?_
        refine AR.nil ?_
        exact hK14 (decide ((100 : Int) < (Sh.len l_1))) _ h (Weak.re (fr' := [(1, .sl (List.map i64 l_1)), (2, .ref 0 0 0), (6, .ref 1 0 0), (21, bl (decide ((100 : Int) < (Sh.len l_1))))]) (H' := ⟨2, [(0, (2, [G.graph_Graph.av g_0])), (1, (2, [G.inquestref12_G.av r19]))]⟩) [(0, 0), (1, 1)] [] rfl rfl rfl (.cons rfl rfl (.one (.same _ (by simp)) rfl) (of_decide_eq_true rfl) (.cons rfl rfl (.one (.same _ (by simp)) rfl) (of_decide_eq_true rfl) (trivial))) ⟨⟨.sl (List.map i64 l_1), rfl, .same _ (by simp)⟩, ⟨_, rfl, .ref rfl⟩, ⟨_, rfl, .ref rfl⟩, ⟨_, rfl, .same _ (by simp)⟩, trivial⟩)
theorem inquestlaw15_CycleTells_ok {W0 : World} (hT : Tab W0) {g_0 : G.graph_Graph} {l_1 : List Int} {r : Bool} (h : G.inquestlaw15_CycleTells g_0 l_1 = some r) : Fun1 Tryd.prog W0 3 [G.graph_Graph.av g_0, .sl (List.map i64 l_1)] (bl r) := Fun1.two (inquestlaw15_CycleTells_ok0 hT h) (by simp)

end Wk
