/- That the functions of a package do what their plain functions say. -/
import Derived.Test.YtkiiigfefobdlaaDoorSh
import Derived.Test.YtkiiigfefobdlaaDoorWkCFacts
import Derived.Test.YtkiiigfefobdlaaDoorWkCbits
open Go Go.Av Go.Proofs
set_option linter.unusedVariables false
namespace Wk
set_option maxHeartbeats 8000000 in
set_option maxRecDepth 20000 in
theorem graph_nodes_ok0 {W0 : World} (hT : Tab W0) {n_0 : Int} {r : (BitVec 64)} (h : G.graph_nodes n_0 = some r) : Fun2 Tryd.prog W0 55 [i64 n_0] (u64 r) .empty := by
  refine fun2_of_awp Tryd.func55 rfl (by kernel_rfl) Tryd.ntmps55 (by simp) ?_
  unfold G.graph_nodes at h
  show AWP _ _ _ _ ⟨[(0, i64 n_0)], .empty⟩ _
  refine awp_seqK fun K1 hK1 => ?_
  refine awp_reg rfl ?_
  refine AR.op (r := u64 0#64) rfl (aop_move (.inr rfl) rfl) ?_
  refine AR.nil ?_
  refine hK1 _ (AWP.weak (Weak.kp (fr' := [(0, i64 n_0)]) ⟨rfl, trivial⟩) ?_)
  clear hK1 K1
  refine awp_seqK fun K2 hK2 => ?_
  refine awp_reg rfl ?_
  refine AR.op (r := i64 n_0) rfl (aop_move (.inl rfl) rfl) ?_
  obtain ⟨s3, hs3, h⟩ := Sh.bind_some' h
  refine AR.op (r := u64 s3) rfl (t_shl hs3 rfl rfl rfl) ?_
  refine AR.op (r := u64 (s3 - 1#64)) rfl (aop_sub64 (a := s3) (b := 1#64) rfl rfl rfl) ?_
  refine AR.drop (frx := [(5, _)]) ⟨rfl, trivial⟩ ?_
  refine AR.op (r := u64 (s3 - 1#64)) rfl (aop_move (.inr rfl) rfl) ?_
  refine AR.nil ?_
  refine hK2 _ (AWP.weak (Weak.kp (fr' := [(2, u64 (s3 - 1#64))]) ⟨rfl, trivial⟩) ?_)
  clear hK2 K2
  refine awp_ret ?_
  obtain rfl := Option.some.inj h
  refine ⟨.inr rfl, u64 (s3 - 1#64), rfl, ?_⟩
  exact Weak.re [] [] rfl rfl rfl (trivial) ⟨⟨_, rfl, .same _ (by simp)⟩, trivial⟩
theorem graph_nodes_ok {W0 : World} (hT : Tab W0) {n_0 : Int} {r : (BitVec 64)} (h : G.graph_nodes n_0 = some r) : Fun1 Tryd.prog W0 55 [i64 n_0] (u64 r) := Fun1.two (graph_nodes_ok0 hT h) (by simp)


set_option maxHeartbeats 8000000 in
set_option maxRecDepth 20000 in
theorem graph_Right_ok0 {W0 : World} (hT : Tab W0) {g_0 : G.graph_Graph} {r : Bool} (h : G.graph_Right g_0 = some r) : Fun2 Tryd.prog W0 30 [G.graph_Graph.av g_0] (bl r) .empty := by
  refine fun2_of_awp Tryd.func30 rfl (by kernel_rfl) Tryd.ntmps30 (by simp) ?_
  unfold G.graph_Right at h
  show AWP _ _ _ _ ⟨[(0, G.graph_Graph.av g_0)], .empty⟩ _
  refine awp_seqK fun K1 hK1 => ?_
  refine awp_reg rfl ?_
  refine AR.op (r := .ref 0 0 0) rfl (aop_box 2 [G.graph_Graph.av g_0] rfl rfl rfl (.inl ⟨rfl, rfl⟩)) ?_
  refine AR.op (r := bl false) rfl (aop_move (.inr rfl) rfl) ?_
  refine AR.nil ?_
  refine hK1 _ (AWP.weak (Weak.re (fr' := [(1, .ref 0 0 0)]) (H' := ⟨1, [(0, (2, [G.graph_Graph.av g_0]))]⟩) [(0, 0)] [] rfl rfl rfl (.cons rfl rfl (.one (.same _ (by simp)) rfl) (of_decide_eq_true rfl) (trivial)) ⟨⟨_, rfl, .ref rfl⟩, trivial⟩) ?_)
  clear hK1 K1
  refine awp_seqK fun K2 hK2 => ?_
  refine awp_any (by kernel_rfl) (by kernel_rfl) rfl ?_
  refine ARH.op rfl rfl (aop_field_ref rfl rfl rfl fd24_0 (by decide)) ?_
  refine ARH.op (r := i64 g_0.N) rfl rfl (aop_load_ref rfl rfl rfl rfl sz3 rfl) ?_
  refine ARH.dry (r := bl (decide ((0 : Int) ≤ g_0.N))) rfl (fun _ => aop_geq rfl rfl rfl) ?_
  refine ARH.drop (frx := [(1, _), (5, _)]) ⟨rfl, rfl, trivial⟩ ?_
  refine ARH.dry (r := bl (decide ((0 : Int) ≤ g_0.N))) rfl (fun _ => aop_move (.inl rfl) rfl) ?_
  rcases Bool.eq_false_or_eq_true (decide ((0 : Int) ≤ g_0.N)) with hb14 | hb14
  · rw [hb14]
    replace h := Sh.if_t h hb14
    refine ARH.op rfl rfl (aop_field_ref rfl rfl rfl fd24_0 (by decide)) ?_
    refine ARH.op (r := i64 g_0.N) rfl rfl (aop_load_ref rfl rfl rfl rfl sz3 rfl) ?_
    refine ARH.drop (frx := [(1, _), (6, _), (8, _)]) ⟨rfl, rfl, rfl, trivial⟩ ?_
    refine ARH.dry (r := bl (decide (g_0.N ≤ 64))) rfl (fun _ => aop_leq rfl rfl rfl) ?_
    refine ARH.dry (r := bl (decide (g_0.N ≤ 64))) rfl (fun _ => aop_pick rfl rfl rfl) ?_
    refine ARH.dry (r := bl (decide (g_0.N ≤ 64))) rfl (fun _ => aop_move (.inl rfl) rfl) ?_
    refine ARH.drop (frx := [(1, _), (11, _)]) ⟨rfl, rfl, trivial⟩ ?_
    rcases Bool.eq_false_or_eq_true (decide (g_0.N ≤ 64)) with hb15 | hb15
    · rw [hb15]
      replace h := Sh.if_t h hb15
      refine ARH.op rfl rfl (aop_field_ref rfl rfl rfl fd24_1 (by decide)) ?_
      refine ARH.op (r := .sl (List.map u64 g_0.Rows)) rfl rfl (aop_load_ref rfl rfl rfl rfl sz22 rfl) ?_
      refine ARH.op (r := i64 (Sh.len g_0.Rows)) rfl rfl (t_len_sl u64 g_0.Rows rfl rfl el22) ?_
      refine ARH.drop (frx := [(1, _), (11, _), (14, _)]) ⟨rfl, rfl, rfl, trivial⟩ ?_
      refine ARH.op rfl rfl (aop_field_ref rfl rfl rfl fd24_0 (by decide)) ?_
      refine ARH.op (r := i64 g_0.N) rfl rfl (aop_load_ref rfl rfl rfl rfl sz3 rfl) ?_
      refine ARH.dry (r := bl (decide ((Sh.len g_0.Rows) = g_0.N))) rfl (fun _ => aop_eql rfl rfl rfl) ?_
      refine ARH.drop (frx := [(1, _), (11, _), (17, _)]) ⟨rfl, rfl, rfl, trivial⟩ ?_
      refine ARH.dry (r := bl (decide ((Sh.len g_0.Rows) = g_0.N))) rfl (fun _ => aop_pick rfl rfl rfl) ?_
      refine ARH.dry (r := bl (decide ((Sh.len g_0.Rows) = g_0.N))) rfl (fun _ => aop_move (.inl rfl) rfl) ?_
      rcases Bool.eq_false_or_eq_true (decide ((Sh.len g_0.Rows) = g_0.N)) with hb16 | hb16
      · rw [hb16]
        replace h := Sh.if_t h hb16
        refine ARH.op rfl rfl (aop_field_ref rfl rfl rfl fd24_1 (by decide)) ?_
        refine ARH.drop (frx := [(1, _), (19, _), (20, _)]) ⟨rfl, rfl, rfl, trivial⟩ ?_
        refine ARH.op (r := .sl (List.map u64 g_0.Rows)) rfl rfl (aop_load_ref rfl rfl rfl rfl sz22 rfl) ?_
        obtain ⟨r17, hr17, h⟩ := Sh.bind_some' h
        refine ARH.op (r := u64 r17) rfl rfl (aop_call1 rfl rfl (by simp) (bits_Join_ok hT hr17)) ?_
        refine ARH.op rfl rfl (aop_field_ref rfl rfl rfl fd24_0 (by decide)) ?_
        refine ARH.drop (frx := [(19, _), (22, _), (23, _)]) ⟨rfl, rfl, rfl, trivial⟩ ?_
        refine ARH.op (r := i64 g_0.N) rfl rfl (aop_load_ref rfl rfl rfl rfl sz3 rfl) ?_
        obtain ⟨r18, hr18, h⟩ := Sh.bind_some' h
        refine ARH.op (r := u64 r18) rfl rfl (aop_call1 rfl rfl (by simp) (graph_nodes_ok hT hr18)) ?_
        obtain ⟨r19, hr19, h⟩ := Sh.bind_some' h
        refine ARH.op (r := bl r19) rfl rfl (aop_call1 rfl rfl (by simp) (bits_Sub_ok hT hr19)) ?_
        refine ARH.drop (frx := [(19, _), (26, _)]) ⟨rfl, rfl, trivial⟩ ?_
        refine ARH.dry (r := bl r19) rfl (fun _ => aop_pick rfl rfl rfl) ?_
        refine ARH.dry (r := bl r19) rfl (fun _ => aop_move (.inr rfl) rfl) ?_
        refine ARH.nil ?_
        refine hK2 _ (AWP.weak (Weak.re (fr' := [(2, bl r19)]) (H' := .empty) [] [] rfl rfl rfl (trivial) ⟨⟨_, rfl, .same _ (by simp)⟩, trivial⟩) ?_)
        clear hK2 K2
        refine awp_ret ?_
        obtain rfl := Option.some.inj h
        refine ⟨.inr rfl, bl r19, rfl, ?_⟩
        exact Weak.re [] [] rfl rfl rfl (trivial) ⟨⟨_, rfl, .same _ (by simp)⟩, trivial⟩
      · rw [hb16]
        replace h := Sh.if_f h hb16
        refine ARH.skip rfl ?_
        refine ARH.drop (frx := [(1, _), (19, _), (20, _)]) ⟨rfl, rfl, rfl, trivial⟩ ?_
        refine ARH.skip rfl ?_
        refine ARH.skip rfl ?_
        refine ARH.skip rfl ?_
        refine ARH.drop (frx := [(19, _), (22, _), (23, _)]) ⟨rfl, rfl, rfl, trivial⟩ ?_
        refine ARH.skip rfl ?_
        refine ARH.skip rfl ?_
        refine ARH.skip rfl ?_
        refine ARH.drop (frx := [(19, _), (26, _)]) ⟨rfl, rfl, trivial⟩ ?_
        refine ARH.dry (r := bl false) rfl (fun _ => aop_pick rfl rfl rfl) ?_
        refine ARH.dry (r := bl false) rfl (fun _ => aop_move (.inr rfl) rfl) ?_
        refine ARH.nil ?_
        refine hK2 _ (AWP.weak (Weak.re (fr' := [(2, bl false)]) (H' := .empty) [] [] rfl rfl rfl (trivial) ⟨⟨_, rfl, .same _ (by simp)⟩, trivial⟩) ?_)
        clear hK2 K2
        refine awp_ret ?_
        obtain rfl := Option.some.inj h
        refine ⟨.inr rfl, bl false, rfl, ?_⟩
        exact Weak.re [] [] rfl rfl rfl (trivial) ⟨⟨_, rfl, .same _ (by simp)⟩, trivial⟩
    · rw [hb15]
      replace h := Sh.if_f h hb15
      refine ARH.skip rfl ?_
      refine ARH.skip rfl ?_
      refine ARH.skip rfl ?_
      refine ARH.drop (frx := [(1, _), (11, _), (14, _)]) ⟨rfl, rfl, rfl, trivial⟩ ?_
      refine ARH.skip rfl ?_
      refine ARH.skip rfl ?_
      refine ARH.skip rfl ?_
      refine ARH.drop (frx := [(1, _), (11, _), (17, _)]) ⟨rfl, rfl, rfl, trivial⟩ ?_
      refine ARH.dry (r := bl false) rfl (fun _ => aop_pick rfl rfl rfl) ?_
      refine ARH.dry (r := bl false) rfl (fun _ => aop_move (.inl rfl) rfl) ?_
      refine ARH.skip rfl ?_
      refine ARH.drop (frx := [(1, _), (19, _), (20, _)]) ⟨rfl, rfl, rfl, trivial⟩ ?_
      refine ARH.skip rfl ?_
      refine ARH.skip rfl ?_
      refine ARH.skip rfl ?_
      refine ARH.drop (frx := [(19, _), (22, _), (23, _)]) ⟨rfl, rfl, rfl, trivial⟩ ?_
      refine ARH.skip rfl ?_
      refine ARH.skip rfl ?_
      refine ARH.skip rfl ?_
      refine ARH.drop (frx := [(19, _), (26, _)]) ⟨rfl, rfl, trivial⟩ ?_
      refine ARH.dry (r := bl false) rfl (fun _ => aop_pick rfl rfl rfl) ?_
      refine ARH.dry (r := bl false) rfl (fun _ => aop_move (.inr rfl) rfl) ?_
      refine ARH.nil ?_
      refine hK2 _ (AWP.weak (Weak.re (fr' := [(2, bl false)]) (H' := .empty) [] [] rfl rfl rfl (trivial) ⟨⟨_, rfl, .same _ (by simp)⟩, trivial⟩) ?_)
      clear hK2 K2
      refine awp_ret ?_
      obtain rfl := Option.some.inj h
      refine ⟨.inr rfl, bl false, rfl, ?_⟩
      exact Weak.re [] [] rfl rfl rfl (trivial) ⟨⟨_, rfl, .same _ (by simp)⟩, trivial⟩
  · rw [hb14]
    replace h := Sh.if_f h hb14
    refine ARH.skip rfl ?_
    refine ARH.skip rfl ?_
    refine ARH.drop (frx := [(1, _), (6, _), (8, _)]) ⟨rfl, rfl, rfl, trivial⟩ ?_
    refine ARH.skip rfl ?_
    refine ARH.dry (r := bl false) rfl (fun _ => aop_pick rfl rfl rfl) ?_
    refine ARH.dry (r := bl false) rfl (fun _ => aop_move (.inl rfl) rfl) ?_
    refine ARH.drop (frx := [(1, _), (11, _)]) ⟨rfl, rfl, trivial⟩ ?_
    refine ARH.skip rfl ?_
    refine ARH.skip rfl ?_
    refine ARH.skip rfl ?_
    refine ARH.drop (frx := [(1, _), (11, _), (14, _)]) ⟨rfl, rfl, rfl, trivial⟩ ?_
    refine ARH.skip rfl ?_
    refine ARH.skip rfl ?_
    refine ARH.skip rfl ?_
    refine ARH.drop (frx := [(1, _), (11, _), (17, _)]) ⟨rfl, rfl, rfl, trivial⟩ ?_
    refine ARH.dry (r := bl false) rfl (fun _ => aop_pick rfl rfl rfl) ?_
    refine ARH.dry (r := bl false) rfl (fun _ => aop_move (.inl rfl) rfl) ?_
    refine ARH.skip rfl ?_
    refine ARH.drop (frx := [(1, _), (19, _), (20, _)]) ⟨rfl, rfl, rfl, trivial⟩ ?_
    refine ARH.skip rfl ?_
    refine ARH.skip rfl ?_
    refine ARH.skip rfl ?_
    refine ARH.drop (frx := [(19, _), (22, _), (23, _)]) ⟨rfl, rfl, rfl, trivial⟩ ?_
    refine ARH.skip rfl ?_
    refine ARH.skip rfl ?_
    refine ARH.skip rfl ?_
    refine ARH.drop (frx := [(19, _), (26, _)]) ⟨rfl, rfl, trivial⟩ ?_
    refine ARH.dry (r := bl false) rfl (fun _ => aop_pick rfl rfl rfl) ?_
    refine ARH.dry (r := bl false) rfl (fun _ => aop_move (.inr rfl) rfl) ?_
    refine ARH.nil ?_
    refine hK2 _ (AWP.weak (Weak.re (fr' := [(2, bl false)]) (H' := .empty) [] [] rfl rfl rfl (trivial) ⟨⟨_, rfl, .same _ (by simp)⟩, trivial⟩) ?_)
    clear hK2 K2
    refine awp_ret ?_
    obtain rfl := Option.some.inj h
    refine ⟨.inr rfl, bl false, rfl, ?_⟩
    exact Weak.re [] [] rfl rfl rfl (trivial) ⟨⟨_, rfl, .same _ (by simp)⟩, trivial⟩
theorem graph_Right_ok {W0 : World} (hT : Tab W0) {g_0 : G.graph_Graph} {r : Bool} (h : G.graph_Right g_0 = some r) : Fun1 Tryd.prog W0 30 [G.graph_Graph.av g_0] (bl r) := Fun1.two (graph_Right_ok0 hT h) (by simp)


set_option maxHeartbeats 8000000 in
set_option maxRecDepth 20000 in
theorem graph_Has_ok0 {W0 : World} (hT : Tab W0) {g_0 : G.graph_Graph} {a_1 : Int} {b_2 : Int} {r : Bool} (h : G.graph_Has g_0 a_1 b_2 = some r) : Fun2 Tryd.prog W0 19 [G.graph_Graph.av g_0, i64 a_1, i64 b_2] (bl r) .empty := by
  refine fun2_of_awp Tryd.func19 rfl (by kernel_rfl) Tryd.ntmps19 (by simp) ?_
  unfold G.graph_Has at h
  show AWP _ _ _ _ ⟨[(0, G.graph_Graph.av g_0), (1, i64 a_1), (2, i64 b_2)], .empty⟩ _
  refine awp_seqK fun K1 hK1 => ?_
  refine awp_reg rfl ?_
  refine AR.op (r := .ref 0 0 0) rfl (aop_box 2 [G.graph_Graph.av g_0] rfl rfl rfl (.inl ⟨rfl, rfl⟩)) ?_
  refine AR.op (r := bl false) rfl (aop_move (.inr rfl) rfl) ?_
  refine AR.nil ?_
  refine hK1 _ (AWP.weak (Weak.re (fr' := [(1, i64 a_1), (2, i64 b_2), (3, .ref 0 0 0)]) (H' := ⟨1, [(0, (2, [G.graph_Graph.av g_0]))]⟩) [(0, 0)] [] rfl rfl rfl (.cons rfl rfl (.one (.same _ (by simp)) rfl) (of_decide_eq_true rfl) (trivial)) ⟨⟨_, rfl, .same _ (by simp)⟩, ⟨_, rfl, .same _ (by simp)⟩, ⟨_, rfl, .ref rfl⟩, trivial⟩) ?_)
  clear hK1 K1
  refine awp_seqK fun K2 hK2 => ?_
  refine awp_reg rfl ?_
  refine AR.op (r := G.graph_Graph.av g_0) rfl (aop_load_ref rfl rfl rfl rfl sz24 rfl) ?_
  obtain ⟨r16, hr16, h⟩ := Sh.bind_some' h
  refine AR.op (r := bl r16) rfl (aop_call1 rfl rfl (by simp) (graph_Right_ok hT hr16)) ?_
  refine AR.op (r := bl r16) rfl (aop_move (.inl rfl) rfl) ?_
  refine AR.drop (frx := [(1, _), (2, _), (3, _), (9, _)]) ⟨rfl, rfl, rfl, rfl, trivial⟩ ?_
  rcases Bool.eq_false_or_eq_true (r16) with hb17 | hb17
  · rw [hb17]
    replace h := Sh.if_t h hb17
    refine AR.op (r := i64 a_1) rfl (aop_move (.inl rfl) rfl) ?_
    refine AR.op (r := bl (decide ((0 : Int) ≤ a_1))) rfl (aop_geq rfl rfl rfl) ?_
    refine AR.op (r := bl (decide ((0 : Int) ≤ a_1))) rfl (aop_pick rfl rfl rfl) ?_
    refine AR.drop (frx := [(1, _), (2, _), (3, _), (12, _)]) ⟨rfl, rfl, rfl, rfl, trivial⟩ ?_
    refine AR.op (r := bl (decide ((0 : Int) ≤ a_1))) rfl (aop_move (.inl rfl) rfl) ?_
    rcases Bool.eq_false_or_eq_true (decide ((0 : Int) ≤ a_1)) with hb18 | hb18
    · rw [hb18]
      replace h := Sh.if_t h hb18
      refine AR.op (r := i64 a_1) rfl (aop_move (.inl rfl) rfl) ?_
      refine AR.op rfl (aop_field_ref rfl rfl rfl fd24_0 (by decide)) ?_
      refine AR.drop (frx := [(1, _), (2, _), (3, _), (13, _), (14, _), (15, _)]) ⟨rfl, rfl, rfl, rfl, rfl, rfl, trivial⟩ ?_
      refine AR.op (r := i64 g_0.N) rfl (aop_load_ref rfl rfl rfl rfl sz3 rfl) ?_
      refine AR.op (r := bl (decide (a_1 < g_0.N))) rfl (aop_lss rfl rfl rfl) ?_
      refine AR.op (r := bl (decide (a_1 < g_0.N))) rfl (aop_pick rfl rfl rfl) ?_
      refine AR.drop (frx := [(1, _), (2, _), (3, _), (18, _)]) ⟨rfl, rfl, rfl, rfl, trivial⟩ ?_
      refine AR.op (r := bl (decide (a_1 < g_0.N))) rfl (aop_move (.inl rfl) rfl) ?_
      rcases Bool.eq_false_or_eq_true (decide (a_1 < g_0.N)) with hb19 | hb19
      · rw [hb19]
        replace h := Sh.if_t h hb19
        refine AR.op rfl (aop_field_ref rfl rfl rfl fd24_1 (by decide)) ?_
        refine AR.op (r := .sl (List.map u64 g_0.Rows)) rfl (aop_load_ref rfl rfl rfl rfl sz22 rfl) ?_
        refine AR.drop (frx := [(1, _), (2, _), (19, _), (21, _)]) ⟨rfl, rfl, rfl, rfl, trivial⟩ ?_
        refine AR.op (r := i64 a_1) rfl (aop_move (.inl rfl) rfl) ?_
        obtain ⟨x20, hx20, h⟩ := Sh.bind_some' h
        obtain ⟨k21, hi21, hl21⟩ := Sh.idx_some hx20
        refine AR.op rfl (t_index_sl u64 g_0.Rows hi21 hl21 rfl rfl rfl el22 rfl) ?_
        refine AR.op (r := u64 x20) rfl (aop_load_pp rfl rfl sz35 rfl) ?_
        refine AR.drop (frx := [(2, _), (19, _), (24, _)]) ⟨rfl, rfl, rfl, trivial⟩ ?_
        refine AR.op (r := i64 b_2) rfl (aop_move (.inl rfl) rfl) ?_
        obtain ⟨r22, hr22, h⟩ := Sh.bind_some' h
        refine AR.op (r := bl r22) rfl (aop_call1 rfl rfl (by simp) (bits_Has_ok hT hr22)) ?_
        refine AR.op (r := bl r22) rfl (aop_pick rfl rfl rfl) ?_
        refine AR.drop (frx := [(27, _)]) ⟨rfl, trivial⟩ ?_
        refine AR.op (r := bl r22) rfl (aop_move (.inr rfl) rfl) ?_
        refine AR.nil ?_
        refine hK2 _ (AWP.weak (Weak.re (fr' := [(6, bl r22)]) (H' := .empty) [] [] rfl rfl rfl (trivial) ⟨⟨_, rfl, .same _ (by simp)⟩, trivial⟩) ?_)
        clear hK2 K2
        refine awp_ret ?_
        obtain rfl := Option.some.inj h
        refine ⟨.inr rfl, bl r22, rfl, ?_⟩
        exact Weak.re [] [] rfl rfl rfl (trivial) ⟨⟨_, rfl, .same _ (by simp)⟩, trivial⟩
      · rw [hb19]
        replace h := Sh.if_f h hb19
        refine AR.skip rfl ?_
        refine AR.skip rfl ?_
        refine AR.drop (frx := [(1, _), (2, _), (19, _), (21, _)]) ⟨rfl, rfl, rfl, rfl, trivial⟩ ?_
        refine AR.skip rfl ?_
        refine AR.skip rfl ?_
        refine AR.skip rfl ?_
        refine AR.drop (frx := [(2, _), (19, _), (24, _)]) ⟨rfl, rfl, rfl, trivial⟩ ?_
        refine AR.skip rfl ?_
        refine AR.skip rfl ?_
        refine AR.op (r := bl false) rfl (aop_pick rfl rfl rfl) ?_
        refine AR.drop (frx := [(27, _)]) ⟨rfl, trivial⟩ ?_
        refine AR.op (r := bl false) rfl (aop_move (.inr rfl) rfl) ?_
        refine AR.nil ?_
        refine hK2 _ (AWP.weak (Weak.re (fr' := [(6, bl false)]) (H' := .empty) [] [] rfl rfl rfl (trivial) ⟨⟨_, rfl, .same _ (by simp)⟩, trivial⟩) ?_)
        clear hK2 K2
        refine awp_ret ?_
        obtain rfl := Option.some.inj h
        refine ⟨.inr rfl, bl false, rfl, ?_⟩
        exact Weak.re [] [] rfl rfl rfl (trivial) ⟨⟨_, rfl, .same _ (by simp)⟩, trivial⟩
    · rw [hb18]
      replace h := Sh.if_f h hb18
      refine AR.skip rfl ?_
      refine AR.skip rfl ?_
      refine AR.drop (frx := [(1, _), (2, _), (3, _), (13, _), (14, _), (15, _)]) ⟨rfl, rfl, rfl, rfl, rfl, rfl, trivial⟩ ?_
      refine AR.skip rfl ?_
      refine AR.skip rfl ?_
      refine AR.op (r := bl false) rfl (aop_pick rfl rfl rfl) ?_
      refine AR.drop (frx := [(1, _), (2, _), (3, _), (18, _)]) ⟨rfl, rfl, rfl, rfl, trivial⟩ ?_
      refine AR.op (r := bl false) rfl (aop_move (.inl rfl) rfl) ?_
      refine AR.skip rfl ?_
      refine AR.skip rfl ?_
      refine AR.drop (frx := [(1, _), (2, _), (19, _), (21, _)]) ⟨rfl, rfl, rfl, rfl, trivial⟩ ?_
      refine AR.skip rfl ?_
      refine AR.skip rfl ?_
      refine AR.skip rfl ?_
      refine AR.drop (frx := [(2, _), (19, _), (24, _)]) ⟨rfl, rfl, rfl, trivial⟩ ?_
      refine AR.skip rfl ?_
      refine AR.skip rfl ?_
      refine AR.op (r := bl false) rfl (aop_pick rfl rfl rfl) ?_
      refine AR.drop (frx := [(27, _)]) ⟨rfl, trivial⟩ ?_
      refine AR.op (r := bl false) rfl (aop_move (.inr rfl) rfl) ?_
      refine AR.nil ?_
      refine hK2 _ (AWP.weak (Weak.re (fr' := [(6, bl false)]) (H' := .empty) [] [] rfl rfl rfl (trivial) ⟨⟨_, rfl, .same _ (by simp)⟩, trivial⟩) ?_)
      clear hK2 K2
      refine awp_ret ?_
      obtain rfl := Option.some.inj h
      refine ⟨.inr rfl, bl false, rfl, ?_⟩
      exact Weak.re [] [] rfl rfl rfl (trivial) ⟨⟨_, rfl, .same _ (by simp)⟩, trivial⟩
  · rw [hb17]
    replace h := Sh.if_f h hb17
    refine AR.skip rfl ?_
    refine AR.skip rfl ?_
    refine AR.op (r := bl false) rfl (aop_pick rfl rfl rfl) ?_
    refine AR.drop (frx := [(1, _), (2, _), (3, _), (12, _)]) ⟨rfl, rfl, rfl, rfl, trivial⟩ ?_
    refine AR.op (r := bl false) rfl (aop_move (.inl rfl) rfl) ?_
    refine AR.skip rfl ?_
    refine AR.skip rfl ?_
    refine AR.drop (frx := [(1, _), (2, _), (3, _), (13, _), (14, _), (15, _)]) ⟨rfl, rfl, rfl, rfl, rfl, rfl, trivial⟩ ?_
    refine AR.skip rfl ?_
    refine AR.skip rfl ?_
    refine AR.op (r := bl false) rfl (aop_pick rfl rfl rfl) ?_
    refine AR.drop (frx := [(1, _), (2, _), (3, _), (18, _)]) ⟨rfl, rfl, rfl, rfl, trivial⟩ ?_
    refine AR.op (r := bl false) rfl (aop_move (.inl rfl) rfl) ?_
    refine AR.skip rfl ?_
    refine AR.skip rfl ?_
    refine AR.drop (frx := [(1, _), (2, _), (19, _), (21, _)]) ⟨rfl, rfl, rfl, rfl, trivial⟩ ?_
    refine AR.skip rfl ?_
    refine AR.skip rfl ?_
    refine AR.skip rfl ?_
    refine AR.drop (frx := [(2, _), (19, _), (24, _)]) ⟨rfl, rfl, rfl, trivial⟩ ?_
    refine AR.skip rfl ?_
    refine AR.skip rfl ?_
    refine AR.op (r := bl false) rfl (aop_pick rfl rfl rfl) ?_
    refine AR.drop (frx := [(27, _)]) ⟨rfl, trivial⟩ ?_
    refine AR.op (r := bl false) rfl (aop_move (.inr rfl) rfl) ?_
    refine AR.nil ?_
    refine hK2 _ (AWP.weak (Weak.re (fr' := [(6, bl false)]) (H' := .empty) [] [] rfl rfl rfl (trivial) ⟨⟨_, rfl, .same _ (by simp)⟩, trivial⟩) ?_)
    clear hK2 K2
    refine awp_ret ?_
    obtain rfl := Option.some.inj h
    refine ⟨.inr rfl, bl false, rfl, ?_⟩
    exact Weak.re [] [] rfl rfl rfl (trivial) ⟨⟨_, rfl, .same _ (by simp)⟩, trivial⟩
theorem graph_Has_ok {W0 : World} (hT : Tab W0) {g_0 : G.graph_Graph} {a_1 : Int} {b_2 : Int} {r : Bool} (h : G.graph_Has g_0 a_1 b_2 = some r) : Fun1 Tryd.prog W0 19 [G.graph_Graph.av g_0, i64 a_1, i64 b_2] (bl r) := Fun1.two (graph_Has_ok0 hT h) (by simp)


set_option maxHeartbeats 8000000 in
set_option maxRecDepth 20000 in
theorem graph_New_own {W0 : World} (hT : Tab W0) {n_0 : Int} {r : G.graph_Graph × Int} (h : G.graph_New n_0 = some r) : Fun2 Tryd.prog W0 43 [i64 n_0] (.tuple [.agg [i64 r.1.N, .view 0 0 (List.map u64 r.1.Rows).length], i64 r.2]) ⟨1, [(0, (1, List.map u64 r.1.Rows))]⟩ := by
  refine fun2_of_awp Tryd.func43 rfl (by kernel_rfl) Tryd.ntmps43 (by simp) ?_
  unfold G.graph_New at h
  show AWP _ _ _ _ ⟨[(0, i64 n_0)], .empty⟩ _
  refine awp_seqK fun K1 hK1 => ?_
  refine awp_reg rfl ?_
  refine AR.op (r := .ref 0 0 0) rfl (aop_alloc 2 [.agg [i64 0, nilS]] rfl zr24 (by kernel_rfl) (.inl ⟨rfl, rfl⟩)) ?_
  refine AR.op (r := i64 0) rfl (aop_move (.inr rfl) rfl) ?_
  refine AR.nil ?_
  refine hK1 _ (AWP.weak (Weak.re (fr' := [(0, i64 n_0), (2, .ref 0 0 0)]) (H' := ⟨1, [(0, (2, [.agg [i64 0, nilS]]))]⟩) [(0, 0)] [] rfl rfl rfl (.cons rfl rfl (.one (.same _ (by simp)) rfl) (of_decide_eq_true rfl) (trivial)) ⟨⟨_, rfl, .same _ (by simp)⟩, ⟨_, rfl, .ref rfl⟩, trivial⟩) ?_)
  clear hK1 K1
  refine awp_seqK fun K2 hK2 => ?_
  refine awp_seqJ (fun (p : Bool) => (⟨[(0, i64 n_0), (2, .ref 0 0 0), (9, bl p)], ⟨1, [(0, (2, [.agg [i64 0, nilS]]))]⟩⟩ : St)) (fun (p : Bool) => G.graph_New_j1 n_0 p = some r) ?_ ?_
  · rintro v7 h
    replace h : G.graph_New_j1 n_0 v7 = some r := h
    unfold G.graph_New_j1 at h
    show AWP _ _ _ _ ⟨[(0, i64 n_0), (2, .ref 0 0 0), (9, bl v7)], ⟨1, [(0, (2, [.agg [i64 0, nilS]]))]⟩⟩ _
    refine awp_cond rfl (fun hb8 => ?_) (fun hb8 => ?_)
    · replace h := Sh.if_t h hb8
      refine awp_seqK fun K3 hK3 => ?_
      refine awp_reg rfl ?_
      refine AR.op (r := .agg [i64 0, nilS]) rfl (aop_build rfl bd24 rfl rfl rfl) ?_
      refine AR.op rfl (aop_store (e' := .agg [i64 0, nilS]) rfl rfl rfl rfl rfl rfl sz24 rfl (of_decide_eq_true rfl) rfl) ?_
      refine AR.op (r := i64 1) rfl (aop_move (.inr rfl) rfl) ?_
      refine AR.nil ?_
      refine hK3 _ (AWP.weak (Weak.re (fr' := [(2, .ref 0 0 0), (3, i64 1)]) (H' := ⟨1, [(0, (2, [.agg [i64 0, nilS]]))]⟩) [(0, 0)] [] rfl rfl rfl (.cons rfl rfl (.one (.same _ (by simp)) rfl) (of_decide_eq_true rfl) (trivial)) ⟨⟨_, rfl, .ref rfl⟩, ⟨_, rfl, .same _ (by simp)⟩, trivial⟩) ?_)
      clear hK3 K3
      refine awp_ret ?_
      obtain rfl := Option.some.inj h
      refine ⟨.inr rfl, .tuple [.agg [i64 0, nilS], i64 1], rfl, ?_⟩
      exact Weak.re [] [0] rfl rfl rfl (.fresh (by simp) (of_decide_eq_true rfl) (trivial)) ⟨⟨.tuple [.agg [i64 0, nilS], i64 1], rfl, .tp ⟨.ag ⟨.same _ (by simp), .nil (by simp), trivial⟩, .same _ (by simp), trivial⟩⟩, trivial⟩
    · replace h := Sh.if_f h hb8
      refine awp_skip ?_
      refine hK2 _ (AWP.weak (Weak.re (fr' := [(0, i64 n_0), (2, .ref 0 0 0)]) (H' := ⟨1, [(0, (2, [.agg [i64 0, nilS]]))]⟩) [(0, 0)] [] rfl rfl rfl (.cons rfl rfl (.one (.same _ (by simp)) rfl) (of_decide_eq_true rfl) (trivial)) ⟨⟨_, rfl, .same _ (by simp)⟩, ⟨_, rfl, .ref rfl⟩, trivial⟩) ?_)
      clear hK2 K2
      refine awp_seqK fun K4 hK4 => ?_
      refine awp_reg rfl ?_
      refine AR.op (r := i64 n_0) rfl (aop_move (.inl rfl) rfl) ?_
      refine AR.op (r := i64 n_0) rfl (aop_move (.inl rfl) rfl) ?_
      obtain ⟨made10, hmade10, h⟩ := Sh.bind_some' h
      refine AR.op (r := .view 1 0 (List.map u64 made10).length) rfl (t_make u64 0#64 made10 hmade10 rfl rfl rfl el22 zv22 rfl rfl rfl) ?_
      refine AR.drop (frx := [(2, _), (11, _), (13, _)]) ⟨rfl, rfl, rfl, trivial⟩ ?_
      refine AR.op (r := .agg [i64 n_0, .view 1 0 (List.map u64 made10).length]) rfl (aop_build rfl bd24 rfl rfl rfl) ?_
      refine AR.op rfl (aop_store (e' := .agg [i64 n_0, .view 1 0 (List.map u64 made10).length]) rfl rfl rfl rfl rfl rfl sz24 rfl (of_decide_eq_true rfl) rfl) ?_
      refine AR.op (r := i64 0) rfl (aop_move (.inr rfl) rfl) ?_
      refine AR.nil ?_
      refine hK4 _ (AWP.weak (Weak.re (fr' := [(2, .ref 0 0 0), (3, i64 0)]) (H' := ⟨2, [(0, (2, [.agg [i64 n_0, .view 1 0 (List.map u64 made10).length]])), (1, (1, List.map u64 made10))]⟩) [(0, 0), (1, 1)] [] rfl rfl rfl (.cons rfl rfl (.one (.ag ⟨.same _ (by simp), .view rfl, trivial⟩) rfl) (of_decide_eq_true rfl) (.cons rfl rfl (.same (by simp)) (of_decide_eq_true rfl) (trivial))) ⟨⟨_, rfl, .ref rfl⟩, ⟨_, rfl, .same _ (by simp)⟩, trivial⟩) ?_)
      clear hK4 K4
      refine awp_ret ?_
      obtain rfl := Option.some.inj h
      refine ⟨.inr rfl, .tuple [.agg [i64 n_0, .view 1 0 (List.map u64 made10).length], i64 0], rfl, ?_⟩
      exact Weak.re [(0, 1)] [] rfl rfl rfl (.cons rfl rfl (.same (by simp)) (of_decide_eq_true rfl) (trivial)) ⟨⟨.tuple [.agg [i64 n_0, .view 1 0 (List.map u64 made10).length], i64 0], rfl, .tp ⟨.ag ⟨.same _ (by simp), .view rfl, trivial⟩, .same _ (by simp), trivial⟩⟩, trivial⟩
  · intro K5 hK5
    refine awp_reg rfl ?_
    refine AR.op (r := i64 n_0) rfl (aop_move (.inl rfl) rfl) ?_
    refine AR.op (r := bl (decide (n_0 < 0))) rfl (aop_lss rfl rfl rfl) ?_
    refine AR.op (r := bl (decide (n_0 < 0))) rfl (aop_move (.inl rfl) rfl) ?_
    refine AR.drop (frx := [(0, _), (2, _), (6, _)]) ⟨rfl, rfl, rfl, trivial⟩ ?_
    rcases Bool.eq_false_or_eq_true (decide (n_0 < 0)) with hb11 | hb11
    · rw [hb11]
      replace h := Sh.if_t h hb11
      refine AR.skip rfl ?_
      refine AR.skip rfl ?_
      refine AR.op (r := bl true) rfl (aop_pick rfl rfl rfl) ?_
      refine AR.nil ?_
      exact hK5 true _ h (Weak.re (fr' := [(0, i64 n_0), (2, .ref 0 0 0), (9, bl true)]) (H' := ⟨1, [(0, (2, [.agg [i64 0, nilS]]))]⟩) [(0, 0)] [] rfl rfl rfl (.cons rfl rfl (.one (.same _ (by simp)) rfl) (of_decide_eq_true rfl) (trivial)) ⟨⟨_, rfl, .same _ (by simp)⟩, ⟨_, rfl, .ref rfl⟩, ⟨_, rfl, .same _ (by simp)⟩, trivial⟩)
    · rw [hb11]
      replace h := Sh.if_f h hb11
      refine AR.op (r := i64 n_0) rfl (aop_move (.inl rfl) rfl) ?_
      refine AR.op (r := bl (decide ((64 : Int) < n_0))) rfl (aop_gtr rfl rfl rfl) ?_
      refine AR.op (r := bl (decide ((64 : Int) < n_0))) rfl (aop_pick rfl rfl rfl) ?_
      refine AR.nil ?_
      exact hK5 (decide ((64 : Int) < n_0)) _ h (Weak.re (fr' := [(0, i64 n_0), (2, .ref 0 0 0), (9, bl (decide ((64 : Int) < n_0)))]) (H' := ⟨1, [(0, (2, [.agg [i64 0, nilS]]))]⟩) [(0, 0)] [] rfl rfl rfl (.cons rfl rfl (.one (.same _ (by simp)) rfl) (of_decide_eq_true rfl) (trivial)) ⟨⟨_, rfl, .same _ (by simp)⟩, ⟨_, rfl, .ref rfl⟩, ⟨_, rfl, .same _ (by simp)⟩, trivial⟩)
theorem graph_New_ok {W0 : World} (hT : Tab W0) {n_0 : Int} {r : G.graph_Graph × Int} (h : G.graph_New n_0 = some r) : Fun1 Tryd.prog W0 43 [i64 n_0] (.tuple [G.graph_Graph.av r.1, i64 r.2]) :=
  (graph_New_own hT h).give (Weak.re [] [] rfl rfl rfl trivial ⟨⟨_, rfl, .tp ⟨.ag ⟨.same _ (by simp), .lendAll rfl rfl (by simp), trivial⟩, .same _ (by simp), trivial⟩⟩, trivial⟩) (by simp)


set_option maxHeartbeats 8000000 in
set_option maxRecDepth 20000 in
theorem graph_Edges_own {W0 : World} (hT : Tab W0) {g_0 : G.graph_Graph} {r : (List G.graph_Edge)} (h : G.graph_Edges g_0 = some r) : Fun2 Tryd.prog W0 57 [G.graph_Graph.av g_0] (.view 0 0 (List.map G.graph_Edge.av r).length) ⟨1, [(0, (2, List.map G.graph_Edge.av r))]⟩ := by
  refine fun2_of_awp Tryd.func57 rfl (by kernel_rfl) Tryd.ntmps57 (by simp) ?_
  unfold G.graph_Edges at h
  show AWP _ _ _ _ ⟨[(0, G.graph_Graph.av g_0)], .empty⟩ _
  refine awp_seqK fun K1 hK1 => ?_
  refine awp_reg rfl ?_
  refine AR.op (r := .ref 0 0 0) rfl (aop_box 2 [G.graph_Graph.av g_0] rfl rfl rfl (.inl ⟨rfl, rfl⟩)) ?_
  refine AR.op (r := nilS) rfl (aop_move (.inr rfl) rfl) ?_
  refine AR.nil ?_
  refine hK1 _ (AWP.weak (Weak.re (fr' := [(1, .ref 0 0 0)]) (H' := ⟨1, [(0, (2, [G.graph_Graph.av g_0]))]⟩) [(0, 0)] [] rfl rfl rfl (.cons rfl rfl (.one (.same _ (by simp)) rfl) (of_decide_eq_true rfl) (trivial)) ⟨⟨_, rfl, .ref rfl⟩, trivial⟩) ?_)
  clear hK1 K1
  refine awp_seqK fun K2 hK2 => ?_
  refine awp_seqK fun K3 hK3 => ?_
  refine awp_reg rfl ?_
  refine AR.op (r := G.graph_Graph.av g_0) rfl (aop_load_ref rfl rfl rfl rfl sz24 rfl) ?_
  obtain ⟨r56, hr56, h⟩ := Sh.bind_some' h
  refine AR.op (r := bl r56) rfl (aop_call1 rfl rfl (by simp) (graph_Right_ok hT hr56)) ?_
  refine AR.op (r := bl (!r56)) rfl (aop_not rfl rfl) ?_
  refine AR.nil ?_
  refine hK3 _ (AWP.weak (Weak.re (fr' := [(1, .ref 0 0 0), (10, bl (!r56))]) (H' := ⟨1, [(0, (2, [G.graph_Graph.av g_0]))]⟩) [(0, 0)] [] rfl rfl rfl (.cons rfl rfl (.one (.same _ (by simp)) rfl) (of_decide_eq_true rfl) (trivial)) ⟨⟨_, rfl, .ref rfl⟩, ⟨_, rfl, .same _ (by simp)⟩, trivial⟩) ?_)
  clear hK3 K3
  refine awp_cond rfl (fun hb57 => ?_) (fun hb57 => ?_)
  · replace h := Sh.if_t h hb57
    refine awp_seqK fun K4 hK4 => ?_
    refine awp_reg rfl ?_
    refine AR.op (r := nilS) rfl (aop_move (.inr rfl) rfl) ?_
    refine AR.nil ?_
    refine hK4 _ (AWP.weak (Weak.re (fr' := [(2, nilS)]) (H' := .empty) [] [] rfl rfl rfl (trivial) ⟨⟨_, rfl, .same _ (by simp)⟩, trivial⟩) ?_)
    clear hK4 K4
    refine awp_ret ?_
    obtain rfl := Option.some.inj h
    refine ⟨.inr rfl, nilS, rfl, ?_⟩
    exact Weak.re [] [0] rfl rfl rfl (.fresh (by simp) (of_decide_eq_true rfl) (trivial)) ⟨⟨_, rfl, .nil (by simp)⟩, trivial⟩
  · replace h := Sh.if_f h hb57
    refine awp_skip ?_
    refine hK2 _ (AWP.weak (Weak.re (fr' := [(1, .ref 0 0 0)]) (H' := ⟨1, [(0, (2, [G.graph_Graph.av g_0]))]⟩) [(0, 0)] [] rfl rfl rfl (.cons rfl rfl (.one (.same _ (by simp)) rfl) (of_decide_eq_true rfl) (trivial)) ⟨⟨_, rfl, .ref rfl⟩, trivial⟩) ?_)
    clear hK2 K2
    refine awp_seqK fun K5 hK5 => ?_
    refine awp_reg rfl ?_
    refine AR.op (r := nilS) rfl (aop_move (.inr rfl) rfl) ?_
    refine AR.nil ?_
    refine hK5 _ ?_
    clear hK5 K5
    refine awp_seqJ (fun (p : (List G.graph_Edge)) => (⟨[(3, .view 0 0 (List.map G.graph_Edge.av p).length)], ⟨1, [(0, (2, List.map G.graph_Edge.av p))]⟩⟩ : St)) (fun (p : (List G.graph_Edge)) => G.graph_Edges_j1 p = some r) ?_ ?_
    · rintro out110 h
      replace h : G.graph_Edges_j1 out110 = some r := h
      unfold G.graph_Edges_j1 at h
      show AWP _ _ _ _ ⟨[(3, .view 0 0 (List.map G.graph_Edge.av out110).length)], ⟨1, [(0, (2, List.map G.graph_Edge.av out110))]⟩⟩ _
      refine awp_seqK fun K6 hK6 => ?_
      refine awp_reg rfl ?_
      refine AR.op (r := .view 0 0 (List.map G.graph_Edge.av out110).length) rfl (aop_move (.inl rfl) rfl) ?_
      refine AR.op (r := .view 0 0 (List.map G.graph_Edge.av out110).length) rfl (aop_move (.inr rfl) rfl) ?_
      refine AR.nil ?_
      refine hK6 _ (AWP.weak (Weak.re (fr' := [(2, .view 0 0 (List.map G.graph_Edge.av out110).length)]) (H' := ⟨1, [(0, (2, List.map G.graph_Edge.av out110))]⟩) [(0, 0)] [] rfl rfl rfl (.cons rfl rfl (.same (by simp)) (of_decide_eq_true rfl) (trivial)) ⟨⟨_, rfl, .view rfl⟩, trivial⟩) ?_)
      clear hK6 K6
      refine awp_ret ?_
      obtain rfl := Option.some.inj h
      refine ⟨.inr rfl, .view 0 0 (List.map G.graph_Edge.av out110).length, rfl, ?_⟩
      exact Weak.re [(0, 0)] [] rfl rfl rfl (.cons rfl rfl (.same (by simp)) (of_decide_eq_true rfl) (trivial)) ⟨⟨_, rfl, .view rfl⟩, trivial⟩
    · intro K7 hK7
      refine awp_seqK fun K8 hK8 => ?_
      refine awp_reg rfl ?_
      refine AR.op rfl (aop_field_ref rfl rfl rfl fd24_1 (by decide)) ?_
      refine AR.op (r := .sl (List.map u64 g_0.Rows)) rfl (aop_load_ref rfl rfl rfl rfl sz22 rfl) ?_
      refine AR.op (r := i64 (Sh.len g_0.Rows)) rfl (t_len_sl u64 g_0.Rows rfl rfl el22) ?_
      refine AR.drop (frx := [(3, _), (12, _), (13, _)]) ⟨rfl, rfl, rfl, trivial⟩ ?_
      refine AR.op (r := i64 0) rfl (aop_move (.inl rfl) rfl) ?_
      refine AR.nil ?_
      refine hK8 _ (AWP.weak (Weak.re (fr' := [(3, nilS), (12, .sl (List.map u64 g_0.Rows)), (13, i64 (Sh.len g_0.Rows)), (14, i64 0)]) (H' := .empty) [] [] rfl rfl rfl (trivial) ⟨⟨_, rfl, .same _ (by simp)⟩, ⟨.sl (List.map u64 g_0.Rows), rfl, .same _ (by simp)⟩, ⟨_, rfl, .same _ (by simp)⟩, ⟨_, rfl, .same _ (by simp)⟩, trivial⟩) ?_)
      clear hK8 K8
      refine awp_block ?_
      refine awp_iter (fun (p : (List G.graph_Edge) × Int) => G.graph_Edges_b1 g_0 p.1 p.2) (fun (p : (List G.graph_Edge) × Int) => (⟨[(3, .view 0 0 (List.map G.graph_Edge.av p.1).length), (12, .sl (List.map u64 g_0.Rows)), (13, i64 (Sh.len g_0.Rows)), (14, i64 p.2)], ⟨1, [(0, (2, List.map G.graph_Edge.av p.1))]⟩⟩ : St)) h (Weak.re (fr' := [(3, .view 0 0 (List.map G.graph_Edge.av []).length), (12, .sl (List.map u64 g_0.Rows)), (13, i64 (Sh.len g_0.Rows)), (14, i64 0)]) (H' := ⟨1, [(0, (2, List.map G.graph_Edge.av []))]⟩) [] [0] rfl rfl rfl (.fresh (by simp) (of_decide_eq_true rfl) (trivial)) ⟨⟨_, rfl, .nil (by simp)⟩, ⟨.sl (List.map u64 g_0.Rows), rfl, .same _ (by simp)⟩, ⟨_, rfl, .same _ (by simp)⟩, ⟨_, rfl, .same _ (by simp)⟩, trivial⟩) ?_
      · skip
        rintro ⟨out145, v146⟩ o1 h hx1
        replace h : G.graph_Edges_b1 g_0 out145 v146 = some o1 := h
        unfold G.graph_Edges_b1 at h
        show AWP _ _ _ _ ⟨[(3, .view 0 0 (List.map G.graph_Edge.av out145).length), (12, .sl (List.map u64 g_0.Rows)), (13, i64 (Sh.len g_0.Rows)), (14, i64 v146)], ⟨1, [(0, (2, List.map G.graph_Edge.av out145))]⟩⟩ _
        refine awp_seqK fun K9 hK9 => ?_
        refine awp_reg rfl ?_
        refine AR.op (r := bl (decide (v146 < (Sh.len g_0.Rows)))) rfl (aop_lss rfl rfl rfl) ?_
        refine AR.nil ?_
        refine hK9 _ ?_
        clear hK9 K9
        refine awp_seqK fun K10 hK10 => ?_
        refine awp_cond rfl (fun hb147 => ?_) (fun hb147 => ?_)
        · replace h := Sh.if_t h hb147
          refine awp_skip ?_
          refine hK10 _ (AWP.weak (Weak.re (fr' := [(3, .view 0 0 (List.map G.graph_Edge.av out145).length), (12, .sl (List.map u64 g_0.Rows)), (13, i64 (Sh.len g_0.Rows)), (14, i64 v146)]) (H' := ⟨1, [(0, (2, List.map G.graph_Edge.av out145))]⟩) [(0, 0)] [] rfl rfl rfl (.cons rfl rfl (.same (by simp)) (of_decide_eq_true rfl) (trivial)) ⟨⟨_, rfl, .view rfl⟩, ⟨.sl (List.map u64 g_0.Rows), rfl, .same _ (by simp)⟩, ⟨_, rfl, .same _ (by simp)⟩, ⟨_, rfl, .same _ (by simp)⟩, trivial⟩) ?_)
          clear hK10 K10
          refine awp_seqJ (fun (p : (List G.graph_Edge)) => (⟨[(3, .view 0 0 (List.map G.graph_Edge.av p).length), (12, .sl (List.map u64 g_0.Rows)), (13, i64 (Sh.len g_0.Rows)), (14, i64 v146)], ⟨1, [(0, (2, List.map G.graph_Edge.av p))]⟩⟩ : St)) (fun (p : (List G.graph_Edge)) => G.graph_Edges_j2 v146 p = some o1) ?_ ?_
          · rintro out164 h
            replace h : G.graph_Edges_j2 v146 out164 = some o1 := h
            unfold G.graph_Edges_j2 at h
            show AWP _ _ _ _ ⟨[(3, .view 0 0 (List.map G.graph_Edge.av out164).length), (12, .sl (List.map u64 g_0.Rows)), (13, i64 (Sh.len g_0.Rows)), (14, i64 v146)], ⟨1, [(0, (2, List.map G.graph_Edge.av out164))]⟩⟩ _
            refine awp_reg rfl ?_
            refine AR.op (r := i64 (w64 (v146 + 1))) rfl (aop_add rfl rfl rfl rfl) ?_
            refine AR.op (r := i64 (w64 (v146 + 1))) rfl (aop_move (.inl rfl) rfl) ?_
            refine AR.nil ?_
            replace h := Sh.next_eq h
            exact ⟨_, h, Weak.re (fr' := [(3, .view 0 0 (List.map G.graph_Edge.av out164).length), (12, .sl (List.map u64 g_0.Rows)), (13, i64 (Sh.len g_0.Rows)), (14, i64 (w64 (v146 + 1)))]) (H' := ⟨1, [(0, (2, List.map G.graph_Edge.av out164))]⟩) [(0, 0)] [] rfl rfl rfl (.cons rfl rfl (.same (by simp)) (of_decide_eq_true rfl) (trivial)) ⟨⟨_, rfl, .view rfl⟩, ⟨.sl (List.map u64 g_0.Rows), rfl, .same _ (by simp)⟩, ⟨_, rfl, .same _ (by simp)⟩, ⟨_, rfl, .same _ (by simp)⟩, trivial⟩⟩
          · intro K11 hK11
            refine awp_block ?_
            refine awp_seqK fun K12 hK12 => ?_
            refine awp_reg rfl ?_
            refine AR.op (r := i64 v146) rfl (aop_move (.inl rfl) rfl) ?_
            obtain ⟨x167, hx167, h⟩ := Sh.bind_some' h
            obtain ⟨k168, hi168, hl168⟩ := Sh.idx_some hx167
            refine AR.op rfl (t_index_sl u64 g_0.Rows hi168 hl168 rfl rfl rfl el22 rfl) ?_
            refine AR.op (r := u64 x167) rfl (aop_load_pp rfl rfl sz35 rfl) ?_
            refine AR.drop (frx := [(3, _), (12, _), (13, _), (14, _), (16, _), (18, _)]) ⟨rfl, rfl, rfl, rfl, rfl, rfl, trivial⟩ ?_
            refine AR.op (r := i64 v146) rfl (aop_move (.inr rfl) rfl) ?_
            refine AR.op (r := u64 x167) rfl (aop_move (.inr rfl) rfl) ?_
            refine AR.nil ?_
            refine hK12 _ (AWP.weak (Weak.re (fr' := [(3, .view 0 0 (List.map G.graph_Edge.av out145).length), (12, .sl (List.map u64 g_0.Rows)), (13, i64 (Sh.len g_0.Rows)), (14, i64 v146), (4, i64 v146), (5, u64 x167)]) (H' := ⟨1, [(0, (2, List.map G.graph_Edge.av out145))]⟩) [(0, 0)] [] rfl rfl rfl (.cons rfl rfl (.same (by simp)) (of_decide_eq_true rfl) (trivial)) ⟨⟨_, rfl, .view rfl⟩, ⟨.sl (List.map u64 g_0.Rows), rfl, .same _ (by simp)⟩, ⟨_, rfl, .same _ (by simp)⟩, ⟨_, rfl, .same _ (by simp)⟩, ⟨_, rfl, .same _ (by simp)⟩, ⟨_, rfl, .same _ (by simp)⟩, trivial⟩) ?_)
            clear hK12 K12
            refine awp_seqK fun K13 hK13 => ?_
            refine awp_reg rfl ?_
            refine AR.op (r := u64 x167) rfl (aop_move (.inl rfl) rfl) ?_
            obtain ⟨r170, hr170, h⟩ := Sh.bind_some' h
            refine AR.op (r := .sl (List.map i64 r170)) rfl (aop_call1 rfl rfl (by simp) (bits_List_ok hT hr170)) ?_
            refine AR.op (r := i64 (Sh.len r170)) rfl (t_len_sl i64 r170 rfl rfl el25) ?_
            refine AR.drop (frx := [(3, _), (12, _), (13, _), (14, _), (4, _), (20, _), (21, _)]) ⟨rfl, rfl, rfl, rfl, rfl, rfl, rfl, trivial⟩ ?_
            refine AR.op (r := i64 0) rfl (aop_move (.inl rfl) rfl) ?_
            refine AR.nil ?_
            refine hK13 _ ?_
            clear hK13 K13
            refine awp_block ?_
            refine awp_iter (fun (p : (List G.graph_Edge) × Int) => G.graph_Edges_b2 v146 r170 p.1 p.2) (fun (p : (List G.graph_Edge) × Int) => (⟨[(3, .view 0 0 (List.map G.graph_Edge.av p.1).length), (12, .sl (List.map u64 g_0.Rows)), (13, i64 (Sh.len g_0.Rows)), (14, i64 v146), (4, i64 v146), (20, .sl (List.map i64 r170)), (21, i64 (Sh.len r170)), (22, i64 p.2)], ⟨1, [(0, (2, List.map G.graph_Edge.av p.1))]⟩⟩ : St)) h (Weak.re (fr' := [(3, .view 0 0 (List.map G.graph_Edge.av out145).length), (12, .sl (List.map u64 g_0.Rows)), (13, i64 (Sh.len g_0.Rows)), (14, i64 v146), (4, i64 v146), (20, .sl (List.map i64 r170)), (21, i64 (Sh.len r170)), (22, i64 0)]) (H' := ⟨1, [(0, (2, List.map G.graph_Edge.av out145))]⟩) [(0, 0)] [] rfl rfl rfl (.cons rfl rfl (.same (by simp)) (of_decide_eq_true rfl) (trivial)) ⟨⟨_, rfl, .view rfl⟩, ⟨.sl (List.map u64 g_0.Rows), rfl, .same _ (by simp)⟩, ⟨_, rfl, .same _ (by simp)⟩, ⟨_, rfl, .same _ (by simp)⟩, ⟨_, rfl, .same _ (by simp)⟩, ⟨.sl (List.map i64 r170), rfl, .same _ (by simp)⟩, ⟨_, rfl, .same _ (by simp)⟩, ⟨_, rfl, .same _ (by simp)⟩, trivial⟩) ?_
            · skip
              rintro ⟨out179, v180⟩ o2 h hx2
              replace h : G.graph_Edges_b2 v146 r170 out179 v180 = some o2 := h
              unfold G.graph_Edges_b2 at h
              show AWP _ _ _ _ ⟨[(3, .view 0 0 (List.map G.graph_Edge.av out179).length), (12, .sl (List.map u64 g_0.Rows)), (13, i64 (Sh.len g_0.Rows)), (14, i64 v146), (4, i64 v146), (20, .sl (List.map i64 r170)), (21, i64 (Sh.len r170)), (22, i64 v180)], ⟨1, [(0, (2, List.map G.graph_Edge.av out179))]⟩⟩ _
              refine awp_seqK fun K14 hK14 => ?_
              refine awp_reg rfl ?_
              refine AR.op (r := bl (decide (v180 < (Sh.len r170)))) rfl (aop_lss rfl rfl rfl) ?_
              refine AR.nil ?_
              refine hK14 _ ?_
              clear hK14 K14
              refine awp_seqK fun K15 hK15 => ?_
              refine awp_cond rfl (fun hb181 => ?_) (fun hb181 => ?_)
              · replace h := Sh.if_t h hb181
                refine awp_skip ?_
                refine hK15 _ (AWP.weak (Weak.re (fr' := [(3, .view 0 0 (List.map G.graph_Edge.av out179).length), (12, .sl (List.map u64 g_0.Rows)), (13, i64 (Sh.len g_0.Rows)), (14, i64 v146), (4, i64 v146), (20, .sl (List.map i64 r170)), (21, i64 (Sh.len r170)), (22, i64 v180)]) (H' := ⟨1, [(0, (2, List.map G.graph_Edge.av out179))]⟩) [(0, 0)] [] rfl rfl rfl (.cons rfl rfl (.same (by simp)) (of_decide_eq_true rfl) (trivial)) ⟨⟨_, rfl, .view rfl⟩, ⟨.sl (List.map u64 g_0.Rows), rfl, .same _ (by simp)⟩, ⟨_, rfl, .same _ (by simp)⟩, ⟨_, rfl, .same _ (by simp)⟩, ⟨_, rfl, .same _ (by simp)⟩, ⟨.sl (List.map i64 r170), rfl, .same _ (by simp)⟩, ⟨_, rfl, .same _ (by simp)⟩, ⟨_, rfl, .same _ (by simp)⟩, trivial⟩) ?_)
                clear hK15 K15
                refine awp_seqK fun K16 hK16 => ?_
                refine awp_block ?_
                refine awp_seqK fun K17 hK17 => ?_
                refine awp_reg rfl ?_
                obtain ⟨x187, hx187, h⟩ := Sh.bind_some' h
                obtain ⟨k188, hi188, hl188⟩ := Sh.idx_some hx187
                refine AR.op rfl (t_index_sl i64 r170 hi188 hl188 rfl rfl rfl el25 rfl) ?_
                refine AR.op (r := i64 x187) rfl (aop_load_pp rfl rfl sz3 rfl) ?_
                refine AR.op (r := i64 x187) rfl (aop_move (.inr rfl) rfl) ?_
                refine AR.nil ?_
                refine hK17 _ (AWP.weak (Weak.re (fr' := [(3, .view 0 0 (List.map G.graph_Edge.av out179).length), (12, .sl (List.map u64 g_0.Rows)), (13, i64 (Sh.len g_0.Rows)), (14, i64 v146), (4, i64 v146), (20, .sl (List.map i64 r170)), (21, i64 (Sh.len r170)), (22, i64 v180), (7, i64 x187)]) (H' := ⟨1, [(0, (2, List.map G.graph_Edge.av out179))]⟩) [(0, 0)] [] rfl rfl rfl (.cons rfl rfl (.same (by simp)) (of_decide_eq_true rfl) (trivial)) ⟨⟨_, rfl, .view rfl⟩, ⟨.sl (List.map u64 g_0.Rows), rfl, .same _ (by simp)⟩, ⟨_, rfl, .same _ (by simp)⟩, ⟨_, rfl, .same _ (by simp)⟩, ⟨_, rfl, .same _ (by simp)⟩, ⟨.sl (List.map i64 r170), rfl, .same _ (by simp)⟩, ⟨_, rfl, .same _ (by simp)⟩, ⟨_, rfl, .same _ (by simp)⟩, ⟨_, rfl, .same _ (by simp)⟩, trivial⟩) ?_)
                clear hK17 K17
                refine awp_reg rfl ?_
                refine AR.op (r := .view 0 0 (List.map G.graph_Edge.av out179).length) rfl (aop_move (.inl rfl) rfl) ?_
                refine AR.op (r := i64 v146) rfl (aop_move (.inl rfl) rfl) ?_
                refine AR.op (r := i64 x187) rfl (aop_move (.inl rfl) rfl) ?_
                refine AR.drop (frx := [(12, _), (13, _), (14, _), (4, _), (20, _), (21, _), (22, _), (26, _), (27, _), (28, _)]) ⟨rfl, rfl, rfl, rfl, rfl, rfl, rfl, rfl, rfl, rfl, trivial⟩ ?_
                refine AR.op (r := .agg [i64 v146, i64 x187]) rfl (aop_build rfl bd80 rfl rfl rfl) ?_
                refine AR.op (r := .clip (List.map G.graph_Edge.av ([(G.graph_Edge.mk v146 x187)] : List G.graph_Edge))) rfl (aop_buildSlice rfl (xo := [.tmp 29]) rfl rfl rfl (by simp) (by simp) el77 ze77 (by decide)) ?_
                obtain ⟨out189, hout189, h⟩ := Sh.bind_some' h
                refine AR.op (r := .view 1 0 (List.map G.graph_Edge.av out189).length) rfl (t_app_view G.graph_Edge.av out179 ([(G.graph_Edge.mk v146 x187)] : List G.graph_Edge) out189 hout189 rfl et77 (fun _ => rfl) rfl rfl rfl rfl rfl rfl rfl) ?_
                refine AR.drop (frx := [(12, _), (13, _), (14, _), (4, _), (20, _), (21, _), (22, _), (31, _)]) ⟨rfl, rfl, rfl, rfl, rfl, rfl, rfl, rfl, trivial⟩ ?_
                refine AR.op (r := .view 1 0 (List.map G.graph_Edge.av out189).length) rfl (aop_move (.inr rfl) rfl) ?_
                refine AR.nil ?_
                refine hK16 _ (AWP.weak (Weak.re (fr' := [(12, .sl (List.map u64 g_0.Rows)), (13, i64 (Sh.len g_0.Rows)), (14, i64 v146), (4, i64 v146), (20, .sl (List.map i64 r170)), (21, i64 (Sh.len r170)), (22, i64 v180), (3, .view 0 0 (List.map G.graph_Edge.av out189).length)]) (H' := ⟨1, [(0, (2, List.map G.graph_Edge.av out189))]⟩) [(0, 1)] [] rfl rfl rfl (.cons rfl rfl (.same (by simp)) (of_decide_eq_true rfl) (trivial)) ⟨⟨.sl (List.map u64 g_0.Rows), rfl, .same _ (by simp)⟩, ⟨_, rfl, .same _ (by simp)⟩, ⟨_, rfl, .same _ (by simp)⟩, ⟨_, rfl, .same _ (by simp)⟩, ⟨.sl (List.map i64 r170), rfl, .same _ (by simp)⟩, ⟨_, rfl, .same _ (by simp)⟩, ⟨_, rfl, .same _ (by simp)⟩, ⟨_, rfl, .view rfl⟩, trivial⟩) ?_)
                clear hK16 K16
                refine awp_reg rfl ?_
                refine AR.op (r := i64 (w64 (v180 + 1))) rfl (aop_add rfl rfl rfl rfl) ?_
                refine AR.op (r := i64 (w64 (v180 + 1))) rfl (aop_move (.inl rfl) rfl) ?_
                refine AR.nil ?_
                replace h := Sh.next_eq h
                exact ⟨_, h, Weak.re (fr' := [(3, .view 0 0 (List.map G.graph_Edge.av out189).length), (12, .sl (List.map u64 g_0.Rows)), (13, i64 (Sh.len g_0.Rows)), (14, i64 v146), (4, i64 v146), (20, .sl (List.map i64 r170)), (21, i64 (Sh.len r170)), (22, i64 (w64 (v180 + 1)))]) (H' := ⟨1, [(0, (2, List.map G.graph_Edge.av out189))]⟩) [(0, 0)] [] rfl rfl rfl (.cons rfl rfl (.same (by simp)) (of_decide_eq_true rfl) (trivial)) ⟨⟨_, rfl, .view rfl⟩, ⟨.sl (List.map u64 g_0.Rows), rfl, .same _ (by simp)⟩, ⟨_, rfl, .same _ (by simp)⟩, ⟨_, rfl, .same _ (by simp)⟩, ⟨_, rfl, .same _ (by simp)⟩, ⟨.sl (List.map i64 r170), rfl, .same _ (by simp)⟩, ⟨_, rfl, .same _ (by simp)⟩, ⟨_, rfl, .same _ (by simp)⟩, trivial⟩⟩
              · replace h := Sh.if_f h hb181
                refine awp_exit ?_
                replace h := Sh.exit_eq h hx2
                exact hK11 out179 _ h (Weak.re (fr' := [(3, .view 0 0 (List.map G.graph_Edge.av out179).length), (12, .sl (List.map u64 g_0.Rows)), (13, i64 (Sh.len g_0.Rows)), (14, i64 v146)]) (H' := ⟨1, [(0, (2, List.map G.graph_Edge.av out179))]⟩) [(0, 0)] [] rfl rfl rfl (.cons rfl rfl (.same (by simp)) (of_decide_eq_true rfl) (trivial)) ⟨⟨_, rfl, .view rfl⟩, ⟨.sl (List.map u64 g_0.Rows), rfl, .same _ (by simp)⟩, ⟨_, rfl, .same _ (by simp)⟩, ⟨_, rfl, .same _ (by simp)⟩, trivial⟩)
        · replace h := Sh.if_f h hb147
          refine awp_exit ?_
          replace h := Sh.exit_eq h hx1
          exact hK7 out145 _ h (Weak.re (fr' := [(3, .view 0 0 (List.map G.graph_Edge.av out145).length)]) (H' := ⟨1, [(0, (2, List.map G.graph_Edge.av out145))]⟩) [(0, 0)] [] rfl rfl rfl (.cons rfl rfl (.same (by simp)) (of_decide_eq_true rfl) (trivial)) ⟨⟨_, rfl, .view rfl⟩, trivial⟩)
theorem graph_Edges_ok {W0 : World} (hT : Tab W0) {g_0 : G.graph_Graph} {r : (List G.graph_Edge)} (h : G.graph_Edges g_0 = some r) : Fun1 Tryd.prog W0 57 [G.graph_Graph.av g_0] (.sl (List.map G.graph_Edge.av r)) :=
  (graph_Edges_own hT h).give (Weak.re [] [] rfl rfl rfl trivial ⟨⟨_, rfl, .lendAll rfl rfl (by simp)⟩, trivial⟩) (by simp)


set_option maxHeartbeats 8000000 in
set_option maxRecDepth 20000 in
theorem graph_Turn_own {W0 : World} (hT : Tab W0) {g_0 : G.graph_Graph} {r : G.graph_Graph × Int} (h : G.graph_Turn g_0 = some r) : Fun2 Tryd.prog W0 32 [G.graph_Graph.av g_0] (.tuple [.agg [i64 r.1.N, .view 0 0 (List.map u64 r.1.Rows).length], i64 r.2]) ⟨1, [(0, (1, List.map u64 r.1.Rows))]⟩ := by
  refine fun2_of_awp Tryd.func32 rfl (by kernel_rfl) Tryd.ntmps32 (by simp) ?_
  unfold G.graph_Turn at h
  show AWP _ _ _ _ ⟨[(0, G.graph_Graph.av g_0)], .empty⟩ _
  refine awp_seqK fun K1 hK1 => ?_
  refine awp_reg rfl ?_
  refine AR.op (r := .ref 0 0 0) rfl (aop_box 2 [G.graph_Graph.av g_0] rfl rfl rfl (.inl ⟨rfl, rfl⟩)) ?_
  refine AR.op (r := .ref 1 0 0) rfl (aop_alloc 2 [.agg [i64 0, nilS]] rfl zr24 (by kernel_rfl) (.inl ⟨rfl, rfl⟩)) ?_
  refine AR.op (r := i64 0) rfl (aop_move (.inr rfl) rfl) ?_
  refine AR.nil ?_
  refine hK1 _ (AWP.weak (Weak.re (fr' := [(1, .ref 0 0 0), (2, .ref 1 0 0)]) (H' := ⟨2, [(0, (2, [G.graph_Graph.av g_0])), (1, (2, [.agg [i64 0, nilS]]))]⟩) [(0, 0), (1, 1)] [] rfl rfl rfl (.cons rfl rfl (.one (.same _ (by simp)) rfl) (of_decide_eq_true rfl) (.cons rfl rfl (.one (.same _ (by simp)) rfl) (of_decide_eq_true rfl) (trivial))) ⟨⟨_, rfl, .ref rfl⟩, ⟨_, rfl, .ref rfl⟩, trivial⟩) ?_)
  clear hK1 K1
  refine awp_seqK fun K2 hK2 => ?_
  refine awp_seqK fun K3 hK3 => ?_
  refine awp_reg rfl ?_
  refine AR.op (r := G.graph_Graph.av g_0) rfl (aop_load_ref rfl rfl rfl rfl sz24 rfl) ?_
  obtain ⟨r31, hr31, h⟩ := Sh.bind_some' h
  refine AR.op (r := bl r31) rfl (aop_call1 rfl rfl (by simp) (graph_Right_ok hT hr31)) ?_
  refine AR.op (r := bl (!r31)) rfl (aop_not rfl rfl) ?_
  refine AR.nil ?_
  refine hK3 _ (AWP.weak (Weak.re (fr' := [(1, .ref 0 0 0), (2, .ref 1 0 0), (10, bl (!r31))]) (H' := ⟨2, [(0, (2, [G.graph_Graph.av g_0])), (1, (2, [.agg [i64 0, nilS]]))]⟩) [(0, 0), (1, 1)] [] rfl rfl rfl (.cons rfl rfl (.one (.same _ (by simp)) rfl) (of_decide_eq_true rfl) (.cons rfl rfl (.one (.same _ (by simp)) rfl) (of_decide_eq_true rfl) (trivial))) ⟨⟨_, rfl, .ref rfl⟩, ⟨_, rfl, .ref rfl⟩, ⟨_, rfl, .same _ (by simp)⟩, trivial⟩) ?_)
  clear hK3 K3
  refine awp_cond rfl (fun hb32 => ?_) (fun hb32 => ?_)
  · replace h := Sh.if_t h hb32
    refine awp_seqK fun K4 hK4 => ?_
    refine awp_reg rfl ?_
    refine AR.op (r := .agg [i64 0, nilS]) rfl (aop_build rfl bd24 rfl rfl rfl) ?_
    refine AR.op rfl (aop_store (e' := .agg [i64 0, nilS]) rfl rfl rfl rfl rfl rfl sz24 rfl (of_decide_eq_true rfl) rfl) ?_
    refine AR.op (r := i64 1) rfl (aop_move (.inr rfl) rfl) ?_
    refine AR.nil ?_
    refine hK4 _ (AWP.weak (Weak.re (fr' := [(2, .ref 0 0 0), (3, i64 1)]) (H' := ⟨1, [(0, (2, [.agg [i64 0, nilS]]))]⟩) [(0, 1)] [] rfl rfl rfl (.cons rfl rfl (.one (.same _ (by simp)) rfl) (of_decide_eq_true rfl) (trivial)) ⟨⟨_, rfl, .ref rfl⟩, ⟨_, rfl, .same _ (by simp)⟩, trivial⟩) ?_)
    clear hK4 K4
    refine awp_ret ?_
    obtain rfl := Option.some.inj h
    refine ⟨.inr rfl, .tuple [.agg [i64 0, nilS], i64 1], rfl, ?_⟩
    exact Weak.re [] [0] rfl rfl rfl (.fresh (by simp) (of_decide_eq_true rfl) (trivial)) ⟨⟨.tuple [.agg [i64 0, nilS], i64 1], rfl, .tp ⟨.ag ⟨.same _ (by simp), .nil (by simp), trivial⟩, .same _ (by simp), trivial⟩⟩, trivial⟩
  · replace h := Sh.if_f h hb32
    refine awp_skip ?_
    refine hK2 _ (AWP.weak (Weak.re (fr' := [(1, .ref 0 0 0), (2, .ref 1 0 0)]) (H' := ⟨2, [(0, (2, [G.graph_Graph.av g_0])), (1, (2, [.agg [i64 0, nilS]]))]⟩) [(0, 0), (1, 1)] [] rfl rfl rfl (.cons rfl rfl (.one (.same _ (by simp)) rfl) (of_decide_eq_true rfl) (.cons rfl rfl (.one (.same _ (by simp)) rfl) (of_decide_eq_true rfl) (trivial))) ⟨⟨_, rfl, .ref rfl⟩, ⟨_, rfl, .ref rfl⟩, trivial⟩) ?_)
    clear hK2 K2
    refine awp_seqK fun K5 hK5 => ?_
    refine awp_reg rfl ?_
    refine AR.op rfl (aop_field_ref rfl rfl rfl fd24_0 (by decide)) ?_
    refine AR.op (r := i64 g_0.N) rfl (aop_load_ref rfl rfl rfl rfl sz3 rfl) ?_
    obtain ⟨r34, hr34, h⟩ := Sh.bind_some' h
    refine AR.op (r := .tuple [.agg [i64 r34.1.N, .view 2 0 (List.map u64 r34.1.Rows).length], i64 r34.2]) rfl (aop_call2N (.tuple [.agg [i64 r34.1.N, .view 2 0 (List.map u64 r34.1.Rows).length], i64 r34.2]) [(2, (1, List.map u64 r34.1.Rows))] rfl (ys := [i64 g_0.N]) (xs := [i64 g_0.N]) rfl (Weak.refl _) rfl (by simp) (graph_New_own hT hr34) (.tp ⟨.ag ⟨.same _ (by simp), .view _ _ _, trivial⟩, .same _ (by simp), trivial⟩) ⟨rfl, rfl, .same (by simp [AV.flat]), trivial⟩) ?_
    refine AR.drop (frx := [(1, _), (2, _), (15, _)]) ⟨rfl, rfl, rfl, trivial⟩ ?_
    refine AR.op (r := .tuple [.agg [i64 r34.1.N, .view 2 0 (List.map u64 r34.1.Rows).length], i64 r34.2]) rfl (aop_move (.inl rfl) rfl) ?_
    refine AR.op (r := .agg [i64 r34.1.N, .view 2 0 (List.map u64 r34.1.Rows).length]) rfl (aop_extract rfl rfl rfl) ?_
    refine AR.op (r := i64 r34.2) rfl (aop_extract rfl rfl rfl) ?_
    refine AR.drop (frx := [(1, _), (2, _), (16, _), (17, _)]) ⟨rfl, rfl, rfl, rfl, trivial⟩ ?_
    refine AR.op (r := .ref 3 0 0) rfl (aop_alloc 2 [.agg [i64 0, nilS]] rfl zr24 (by kernel_rfl) (.inl ⟨rfl, rfl⟩)) ?_
    refine AR.op rfl (aop_store (e' := .agg [i64 r34.1.N, .view 2 0 (List.map u64 r34.1.Rows).length]) rfl rfl rfl rfl rfl rfl sz24 rfl (of_decide_eq_true rfl) rfl) ?_
    refine AR.op (r := i64 r34.2) rfl (aop_move (.inr rfl) rfl) ?_
    refine AR.nil ?_
    refine hK5 _ (AWP.weak (Weak.re (fr' := [(1, .ref 0 0 0), (2, .ref 1 0 0), (4, .ref 2 0 0), (5, i64 r34.2)]) (H' := ⟨4, [(0, (2, [G.graph_Graph.av g_0])), (1, (2, [.agg [i64 0, nilS]])), (2, (2, [.agg [i64 r34.1.N, .view 3 0 (List.map u64 r34.1.Rows).length]])), (3, (1, List.map u64 r34.1.Rows))]⟩) [(0, 0), (1, 1), (2, 3), (3, 2)] [] rfl rfl rfl (.cons rfl rfl (.one (.same _ (by simp)) rfl) (of_decide_eq_true rfl) (.cons rfl rfl (.one (.same _ (by simp)) rfl) (of_decide_eq_true rfl) (.cons rfl rfl (.one (.ag ⟨.same _ (by simp), .view rfl, trivial⟩) rfl) (of_decide_eq_true rfl) (.cons rfl rfl (.same (by simp)) (of_decide_eq_true rfl) (trivial))))) ⟨⟨_, rfl, .ref rfl⟩, ⟨_, rfl, .ref rfl⟩, ⟨_, rfl, .ref rfl⟩, ⟨_, rfl, .same _ (by simp)⟩, trivial⟩) ?_)
    clear hK5 K5
    refine awp_seqJ (fun (p : (List (BitVec 64))) => (⟨[(2, .ref 0 0 0), (4, .ref 1 0 0), (5, i64 r34.2)], ⟨3, [(0, (2, [.agg [i64 0, nilS]])), (1, (2, [.agg [i64 r34.1.N, .view 2 0 (List.map u64 p).length]])), (2, (1, List.map u64 p))]⟩⟩ : St)) (fun (p : (List (BitVec 64))) => G.graph_Turn_j1 r34 p = some r) ?_ ?_
    · rintro v61 h
      replace h : G.graph_Turn_j1 r34 v61 = some r := h
      unfold G.graph_Turn_j1 at h
      show AWP _ _ _ _ ⟨[(2, .ref 0 0 0), (4, .ref 1 0 0), (5, i64 r34.2)], ⟨3, [(0, (2, [.agg [i64 0, nilS]])), (1, (2, [.agg [i64 r34.1.N, .view 2 0 (List.map u64 v61).length]])), (2, (1, List.map u64 v61))]⟩⟩ _
      refine awp_seqK fun K6 hK6 => ?_
      refine awp_reg rfl ?_
      refine AR.op (r := .agg [i64 r34.1.N, .view 2 0 (List.map u64 v61).length]) rfl (aop_load_ref rfl rfl rfl rfl sz24 rfl) ?_
      refine AR.op (r := i64 r34.2) rfl (aop_move (.inl rfl) rfl) ?_
      refine AR.op rfl (aop_store (e' := .agg [i64 r34.1.N, .view 2 0 (List.map u64 v61).length]) rfl rfl rfl rfl rfl rfl sz24 rfl (of_decide_eq_true rfl) rfl) ?_
      refine AR.drop (frx := [(2, _), (41, _)]) ⟨rfl, rfl, trivial⟩ ?_
      refine AR.op (r := i64 r34.2) rfl (aop_move (.inr rfl) rfl) ?_
      refine AR.nil ?_
      refine hK6 _ (AWP.weak (Weak.re (fr' := [(2, .ref 0 0 0), (3, i64 r34.2)]) (H' := ⟨2, [(0, (2, [.agg [i64 r34.1.N, .view 1 0 (List.map u64 v61).length]])), (1, (1, List.map u64 v61))]⟩) [(0, 0), (1, 2)] [] rfl rfl rfl (.cons rfl rfl (.one (.ag ⟨.same _ (by simp), .view rfl, trivial⟩) rfl) (of_decide_eq_true rfl) (.cons rfl rfl (.same (by simp)) (of_decide_eq_true rfl) (trivial))) ⟨⟨_, rfl, .ref rfl⟩, ⟨_, rfl, .same _ (by simp)⟩, trivial⟩) ?_)
      clear hK6 K6
      refine awp_ret ?_
      obtain rfl := Option.some.inj h
      refine ⟨.inr rfl, .tuple [.agg [i64 r34.1.N, .view 1 0 (List.map u64 v61).length], i64 r34.2], rfl, ?_⟩
      exact Weak.re [(0, 1)] [] rfl rfl rfl (.cons rfl rfl (.same (by simp)) (of_decide_eq_true rfl) (trivial)) ⟨⟨.tuple [.agg [i64 r34.1.N, .view 1 0 (List.map u64 v61).length], i64 r34.2], rfl, .tp ⟨.ag ⟨.same _ (by simp), .view rfl, trivial⟩, .same _ (by simp), trivial⟩⟩, trivial⟩
    · intro K7 hK7
      refine awp_seqK fun K8 hK8 => ?_
      refine awp_reg rfl ?_
      refine AR.op (r := G.graph_Graph.av g_0) rfl (aop_load_ref rfl rfl rfl rfl sz24 rfl) ?_
      obtain ⟨r63, hr63, h⟩ := Sh.bind_some' h
      refine AR.op (r := .sl (List.map G.graph_Edge.av r63)) rfl (aop_call1 rfl rfl (by simp) (graph_Edges_ok hT hr63)) ?_
      refine AR.op (r := i64 (Sh.len r63)) rfl (t_len_sl G.graph_Edge.av r63 rfl rfl el77) ?_
      refine AR.drop (frx := [(2, _), (4, _), (5, _), (19, _), (20, _)]) ⟨rfl, rfl, rfl, rfl, rfl, trivial⟩ ?_
      refine AR.op (r := i64 0) rfl (aop_move (.inl rfl) rfl) ?_
      refine AR.nil ?_
      refine hK8 _ (AWP.weak (Weak.re (fr' := [(2, .ref 0 0 0), (4, .ref 1 0 0), (5, i64 r34.2), (19, .sl (List.map G.graph_Edge.av r63)), (20, i64 (Sh.len r63)), (21, i64 0)]) (H' := ⟨3, [(0, (2, [.agg [i64 0, nilS]])), (1, (2, [.agg [i64 r34.1.N, .view 2 0 (List.map u64 r34.1.Rows).length]])), (2, (1, List.map u64 r34.1.Rows))]⟩) [(0, 1), (1, 2), (2, 3)] [] rfl rfl rfl (.cons rfl rfl (.one (.same _ (by simp)) rfl) (of_decide_eq_true rfl) (.cons rfl rfl (.one (.ag ⟨.same _ (by simp), .view rfl, trivial⟩) rfl) (of_decide_eq_true rfl) (.cons rfl rfl (.same (by simp)) (of_decide_eq_true rfl) (trivial)))) ⟨⟨_, rfl, .ref rfl⟩, ⟨_, rfl, .ref rfl⟩, ⟨_, rfl, .same _ (by simp)⟩, ⟨.sl (List.map G.graph_Edge.av r63), rfl, .same _ (by simp)⟩, ⟨_, rfl, .same _ (by simp)⟩, ⟨_, rfl, .same _ (by simp)⟩, trivial⟩) ?_)
      clear hK8 K8
      refine awp_block ?_
      refine awp_iter (fun (p : (List (BitVec 64)) × Int) => G.graph_Turn_b1 r34 r63 p.1 p.2) (fun (p : (List (BitVec 64)) × Int) => (⟨[(2, .ref 0 0 0), (4, .ref 1 0 0), (5, i64 r34.2), (19, .sl (List.map G.graph_Edge.av r63)), (20, i64 (Sh.len r63)), (21, i64 p.2)], ⟨3, [(0, (2, [.agg [i64 0, nilS]])), (1, (2, [.agg [i64 r34.1.N, .view 2 0 (List.map u64 p.1).length]])), (2, (1, List.map u64 p.1))]⟩⟩ : St)) h (Weak.re (fr' := [(2, .ref 0 0 0), (4, .ref 1 0 0), (5, i64 r34.2), (19, .sl (List.map G.graph_Edge.av r63)), (20, i64 (Sh.len r63)), (21, i64 0)]) (H' := ⟨3, [(0, (2, [.agg [i64 0, nilS]])), (1, (2, [.agg [i64 r34.1.N, .view 2 0 (List.map u64 r34.1.Rows).length]])), (2, (1, List.map u64 r34.1.Rows))]⟩) [(0, 0), (1, 1), (2, 2)] [] rfl rfl rfl (.cons rfl rfl (.one (.same _ (by simp)) rfl) (of_decide_eq_true rfl) (.cons rfl rfl (.one (.ag ⟨.same _ (by simp), .view rfl, trivial⟩) rfl) (of_decide_eq_true rfl) (.cons rfl rfl (.same (by simp)) (of_decide_eq_true rfl) (trivial)))) ⟨⟨_, rfl, .ref rfl⟩, ⟨_, rfl, .ref rfl⟩, ⟨_, rfl, .same _ (by simp)⟩, ⟨.sl (List.map G.graph_Edge.av r63), rfl, .same _ (by simp)⟩, ⟨_, rfl, .same _ (by simp)⟩, ⟨_, rfl, .same _ (by simp)⟩, trivial⟩) ?_
      · skip
        rintro ⟨outRows80, v81⟩ o1 h hx1
        replace h : G.graph_Turn_b1 r34 r63 outRows80 v81 = some o1 := h
        unfold G.graph_Turn_b1 at h
        show AWP _ _ _ _ ⟨[(2, .ref 0 0 0), (4, .ref 1 0 0), (5, i64 r34.2), (19, .sl (List.map G.graph_Edge.av r63)), (20, i64 (Sh.len r63)), (21, i64 v81)], ⟨3, [(0, (2, [.agg [i64 0, nilS]])), (1, (2, [.agg [i64 r34.1.N, .view 2 0 (List.map u64 outRows80).length]])), (2, (1, List.map u64 outRows80))]⟩⟩ _
        refine awp_seqK fun K9 hK9 => ?_
        refine awp_reg rfl ?_
        refine AR.op (r := bl (decide (v81 < (Sh.len r63)))) rfl (aop_lss rfl rfl rfl) ?_
        refine AR.nil ?_
        refine hK9 _ ?_
        clear hK9 K9
        refine awp_seqK fun K10 hK10 => ?_
        refine awp_cond rfl (fun hb82 => ?_) (fun hb82 => ?_)
        · replace h := Sh.if_t h hb82
          refine awp_skip ?_
          refine hK10 _ (AWP.weak (Weak.re (fr' := [(2, .ref 0 0 0), (4, .ref 1 0 0), (5, i64 r34.2), (19, .sl (List.map G.graph_Edge.av r63)), (20, i64 (Sh.len r63)), (21, i64 v81)]) (H' := ⟨3, [(0, (2, [.agg [i64 0, nilS]])), (1, (2, [.agg [i64 r34.1.N, .view 2 0 (List.map u64 outRows80).length]])), (2, (1, List.map u64 outRows80))]⟩) [(0, 0), (1, 1), (2, 2)] [] rfl rfl rfl (.cons rfl rfl (.one (.same _ (by simp)) rfl) (of_decide_eq_true rfl) (.cons rfl rfl (.one (.ag ⟨.same _ (by simp), .view rfl, trivial⟩) rfl) (of_decide_eq_true rfl) (.cons rfl rfl (.same (by simp)) (of_decide_eq_true rfl) (trivial)))) ⟨⟨_, rfl, .ref rfl⟩, ⟨_, rfl, .ref rfl⟩, ⟨_, rfl, .same _ (by simp)⟩, ⟨.sl (List.map G.graph_Edge.av r63), rfl, .same _ (by simp)⟩, ⟨_, rfl, .same _ (by simp)⟩, ⟨_, rfl, .same _ (by simp)⟩, trivial⟩) ?_)
          clear hK10 K10
          refine awp_seqK fun K11 hK11 => ?_
          refine awp_block ?_
          refine awp_seqK fun K12 hK12 => ?_
          refine awp_reg rfl ?_
          obtain ⟨x92, hx92, h⟩ := Sh.bind_some' h
          obtain ⟨k93, hi93, hl93⟩ := Sh.idx_some hx92
          refine AR.op rfl (t_index_sl G.graph_Edge.av r63 hi93 hl93 rfl rfl rfl el77 rfl) ?_
          refine AR.op (r := G.graph_Edge.av x92) rfl (aop_load_pp rfl rfl sz80 rfl) ?_
          refine AR.op (r := .ref 3 0 0) rfl (aop_alloc 2 [.agg [i64 0, i64 0]] rfl zr80 (by kernel_rfl) (.inl ⟨rfl, rfl⟩)) ?_
          refine AR.drop (frx := [(2, _), (4, _), (5, _), (19, _), (20, _), (21, _), (24, _), (7, _)]) ⟨rfl, rfl, rfl, rfl, rfl, rfl, rfl, rfl, trivial⟩ ?_
          refine AR.op rfl (aop_store (e' := G.graph_Edge.av x92) rfl rfl rfl rfl rfl rfl sz80 rfl (of_decide_eq_true rfl) rfl) ?_
          refine AR.nil ?_
          refine hK12 _ (AWP.weak (Weak.re (fr' := [(2, .ref 0 0 0), (4, .ref 1 0 0), (5, i64 r34.2), (19, .sl (List.map G.graph_Edge.av r63)), (20, i64 (Sh.len r63)), (21, i64 v81), (7, .ref 3 0 0)]) (H' := ⟨4, [(0, (2, [.agg [i64 0, nilS]])), (1, (2, [.agg [i64 r34.1.N, .view 2 0 (List.map u64 outRows80).length]])), (2, (1, List.map u64 outRows80)), (3, (2, [G.graph_Edge.av x92]))]⟩) [(0, 0), (1, 1), (2, 2), (3, 3)] [] rfl rfl rfl (.cons rfl rfl (.one (.same _ (by simp)) rfl) (of_decide_eq_true rfl) (.cons rfl rfl (.one (.ag ⟨.same _ (by simp), .view rfl, trivial⟩) rfl) (of_decide_eq_true rfl) (.cons rfl rfl (.same (by simp)) (of_decide_eq_true rfl) (.cons rfl rfl (.one (.same _ (by simp)) rfl) (of_decide_eq_true rfl) (trivial))))) ⟨⟨_, rfl, .ref rfl⟩, ⟨_, rfl, .ref rfl⟩, ⟨_, rfl, .same _ (by simp)⟩, ⟨.sl (List.map G.graph_Edge.av r63), rfl, .same _ (by simp)⟩, ⟨_, rfl, .same _ (by simp)⟩, ⟨_, rfl, .same _ (by simp)⟩, ⟨_, rfl, .ref rfl⟩, trivial⟩) ?_)
          clear hK12 K12
          refine awp_any (by kernel_rfl) (by kernel_rfl) rfl ?_
          refine ARH.op rfl rfl (aop_field_ref rfl rfl rfl fd24_1 (by decide)) ?_
          refine ARH.op (r := .view 2 0 (List.map u64 outRows80).length) rfl rfl (aop_load_ref rfl rfl rfl rfl sz22 rfl) ?_
          refine ARH.op rfl rfl (aop_field_ref rfl rfl rfl fd80_1 (by decide)) ?_
          refine ARH.drop (frx := [(2, _), (4, _), (5, _), (19, _), (20, _), (21, _), (7, _), (26, _), (27, _)]) ⟨rfl, rfl, rfl, rfl, rfl, rfl, rfl, rfl, rfl, trivial⟩ ?_
          refine ARH.op (r := i64 x92.B) rfl rfl (aop_load_ref rfl rfl rfl rfl sz3 rfl) ?_
          refine ARH.op rfl rfl (aop_field_ref rfl rfl rfl fd24_1 (by decide)) ?_
          refine ARH.op (r := .view 2 0 (List.map u64 outRows80).length) rfl rfl (aop_load_ref rfl rfl rfl rfl sz22 rfl) ?_
          refine ARH.drop (frx := [(2, _), (4, _), (5, _), (19, _), (20, _), (21, _), (7, _), (26, _), (28, _), (30, _)]) ⟨rfl, rfl, rfl, rfl, rfl, rfl, rfl, rfl, rfl, rfl, trivial⟩ ?_
          refine ARH.op rfl rfl (aop_field_ref rfl rfl rfl fd80_1 (by decide)) ?_
          refine ARH.op (r := i64 x92.B) rfl rfl (aop_load_ref rfl rfl rfl rfl sz3 rfl) ?_
          obtain ⟨x94, hx94, h⟩ := Sh.bind_some' h
          obtain ⟨k95, hi95, hl95⟩ := Sh.idx_some hx94
          refine ARH.op (r := .ref 2 k95 0) rfl rfl (t_index_view u64 outRows80 hi95 hl95 rfl rfl rfl rfl rfl el22 rfl) ?_
          refine ARH.drop (frx := [(2, _), (4, _), (5, _), (19, _), (20, _), (21, _), (7, _), (26, _), (28, _), (33, _)]) ⟨rfl, rfl, rfl, rfl, rfl, rfl, rfl, rfl, rfl, rfl, trivial⟩ ?_
          refine ARH.op (r := u64 x94) rfl rfl (t_load_el u64 outRows80 hl95 rfl rfl rfl sz35 rfl) ?_
          refine ARH.op rfl rfl (aop_field_ref rfl rfl rfl fd80_0 (by decide)) ?_
          refine ARH.op (r := i64 x92.A) rfl rfl (aop_load_ref rfl rfl rfl rfl sz3 rfl) ?_
          refine ARH.drop (frx := [(2, _), (4, _), (5, _), (19, _), (20, _), (21, _), (26, _), (28, _), (34, _), (36, _)]) ⟨rfl, rfl, rfl, rfl, rfl, rfl, rfl, rfl, rfl, rfl, trivial⟩ ?_
          obtain ⟨r96, hr96, h⟩ := Sh.bind_some' h
          refine ARH.op (r := u64 r96) rfl rfl (aop_call1 rfl rfl (by simp) (bits_With_ok hT hr96)) ?_
          obtain ⟨x97, hx97, h⟩ := Sh.bind_some' h
          obtain ⟨k98, hi98, hl98⟩ := Sh.idx_some hx97
          refine ARH.op (r := .ref 2 k98 0) rfl rfl (t_index_view u64 outRows80 hi98 hl98 rfl rfl rfl rfl rfl el22 rfl) ?_
          refine ARH.loud rfl rfl rfl (t_store_el u64 outRows80 r96 hi98 hl98 rfl rfl rfl rfl rfl sz35 rfl (of_decide_eq_true rfl) rfl) ?_
          refine ARH.nil ?_
          refine hK11 _ (AWP.weak (Weak.re (fr' := [(2, .ref 0 0 0), (4, .ref 1 0 0), (5, i64 r34.2), (19, .sl (List.map G.graph_Edge.av r63)), (20, i64 (Sh.len r63)), (21, i64 v81)]) (H' := ⟨3, [(0, (2, [.agg [i64 0, nilS]])), (1, (2, [.agg [i64 r34.1.N, .view 2 0 (List.map u64 (Sh.set outRows80 x92.B r96)).length]])), (2, (1, List.map u64 (Sh.set outRows80 x92.B r96)))]⟩) [(0, 0), (1, 1), (2, 2)] [] rfl rfl rfl (.cons rfl rfl (.one (.same _ (by simp)) rfl) (of_decide_eq_true rfl) (.cons rfl rfl (.one (.ag ⟨.same _ (by simp), .viewL rfl (by simp []), trivial⟩) rfl) (of_decide_eq_true rfl) (.cons rfl rfl (.same (by simp)) (of_decide_eq_true rfl) (trivial)))) ⟨⟨_, rfl, .ref rfl⟩, ⟨_, rfl, .ref rfl⟩, ⟨_, rfl, .same _ (by simp)⟩, ⟨.sl (List.map G.graph_Edge.av r63), rfl, .same _ (by simp)⟩, ⟨_, rfl, .same _ (by simp)⟩, ⟨_, rfl, .same _ (by simp)⟩, trivial⟩) ?_)
          clear hK11 K11
          refine awp_reg rfl ?_
          refine AR.op (r := i64 (w64 (v81 + 1))) rfl (aop_add rfl rfl rfl rfl) ?_
          refine AR.op (r := i64 (w64 (v81 + 1))) rfl (aop_move (.inl rfl) rfl) ?_
          refine AR.nil ?_
          replace h := Sh.next_eq h
          exact ⟨_, h, Weak.re (fr' := [(2, .ref 0 0 0), (4, .ref 1 0 0), (5, i64 r34.2), (19, .sl (List.map G.graph_Edge.av r63)), (20, i64 (Sh.len r63)), (21, i64 (w64 (v81 + 1)))]) (H' := ⟨3, [(0, (2, [.agg [i64 0, nilS]])), (1, (2, [.agg [i64 r34.1.N, .view 2 0 (List.map u64 (Sh.set outRows80 x92.B r96)).length]])), (2, (1, List.map u64 (Sh.set outRows80 x92.B r96)))]⟩) [(0, 0), (1, 1), (2, 2)] [] rfl rfl rfl (.cons rfl rfl (.one (.same _ (by simp)) rfl) (of_decide_eq_true rfl) (.cons rfl rfl (.one (.ag ⟨.same _ (by simp), .view rfl, trivial⟩) rfl) (of_decide_eq_true rfl) (.cons rfl rfl (.same (by simp)) (of_decide_eq_true rfl) (trivial)))) ⟨⟨_, rfl, .ref rfl⟩, ⟨_, rfl, .ref rfl⟩, ⟨_, rfl, .same _ (by simp)⟩, ⟨.sl (List.map G.graph_Edge.av r63), rfl, .same _ (by simp)⟩, ⟨_, rfl, .same _ (by simp)⟩, ⟨_, rfl, .same _ (by simp)⟩, trivial⟩⟩
        · replace h := Sh.if_f h hb82
          refine awp_exit ?_
          replace h := Sh.exit_eq h hx1
          exact hK7 outRows80 _ h (Weak.re (fr' := [(2, .ref 0 0 0), (4, .ref 1 0 0), (5, i64 r34.2)]) (H' := ⟨3, [(0, (2, [.agg [i64 0, nilS]])), (1, (2, [.agg [i64 r34.1.N, .view 2 0 (List.map u64 outRows80).length]])), (2, (1, List.map u64 outRows80))]⟩) [(0, 0), (1, 1), (2, 2)] [] rfl rfl rfl (.cons rfl rfl (.one (.same _ (by simp)) rfl) (of_decide_eq_true rfl) (.cons rfl rfl (.one (.ag ⟨.same _ (by simp), .view rfl, trivial⟩) rfl) (of_decide_eq_true rfl) (.cons rfl rfl (.same (by simp)) (of_decide_eq_true rfl) (trivial)))) ⟨⟨_, rfl, .ref rfl⟩, ⟨_, rfl, .ref rfl⟩, ⟨_, rfl, .same _ (by simp)⟩, trivial⟩)
theorem graph_Turn_ok {W0 : World} (hT : Tab W0) {g_0 : G.graph_Graph} {r : G.graph_Graph × Int} (h : G.graph_Turn g_0 = some r) : Fun1 Tryd.prog W0 32 [G.graph_Graph.av g_0] (.tuple [G.graph_Graph.av r.1, i64 r.2]) :=
  (graph_Turn_own hT h).give (Weak.re [] [] rfl rfl rfl trivial ⟨⟨_, rfl, .tp ⟨.ag ⟨.same _ (by simp), .lendAll rfl rfl (by simp), trivial⟩, .same _ (by simp), trivial⟩⟩, trivial⟩) (by simp)


set_option maxHeartbeats 8000000 in
set_option maxRecDepth 20000 in
theorem graph_like_ok0 {W0 : World} (hT : Tab W0) {a_0 : G.graph_Graph} {b_1 : G.graph_Graph} {r : Bool} (h : G.graph_like a_0 b_1 = some r) : Fun2 Tryd.prog W0 42 [G.graph_Graph.av a_0, G.graph_Graph.av b_1] (bl r) .empty := by
  refine fun2_of_awp Tryd.func42 rfl (by kernel_rfl) Tryd.ntmps42 (by simp) ?_
  unfold G.graph_like at h
  show AWP _ _ _ _ ⟨[(0, G.graph_Graph.av a_0), (1, G.graph_Graph.av b_1)], .empty⟩ _
  refine awp_seqK fun K1 hK1 => ?_
  refine awp_reg rfl ?_
  refine AR.op (r := .ref 0 0 0) rfl (aop_box 2 [G.graph_Graph.av a_0] rfl rfl rfl (.inl ⟨rfl, rfl⟩)) ?_
  refine AR.op (r := .ref 1 0 0) rfl (aop_box 2 [G.graph_Graph.av b_1] rfl rfl rfl (.inl ⟨rfl, rfl⟩)) ?_
  refine AR.op (r := bl false) rfl (aop_move (.inr rfl) rfl) ?_
  refine AR.nil ?_
  refine hK1 _ (AWP.weak (Weak.re (fr' := [(2, .ref 0 0 0), (3, .ref 1 0 0)]) (H' := ⟨2, [(0, (2, [G.graph_Graph.av a_0])), (1, (2, [G.graph_Graph.av b_1]))]⟩) [(0, 0), (1, 1)] [] rfl rfl rfl (.cons rfl rfl (.one (.same _ (by simp)) rfl) (of_decide_eq_true rfl) (.cons rfl rfl (.one (.same _ (by simp)) rfl) (of_decide_eq_true rfl) (trivial))) ⟨⟨_, rfl, .ref rfl⟩, ⟨_, rfl, .ref rfl⟩, trivial⟩) ?_)
  clear hK1 K1
  refine awp_seqK fun K2 hK2 => ?_
  refine awp_reg rfl ?_
  refine AR.op (r := G.graph_Graph.av a_0) rfl (aop_load_ref rfl rfl rfl rfl sz24 rfl) ?_
  obtain ⟨r10, hr10, h⟩ := Sh.bind_some' h
  refine AR.op (r := bl r10) rfl (aop_call1 rfl rfl (by simp) (graph_Right_ok hT hr10)) ?_
  refine AR.op (r := bl r10) rfl (aop_move (.inl rfl) rfl) ?_
  refine AR.drop (frx := [(2, _), (3, _), (7, _)]) ⟨rfl, rfl, rfl, trivial⟩ ?_
  rcases Bool.eq_false_or_eq_true (r10) with hb11 | hb11
  · rw [hb11]
    replace h := Sh.if_t h hb11
    refine AR.op (r := G.graph_Graph.av b_1) rfl (aop_load_ref rfl rfl rfl rfl sz24 rfl) ?_
    obtain ⟨r12, hr12, h⟩ := Sh.bind_some' h
    refine AR.op (r := bl r12) rfl (aop_call1 rfl rfl (by simp) (graph_Right_ok hT hr12)) ?_
    refine AR.op (r := bl r12) rfl (aop_pick rfl rfl rfl) ?_
    refine AR.drop (frx := [(2, _), (3, _), (10, _)]) ⟨rfl, rfl, rfl, trivial⟩ ?_
    refine AR.op (r := bl r12) rfl (aop_move (.inl rfl) rfl) ?_
    rcases Bool.eq_false_or_eq_true (r12) with hb13 | hb13
    · rw [hb13]
      replace h := Sh.if_t h hb13
      refine AR.op rfl (aop_field_ref rfl rfl rfl fd24_0 (by decide)) ?_
      refine AR.op (r := i64 a_0.N) rfl (aop_load_ref rfl rfl rfl rfl sz3 rfl) ?_
      refine AR.drop (frx := [(3, _), (11, _), (13, _)]) ⟨rfl, rfl, rfl, trivial⟩ ?_
      refine AR.op rfl (aop_field_ref rfl rfl rfl fd24_0 (by decide)) ?_
      refine AR.op (r := i64 b_1.N) rfl (aop_load_ref rfl rfl rfl rfl sz3 rfl) ?_
      refine AR.op (r := bl (decide (a_0.N = b_1.N))) rfl (aop_eql rfl rfl rfl) ?_
      refine AR.drop (frx := [(11, _), (16, _)]) ⟨rfl, rfl, trivial⟩ ?_
      refine AR.op (r := bl (decide (a_0.N = b_1.N))) rfl (aop_pick rfl rfl rfl) ?_
      refine AR.op (r := bl (decide (a_0.N = b_1.N))) rfl (aop_move (.inr rfl) rfl) ?_
      refine AR.nil ?_
      refine hK2 _ (AWP.weak (Weak.re (fr' := [(4, bl (decide (a_0.N = b_1.N)))]) (H' := .empty) [] [] rfl rfl rfl (trivial) ⟨⟨_, rfl, .same _ (by simp)⟩, trivial⟩) ?_)
      clear hK2 K2
      refine awp_ret ?_
      obtain rfl := Option.some.inj h
      refine ⟨.inr rfl, bl (decide (a_0.N = b_1.N)), rfl, ?_⟩
      exact Weak.re [] [] rfl rfl rfl (trivial) ⟨⟨_, rfl, .same _ (by simp)⟩, trivial⟩
    · rw [hb13]
      replace h := Sh.if_f h hb13
      refine AR.skip rfl ?_
      refine AR.skip rfl ?_
      refine AR.drop (frx := [(3, _), (11, _), (13, _)]) ⟨rfl, rfl, rfl, trivial⟩ ?_
      refine AR.skip rfl ?_
      refine AR.skip rfl ?_
      refine AR.skip rfl ?_
      refine AR.drop (frx := [(11, _), (16, _)]) ⟨rfl, rfl, trivial⟩ ?_
      refine AR.op (r := bl false) rfl (aop_pick rfl rfl rfl) ?_
      refine AR.op (r := bl false) rfl (aop_move (.inr rfl) rfl) ?_
      refine AR.nil ?_
      refine hK2 _ (AWP.weak (Weak.re (fr' := [(4, bl false)]) (H' := .empty) [] [] rfl rfl rfl (trivial) ⟨⟨_, rfl, .same _ (by simp)⟩, trivial⟩) ?_)
      clear hK2 K2
      refine awp_ret ?_
      obtain rfl := Option.some.inj h
      refine ⟨.inr rfl, bl false, rfl, ?_⟩
      exact Weak.re [] [] rfl rfl rfl (trivial) ⟨⟨_, rfl, .same _ (by simp)⟩, trivial⟩
  · rw [hb11]
    replace h := Sh.if_f h hb11
    refine AR.skip rfl ?_
    refine AR.skip rfl ?_
    refine AR.op (r := bl false) rfl (aop_pick rfl rfl rfl) ?_
    refine AR.drop (frx := [(2, _), (3, _), (10, _)]) ⟨rfl, rfl, rfl, trivial⟩ ?_
    refine AR.op (r := bl false) rfl (aop_move (.inl rfl) rfl) ?_
    refine AR.skip rfl ?_
    refine AR.skip rfl ?_
    refine AR.drop (frx := [(3, _), (11, _), (13, _)]) ⟨rfl, rfl, rfl, trivial⟩ ?_
    refine AR.skip rfl ?_
    refine AR.skip rfl ?_
    refine AR.skip rfl ?_
    refine AR.drop (frx := [(11, _), (16, _)]) ⟨rfl, rfl, trivial⟩ ?_
    refine AR.op (r := bl false) rfl (aop_pick rfl rfl rfl) ?_
    refine AR.op (r := bl false) rfl (aop_move (.inr rfl) rfl) ?_
    refine AR.nil ?_
    refine hK2 _ (AWP.weak (Weak.re (fr' := [(4, bl false)]) (H' := .empty) [] [] rfl rfl rfl (trivial) ⟨⟨_, rfl, .same _ (by simp)⟩, trivial⟩) ?_)
    clear hK2 K2
    refine awp_ret ?_
    obtain rfl := Option.some.inj h
    refine ⟨.inr rfl, bl false, rfl, ?_⟩
    exact Weak.re [] [] rfl rfl rfl (trivial) ⟨⟨_, rfl, .same _ (by simp)⟩, trivial⟩
theorem graph_like_ok {W0 : World} (hT : Tab W0) {a_0 : G.graph_Graph} {b_1 : G.graph_Graph} {r : Bool} (h : G.graph_like a_0 b_1 = some r) : Fun1 Tryd.prog W0 42 [G.graph_Graph.av a_0, G.graph_Graph.av b_1] (bl r) := Fun1.two (graph_like_ok0 hT h) (by simp)


set_option maxHeartbeats 8000000 in
set_option maxRecDepth 20000 in
theorem graph_Compose_own {W0 : World} (hT : Tab W0) {a_0 : G.graph_Graph} {b_1 : G.graph_Graph} {r : G.graph_Graph × Int} (h : G.graph_Compose a_0 b_1 = some r) : Fun2 Tryd.prog W0 20 [G.graph_Graph.av a_0, G.graph_Graph.av b_1] (.tuple [.agg [i64 r.1.N, .view 0 0 (List.map u64 r.1.Rows).length], i64 r.2]) ⟨1, [(0, (1, List.map u64 r.1.Rows))]⟩ := by
  refine fun2_of_awp Tryd.func20 rfl (by kernel_rfl) Tryd.ntmps20 (by simp) ?_
  unfold G.graph_Compose at h
  show AWP _ _ _ _ ⟨[(0, G.graph_Graph.av a_0), (1, G.graph_Graph.av b_1)], .empty⟩ _
  refine awp_seqK fun K1 hK1 => ?_
  refine awp_reg rfl ?_
  refine AR.op (r := .ref 0 0 0) rfl (aop_box 2 [G.graph_Graph.av a_0] rfl rfl rfl (.inl ⟨rfl, rfl⟩)) ?_
  refine AR.op (r := .ref 1 0 0) rfl (aop_box 2 [G.graph_Graph.av b_1] rfl rfl rfl (.inl ⟨rfl, rfl⟩)) ?_
  refine AR.op (r := .ref 2 0 0) rfl (aop_alloc 2 [.agg [i64 0, nilS]] rfl zr24 (by kernel_rfl) (.inl ⟨rfl, rfl⟩)) ?_
  refine AR.drop (frx := [(2, _), (3, _), (4, _)]) ⟨rfl, rfl, rfl, trivial⟩ ?_
  refine AR.op (r := i64 0) rfl (aop_move (.inr rfl) rfl) ?_
  refine AR.nil ?_
  refine hK1 _ (AWP.weak (Weak.re (fr' := [(2, .ref 0 0 0), (3, .ref 1 0 0), (4, .ref 2 0 0)]) (H' := ⟨3, [(0, (2, [G.graph_Graph.av a_0])), (1, (2, [G.graph_Graph.av b_1])), (2, (2, [.agg [i64 0, nilS]]))]⟩) [(0, 0), (1, 1), (2, 2)] [] rfl rfl rfl (.cons rfl rfl (.one (.same _ (by simp)) rfl) (of_decide_eq_true rfl) (.cons rfl rfl (.one (.same _ (by simp)) rfl) (of_decide_eq_true rfl) (.cons rfl rfl (.one (.same _ (by simp)) rfl) (of_decide_eq_true rfl) (trivial)))) ⟨⟨_, rfl, .ref rfl⟩, ⟨_, rfl, .ref rfl⟩, ⟨_, rfl, .ref rfl⟩, trivial⟩) ?_)
  clear hK1 K1
  refine awp_seqK fun K2 hK2 => ?_
  refine awp_seqK fun K3 hK3 => ?_
  refine awp_reg rfl ?_
  refine AR.op (r := G.graph_Graph.av a_0) rfl (aop_load_ref rfl rfl rfl rfl sz24 rfl) ?_
  refine AR.op (r := G.graph_Graph.av b_1) rfl (aop_load_ref rfl rfl rfl rfl sz24 rfl) ?_
  obtain ⟨r111, hr111, h⟩ := Sh.bind_some' h
  refine AR.op (r := bl r111) rfl (aop_call1 rfl rfl (by simp) (graph_like_ok hT hr111)) ?_
  refine AR.drop (frx := [(2, _), (3, _), (4, _), (13, _)]) ⟨rfl, rfl, rfl, rfl, trivial⟩ ?_
  refine AR.op (r := bl (!r111)) rfl (aop_not rfl rfl) ?_
  refine AR.nil ?_
  refine hK3 _ (AWP.weak (Weak.re (fr' := [(2, .ref 0 0 0), (3, .ref 1 0 0), (4, .ref 2 0 0), (14, bl (!r111))]) (H' := ⟨3, [(0, (2, [G.graph_Graph.av a_0])), (1, (2, [G.graph_Graph.av b_1])), (2, (2, [.agg [i64 0, nilS]]))]⟩) [(0, 0), (1, 1), (2, 2)] [] rfl rfl rfl (.cons rfl rfl (.one (.same _ (by simp)) rfl) (of_decide_eq_true rfl) (.cons rfl rfl (.one (.same _ (by simp)) rfl) (of_decide_eq_true rfl) (.cons rfl rfl (.one (.same _ (by simp)) rfl) (of_decide_eq_true rfl) (trivial)))) ⟨⟨_, rfl, .ref rfl⟩, ⟨_, rfl, .ref rfl⟩, ⟨_, rfl, .ref rfl⟩, ⟨_, rfl, .same _ (by simp)⟩, trivial⟩) ?_)
  clear hK3 K3
  refine awp_cond rfl (fun hb112 => ?_) (fun hb112 => ?_)
  · replace h := Sh.if_t h hb112
    refine awp_seqK fun K4 hK4 => ?_
    refine awp_reg rfl ?_
    refine AR.op (r := .agg [i64 0, nilS]) rfl (aop_build rfl bd24 rfl rfl rfl) ?_
    refine AR.op rfl (aop_store (e' := .agg [i64 0, nilS]) rfl rfl rfl rfl rfl rfl sz24 rfl (of_decide_eq_true rfl) rfl) ?_
    refine AR.op (r := i64 1) rfl (aop_move (.inr rfl) rfl) ?_
    refine AR.nil ?_
    refine hK4 _ (AWP.weak (Weak.re (fr' := [(4, .ref 0 0 0), (5, i64 1)]) (H' := ⟨1, [(0, (2, [.agg [i64 0, nilS]]))]⟩) [(0, 2)] [] rfl rfl rfl (.cons rfl rfl (.one (.same _ (by simp)) rfl) (of_decide_eq_true rfl) (trivial)) ⟨⟨_, rfl, .ref rfl⟩, ⟨_, rfl, .same _ (by simp)⟩, trivial⟩) ?_)
    clear hK4 K4
    refine awp_ret ?_
    obtain rfl := Option.some.inj h
    refine ⟨.inr rfl, .tuple [.agg [i64 0, nilS], i64 1], rfl, ?_⟩
    exact Weak.re [] [0] rfl rfl rfl (.fresh (by simp) (of_decide_eq_true rfl) (trivial)) ⟨⟨.tuple [.agg [i64 0, nilS], i64 1], rfl, .tp ⟨.ag ⟨.same _ (by simp), .nil (by simp), trivial⟩, .same _ (by simp), trivial⟩⟩, trivial⟩
  · replace h := Sh.if_f h hb112
    refine awp_skip ?_
    refine hK2 _ (AWP.weak (Weak.re (fr' := [(2, .ref 0 0 0), (3, .ref 1 0 0), (4, .ref 2 0 0)]) (H' := ⟨3, [(0, (2, [G.graph_Graph.av a_0])), (1, (2, [G.graph_Graph.av b_1])), (2, (2, [.agg [i64 0, nilS]]))]⟩) [(0, 0), (1, 1), (2, 2)] [] rfl rfl rfl (.cons rfl rfl (.one (.same _ (by simp)) rfl) (of_decide_eq_true rfl) (.cons rfl rfl (.one (.same _ (by simp)) rfl) (of_decide_eq_true rfl) (.cons rfl rfl (.one (.same _ (by simp)) rfl) (of_decide_eq_true rfl) (trivial)))) ⟨⟨_, rfl, .ref rfl⟩, ⟨_, rfl, .ref rfl⟩, ⟨_, rfl, .ref rfl⟩, trivial⟩) ?_)
    clear hK2 K2
    refine awp_seqK fun K5 hK5 => ?_
    refine awp_reg rfl ?_
    refine AR.op rfl (aop_field_ref rfl rfl rfl fd24_0 (by decide)) ?_
    refine AR.op (r := i64 a_0.N) rfl (aop_load_ref rfl rfl rfl rfl sz3 rfl) ?_
    obtain ⟨r114, hr114, h⟩ := Sh.bind_some' h
    refine AR.op (r := .tuple [.agg [i64 r114.1.N, .view 3 0 (List.map u64 r114.1.Rows).length], i64 r114.2]) rfl (aop_call2N (.tuple [.agg [i64 r114.1.N, .view 3 0 (List.map u64 r114.1.Rows).length], i64 r114.2]) [(3, (1, List.map u64 r114.1.Rows))] rfl (ys := [i64 a_0.N]) (xs := [i64 a_0.N]) rfl (Weak.refl _) rfl (by simp) (graph_New_own hT hr114) (.tp ⟨.ag ⟨.same _ (by simp), .view _ _ _, trivial⟩, .same _ (by simp), trivial⟩) ⟨rfl, rfl, .same (by simp [AV.flat]), trivial⟩) ?_
    refine AR.drop (frx := [(2, _), (3, _), (4, _), (19, _)]) ⟨rfl, rfl, rfl, rfl, trivial⟩ ?_
    refine AR.op (r := .tuple [.agg [i64 r114.1.N, .view 3 0 (List.map u64 r114.1.Rows).length], i64 r114.2]) rfl (aop_move (.inl rfl) rfl) ?_
    refine AR.op (r := .agg [i64 r114.1.N, .view 3 0 (List.map u64 r114.1.Rows).length]) rfl (aop_extract rfl rfl rfl) ?_
    refine AR.op (r := i64 r114.2) rfl (aop_extract rfl rfl rfl) ?_
    refine AR.drop (frx := [(2, _), (3, _), (4, _), (20, _), (21, _)]) ⟨rfl, rfl, rfl, rfl, rfl, trivial⟩ ?_
    refine AR.op (r := .ref 4 0 0) rfl (aop_alloc 2 [.agg [i64 0, nilS]] rfl zr24 (by kernel_rfl) (.inl ⟨rfl, rfl⟩)) ?_
    refine AR.op rfl (aop_store (e' := .agg [i64 r114.1.N, .view 3 0 (List.map u64 r114.1.Rows).length]) rfl rfl rfl rfl rfl rfl sz24 rfl (of_decide_eq_true rfl) rfl) ?_
    refine AR.op (r := i64 r114.2) rfl (aop_move (.inr rfl) rfl) ?_
    refine AR.nil ?_
    refine hK5 _ (AWP.weak (Weak.re (fr' := [(2, .ref 0 0 0), (3, .ref 1 0 0), (4, .ref 2 0 0), (6, .ref 3 0 0), (7, i64 r114.2)]) (H' := ⟨5, [(0, (2, [G.graph_Graph.av a_0])), (1, (2, [G.graph_Graph.av b_1])), (2, (2, [.agg [i64 0, nilS]])), (3, (2, [.agg [i64 r114.1.N, .view 4 0 (List.map u64 r114.1.Rows).length]])), (4, (1, List.map u64 r114.1.Rows))]⟩) [(0, 0), (1, 1), (2, 2), (3, 4), (4, 3)] [] rfl rfl rfl (.cons rfl rfl (.one (.same _ (by simp)) rfl) (of_decide_eq_true rfl) (.cons rfl rfl (.one (.same _ (by simp)) rfl) (of_decide_eq_true rfl) (.cons rfl rfl (.one (.same _ (by simp)) rfl) (of_decide_eq_true rfl) (.cons rfl rfl (.one (.ag ⟨.same _ (by simp), .view rfl, trivial⟩) rfl) (of_decide_eq_true rfl) (.cons rfl rfl (.same (by simp)) (of_decide_eq_true rfl) (trivial)))))) ⟨⟨_, rfl, .ref rfl⟩, ⟨_, rfl, .ref rfl⟩, ⟨_, rfl, .ref rfl⟩, ⟨_, rfl, .ref rfl⟩, ⟨_, rfl, .same _ (by simp)⟩, trivial⟩) ?_)
    clear hK5 K5
    refine awp_seqJ (fun (p : (List (BitVec 64))) => (⟨[(4, .ref 0 0 0), (6, .ref 1 0 0), (7, i64 r114.2)], ⟨3, [(0, (2, [.agg [i64 0, nilS]])), (1, (2, [.agg [i64 r114.1.N, .view 2 0 (List.map u64 p).length]])), (2, (1, List.map u64 p))]⟩⟩ : St)) (fun (p : (List (BitVec 64))) => G.graph_Compose_j1 r114 p = some r) ?_ ?_
    · rintro v221 h
      replace h : G.graph_Compose_j1 r114 v221 = some r := h
      unfold G.graph_Compose_j1 at h
      show AWP _ _ _ _ ⟨[(4, .ref 0 0 0), (6, .ref 1 0 0), (7, i64 r114.2)], ⟨3, [(0, (2, [.agg [i64 0, nilS]])), (1, (2, [.agg [i64 r114.1.N, .view 2 0 (List.map u64 v221).length]])), (2, (1, List.map u64 v221))]⟩⟩ _
      refine awp_seqK fun K6 hK6 => ?_
      refine awp_reg rfl ?_
      refine AR.op (r := .agg [i64 r114.1.N, .view 2 0 (List.map u64 v221).length]) rfl (aop_load_ref rfl rfl rfl rfl sz24 rfl) ?_
      refine AR.op (r := i64 r114.2) rfl (aop_move (.inl rfl) rfl) ?_
      refine AR.op rfl (aop_store (e' := .agg [i64 r114.1.N, .view 2 0 (List.map u64 v221).length]) rfl rfl rfl rfl rfl rfl sz24 rfl (of_decide_eq_true rfl) rfl) ?_
      refine AR.drop (frx := [(4, _), (58, _)]) ⟨rfl, rfl, trivial⟩ ?_
      refine AR.op (r := i64 r114.2) rfl (aop_move (.inr rfl) rfl) ?_
      refine AR.nil ?_
      refine hK6 _ (AWP.weak (Weak.re (fr' := [(4, .ref 0 0 0), (5, i64 r114.2)]) (H' := ⟨2, [(0, (2, [.agg [i64 r114.1.N, .view 1 0 (List.map u64 v221).length]])), (1, (1, List.map u64 v221))]⟩) [(0, 0), (1, 2)] [] rfl rfl rfl (.cons rfl rfl (.one (.ag ⟨.same _ (by simp), .view rfl, trivial⟩) rfl) (of_decide_eq_true rfl) (.cons rfl rfl (.same (by simp)) (of_decide_eq_true rfl) (trivial))) ⟨⟨_, rfl, .ref rfl⟩, ⟨_, rfl, .same _ (by simp)⟩, trivial⟩) ?_)
      clear hK6 K6
      refine awp_ret ?_
      obtain rfl := Option.some.inj h
      refine ⟨.inr rfl, .tuple [.agg [i64 r114.1.N, .view 1 0 (List.map u64 v221).length], i64 r114.2], rfl, ?_⟩
      exact Weak.re [(0, 1)] [] rfl rfl rfl (.cons rfl rfl (.same (by simp)) (of_decide_eq_true rfl) (trivial)) ⟨⟨.tuple [.agg [i64 r114.1.N, .view 1 0 (List.map u64 v221).length], i64 r114.2], rfl, .tp ⟨.ag ⟨.same _ (by simp), .view rfl, trivial⟩, .same _ (by simp), trivial⟩⟩, trivial⟩
    · intro K7 hK7
      refine awp_seqK fun K8 hK8 => ?_
      refine awp_reg rfl ?_
      refine AR.op rfl (aop_field_ref rfl rfl rfl fd24_1 (by decide)) ?_
      refine AR.op (r := .view 4 0 (List.map u64 r114.1.Rows).length) rfl (aop_load_ref rfl rfl rfl rfl sz22 rfl) ?_
      refine AR.op (r := i64 (Sh.len r114.1.Rows)) rfl (t_len_view u64 r114.1.Rows rfl rfl rfl rfl el22) ?_
      refine AR.drop (frx := [(2, _), (3, _), (4, _), (6, _), (7, _), (24, _)]) ⟨rfl, rfl, rfl, rfl, rfl, rfl, trivial⟩ ?_
      refine AR.op (r := i64 0) rfl (aop_move (.inl rfl) rfl) ?_
      refine AR.nil ?_
      refine hK8 _ ?_
      clear hK8 K8
      refine awp_block ?_
      refine awp_iter (fun (p : (List (BitVec 64)) × Int) => G.graph_Compose_b1 a_0 b_1 r114 p.1 p.2) (fun (p : (List (BitVec 64)) × Int) => (⟨[(2, .ref 0 0 0), (3, .ref 1 0 0), (4, .ref 2 0 0), (6, .ref 3 0 0), (7, i64 r114.2), (24, i64 (Sh.len r114.1.Rows)), (25, i64 p.2)], ⟨5, [(0, (2, [G.graph_Graph.av a_0])), (1, (2, [G.graph_Graph.av b_1])), (2, (2, [.agg [i64 0, nilS]])), (3, (2, [.agg [i64 r114.1.N, .view 4 0 (List.map u64 p.1).length]])), (4, (1, List.map u64 p.1))]⟩⟩ : St)) h (Weak.re (fr' := [(2, .ref 0 0 0), (3, .ref 1 0 0), (4, .ref 2 0 0), (6, .ref 3 0 0), (7, i64 r114.2), (24, i64 (Sh.len r114.1.Rows)), (25, i64 0)]) (H' := ⟨5, [(0, (2, [G.graph_Graph.av a_0])), (1, (2, [G.graph_Graph.av b_1])), (2, (2, [.agg [i64 0, nilS]])), (3, (2, [.agg [i64 r114.1.N, .view 4 0 (List.map u64 r114.1.Rows).length]])), (4, (1, List.map u64 r114.1.Rows))]⟩) [(0, 0), (1, 1), (2, 2), (3, 3), (4, 4)] [] rfl rfl rfl (.cons rfl rfl (.one (.same _ (by simp)) rfl) (of_decide_eq_true rfl) (.cons rfl rfl (.one (.same _ (by simp)) rfl) (of_decide_eq_true rfl) (.cons rfl rfl (.one (.same _ (by simp)) rfl) (of_decide_eq_true rfl) (.cons rfl rfl (.one (.ag ⟨.same _ (by simp), .view rfl, trivial⟩) rfl) (of_decide_eq_true rfl) (.cons rfl rfl (.same (by simp)) (of_decide_eq_true rfl) (trivial)))))) ⟨⟨_, rfl, .ref rfl⟩, ⟨_, rfl, .ref rfl⟩, ⟨_, rfl, .ref rfl⟩, ⟨_, rfl, .ref rfl⟩, ⟨_, rfl, .same _ (by simp)⟩, ⟨_, rfl, .same _ (by simp)⟩, ⟨_, rfl, .same _ (by simp)⟩, trivial⟩) ?_
      · skip
        rintro ⟨outRows292, v293⟩ o1 h hx1
        replace h : G.graph_Compose_b1 a_0 b_1 r114 outRows292 v293 = some o1 := h
        unfold G.graph_Compose_b1 at h
        show AWP _ _ _ _ ⟨[(2, .ref 0 0 0), (3, .ref 1 0 0), (4, .ref 2 0 0), (6, .ref 3 0 0), (7, i64 r114.2), (24, i64 (Sh.len r114.1.Rows)), (25, i64 v293)], ⟨5, [(0, (2, [G.graph_Graph.av a_0])), (1, (2, [G.graph_Graph.av b_1])), (2, (2, [.agg [i64 0, nilS]])), (3, (2, [.agg [i64 r114.1.N, .view 4 0 (List.map u64 outRows292).length]])), (4, (1, List.map u64 outRows292))]⟩⟩ _
        refine awp_seqK fun K9 hK9 => ?_
        refine awp_reg rfl ?_
        refine AR.op (r := bl (decide (v293 < (Sh.len r114.1.Rows)))) rfl (aop_lss rfl rfl rfl) ?_
        refine AR.nil ?_
        refine hK9 _ ?_
        clear hK9 K9
        refine awp_seqK fun K10 hK10 => ?_
        refine awp_cond rfl (fun hb294 => ?_) (fun hb294 => ?_)
        · replace h := Sh.if_t h hb294
          refine awp_skip ?_
          refine hK10 _ (AWP.weak (Weak.re (fr' := [(2, .ref 0 0 0), (3, .ref 1 0 0), (4, .ref 2 0 0), (6, .ref 3 0 0), (7, i64 r114.2), (24, i64 (Sh.len r114.1.Rows)), (25, i64 v293)]) (H' := ⟨5, [(0, (2, [G.graph_Graph.av a_0])), (1, (2, [G.graph_Graph.av b_1])), (2, (2, [.agg [i64 0, nilS]])), (3, (2, [.agg [i64 r114.1.N, .view 4 0 (List.map u64 outRows292).length]])), (4, (1, List.map u64 outRows292))]⟩) [(0, 0), (1, 1), (2, 2), (3, 3), (4, 4)] [] rfl rfl rfl (.cons rfl rfl (.one (.same _ (by simp)) rfl) (of_decide_eq_true rfl) (.cons rfl rfl (.one (.same _ (by simp)) rfl) (of_decide_eq_true rfl) (.cons rfl rfl (.one (.same _ (by simp)) rfl) (of_decide_eq_true rfl) (.cons rfl rfl (.one (.ag ⟨.same _ (by simp), .view rfl, trivial⟩) rfl) (of_decide_eq_true rfl) (.cons rfl rfl (.same (by simp)) (of_decide_eq_true rfl) (trivial)))))) ⟨⟨_, rfl, .ref rfl⟩, ⟨_, rfl, .ref rfl⟩, ⟨_, rfl, .ref rfl⟩, ⟨_, rfl, .ref rfl⟩, ⟨_, rfl, .same _ (by simp)⟩, ⟨_, rfl, .same _ (by simp)⟩, ⟨_, rfl, .same _ (by simp)⟩, trivial⟩) ?_)
          clear hK10 K10
          refine awp_seqJ (fun (p : (List (BitVec 64))) => (⟨[(2, .ref 0 0 0), (3, .ref 1 0 0), (4, .ref 2 0 0), (6, .ref 3 0 0), (7, i64 r114.2), (24, i64 (Sh.len r114.1.Rows)), (25, i64 v293)], ⟨5, [(0, (2, [G.graph_Graph.av a_0])), (1, (2, [G.graph_Graph.av b_1])), (2, (2, [.agg [i64 0, nilS]])), (3, (2, [.agg [i64 r114.1.N, .view 4 0 (List.map u64 p).length]])), (4, (1, List.map u64 p))]⟩⟩ : St)) (fun (p : (List (BitVec 64))) => G.graph_Compose_j2 v293 p = some o1) ?_ ?_
          · rintro v329 h
            replace h : G.graph_Compose_j2 v293 v329 = some o1 := h
            unfold G.graph_Compose_j2 at h
            show AWP _ _ _ _ ⟨[(2, .ref 0 0 0), (3, .ref 1 0 0), (4, .ref 2 0 0), (6, .ref 3 0 0), (7, i64 r114.2), (24, i64 (Sh.len r114.1.Rows)), (25, i64 v293)], ⟨5, [(0, (2, [G.graph_Graph.av a_0])), (1, (2, [G.graph_Graph.av b_1])), (2, (2, [.agg [i64 0, nilS]])), (3, (2, [.agg [i64 r114.1.N, .view 4 0 (List.map u64 v329).length]])), (4, (1, List.map u64 v329))]⟩⟩ _
            refine awp_reg rfl ?_
            refine AR.op (r := i64 (w64 (v293 + 1))) rfl (aop_add rfl rfl rfl rfl) ?_
            refine AR.op (r := i64 (w64 (v293 + 1))) rfl (aop_move (.inl rfl) rfl) ?_
            refine AR.nil ?_
            replace h := Sh.next_eq h
            exact ⟨_, h, Weak.re (fr' := [(2, .ref 0 0 0), (3, .ref 1 0 0), (4, .ref 2 0 0), (6, .ref 3 0 0), (7, i64 r114.2), (24, i64 (Sh.len r114.1.Rows)), (25, i64 (w64 (v293 + 1)))]) (H' := ⟨5, [(0, (2, [G.graph_Graph.av a_0])), (1, (2, [G.graph_Graph.av b_1])), (2, (2, [.agg [i64 0, nilS]])), (3, (2, [.agg [i64 r114.1.N, .view 4 0 (List.map u64 v329).length]])), (4, (1, List.map u64 v329))]⟩) [(0, 0), (1, 1), (2, 2), (3, 3), (4, 4)] [] rfl rfl rfl (.cons rfl rfl (.one (.same _ (by simp)) rfl) (of_decide_eq_true rfl) (.cons rfl rfl (.one (.same _ (by simp)) rfl) (of_decide_eq_true rfl) (.cons rfl rfl (.one (.same _ (by simp)) rfl) (of_decide_eq_true rfl) (.cons rfl rfl (.one (.ag ⟨.same _ (by simp), .view rfl, trivial⟩) rfl) (of_decide_eq_true rfl) (.cons rfl rfl (.same (by simp)) (of_decide_eq_true rfl) (trivial)))))) ⟨⟨_, rfl, .ref rfl⟩, ⟨_, rfl, .ref rfl⟩, ⟨_, rfl, .ref rfl⟩, ⟨_, rfl, .ref rfl⟩, ⟨_, rfl, .same _ (by simp)⟩, ⟨_, rfl, .same _ (by simp)⟩, ⟨_, rfl, .same _ (by simp)⟩, trivial⟩⟩
          · intro K11 hK11
            refine awp_block ?_
            refine awp_seqK fun K12 hK12 => ?_
            refine awp_reg rfl ?_
            refine AR.op (r := i64 v293) rfl (aop_move (.inl rfl) rfl) ?_
            refine AR.op (r := i64 v293) rfl (aop_move (.inr rfl) rfl) ?_
            refine AR.nil ?_
            refine hK12 _ (AWP.weak (Weak.re (fr' := [(2, .ref 0 0 0), (3, .ref 1 0 0), (4, .ref 2 0 0), (6, .ref 3 0 0), (7, i64 r114.2), (24, i64 (Sh.len r114.1.Rows)), (25, i64 v293), (8, i64 v293)]) (H' := ⟨5, [(0, (2, [G.graph_Graph.av a_0])), (1, (2, [G.graph_Graph.av b_1])), (2, (2, [.agg [i64 0, nilS]])), (3, (2, [.agg [i64 r114.1.N, .view 4 0 (List.map u64 outRows292).length]])), (4, (1, List.map u64 outRows292))]⟩) [(0, 0), (1, 1), (2, 2), (3, 3), (4, 4)] [] rfl rfl rfl (.cons rfl rfl (.one (.same _ (by simp)) rfl) (of_decide_eq_true rfl) (.cons rfl rfl (.one (.same _ (by simp)) rfl) (of_decide_eq_true rfl) (.cons rfl rfl (.one (.same _ (by simp)) rfl) (of_decide_eq_true rfl) (.cons rfl rfl (.one (.ag ⟨.same _ (by simp), .view rfl, trivial⟩) rfl) (of_decide_eq_true rfl) (.cons rfl rfl (.same (by simp)) (of_decide_eq_true rfl) (trivial)))))) ⟨⟨_, rfl, .ref rfl⟩, ⟨_, rfl, .ref rfl⟩, ⟨_, rfl, .ref rfl⟩, ⟨_, rfl, .ref rfl⟩, ⟨_, rfl, .same _ (by simp)⟩, ⟨_, rfl, .same _ (by simp)⟩, ⟨_, rfl, .same _ (by simp)⟩, ⟨_, rfl, .same _ (by simp)⟩, trivial⟩) ?_)
            clear hK12 K12
            refine awp_seqK fun K13 hK13 => ?_
            refine awp_reg rfl ?_
            refine AR.op rfl (aop_field_ref rfl rfl rfl fd24_1 (by decide)) ?_
            refine AR.op (r := .sl (List.map u64 a_0.Rows)) rfl (aop_load_ref rfl rfl rfl rfl sz22 rfl) ?_
            refine AR.op (r := i64 v293) rfl (aop_move (.inl rfl) rfl) ?_
            refine AR.drop (frx := [(2, _), (3, _), (4, _), (6, _), (7, _), (24, _), (25, _), (8, _), (29, _), (30, _)]) ⟨rfl, rfl, rfl, rfl, rfl, rfl, rfl, rfl, rfl, rfl, trivial⟩ ?_
            obtain ⟨x333, hx333, h⟩ := Sh.bind_some' h
            obtain ⟨k334, hi334, hl334⟩ := Sh.idx_some hx333
            refine AR.op rfl (t_index_sl u64 a_0.Rows hi334 hl334 rfl rfl rfl el22 rfl) ?_
            refine AR.op (r := u64 x333) rfl (aop_load_pp rfl rfl sz35 rfl) ?_
            obtain ⟨r335, hr335, h⟩ := Sh.bind_some' h
            refine AR.op (r := .sl (List.map i64 r335)) rfl (aop_call1 rfl rfl (by simp) (bits_List_ok hT hr335)) ?_
            refine AR.drop (frx := [(2, _), (3, _), (4, _), (6, _), (7, _), (24, _), (25, _), (8, _), (33, _)]) ⟨rfl, rfl, rfl, rfl, rfl, rfl, rfl, rfl, rfl, trivial⟩ ?_
            refine AR.op (r := i64 (Sh.len r335)) rfl (t_len_sl i64 r335 rfl rfl el25) ?_
            refine AR.op (r := i64 0) rfl (aop_move (.inl rfl) rfl) ?_
            refine AR.nil ?_
            refine hK13 _ ?_
            clear hK13 K13
            refine awp_block ?_
            refine awp_iter (fun (p : (List (BitVec 64)) × Int) => G.graph_Compose_b2 b_1 v293 r335 p.1 p.2) (fun (p : (List (BitVec 64)) × Int) => (⟨[(2, .ref 0 0 0), (3, .ref 1 0 0), (4, .ref 2 0 0), (6, .ref 3 0 0), (7, i64 r114.2), (24, i64 (Sh.len r114.1.Rows)), (25, i64 v293), (8, i64 v293), (33, .sl (List.map i64 r335)), (34, i64 (Sh.len r335)), (35, i64 p.2)], ⟨5, [(0, (2, [G.graph_Graph.av a_0])), (1, (2, [G.graph_Graph.av b_1])), (2, (2, [.agg [i64 0, nilS]])), (3, (2, [.agg [i64 r114.1.N, .view 4 0 (List.map u64 p.1).length]])), (4, (1, List.map u64 p.1))]⟩⟩ : St)) h (Weak.re (fr' := [(2, .ref 0 0 0), (3, .ref 1 0 0), (4, .ref 2 0 0), (6, .ref 3 0 0), (7, i64 r114.2), (24, i64 (Sh.len r114.1.Rows)), (25, i64 v293), (8, i64 v293), (33, .sl (List.map i64 r335)), (34, i64 (Sh.len r335)), (35, i64 0)]) (H' := ⟨5, [(0, (2, [G.graph_Graph.av a_0])), (1, (2, [G.graph_Graph.av b_1])), (2, (2, [.agg [i64 0, nilS]])), (3, (2, [.agg [i64 r114.1.N, .view 4 0 (List.map u64 outRows292).length]])), (4, (1, List.map u64 outRows292))]⟩) [(0, 0), (1, 1), (2, 2), (3, 3), (4, 4)] [] rfl rfl rfl (.cons rfl rfl (.one (.same _ (by simp)) rfl) (of_decide_eq_true rfl) (.cons rfl rfl (.one (.same _ (by simp)) rfl) (of_decide_eq_true rfl) (.cons rfl rfl (.one (.same _ (by simp)) rfl) (of_decide_eq_true rfl) (.cons rfl rfl (.one (.ag ⟨.same _ (by simp), .view rfl, trivial⟩) rfl) (of_decide_eq_true rfl) (.cons rfl rfl (.same (by simp)) (of_decide_eq_true rfl) (trivial)))))) ⟨⟨_, rfl, .ref rfl⟩, ⟨_, rfl, .ref rfl⟩, ⟨_, rfl, .ref rfl⟩, ⟨_, rfl, .ref rfl⟩, ⟨_, rfl, .same _ (by simp)⟩, ⟨_, rfl, .same _ (by simp)⟩, ⟨_, rfl, .same _ (by simp)⟩, ⟨_, rfl, .same _ (by simp)⟩, ⟨.sl (List.map i64 r335), rfl, .same _ (by simp)⟩, ⟨_, rfl, .same _ (by simp)⟩, ⟨_, rfl, .same _ (by simp)⟩, trivial⟩) ?_
            · skip
              rintro ⟨outRows356, v357⟩ o2 h hx2
              replace h : G.graph_Compose_b2 b_1 v293 r335 outRows356 v357 = some o2 := h
              unfold G.graph_Compose_b2 at h
              show AWP _ _ _ _ ⟨[(2, .ref 0 0 0), (3, .ref 1 0 0), (4, .ref 2 0 0), (6, .ref 3 0 0), (7, i64 r114.2), (24, i64 (Sh.len r114.1.Rows)), (25, i64 v293), (8, i64 v293), (33, .sl (List.map i64 r335)), (34, i64 (Sh.len r335)), (35, i64 v357)], ⟨5, [(0, (2, [G.graph_Graph.av a_0])), (1, (2, [G.graph_Graph.av b_1])), (2, (2, [.agg [i64 0, nilS]])), (3, (2, [.agg [i64 r114.1.N, .view 4 0 (List.map u64 outRows356).length]])), (4, (1, List.map u64 outRows356))]⟩⟩ _
              refine awp_seqK fun K14 hK14 => ?_
              refine awp_reg rfl ?_
              refine AR.op (r := bl (decide (v357 < (Sh.len r335)))) rfl (aop_lss rfl rfl rfl) ?_
              refine AR.nil ?_
              refine hK14 _ ?_
              clear hK14 K14
              refine awp_seqK fun K15 hK15 => ?_
              refine awp_cond rfl (fun hb358 => ?_) (fun hb358 => ?_)
              · replace h := Sh.if_t h hb358
                refine awp_skip ?_
                refine hK15 _ (AWP.weak (Weak.re (fr' := [(2, .ref 0 0 0), (3, .ref 1 0 0), (4, .ref 2 0 0), (6, .ref 3 0 0), (7, i64 r114.2), (24, i64 (Sh.len r114.1.Rows)), (25, i64 v293), (8, i64 v293), (33, .sl (List.map i64 r335)), (34, i64 (Sh.len r335)), (35, i64 v357)]) (H' := ⟨5, [(0, (2, [G.graph_Graph.av a_0])), (1, (2, [G.graph_Graph.av b_1])), (2, (2, [.agg [i64 0, nilS]])), (3, (2, [.agg [i64 r114.1.N, .view 4 0 (List.map u64 outRows356).length]])), (4, (1, List.map u64 outRows356))]⟩) [(0, 0), (1, 1), (2, 2), (3, 3), (4, 4)] [] rfl rfl rfl (.cons rfl rfl (.one (.same _ (by simp)) rfl) (of_decide_eq_true rfl) (.cons rfl rfl (.one (.same _ (by simp)) rfl) (of_decide_eq_true rfl) (.cons rfl rfl (.one (.same _ (by simp)) rfl) (of_decide_eq_true rfl) (.cons rfl rfl (.one (.ag ⟨.same _ (by simp), .view rfl, trivial⟩) rfl) (of_decide_eq_true rfl) (.cons rfl rfl (.same (by simp)) (of_decide_eq_true rfl) (trivial)))))) ⟨⟨_, rfl, .ref rfl⟩, ⟨_, rfl, .ref rfl⟩, ⟨_, rfl, .ref rfl⟩, ⟨_, rfl, .ref rfl⟩, ⟨_, rfl, .same _ (by simp)⟩, ⟨_, rfl, .same _ (by simp)⟩, ⟨_, rfl, .same _ (by simp)⟩, ⟨_, rfl, .same _ (by simp)⟩, ⟨.sl (List.map i64 r335), rfl, .same _ (by simp)⟩, ⟨_, rfl, .same _ (by simp)⟩, ⟨_, rfl, .same _ (by simp)⟩, trivial⟩) ?_)
                clear hK15 K15
                refine awp_seqK fun K16 hK16 => ?_
                refine awp_block ?_
                refine awp_seqK fun K17 hK17 => ?_
                refine awp_reg rfl ?_
                obtain ⟨x370, hx370, h⟩ := Sh.bind_some' h
                obtain ⟨k371, hi371, hl371⟩ := Sh.idx_some hx370
                refine AR.op rfl (t_index_sl i64 r335 hi371 hl371 rfl rfl rfl el25 rfl) ?_
                refine AR.op (r := i64 x370) rfl (aop_load_pp rfl rfl sz3 rfl) ?_
                refine AR.op (r := i64 x370) rfl (aop_move (.inr rfl) rfl) ?_
                refine AR.nil ?_
                refine hK17 _ (AWP.weak (Weak.re (fr' := [(2, .ref 0 0 0), (3, .ref 1 0 0), (4, .ref 2 0 0), (6, .ref 3 0 0), (7, i64 r114.2), (24, i64 (Sh.len r114.1.Rows)), (25, i64 v293), (8, i64 v293), (33, .sl (List.map i64 r335)), (34, i64 (Sh.len r335)), (35, i64 v357), (10, i64 x370)]) (H' := ⟨5, [(0, (2, [G.graph_Graph.av a_0])), (1, (2, [G.graph_Graph.av b_1])), (2, (2, [.agg [i64 0, nilS]])), (3, (2, [.agg [i64 r114.1.N, .view 4 0 (List.map u64 outRows356).length]])), (4, (1, List.map u64 outRows356))]⟩) [(0, 0), (1, 1), (2, 2), (3, 3), (4, 4)] [] rfl rfl rfl (.cons rfl rfl (.one (.same _ (by simp)) rfl) (of_decide_eq_true rfl) (.cons rfl rfl (.one (.same _ (by simp)) rfl) (of_decide_eq_true rfl) (.cons rfl rfl (.one (.same _ (by simp)) rfl) (of_decide_eq_true rfl) (.cons rfl rfl (.one (.ag ⟨.same _ (by simp), .view rfl, trivial⟩) rfl) (of_decide_eq_true rfl) (.cons rfl rfl (.same (by simp)) (of_decide_eq_true rfl) (trivial)))))) ⟨⟨_, rfl, .ref rfl⟩, ⟨_, rfl, .ref rfl⟩, ⟨_, rfl, .ref rfl⟩, ⟨_, rfl, .ref rfl⟩, ⟨_, rfl, .same _ (by simp)⟩, ⟨_, rfl, .same _ (by simp)⟩, ⟨_, rfl, .same _ (by simp)⟩, ⟨_, rfl, .same _ (by simp)⟩, ⟨.sl (List.map i64 r335), rfl, .same _ (by simp)⟩, ⟨_, rfl, .same _ (by simp)⟩, ⟨_, rfl, .same _ (by simp)⟩, ⟨_, rfl, .same _ (by simp)⟩, trivial⟩) ?_)
                clear hK17 K17
                refine awp_any (by kernel_rfl) (by kernel_rfl) rfl ?_
                refine ARH.op rfl rfl (aop_field_ref rfl rfl rfl fd24_1 (by decide)) ?_
                refine ARH.op (r := .view 4 0 (List.map u64 outRows356).length) rfl rfl (aop_load_ref rfl rfl rfl rfl sz22 rfl) ?_
                refine ARH.dry (r := i64 v293) rfl (fun _ => aop_move (.inl rfl) rfl) ?_
                refine ARH.drop (frx := [(2, _), (3, _), (4, _), (6, _), (7, _), (24, _), (25, _), (8, _), (33, _), (34, _), (35, _), (10, _), (40, _), (41, _)]) ⟨rfl, rfl, rfl, rfl, rfl, rfl, rfl, rfl, rfl, rfl, rfl, rfl, rfl, rfl, trivial⟩ ?_
                refine ARH.op rfl rfl (aop_field_ref rfl rfl rfl fd24_1 (by decide)) ?_
                refine ARH.op (r := .view 4 0 (List.map u64 outRows356).length) rfl rfl (aop_load_ref rfl rfl rfl rfl sz22 rfl) ?_
                refine ARH.dry (r := i64 v293) rfl (fun _ => aop_move (.inl rfl) rfl) ?_
                refine ARH.drop (frx := [(2, _), (3, _), (4, _), (6, _), (7, _), (24, _), (25, _), (8, _), (33, _), (34, _), (35, _), (10, _), (40, _), (41, _), (43, _), (44, _)]) ⟨rfl, rfl, rfl, rfl, rfl, rfl, rfl, rfl, rfl, rfl, rfl, rfl, rfl, rfl, rfl, rfl, trivial⟩ ?_
                obtain ⟨x372, hx372, h⟩ := Sh.bind_some' h
                obtain ⟨k373, hi373, hl373⟩ := Sh.idx_some hx372
                refine ARH.op (r := .ref 4 k373 0) rfl rfl (t_index_view u64 outRows356 hi373 hl373 rfl rfl rfl rfl rfl el22 rfl) ?_
                refine ARH.op (r := u64 x372) rfl rfl (t_load_el u64 outRows356 hl373 rfl rfl rfl sz35 rfl) ?_
                refine ARH.op rfl rfl (aop_field_ref rfl rfl rfl fd24_1 (by decide)) ?_
                refine ARH.drop (frx := [(2, _), (3, _), (4, _), (6, _), (7, _), (24, _), (25, _), (8, _), (33, _), (34, _), (35, _), (10, _), (40, _), (41, _), (46, _), (47, _)]) ⟨rfl, rfl, rfl, rfl, rfl, rfl, rfl, rfl, rfl, rfl, rfl, rfl, rfl, rfl, rfl, rfl, trivial⟩ ?_
                refine ARH.op (r := .sl (List.map u64 b_1.Rows)) rfl rfl (aop_load_ref rfl rfl rfl rfl sz22 rfl) ?_
                refine ARH.dry (r := i64 x370) rfl (fun _ => aop_move (.inl rfl) rfl) ?_
                obtain ⟨x374, hx374, h⟩ := Sh.bind_some' h
                obtain ⟨k375, hi375, hl375⟩ := Sh.idx_some hx374
                refine ARH.op rfl rfl (t_index_sl u64 b_1.Rows hi375 hl375 rfl rfl rfl el22 rfl) ?_
                refine ARH.drop (frx := [(2, _), (3, _), (4, _), (6, _), (7, _), (24, _), (25, _), (8, _), (33, _), (34, _), (35, _), (40, _), (41, _), (46, _), (50, _)]) ⟨rfl, rfl, rfl, rfl, rfl, rfl, rfl, rfl, rfl, rfl, rfl, rfl, rfl, rfl, rfl, trivial⟩ ?_
                refine ARH.op (r := u64 x374) rfl rfl (aop_load_pp rfl rfl sz35 rfl) ?_
                refine ARH.op (r := .clip (List.map u64 [x372, x374])) rfl rfl (aop_buildSlice rfl (xo := [.tmp 46, .tmp 51]) rfl rfl rfl (by simp [AV.solid]) (by simp [AV.flat]) el22 ze22 (by decide)) ?_
                obtain ⟨r376, hr376, h⟩ := Sh.bind_some' h
                refine ARH.op (r := u64 r376) rfl rfl (aop_callN rfl (ys := [.clip (List.map u64 [x372, x374])]) (xs := [.sl (List.map u64 [x372, x374])]) rfl (Weak.re (fr' := argsFr 0 [.sl (List.map u64 [x372, x374])]) (H' := .empty) [] [] rfl rfl rfl trivial ⟨⟨.clip (List.map u64 [x372, x374]), rfl, .wide _ (by simp)⟩, trivial⟩) rfl (by simp) (bits_Join_ok hT hr376)) ?_
                refine ARH.drop (frx := [(2, _), (3, _), (4, _), (6, _), (7, _), (24, _), (25, _), (8, _), (33, _), (34, _), (35, _), (40, _), (41, _), (53, _)]) ⟨rfl, rfl, rfl, rfl, rfl, rfl, rfl, rfl, rfl, rfl, rfl, rfl, rfl, rfl, trivial⟩ ?_
                obtain ⟨x377, hx377, h⟩ := Sh.bind_some' h
                obtain ⟨k378, hi378, hl378⟩ := Sh.idx_some hx377
                refine ARH.op (r := .ref 4 k378 0) rfl rfl (t_index_view u64 outRows356 hi378 hl378 rfl rfl rfl rfl rfl el22 rfl) ?_
                refine ARH.loud rfl rfl rfl (t_store_el u64 outRows356 r376 hi378 hl378 rfl rfl rfl rfl rfl sz35 rfl (of_decide_eq_true rfl) rfl) ?_
                refine ARH.nil ?_
                refine hK16 _ (AWP.weak (Weak.re (fr' := [(2, .ref 0 0 0), (3, .ref 1 0 0), (4, .ref 2 0 0), (6, .ref 3 0 0), (7, i64 r114.2), (24, i64 (Sh.len r114.1.Rows)), (25, i64 v293), (8, i64 v293), (33, .sl (List.map i64 r335)), (34, i64 (Sh.len r335)), (35, i64 v357)]) (H' := ⟨5, [(0, (2, [G.graph_Graph.av a_0])), (1, (2, [G.graph_Graph.av b_1])), (2, (2, [.agg [i64 0, nilS]])), (3, (2, [.agg [i64 r114.1.N, .view 4 0 (List.map u64 (Sh.set outRows356 v293 r376)).length]])), (4, (1, List.map u64 (Sh.set outRows356 v293 r376)))]⟩) [(0, 0), (1, 1), (2, 2), (3, 3), (4, 4)] [] rfl rfl rfl (.cons rfl rfl (.one (.same _ (by simp)) rfl) (of_decide_eq_true rfl) (.cons rfl rfl (.one (.same _ (by simp)) rfl) (of_decide_eq_true rfl) (.cons rfl rfl (.one (.same _ (by simp)) rfl) (of_decide_eq_true rfl) (.cons rfl rfl (.one (.ag ⟨.same _ (by simp), .viewL rfl (by simp []), trivial⟩) rfl) (of_decide_eq_true rfl) (.cons rfl rfl (.same (by simp)) (of_decide_eq_true rfl) (trivial)))))) ⟨⟨_, rfl, .ref rfl⟩, ⟨_, rfl, .ref rfl⟩, ⟨_, rfl, .ref rfl⟩, ⟨_, rfl, .ref rfl⟩, ⟨_, rfl, .same _ (by simp)⟩, ⟨_, rfl, .same _ (by simp)⟩, ⟨_, rfl, .same _ (by simp)⟩, ⟨_, rfl, .same _ (by simp)⟩, ⟨.sl (List.map i64 r335), rfl, .same _ (by simp)⟩, ⟨_, rfl, .same _ (by simp)⟩, ⟨_, rfl, .same _ (by simp)⟩, trivial⟩) ?_)
                clear hK16 K16
                refine awp_reg rfl ?_
                refine AR.op (r := i64 (w64 (v357 + 1))) rfl (aop_add rfl rfl rfl rfl) ?_
                refine AR.op (r := i64 (w64 (v357 + 1))) rfl (aop_move (.inl rfl) rfl) ?_
                refine AR.nil ?_
                replace h := Sh.next_eq h
                exact ⟨_, h, Weak.re (fr' := [(2, .ref 0 0 0), (3, .ref 1 0 0), (4, .ref 2 0 0), (6, .ref 3 0 0), (7, i64 r114.2), (24, i64 (Sh.len r114.1.Rows)), (25, i64 v293), (8, i64 v293), (33, .sl (List.map i64 r335)), (34, i64 (Sh.len r335)), (35, i64 (w64 (v357 + 1)))]) (H' := ⟨5, [(0, (2, [G.graph_Graph.av a_0])), (1, (2, [G.graph_Graph.av b_1])), (2, (2, [.agg [i64 0, nilS]])), (3, (2, [.agg [i64 r114.1.N, .view 4 0 (List.map u64 (Sh.set outRows356 v293 r376)).length]])), (4, (1, List.map u64 (Sh.set outRows356 v293 r376)))]⟩) [(0, 0), (1, 1), (2, 2), (3, 3), (4, 4)] [] rfl rfl rfl (.cons rfl rfl (.one (.same _ (by simp)) rfl) (of_decide_eq_true rfl) (.cons rfl rfl (.one (.same _ (by simp)) rfl) (of_decide_eq_true rfl) (.cons rfl rfl (.one (.same _ (by simp)) rfl) (of_decide_eq_true rfl) (.cons rfl rfl (.one (.ag ⟨.same _ (by simp), .view rfl, trivial⟩) rfl) (of_decide_eq_true rfl) (.cons rfl rfl (.same (by simp)) (of_decide_eq_true rfl) (trivial)))))) ⟨⟨_, rfl, .ref rfl⟩, ⟨_, rfl, .ref rfl⟩, ⟨_, rfl, .ref rfl⟩, ⟨_, rfl, .ref rfl⟩, ⟨_, rfl, .same _ (by simp)⟩, ⟨_, rfl, .same _ (by simp)⟩, ⟨_, rfl, .same _ (by simp)⟩, ⟨_, rfl, .same _ (by simp)⟩, ⟨.sl (List.map i64 r335), rfl, .same _ (by simp)⟩, ⟨_, rfl, .same _ (by simp)⟩, ⟨_, rfl, .same _ (by simp)⟩, trivial⟩⟩
              · replace h := Sh.if_f h hb358
                refine awp_exit ?_
                replace h := Sh.exit_eq h hx2
                exact hK11 outRows356 _ h (Weak.re (fr' := [(2, .ref 0 0 0), (3, .ref 1 0 0), (4, .ref 2 0 0), (6, .ref 3 0 0), (7, i64 r114.2), (24, i64 (Sh.len r114.1.Rows)), (25, i64 v293)]) (H' := ⟨5, [(0, (2, [G.graph_Graph.av a_0])), (1, (2, [G.graph_Graph.av b_1])), (2, (2, [.agg [i64 0, nilS]])), (3, (2, [.agg [i64 r114.1.N, .view 4 0 (List.map u64 outRows356).length]])), (4, (1, List.map u64 outRows356))]⟩) [(0, 0), (1, 1), (2, 2), (3, 3), (4, 4)] [] rfl rfl rfl (.cons rfl rfl (.one (.same _ (by simp)) rfl) (of_decide_eq_true rfl) (.cons rfl rfl (.one (.same _ (by simp)) rfl) (of_decide_eq_true rfl) (.cons rfl rfl (.one (.same _ (by simp)) rfl) (of_decide_eq_true rfl) (.cons rfl rfl (.one (.ag ⟨.same _ (by simp), .view rfl, trivial⟩) rfl) (of_decide_eq_true rfl) (.cons rfl rfl (.same (by simp)) (of_decide_eq_true rfl) (trivial)))))) ⟨⟨_, rfl, .ref rfl⟩, ⟨_, rfl, .ref rfl⟩, ⟨_, rfl, .ref rfl⟩, ⟨_, rfl, .ref rfl⟩, ⟨_, rfl, .same _ (by simp)⟩, ⟨_, rfl, .same _ (by simp)⟩, ⟨_, rfl, .same _ (by simp)⟩, trivial⟩)
        · replace h := Sh.if_f h hb294
          refine awp_exit ?_
          replace h := Sh.exit_eq h hx1
          exact hK7 outRows292 _ h (Weak.re (fr' := [(4, .ref 0 0 0), (6, .ref 1 0 0), (7, i64 r114.2)]) (H' := ⟨3, [(0, (2, [.agg [i64 0, nilS]])), (1, (2, [.agg [i64 r114.1.N, .view 2 0 (List.map u64 outRows292).length]])), (2, (1, List.map u64 outRows292))]⟩) [(0, 2), (1, 3), (2, 4)] [] rfl rfl rfl (.cons rfl rfl (.one (.same _ (by simp)) rfl) (of_decide_eq_true rfl) (.cons rfl rfl (.one (.ag ⟨.same _ (by simp), .view rfl, trivial⟩) rfl) (of_decide_eq_true rfl) (.cons rfl rfl (.same (by simp)) (of_decide_eq_true rfl) (trivial)))) ⟨⟨_, rfl, .ref rfl⟩, ⟨_, rfl, .ref rfl⟩, ⟨_, rfl, .same _ (by simp)⟩, trivial⟩)
theorem graph_Compose_ok {W0 : World} (hT : Tab W0) {a_0 : G.graph_Graph} {b_1 : G.graph_Graph} {r : G.graph_Graph × Int} (h : G.graph_Compose a_0 b_1 = some r) : Fun1 Tryd.prog W0 20 [G.graph_Graph.av a_0, G.graph_Graph.av b_1] (.tuple [G.graph_Graph.av r.1, i64 r.2]) :=
  (graph_Compose_own hT h).give (Weak.re [] [] rfl rfl rfl trivial ⟨⟨_, rfl, .tp ⟨.ag ⟨.same _ (by simp), .lendAll rfl rfl (by simp), trivial⟩, .same _ (by simp), trivial⟩⟩, trivial⟩) (by simp)

end Wk
