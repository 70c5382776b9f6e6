/- That the functions of a package do what their plain functions say. -/
import Derived.Test.YtkiiigfefobdlaaDoorSh
import Derived.Test.YtkiiigfefobdlaaDoorWkCFacts
import Derived.Test.YtkiiigfefobdlaaDoorWkCbits
open Go Go.Av Go.Proofs
set_option linter.unusedVariables false
set_option maxHeartbeats 8000000
set_option maxRecDepth 20000
namespace Wk
theorem graph_nodes_ok0 {W0 : World} (hT : Tab W0) {n_0 : Int} {r : (BitVec 64)} (h : G.graph_nodes n_0 = some r) : Fun2 Tryd.prog W0 55 [i64 n_0] (u64 r) .empty := by
 refine fun2_of_awp Tryd.func55 rfl (by kernel_rfl) Tryd.ntmps55 (by simp) ?_
 unfold G.graph_nodes at h
 show AWP _ _ _ _ ⟨[(0, i64 n_0)], .empty⟩ _
 refine awp_seqK fun K1 hK1 => awp_reg rfl <| AR.op rfl (aop_move (.inr rfl) rfl) <| AR.nil <| hK1 _ (AWP.weak (Weak.kt [0] rfl) ?_)
 refine awp_seqK fun K2 hK2 => awp_reg rfl <| AR.op rfl (aop_move (.inl rfl) rfl) ?_
 obtain ⟨s3, hs3, h⟩ := Sh.bind_some' h
 refine AR.op (r := u64 s3) rfl (t_shl hs3 rfl rfl rfl) <| AR.op (r := u64 (s3 - 1#64)) rfl (aop_sub64 (a := s3) (b := 1#64) rfl rfl rfl) <| AR.keep [5] rfl <| AR.op rfl (aop_move (.inr rfl) rfl) <| AR.nil <| hK2 _ (AWP.weak (Weak.kt [2] rfl) ?_)
 refine awp_ret ?_
 obtain rfl := Option.some.inj h
 refine ⟨.inr rfl, u64 (s3 - 1#64), rfl, ?_⟩
 exact Weak.e ⟨.k, trivial⟩
theorem graph_nodes_ok {W0 : World} (hT : Tab W0) {n_0 : Int} {r : (BitVec 64)} (h : G.graph_nodes n_0 = some r) : Fun1 Tryd.prog W0 55 [i64 n_0] (u64 r) := Fun1.two (graph_nodes_ok0 hT h) (by simp)


theorem graph_Right_ok0 {W0 : World} (hT : Tab W0) {g_0 : G.graph_Graph} {r : Bool} (h : G.graph_Right g_0 = some r) : Fun2 Tryd.prog W0 30 [G.graph_Graph.av g_0] (bl r) .empty := by
 refine fun2_of_awp Tryd.func30 rfl (by kernel_rfl) Tryd.ntmps30 (by simp) ?_
 unfold G.graph_Right at h
 show AWP _ _ _ _ ⟨[(0, G.graph_Graph.av g_0)], .empty⟩ _
 refine awp_seqK fun K1 hK1 => awp_reg rfl <| AR.op (r := .ref 0 0 0) rfl (aop_box 2 [G.graph_Graph.av g_0] rfl rfl rfl (.inl ⟨rfl, rfl⟩)) <| AR.op rfl (aop_move (.inr rfl) rfl) <| AR.nil <| hK1 _ (AWP.weak (Weak.e (fr' := [(1, .pp [i64 g_0.N, .sl (List.map u64 g_0.Rows)] 0)]) (H' := .empty) ⟨⟨_, rfl, .frzA rfl rfl rfl rfl (by simp)⟩, trivial⟩) ?_)
 refine awp_seqK fun K2 hK2 => awp_any [(true, false), (true, false), (true, false), (true, false), (true, false), (true, false), (true, false), (true, false), (true, false), (true, false), (true, false), (true, false), (true, false), (true, false), (true, false), (true, false), (true, false), (true, false), (true, false), (true, false), (true, false), (true, false), (true, false), (true, false), (true, false), (true, false)] (by kernel_rfl) (by kernel_rfl) rfl ?_
 refine ARH.dry rfl (fun _ => aop_field_pp rfl rfl fd24_0 (by decide)) <| ARH.dry (r := i64 g_0.N) rfl (fun _ => aop_load_pp rfl rfl sz3 rfl) <| ARH.dry rfl (fun _ => aop_geq rfl rfl rfl) <| ARH.keep [1, 5] rfl <| ARH.dry rfl (fun _ => aop_move (.inl rfl) rfl) ?_
 rcases Bool.eq_false_or_eq_true (decide ((0 : Int) ≤ g_0.N)) with hb14 | hb14
 ·rw [hb14]
  replace h := Sh.if_t h hb14
  refine ARH.dry rfl (fun _ => aop_field_pp rfl rfl fd24_0 (by decide)) <| ARH.dry (r := i64 g_0.N) rfl (fun _ => aop_load_pp rfl rfl sz3 rfl) <| ARH.keep [1, 6, 8] rfl <| ARH.dry rfl (fun _ => aop_leq rfl rfl rfl) <| ARH.dry rfl (fun _ => aop_pick rfl rfl rfl) <| ARH.dry rfl (fun _ => aop_move (.inl rfl) rfl) <| ARH.keep [1, 11] rfl ?_
  rcases Bool.eq_false_or_eq_true (decide (g_0.N ≤ 64)) with hb15 | hb15
  ·rw [hb15]
   replace h := Sh.if_t h hb15
   refine ARH.dry rfl (fun _ => aop_field_pp rfl rfl fd24_1 (by decide)) <| ARH.dry (r := .sl (List.map u64 g_0.Rows)) rfl (fun _ => aop_load_pp rfl rfl sz22 rfl) <| ARH.dry rfl (fun _ => t_len_sl u64 g_0.Rows rfl rfl el22) <| ARH.keep [1, 11, 14] rfl <| ARH.dry rfl (fun _ => aop_field_pp rfl rfl fd24_0 (by decide)) <| ARH.dry (r := i64 g_0.N) rfl (fun _ => aop_load_pp rfl rfl sz3 rfl) <| ARH.dry (r := bl (decide ((Sh.len g_0.Rows) = g_0.N))) rfl (fun _ => aop_eql rfl rfl rfl) <| ARH.keep [1, 11, 17] rfl ?_
   refine ARH.dry rfl (fun _ => aop_pick rfl rfl rfl) <| ARH.dry rfl (fun _ => aop_move (.inl rfl) rfl) ?_
   rcases Bool.eq_false_or_eq_true (decide ((Sh.len g_0.Rows) = g_0.N)) with hb16 | hb16
   ·rw [hb16]
    replace h := Sh.if_t h hb16
    refine ARH.dry rfl (fun _ => aop_field_pp rfl rfl fd24_1 (by decide)) <| ARH.keep [1, 19, 20] rfl <| ARH.dry (r := .sl (List.map u64 g_0.Rows)) rfl (fun _ => aop_load_pp rfl rfl sz22 rfl) ?_
    obtain ⟨r17, hr17, h⟩ := Sh.bind_some' h
    refine ARH.dry (r := u64 r17) rfl (fun _ => aop_call1 rfl rfl (by simp) (bits_Join_ok hT hr17)) <| ARH.dry rfl (fun _ => aop_field_pp rfl rfl fd24_0 (by decide)) <| ARH.keep [19, 22, 23] rfl <| ARH.dry (r := i64 g_0.N) rfl (fun _ => aop_load_pp rfl rfl sz3 rfl) ?_
    obtain ⟨r18, hr18, h⟩ := Sh.bind_some' h
    refine ARH.dry (r := u64 r18) rfl (fun _ => aop_call1 rfl rfl (by simp) (graph_nodes_ok hT hr18)) ?_
    obtain ⟨r19, hr19, h⟩ := Sh.bind_some' h
    refine ARH.dry (r := bl r19) rfl (fun _ => aop_call1 rfl rfl (by simp) (bits_Sub_ok hT hr19)) <| ARH.keep [19, 26] rfl <| ARH.dry rfl (fun _ => aop_pick rfl rfl rfl) <| ARH.dry rfl (fun _ => aop_move (.inr rfl) rfl) <| ARH.nil <| hK2 _ (AWP.weak (Weak.kt [2] rfl) ?_)
    refine awp_ret ?_
    obtain rfl := Option.some.inj h
    refine ⟨.inr rfl, bl r19, rfl, ?_⟩
    exact Weak.e ⟨.k, trivial⟩
   ·rw [hb16]
    replace h := Sh.if_f h hb16
    refine ARH.skip rfl <| ARH.keep [1, 19, 20] rfl <| ARH.skip rfl <| ARH.skip rfl <| ARH.skip rfl <| ARH.keep [19, 22, 23] rfl <| ARH.skip rfl <| ARH.skip rfl ?_
    refine ARH.skip rfl <| ARH.keep [19, 26] rfl <| ARH.dry rfl (fun _ => aop_pick rfl rfl rfl) <| ARH.dry rfl (fun _ => aop_move (.inr rfl) rfl) <| ARH.nil <| hK2 _ (AWP.weak (Weak.kt [2] rfl) ?_)
    refine awp_ret ?_
    obtain rfl := Option.some.inj h
    refine ⟨.inr rfl, bl false, rfl, ?_⟩
    exact Weak.e ⟨.k, trivial⟩
  ·rw [hb15]
   replace h := Sh.if_f h hb15
   refine ARH.skip rfl <| ARH.skip rfl <| ARH.skip rfl <| ARH.keep [1, 11, 14] rfl <| ARH.skip rfl <| ARH.skip rfl <| ARH.skip rfl <| ARH.keep [1, 11, 17] rfl ?_
   refine ARH.dry rfl (fun _ => aop_pick rfl rfl rfl) <| ARH.dry rfl (fun _ => aop_move (.inl rfl) rfl) <| ARH.skip rfl <| ARH.keep [1, 19, 20] rfl <| ARH.skip rfl <| ARH.skip rfl <| ARH.skip rfl <| ARH.keep [19, 22, 23] rfl ?_
   refine ARH.skip rfl <| ARH.skip rfl <| ARH.skip rfl <| ARH.keep [19, 26] rfl <| ARH.dry rfl (fun _ => aop_pick rfl rfl rfl) <| ARH.dry rfl (fun _ => aop_move (.inr rfl) rfl) <| ARH.nil <| hK2 _ (AWP.weak (Weak.kt [2] rfl) ?_)
   refine awp_ret ?_
   obtain rfl := Option.some.inj h
   refine ⟨.inr rfl, bl false, rfl, ?_⟩
   exact Weak.e ⟨.k, trivial⟩
 ·rw [hb14]
  replace h := Sh.if_f h hb14
  refine ARH.skip rfl <| ARH.skip rfl <| ARH.keep [1, 6, 8] rfl <| ARH.skip rfl <| ARH.dry rfl (fun _ => aop_pick rfl rfl rfl) <| ARH.dry rfl (fun _ => aop_move (.inl rfl) rfl) <| ARH.keep [1, 11] rfl <| ARH.skip rfl ?_
  refine ARH.skip rfl <| ARH.skip rfl <| ARH.keep [1, 11, 14] rfl <| ARH.skip rfl <| ARH.skip rfl <| ARH.skip rfl <| ARH.keep [1, 11, 17] rfl <| ARH.dry rfl (fun _ => aop_pick rfl rfl rfl) ?_
  refine ARH.dry rfl (fun _ => aop_move (.inl rfl) rfl) <| ARH.skip rfl <| ARH.keep [1, 19, 20] rfl <| ARH.skip rfl <| ARH.skip rfl <| ARH.skip rfl <| ARH.keep [19, 22, 23] rfl <| ARH.skip rfl ?_
  refine ARH.skip rfl <| ARH.skip rfl <| ARH.keep [19, 26] rfl <| ARH.dry rfl (fun _ => aop_pick rfl rfl rfl) <| ARH.dry rfl (fun _ => aop_move (.inr rfl) rfl) <| ARH.nil <| hK2 _ (AWP.weak (Weak.kt [2] rfl) ?_)
  refine awp_ret ?_
  obtain rfl := Option.some.inj h
  refine ⟨.inr rfl, bl false, rfl, ?_⟩
  exact Weak.e ⟨.k, trivial⟩
theorem graph_Right_ok {W0 : World} (hT : Tab W0) {g_0 : G.graph_Graph} {r : Bool} (h : G.graph_Right g_0 = some r) : Fun1 Tryd.prog W0 30 [G.graph_Graph.av g_0] (bl r) := Fun1.two (graph_Right_ok0 hT h) (by simp)


theorem graph_Has_ok0 {W0 : World} (hT : Tab W0) {g_0 : G.graph_Graph} {a_1 : Int} {b_2 : Int} {r : Bool} (h : G.graph_Has g_0 a_1 b_2 = some r) : Fun2 Tryd.prog W0 19 [G.graph_Graph.av g_0, i64 a_1, i64 b_2] (bl r) .empty := by
 refine fun2_of_awp Tryd.func19 rfl (by kernel_rfl) Tryd.ntmps19 (by simp) ?_
 unfold G.graph_Has at h
 show AWP _ _ _ _ ⟨[(0, G.graph_Graph.av g_0), (1, i64 a_1), (2, i64 b_2)], .empty⟩ _
 refine awp_seqK fun K1 hK1 => awp_reg rfl <| AR.op (r := .ref 0 0 0) rfl (aop_box 2 [G.graph_Graph.av g_0] rfl rfl rfl (.inl ⟨rfl, rfl⟩)) <| AR.op rfl (aop_move (.inr rfl) rfl) <| AR.nil <| hK1 _ (AWP.weak (Weak.e (fr' := [(1, i64 a_1), (2, i64 b_2), (3, .pp [i64 g_0.N, .sl (List.map u64 g_0.Rows)] 0)]) (H' := .empty) ⟨.k, .k, ⟨_, rfl, .frzA rfl rfl rfl rfl (by simp)⟩, trivial⟩) ?_)
 refine awp_seqK fun K2 hK2 => awp_reg rfl <| AR.op (r := G.graph_Graph.av g_0) rfl (aop_load_pp rfl rfl sz24 rfl) ?_
 obtain ⟨r16, hr16, h⟩ := Sh.bind_some' h
 refine AR.op (r := bl r16) rfl (aop_call1 rfl rfl (by simp) (graph_Right_ok hT hr16)) <| AR.op rfl (aop_move (.inl rfl) rfl) <| AR.keep [1, 2, 3, 9] rfl ?_
 rcases Bool.eq_false_or_eq_true (r16) with hb17 | hb17
 ·rw [hb17]
  replace h := Sh.if_t h hb17
  refine AR.op rfl (aop_move (.inl rfl) rfl) <| AR.op rfl (aop_geq rfl rfl rfl) <| AR.op rfl (aop_pick rfl rfl rfl) <| AR.keep [1, 2, 3, 12] rfl <| AR.op rfl (aop_move (.inl rfl) rfl) ?_
  rcases Bool.eq_false_or_eq_true (decide ((0 : Int) ≤ a_1)) with hb18 | hb18
  ·rw [hb18]
   replace h := Sh.if_t h hb18
   refine AR.op rfl (aop_move (.inl rfl) rfl) <| AR.op rfl (aop_field_pp rfl rfl fd24_0 (by decide)) <| AR.keep [1, 2, 3, 13, 14, 15] rfl <| AR.op (r := i64 g_0.N) rfl (aop_load_pp rfl rfl sz3 rfl) <| AR.op rfl (aop_lss rfl rfl rfl) <| AR.op rfl (aop_pick rfl rfl rfl) <| AR.keep [1, 2, 3, 18] rfl <| AR.op rfl (aop_move (.inl rfl) rfl) ?_
   rcases Bool.eq_false_or_eq_true (decide (a_1 < g_0.N)) with hb19 | hb19
   ·rw [hb19]
    replace h := Sh.if_t h hb19
    refine AR.op rfl (aop_field_pp rfl rfl fd24_1 (by decide)) <| AR.op (r := .sl (List.map u64 g_0.Rows)) rfl (aop_load_pp rfl rfl sz22 rfl) <| AR.keep [1, 2, 19, 21] rfl <| AR.op rfl (aop_move (.inl rfl) rfl) ?_
    obtain ⟨x20, hx20, h⟩ := Sh.bind_some' h
    obtain ⟨k21, hi21, hl21⟩ := Sh.idx_some hx20
    refine AR.op rfl (t_index_sl u64 g_0.Rows hi21 hl21 rfl rfl rfl el22 rfl) <| AR.op (r := u64 x20) rfl (aop_load_pp rfl rfl sz35 rfl) <| AR.keep [2, 19, 24] rfl <| AR.op rfl (aop_move (.inl rfl) rfl) ?_
    obtain ⟨r22, hr22, h⟩ := Sh.bind_some' h
    refine AR.op (r := bl r22) rfl (aop_call1 rfl rfl (by simp) (bits_Has_ok hT hr22)) <| AR.op rfl (aop_pick rfl rfl rfl) <| AR.keep [27] rfl <| AR.op rfl (aop_move (.inr rfl) rfl) <| AR.nil <| hK2 _ (AWP.weak (Weak.kt [6] rfl) ?_)
    refine awp_ret ?_
    obtain rfl := Option.some.inj h
    refine ⟨.inr rfl, bl r22, rfl, ?_⟩
    exact Weak.e ⟨.k, trivial⟩
   ·rw [hb19]
    replace h := Sh.if_f h hb19
    refine AR.skip rfl <| AR.skip rfl <| AR.keep [1, 2, 19, 21] rfl <| AR.skip rfl <| AR.skip rfl <| AR.skip rfl <| AR.keep [2, 19, 24] rfl <| AR.skip rfl ?_
    refine AR.skip rfl <| AR.op rfl (aop_pick rfl rfl rfl) <| AR.keep [27] rfl <| AR.op rfl (aop_move (.inr rfl) rfl) <| AR.nil <| hK2 _ (AWP.weak (Weak.kt [6] rfl) ?_)
    refine awp_ret ?_
    obtain rfl := Option.some.inj h
    refine ⟨.inr rfl, bl false, rfl, ?_⟩
    exact Weak.e ⟨.k, trivial⟩
  ·rw [hb18]
   replace h := Sh.if_f h hb18
   refine AR.skip rfl <| AR.skip rfl <| AR.keep [1, 2, 3, 13, 14, 15] rfl <| AR.skip rfl <| AR.skip rfl <| AR.op rfl (aop_pick rfl rfl rfl) <| AR.keep [1, 2, 3, 18] rfl <| AR.op rfl (aop_move (.inl rfl) rfl) ?_
   refine AR.skip rfl <| AR.skip rfl <| AR.keep [1, 2, 19, 21] rfl <| AR.skip rfl <| AR.skip rfl <| AR.skip rfl <| AR.keep [2, 19, 24] rfl <| AR.skip rfl ?_
   refine AR.skip rfl <| AR.op rfl (aop_pick rfl rfl rfl) <| AR.keep [27] rfl <| AR.op rfl (aop_move (.inr rfl) rfl) <| AR.nil <| hK2 _ (AWP.weak (Weak.kt [6] rfl) ?_)
   refine awp_ret ?_
   obtain rfl := Option.some.inj h
   refine ⟨.inr rfl, bl false, rfl, ?_⟩
   exact Weak.e ⟨.k, trivial⟩
 ·rw [hb17]
  replace h := Sh.if_f h hb17
  refine AR.skip rfl <| AR.skip rfl <| AR.op rfl (aop_pick rfl rfl rfl) <| AR.keep [1, 2, 3, 12] rfl <| AR.op rfl (aop_move (.inl rfl) rfl) <| AR.skip rfl <| AR.skip rfl <| AR.keep [1, 2, 3, 13, 14, 15] rfl ?_
  refine AR.skip rfl <| AR.skip rfl <| AR.op rfl (aop_pick rfl rfl rfl) <| AR.keep [1, 2, 3, 18] rfl <| AR.op rfl (aop_move (.inl rfl) rfl) <| AR.skip rfl <| AR.skip rfl <| AR.keep [1, 2, 19, 21] rfl ?_
  refine AR.skip rfl <| AR.skip rfl <| AR.skip rfl <| AR.keep [2, 19, 24] rfl <| AR.skip rfl <| AR.skip rfl <| AR.op rfl (aop_pick rfl rfl rfl) <| AR.keep [27] rfl ?_
  refine AR.op rfl (aop_move (.inr rfl) rfl) <| AR.nil <| hK2 _ (AWP.weak (Weak.kt [6] rfl) ?_)
  refine awp_ret ?_
  obtain rfl := Option.some.inj h
  refine ⟨.inr rfl, bl false, rfl, ?_⟩
  exact Weak.e ⟨.k, trivial⟩
theorem graph_Has_ok {W0 : World} (hT : Tab W0) {g_0 : G.graph_Graph} {a_1 : Int} {b_2 : Int} {r : Bool} (h : G.graph_Has g_0 a_1 b_2 = some r) : Fun1 Tryd.prog W0 19 [G.graph_Graph.av g_0, i64 a_1, i64 b_2] (bl r) := Fun1.two (graph_Has_ok0 hT h) (by simp)


theorem graph_New_own {W0 : World} (hT : Tab W0) {n_0 : Int} {r : G.graph_Graph × Int} (h : G.graph_New n_0 = some r) : Fun2 Tryd.prog W0 43 [i64 n_0] (.tuple [.agg [i64 r.1.N, .view 0 0 (List.map u64 r.1.Rows).length], i64 r.2]) ⟨1, [(0, (1, List.map u64 r.1.Rows))], []⟩ := by
 refine fun2_of_awp Tryd.func43 rfl (by kernel_rfl) Tryd.ntmps43 (by simp) ?_
 unfold G.graph_New at h
 show AWP _ _ _ _ ⟨[(0, i64 n_0)], .empty⟩ _
 refine awp_seqK fun K1 hK1 => awp_reg rfl <| AR.op (r := .ref 0 0 0) rfl (aop_alloc 2 [.agg [i64 0, nilS]] rfl zr24 (by kernel_rfl) (.inl ⟨rfl, rfl⟩)) <| AR.op rfl (aop_move (.inr rfl) rfl) <| AR.nil <| hK1 _ (AWP.weak (Weak.kt [0, 2] rfl) ?_)
 refine awp_seqK fun K2 hK2 => awp_seqJ (fun (p : Bool) => (⟨[(0, i64 n_0), (2, .ref 0 0 0), (9, bl p)], ⟨1, [(0, (2, [.agg [i64 0, nilS]]))], []⟩⟩ : St)) (fun (p : Bool) => G.graph_New_j1 n_0 p = some r) ?_ ?_
 ·rintro v7 h
  replace h : G.graph_New_j1 n_0 v7 = some r := h
  unfold G.graph_New_j1 at h
  refine awp_cond rfl (fun hb8 => ?_) (fun hb8 => ?_)
  ·replace h := Sh.if_t h hb8
   refine awp_seqK fun K3 hK3 => awp_reg rfl <| AR.op (r := .agg [i64 0, nilS]) rfl (aop_build rfl bd24 rfl rfl rfl) <| AR.op rfl (aop_store (e' := .agg [i64 0, nilS]) rfl rfl rfl rfl rfl rfl sz24 rfl dt rfl) <| AR.op rfl (aop_move (.inr rfl) rfl) <| AR.nil <| hK3 _ (AWP.weak (Weak.kt [2, 3] rfl) ?_)
   refine awp_ret ?_
   obtain rfl := Option.some.inj h
   refine ⟨.inr rfl, .tuple [.agg [i64 0, nilS], i64 1], rfl, ?_⟩
   exact Weak.re [] [0] rfl rfl rfl (.fresh (by simp) dt trivial) ⟨⟨.tuple [.agg [i64 0, nilS], i64 1], rfl, .tp ⟨.ag ⟨.sm, .nil (by simp), trivial⟩, .sm, trivial⟩⟩, trivial⟩
  ·replace h := Sh.if_f h hb8
   refine awp_skip <| hK2 _ (AWP.weak (Weak.kt [0, 2] rfl) ?_)
   refine awp_seqK fun K4 hK4 => awp_reg rfl <| AR.op rfl (aop_move (.inl rfl) rfl) <| AR.op rfl (aop_move (.inl rfl) rfl) ?_
   obtain ⟨made10, hmade10, h⟩ := Sh.bind_some' h
   refine AR.op (r := .view 1 0 (List.map u64 made10).length) rfl (t_make u64 0#64 made10 hmade10 rfl rfl rfl el22 zv22 rfl rfl rfl) <| AR.keep [2, 11, 13] rfl <| AR.op (r := .agg [i64 n_0, .view 1 0 (List.map u64 made10).length]) rfl (aop_build rfl bd24 rfl rfl rfl) <| AR.op rfl (aop_store (e' := .agg [i64 n_0, .view 1 0 (List.map u64 made10).length]) rfl rfl rfl rfl rfl rfl sz24 rfl dt rfl) <| AR.op rfl (aop_move (.inr rfl) rfl) <| AR.nil <| hK4 _ (AWP.weak (Weak.kt [2, 3] rfl) ?_)
   refine awp_ret ?_
   obtain rfl := Option.some.inj h
   refine ⟨.inr rfl, .tuple [.agg [i64 n_0, .view 1 0 (List.map u64 made10).length], i64 0], rfl, ?_⟩
   exact Weak.re [(0, 1)] [] rfl rfl rfl (.cons rfl rfl (.same (by simp)) dt trivial) ⟨⟨.tuple [.agg [i64 n_0, .view 1 0 (List.map u64 made10).length], i64 0], rfl, .tp ⟨.ag ⟨.sm, .view rfl, trivial⟩, .sm, trivial⟩⟩, trivial⟩
 ·intro K5 hK5
  refine awp_reg rfl <| AR.op rfl (aop_move (.inl rfl) rfl) <| AR.op rfl (aop_lss rfl rfl rfl) <| AR.op rfl (aop_move (.inl rfl) rfl) <| AR.keep [0, 2, 6] rfl ?_
  rcases Bool.eq_false_or_eq_true (decide (n_0 < 0)) with hb11 | hb11
  ·rw [hb11]
   replace h := Sh.if_t h hb11
   refine AR.skip rfl <| AR.skip rfl <| AR.op rfl (aop_pick rfl rfl rfl) <| AR.nil ?_
   exact hK5 true _ h (Weak.kt [0, 2, 9] rfl)
  ·rw [hb11]
   replace h := Sh.if_f h hb11
   refine AR.op rfl (aop_move (.inl rfl) rfl) <| AR.op rfl (aop_gtr rfl rfl rfl) <| AR.op rfl (aop_pick rfl rfl rfl) <| AR.nil ?_
   exact hK5 (decide ((64 : Int) < n_0)) _ h (Weak.kt [0, 2, 9] rfl)
theorem graph_Edges_own {W0 : World} (hT : Tab W0) {g_0 : G.graph_Graph} {r : (List G.graph_Edge)} (h : G.graph_Edges g_0 = some r) : Fun2 Tryd.prog W0 57 [G.graph_Graph.av g_0] (.view 0 0 (List.map G.graph_Edge.av r).length) ⟨1, [(0, (2, List.map G.graph_Edge.av r))], []⟩ := by
 refine fun2_of_awp Tryd.func57 rfl (by kernel_rfl) Tryd.ntmps57 (by simp) ?_
 unfold G.graph_Edges at h
 show AWP _ _ _ _ ⟨[(0, G.graph_Graph.av g_0)], .empty⟩ _
 refine awp_seqK fun K1 hK1 => awp_reg rfl <| AR.op (r := .ref 0 0 0) rfl (aop_box 2 [G.graph_Graph.av g_0] rfl rfl rfl (.inl ⟨rfl, rfl⟩)) <| AR.op rfl (aop_move (.inr rfl) rfl) <| AR.nil <| hK1 _ (AWP.weak (Weak.e (fr' := [(1, .pp [i64 g_0.N, .sl (List.map u64 g_0.Rows)] 0)]) (H' := .empty) ⟨⟨_, rfl, .frzA rfl rfl rfl rfl (by simp)⟩, trivial⟩) ?_)
 refine awp_seqK fun K2 hK2 => awp_seqK fun K3 hK3 => awp_reg rfl <| AR.op (r := G.graph_Graph.av g_0) rfl (aop_load_pp rfl rfl sz24 rfl) ?_
 obtain ⟨r56, hr56, h⟩ := Sh.bind_some' h
 refine AR.op (r := bl r56) rfl (aop_call1 rfl rfl (by simp) (graph_Right_ok hT hr56)) <| AR.op (r := bl (!r56)) rfl (aop_not rfl rfl) <| AR.nil <| hK3 _ (AWP.weak (Weak.kt [1, 10] rfl) ?_)
 refine awp_cond rfl (fun hb57 => ?_) (fun hb57 => ?_)
 ·replace h := Sh.if_t h hb57
  refine awp_seqK fun K4 hK4 => awp_reg rfl <| AR.op rfl (aop_move (.inr rfl) rfl) <| AR.nil <| hK4 _ (AWP.weak (Weak.kt [2] rfl) ?_)
  refine awp_ret ?_
  obtain rfl := Option.some.inj h
  refine ⟨.inr rfl, nilS, rfl, ?_⟩
  exact Weak.re [] [0] rfl rfl rfl (.fresh (by simp) dt trivial) ⟨⟨_, rfl, .nil (by simp)⟩, trivial⟩
 ·replace h := Sh.if_f h hb57
  refine awp_skip <| hK2 _ (AWP.weak (Weak.kt [1] rfl) ?_)
  refine awp_seqK fun K5 hK5 => awp_reg rfl <| AR.op rfl (aop_move (.inr rfl) rfl) <| AR.nil <| hK5 _ ?_
  refine awp_seqJ (fun (p : (List G.graph_Edge)) => (⟨[(3, .view 0 0 (List.map G.graph_Edge.av p).length)], ⟨1, [(0, (2, List.map G.graph_Edge.av p))], []⟩⟩ : St)) (fun (p : (List G.graph_Edge)) => G.graph_Edges_j1 p = some r) ?_ ?_
  ·rintro out110 h
   replace h : G.graph_Edges_j1 out110 = some r := h
   unfold G.graph_Edges_j1 at h
   refine awp_seqK fun K6 hK6 => awp_reg rfl <| AR.op rfl (aop_move (.inl rfl) rfl) <| AR.op rfl (aop_move (.inr rfl) rfl) <| AR.nil <| hK6 _ (AWP.weak (Weak.kt [2] rfl) ?_)
   refine awp_ret ?_
   obtain rfl := Option.some.inj h
   refine ⟨.inr rfl, .view 0 0 (List.map G.graph_Edge.av out110).length, rfl, ?_⟩
   exact Weak.re [(0, 0)] [] rfl rfl rfl (.cons rfl rfl (.same (by simp)) dt trivial) ⟨⟨_, rfl, .view rfl⟩, trivial⟩
  ·intro K7 hK7
   refine awp_seqK fun K8 hK8 => awp_reg rfl <| AR.op rfl (aop_field_pp rfl rfl fd24_1 (by decide)) <| AR.op (r := .sl (List.map u64 g_0.Rows)) rfl (aop_load_pp rfl rfl sz22 rfl) <| AR.op rfl (t_len_sl u64 g_0.Rows rfl rfl el22) <| AR.keep [3, 12, 13] rfl <| AR.op rfl (aop_move (.inl rfl) rfl) <| AR.nil ?_
   refine hK8 _ ?_
   refine awp_block <| awp_iter (fun (p : (List G.graph_Edge) × Int) => G.graph_Edges_b1 g_0 p.1 p.2) (fun (p : (List G.graph_Edge) × Int) => (⟨[(3, .view 0 0 (List.map G.graph_Edge.av p.1).length), (12, .sl (List.map u64 g_0.Rows)), (13, i64 (Sh.len g_0.Rows)), (14, i64 p.2)], ⟨1, [(0, (2, List.map G.graph_Edge.av p.1))], []⟩⟩ : St)) h (Weak.re [] [0] rfl rfl rfl (.fresh (by simp) dt trivial) ⟨⟨_, rfl, .nil (by simp)⟩, ⟨.sl (List.map u64 g_0.Rows), rfl, .sm⟩, .k, .k, trivial⟩) ?_
   ·skip
    rintro ⟨out145, v146⟩ o1 h hx1
    replace h : G.graph_Edges_b1 g_0 out145 v146 = some o1 := h
    unfold G.graph_Edges_b1 at h
    refine awp_seqK fun K9 hK9 => awp_reg rfl <| AR.op rfl (aop_lss rfl rfl rfl) <| AR.nil <| hK9 _ ?_
    refine awp_seqK fun K10 hK10 => awp_cond rfl (fun hb147 => ?_) (fun hb147 => ?_)
    ·replace h := Sh.if_t h hb147
     refine awp_skip <| hK10 _ (AWP.weak (Weak.kt [3, 12, 13, 14] rfl) ?_)
     refine awp_seqJ (fun (p : (List G.graph_Edge)) => (⟨[(3, .view 0 0 (List.map G.graph_Edge.av p).length), (12, .sl (List.map u64 g_0.Rows)), (13, i64 (Sh.len g_0.Rows)), (14, i64 v146)], ⟨1, [(0, (2, List.map G.graph_Edge.av p))], []⟩⟩ : St)) (fun (p : (List G.graph_Edge)) => G.graph_Edges_j2 v146 p = some o1) ?_ ?_
     ·rintro out164 h
      replace h : G.graph_Edges_j2 v146 out164 = some o1 := h
      unfold G.graph_Edges_j2 at h
      refine awp_reg rfl <| AR.op rfl (aop_add rfl rfl rfl rfl) <| AR.op rfl (aop_move (.inl rfl) rfl) <| AR.nil ?_
      replace h := Sh.next_eq h
      exact ⟨_, h, Weak.kt [3, 12, 13, 14] rfl⟩
     ·intro K11 hK11
      refine awp_block <| awp_seqK fun K12 hK12 => awp_reg rfl <| AR.op rfl (aop_move (.inl rfl) rfl) ?_
      obtain ⟨x167, hx167, h⟩ := Sh.bind_some' h
      obtain ⟨k168, hi168, hl168⟩ := Sh.idx_some hx167
      refine AR.op rfl (t_index_sl u64 g_0.Rows hi168 hl168 rfl rfl rfl el22 rfl) <| AR.op (r := u64 x167) rfl (aop_load_pp rfl rfl sz35 rfl) <| AR.keep [3, 12, 13, 14, 16, 18] rfl <| AR.op rfl (aop_move (.inr rfl) rfl) <| AR.op rfl (aop_move (.inr rfl) rfl) <| AR.nil <| hK12 _ (AWP.weak (Weak.kt [3, 12, 13, 14, 4, 5] rfl) ?_)
      refine awp_seqK fun K13 hK13 => awp_reg rfl <| AR.op rfl (aop_move (.inl rfl) rfl) ?_
      obtain ⟨r170, hr170, h⟩ := Sh.bind_some' h
      refine AR.op (r := .sl (List.map i64 r170)) rfl (aop_call1 rfl rfl (by simp) (bits_List_ok hT hr170)) <| AR.op rfl (t_len_sl i64 r170 rfl rfl el25) <| AR.keep [3, 12, 13, 14, 4, 20, 21] rfl <| AR.op rfl (aop_move (.inl rfl) rfl) <| AR.nil <| hK13 _ ?_
      refine awp_block <| awp_iter (fun (p : (List G.graph_Edge) × Int) => G.graph_Edges_b2 v146 r170 p.1 p.2) (fun (p : (List G.graph_Edge) × Int) => (⟨[(3, .view 0 0 (List.map G.graph_Edge.av p.1).length), (12, .sl (List.map u64 g_0.Rows)), (13, i64 (Sh.len g_0.Rows)), (14, i64 v146), (4, i64 v146), (20, .sl (List.map i64 r170)), (21, i64 (Sh.len r170)), (22, i64 p.2)], ⟨1, [(0, (2, List.map G.graph_Edge.av p.1))], []⟩⟩ : St)) h (Weak.kt [3, 12, 13, 14, 4, 20, 21, 22] rfl) ?_
      ·skip
       rintro ⟨out179, v180⟩ o2 h hx2
       replace h : G.graph_Edges_b2 v146 r170 out179 v180 = some o2 := h
       unfold G.graph_Edges_b2 at h
       refine awp_seqK fun K14 hK14 => awp_reg rfl <| AR.op rfl (aop_lss rfl rfl rfl) <| AR.nil <| hK14 _ ?_
       refine awp_seqK fun K15 hK15 => awp_cond rfl (fun hb181 => ?_) (fun hb181 => ?_)
       ·replace h := Sh.if_t h hb181
        refine awp_skip <| hK15 _ (AWP.weak (Weak.kt [3, 12, 13, 14, 4, 20, 21, 22] rfl) ?_)
        refine awp_seqK fun K16 hK16 => awp_block <| awp_seqK fun K17 hK17 => awp_reg rfl ?_
        obtain ⟨x187, hx187, h⟩ := Sh.bind_some' h
        obtain ⟨k188, hi188, hl188⟩ := Sh.idx_some hx187
        refine AR.op rfl (t_index_sl i64 r170 hi188 hl188 rfl rfl rfl el25 rfl) <| AR.op (r := i64 x187) rfl (aop_load_pp rfl rfl sz3 rfl) <| AR.op rfl (aop_move (.inr rfl) rfl) <| AR.nil <| hK17 _ (AWP.weak (Weak.kt [3, 12, 13, 14, 4, 20, 21, 22, 7] rfl) ?_)
        refine awp_reg rfl <| AR.op rfl (aop_move (.inl rfl) rfl) <| AR.op rfl (aop_move (.inl rfl) rfl) <| AR.op rfl (aop_move (.inl rfl) rfl) <| AR.keep [12, 13, 14, 4, 20, 21, 22, 26, 27, 28] rfl <| AR.op (r := .agg [i64 v146, i64 x187]) rfl (aop_build rfl bd80 rfl rfl rfl) <| AR.op (r := .clip (List.map G.graph_Edge.av ([(G.graph_Edge.mk v146 x187)] : List G.graph_Edge))) rfl (aop_buildSlice rfl (xo := [.tmp 29]) rfl rfl rfl (by simp) (by simp) el77 ze77 (by decide)) ?_
        obtain ⟨out189, hout189, h⟩ := Sh.bind_some' h
        refine AR.op (r := .view 1 0 (List.map G.graph_Edge.av out189).length) rfl (t_app_view G.graph_Edge.av out179 ([(G.graph_Edge.mk v146 x187)] : List G.graph_Edge) out189 hout189 rfl et77 (fun _ => rfl) rfl rfl rfl rfl rfl rfl rfl) <| AR.keep [12, 13, 14, 4, 20, 21, 22, 31] rfl <| AR.op rfl (aop_move (.inr rfl) rfl) <| AR.nil <| hK16 _ (AWP.weak (Weak.re (fr' := [(12, .sl (List.map u64 g_0.Rows)), (13, i64 (Sh.len g_0.Rows)), (14, i64 v146), (4, i64 v146), (20, .sl (List.map i64 r170)), (21, i64 (Sh.len r170)), (22, i64 v180), (3, .view 0 0 (List.map G.graph_Edge.av out189).length)]) (H' := ⟨1, [(0, (2, List.map G.graph_Edge.av out189))], []⟩) [(0, 1)] [] rfl rfl rfl (.cons rfl rfl (.same (by simp)) dt trivial) ⟨⟨.sl (List.map u64 g_0.Rows), rfl, .sm⟩, .k, .k, .k, ⟨.sl (List.map i64 r170), rfl, .sm⟩, .k, .k, ⟨_, rfl, .view rfl⟩, trivial⟩) ?_)
        refine awp_reg rfl <| AR.op rfl (aop_add rfl rfl rfl rfl) <| AR.op rfl (aop_move (.inl rfl) rfl) <| AR.nil ?_
        replace h := Sh.next_eq h
        exact ⟨_, h, Weak.kt [3, 12, 13, 14, 4, 20, 21, 22] rfl⟩
       ·replace h := Sh.if_f h hb181
        refine awp_exit ?_
        replace h := Sh.exit_eq h hx2
        exact hK11 out179 _ h (Weak.kt [3, 12, 13, 14] rfl)
    ·replace h := Sh.if_f h hb147
     refine awp_exit ?_
     replace h := Sh.exit_eq h hx1
     exact hK7 out145 _ h (Weak.kt [3] rfl)
theorem graph_Edges_ok {W0 : World} (hT : Tab W0) {g_0 : G.graph_Graph} {r : (List G.graph_Edge)} (h : G.graph_Edges g_0 = some r) : Fun1 Tryd.prog W0 57 [G.graph_Graph.av g_0] (.sl (List.map G.graph_Edge.av r)) :=
 (graph_Edges_own hT h).give (Weak.e ⟨⟨_, rfl, .lendAll rfl rfl (by simp)⟩, trivial⟩) (by simp)


theorem graph_Turn_own {W0 : World} (hT : Tab W0) {g_0 : G.graph_Graph} {r : G.graph_Graph × Int} (h : G.graph_Turn g_0 = some r) : Fun2 Tryd.prog W0 32 [G.graph_Graph.av g_0] (.tuple [.agg [i64 r.1.N, .view 0 0 (List.map u64 r.1.Rows).length], i64 r.2]) ⟨1, [(0, (1, List.map u64 r.1.Rows))], []⟩ := by
 refine fun2_of_awp Tryd.func32 rfl (by kernel_rfl) Tryd.ntmps32 (by simp) ?_
 unfold G.graph_Turn at h
 show AWP _ _ _ _ ⟨[(0, G.graph_Graph.av g_0)], .empty⟩ _
 refine awp_seqK fun K1 hK1 => awp_reg rfl <| AR.op (r := .ref 0 0 0) rfl (aop_box 2 [G.graph_Graph.av g_0] rfl rfl rfl (.inl ⟨rfl, rfl⟩)) <| AR.op (r := .ref 1 0 0) rfl (aop_alloc 2 [.agg [i64 0, nilS]] rfl zr24 (by kernel_rfl) (.inl ⟨rfl, rfl⟩)) <| AR.op rfl (aop_move (.inr rfl) rfl) <| AR.nil <| hK1 _ (AWP.weak (Weak.re (fr' := [(1, .pp [i64 g_0.N, .sl (List.map u64 g_0.Rows)] 0), (2, .ref 0 0 0)]) (H' := ⟨1, [(0, (2, [.agg [i64 0, nilS]]))], []⟩) [(0, 1)] [] rfl rfl rfl (.cons rfl rfl (.one (.sm) rfl) dt trivial) ⟨⟨_, rfl, .frzA rfl rfl rfl rfl (by simp)⟩, ⟨_, rfl, .ref rfl⟩, trivial⟩) ?_)
 refine awp_seqK fun K2 hK2 => awp_seqK fun K3 hK3 => awp_reg rfl <| AR.op (r := G.graph_Graph.av g_0) rfl (aop_load_pp rfl rfl sz24 rfl) ?_
 obtain ⟨r31, hr31, h⟩ := Sh.bind_some' h
 refine AR.op (r := bl r31) rfl (aop_call1 rfl rfl (by simp) (graph_Right_ok hT hr31)) <| AR.op (r := bl (!r31)) rfl (aop_not rfl rfl) <| AR.nil <| hK3 _ (AWP.weak (Weak.kt [1, 2, 10] rfl) ?_)
 refine awp_cond rfl (fun hb32 => ?_) (fun hb32 => ?_)
 ·replace h := Sh.if_t h hb32
  refine awp_seqK fun K4 hK4 => awp_reg rfl <| AR.op (r := .agg [i64 0, nilS]) rfl (aop_build rfl bd24 rfl rfl rfl) <| AR.op rfl (aop_store (e' := .agg [i64 0, nilS]) rfl rfl rfl rfl rfl rfl sz24 rfl dt rfl) <| AR.op rfl (aop_move (.inr rfl) rfl) <| AR.nil <| hK4 _ (AWP.weak (Weak.kt [2, 3] rfl) ?_)
  refine awp_ret ?_
  obtain rfl := Option.some.inj h
  refine ⟨.inr rfl, .tuple [.agg [i64 0, nilS], i64 1], rfl, ?_⟩
  exact Weak.re [] [0] rfl rfl rfl (.fresh (by simp) dt trivial) ⟨⟨.tuple [.agg [i64 0, nilS], i64 1], rfl, .tp ⟨.ag ⟨.sm, .nil (by simp), trivial⟩, .sm, trivial⟩⟩, trivial⟩
 ·replace h := Sh.if_f h hb32
  refine awp_skip <| hK2 _ (AWP.weak (Weak.kt [1, 2] rfl) ?_)
  refine awp_seqK fun K5 hK5 => awp_reg rfl <| AR.op rfl (aop_field_pp rfl rfl fd24_0 (by decide)) <| AR.op (r := i64 g_0.N) rfl (aop_load_pp rfl rfl sz3 rfl) ?_
  obtain ⟨r34, hr34, h⟩ := Sh.bind_some' h
  refine AR.op (r := .tuple [.agg [i64 r34.1.N, .view 1 0 (List.map u64 r34.1.Rows).length], i64 r34.2]) rfl (aop_call2N (.tuple [.agg [i64 r34.1.N, .view 1 0 (List.map u64 r34.1.Rows).length], i64 r34.2]) [(1, (1, List.map u64 r34.1.Rows))] rfl (ys := [i64 g_0.N]) (xs := [i64 g_0.N]) rfl (Weak.refl _) rfl (by simp) (graph_New_own hT hr34) (.tp ⟨.ag ⟨.sm, .view _ _ _, trivial⟩, .sm, trivial⟩) ⟨rfl, rfl, .same (by simp [AV.flat]), trivial⟩) <| AR.keep [1, 2, 15] rfl <| AR.op rfl (aop_move (.inl rfl) rfl) <| AR.op (r := .agg [i64 r34.1.N, .view 1 0 (List.map u64 r34.1.Rows).length]) rfl (aop_extract rfl rfl rfl) <| AR.op (r := i64 r34.2) rfl (aop_extract rfl rfl rfl) <| AR.keep [1, 2, 16, 17] rfl <| AR.op (r := .ref 2 0 0) rfl (aop_alloc 2 [.agg [i64 0, nilS]] rfl zr24 (by kernel_rfl) (.inl ⟨rfl, rfl⟩)) <| AR.op rfl (aop_store (e' := .agg [i64 r34.1.N, .view 1 0 (List.map u64 r34.1.Rows).length]) rfl rfl rfl rfl rfl rfl sz24 rfl dt rfl) ?_
  refine AR.op rfl (aop_move (.inr rfl) rfl) <| AR.nil <| hK5 _ (AWP.weak (Weak.re (fr' := [(1, .pp [i64 g_0.N, .sl (List.map u64 g_0.Rows)] 0), (2, .ref 0 0 0), (4, .ref 1 0 0), (5, i64 r34.2)]) (H' := ⟨3, [(0, (2, [.agg [i64 0, nilS]])), (1, (2, [.agg [i64 r34.1.N, .view 2 0 (List.map u64 r34.1.Rows).length]])), (2, (1, List.map u64 r34.1.Rows))], []⟩) [(0, 0), (1, 2), (2, 1)] [] rfl rfl rfl (.cons rfl rfl (.one (.sm) rfl) dt (.cons rfl rfl (.one (.ag ⟨.sm, .view rfl, trivial⟩) rfl) dt (.cons rfl rfl (.same (by simp)) dt trivial))) ⟨.k, ⟨_, rfl, .ref rfl⟩, ⟨_, rfl, .ref rfl⟩, .k, trivial⟩) ?_)
  refine awp_seqJ (fun (p : (List (BitVec 64))) => (⟨[(2, .ref 0 0 0), (4, .ref 1 0 0), (5, i64 r34.2)], ⟨3, [(0, (2, [.agg [i64 0, nilS]])), (1, (2, [.agg [i64 r34.1.N, .view 2 0 (List.map u64 p).length]])), (2, (1, List.map u64 p))], []⟩⟩ : St)) (fun (p : (List (BitVec 64))) => G.graph_Turn_j1 r34 p = some r) ?_ ?_
  ·rintro v61 h
   replace h : G.graph_Turn_j1 r34 v61 = some r := h
   unfold G.graph_Turn_j1 at h
   refine awp_seqK fun K6 hK6 => awp_reg rfl <| AR.op (r := .agg [i64 r34.1.N, .view 2 0 (List.map u64 v61).length]) rfl (aop_load_ref rfl rfl rfl rfl sz24 rfl) <| AR.op rfl (aop_move (.inl rfl) rfl) <| AR.op rfl (aop_store (e' := .agg [i64 r34.1.N, .view 2 0 (List.map u64 v61).length]) rfl rfl rfl rfl rfl rfl sz24 rfl dt rfl) <| AR.keep [2, 41] rfl <| AR.op rfl (aop_move (.inr rfl) rfl) <| AR.nil ?_
   refine hK6 _ (AWP.weak (Weak.re (fr' := [(2, .ref 0 0 0), (3, i64 r34.2)]) (H' := ⟨2, [(0, (2, [.agg [i64 r34.1.N, .view 1 0 (List.map u64 v61).length]])), (1, (1, List.map u64 v61))], []⟩) [(0, 0), (1, 2)] [] rfl rfl rfl (.cons rfl rfl (.one (.ag ⟨.sm, .view rfl, trivial⟩) rfl) dt (.cons rfl rfl (.same (by simp)) dt trivial)) ⟨⟨_, rfl, .ref rfl⟩, .k, trivial⟩) ?_)
   refine awp_ret ?_
   obtain rfl := Option.some.inj h
   refine ⟨.inr rfl, .tuple [.agg [i64 r34.1.N, .view 1 0 (List.map u64 v61).length], i64 r34.2], rfl, ?_⟩
   exact Weak.re [(0, 1)] [] rfl rfl rfl (.cons rfl rfl (.same (by simp)) dt trivial) ⟨⟨.tuple [.agg [i64 r34.1.N, .view 1 0 (List.map u64 v61).length], i64 r34.2], rfl, .tp ⟨.ag ⟨.sm, .view rfl, trivial⟩, .sm, trivial⟩⟩, trivial⟩
  ·intro K7 hK7
   refine awp_seqK fun K8 hK8 => awp_reg rfl <| AR.op (r := G.graph_Graph.av g_0) rfl (aop_load_pp rfl rfl sz24 rfl) ?_
   obtain ⟨r63, hr63, h⟩ := Sh.bind_some' h
   refine AR.op (r := .sl (List.map G.graph_Edge.av r63)) rfl (aop_call1 rfl rfl (by simp) (graph_Edges_ok hT hr63)) <| AR.op rfl (t_len_sl G.graph_Edge.av r63 rfl rfl el77) <| AR.keep [2, 4, 5, 19, 20] rfl <| AR.op rfl (aop_move (.inl rfl) rfl) <| AR.nil <| hK8 _ ?_
   refine awp_block <| awp_iter (fun (p : (List (BitVec 64)) × Int) => G.graph_Turn_b1 r34 r63 p.1 p.2) (fun (p : (List (BitVec 64)) × Int) => (⟨[(2, .ref 0 0 0), (4, .ref 1 0 0), (5, i64 r34.2), (19, .sl (List.map G.graph_Edge.av r63)), (20, i64 (Sh.len r63)), (21, i64 p.2)], ⟨3, [(0, (2, [.agg [i64 0, nilS]])), (1, (2, [.agg [i64 r34.1.N, .view 2 0 (List.map u64 p.1).length]])), (2, (1, List.map u64 p.1))], []⟩⟩ : St)) h (Weak.kt [2, 4, 5, 19, 20, 21] rfl) ?_
   ·skip
    rintro ⟨outRows80, v81⟩ o1 h hx1
    replace h : G.graph_Turn_b1 r34 r63 outRows80 v81 = some o1 := h
    unfold G.graph_Turn_b1 at h
    refine awp_seqK fun K9 hK9 => awp_reg rfl <| AR.op rfl (aop_lss rfl rfl rfl) <| AR.nil <| hK9 _ ?_
    refine awp_seqK fun K10 hK10 => awp_cond rfl (fun hb82 => ?_) (fun hb82 => ?_)
    ·replace h := Sh.if_t h hb82
     refine awp_skip <| hK10 _ (AWP.weak (Weak.kt [2, 4, 5, 19, 20, 21] rfl) ?_)
     refine awp_seqK fun K11 hK11 => awp_block <| awp_seqK fun K12 hK12 => awp_reg rfl ?_
     obtain ⟨x92, hx92, h⟩ := Sh.bind_some' h
     obtain ⟨k93, hi93, hl93⟩ := Sh.idx_some hx92
     refine AR.op rfl (t_index_sl G.graph_Edge.av r63 hi93 hl93 rfl rfl rfl el77 rfl) <| AR.op (r := G.graph_Edge.av x92) rfl (aop_load_pp rfl rfl sz80 rfl) <| AR.op (r := .ref 3 0 0) rfl (aop_alloc 2 [.agg [i64 0, i64 0]] rfl zr80 (by kernel_rfl) (.inl ⟨rfl, rfl⟩)) <| AR.keep [2, 4, 5, 19, 20, 21, 24, 7] rfl <| AR.op rfl (aop_store (e' := G.graph_Edge.av x92) rfl rfl rfl rfl rfl rfl sz80 rfl dt rfl) <| AR.nil <| hK12 _ (AWP.weak (Weak.re (fr' := [(2, .ref 0 0 0), (4, .ref 1 0 0), (5, i64 r34.2), (19, .sl (List.map G.graph_Edge.av r63)), (20, i64 (Sh.len r63)), (21, i64 v81), (7, .pp [i64 x92.A, i64 x92.B] 0)]) (H' := ⟨3, [(0, (2, [.agg [i64 0, nilS]])), (1, (2, [.agg [i64 r34.1.N, .view 2 0 (List.map u64 outRows80).length]])), (2, (1, List.map u64 outRows80))], []⟩) [(0, 0), (1, 1), (2, 2)] [] rfl rfl rfl (.cons rfl rfl (.one (.sm) rfl) dt (.cons rfl rfl (.one (.ag ⟨.sm, .view rfl, trivial⟩) rfl) dt (.cons rfl rfl (.same (by simp)) dt trivial))) ⟨⟨_, rfl, .ref rfl⟩, ⟨_, rfl, .ref rfl⟩, .k, ⟨.sl (List.map G.graph_Edge.av r63), rfl, .sm⟩, .k, .k, ⟨_, rfl, .frzA rfl rfl rfl rfl (by simp)⟩, trivial⟩) ?_)
     refine awp_any [(false, false), (false, false), (true, false), (true, false), (false, false), (false, false), (true, false), (true, false), (false, false), (false, false), (true, false), (true, false), (true, false), (false, false), (false, true)] (by kernel_rfl) (by kernel_rfl) rfl ?_
     refine ARH.op rfl rfl (aop_field_ref rfl rfl rfl fd24_1 (by decide)) <| ARH.op (r := .view 2 0 (List.map u64 outRows80).length) rfl rfl (aop_load_ref rfl rfl rfl rfl sz22 rfl) <| ARH.dry rfl (fun _ => aop_field_pp rfl rfl fd80_1 (by decide)) <| ARH.keep [2, 4, 5, 19, 20, 21, 7, 26, 27] rfl <| ARH.dry (r := i64 x92.B) rfl (fun _ => aop_load_pp rfl rfl sz3 rfl) <| ARH.op rfl rfl (aop_field_ref rfl rfl rfl fd24_1 (by decide)) <| ARH.op (r := .view 2 0 (List.map u64 outRows80).length) rfl rfl (aop_load_ref rfl rfl rfl rfl sz22 rfl) <| ARH.keep [2, 4, 5, 19, 20, 21, 7, 26, 28, 30] rfl ?_
     refine ARH.dry rfl (fun _ => aop_field_pp rfl rfl fd80_1 (by decide)) <| ARH.dry (r := i64 x92.B) rfl (fun _ => aop_load_pp rfl rfl sz3 rfl) ?_
     obtain ⟨x94, hx94, h⟩ := Sh.bind_some' h
     obtain ⟨k95, hi95, hl95⟩ := Sh.idx_some hx94
     refine ARH.op (r := .ref 2 k95 0) rfl rfl (t_index_view u64 outRows80 hi95 hl95 rfl rfl rfl rfl rfl el22 rfl) <| ARH.keep [2, 4, 5, 19, 20, 21, 7, 26, 28, 33] rfl <| ARH.op (r := u64 x94) rfl rfl (t_load_el u64 outRows80 hl95 rfl rfl rfl sz35 rfl) <| ARH.dry rfl (fun _ => aop_field_pp rfl rfl fd80_0 (by decide)) <| ARH.dry (r := i64 x92.A) rfl (fun _ => aop_load_pp rfl rfl sz3 rfl) <| ARH.keep [2, 4, 5, 19, 20, 21, 26, 28, 34, 36] rfl ?_
     obtain ⟨r96, hr96, h⟩ := Sh.bind_some' h
     refine ARH.dry (r := u64 r96) rfl (fun _ => aop_call1 rfl rfl (by simp) (bits_With_ok hT hr96)) ?_
     obtain ⟨x97, hx97, h⟩ := Sh.bind_some' h
     obtain ⟨k98, hi98, hl98⟩ := Sh.idx_some hx97
     refine ARH.op (r := .ref 2 k98 0) rfl rfl (t_index_view u64 outRows80 hi98 hl98 rfl rfl rfl rfl rfl el22 rfl) <| ARH.loud rfl rfl (t_store_el u64 outRows80 r96 hi98 hl98 rfl rfl rfl rfl rfl sz35 rfl dt rfl) <| ARH.nil <| hK11 _ (AWP.weak (Weak.re (fr' := [(2, .ref 0 0 0), (4, .ref 1 0 0), (5, i64 r34.2), (19, .sl (List.map G.graph_Edge.av r63)), (20, i64 (Sh.len r63)), (21, i64 v81)]) (H' := ⟨3, [(0, (2, [.agg [i64 0, nilS]])), (1, (2, [.agg [i64 r34.1.N, .view 2 0 (List.map u64 (Sh.set outRows80 x92.B r96)).length]])), (2, (1, List.map u64 (Sh.set outRows80 x92.B r96)))], []⟩) [(0, 0), (1, 1), (2, 2)] [] rfl rfl rfl (.cons rfl rfl (.one (.sm) rfl) dt (.cons rfl rfl (.one (.ag ⟨.sm, .viewL rfl (by simp []), trivial⟩) rfl) dt (.cons rfl rfl (.same (by simp)) dt trivial))) ⟨⟨_, rfl, .ref rfl⟩, ⟨_, rfl, .ref rfl⟩, .k, ⟨.sl (List.map G.graph_Edge.av r63), rfl, .sm⟩, .k, .k, trivial⟩) ?_)
     refine awp_reg rfl <| AR.op rfl (aop_add rfl rfl rfl rfl) <| AR.op rfl (aop_move (.inl rfl) rfl) <| AR.nil ?_
     replace h := Sh.next_eq h
     exact ⟨_, h, Weak.kt [2, 4, 5, 19, 20, 21] rfl⟩
    ·replace h := Sh.if_f h hb82
     refine awp_exit ?_
     replace h := Sh.exit_eq h hx1
     exact hK7 outRows80 _ h (Weak.kt [2, 4, 5] rfl)
theorem graph_Turn_ok {W0 : World} (hT : Tab W0) {g_0 : G.graph_Graph} {r : G.graph_Graph × Int} (h : G.graph_Turn g_0 = some r) : Fun1 Tryd.prog W0 32 [G.graph_Graph.av g_0] (.tuple [G.graph_Graph.av r.1, i64 r.2]) :=
 (graph_Turn_own hT h).give (Weak.e ⟨⟨_, rfl, .tp ⟨.ag ⟨.sm, .lendAll rfl rfl (by simp), trivial⟩, .sm, trivial⟩⟩, trivial⟩) (by simp)


end Wk
