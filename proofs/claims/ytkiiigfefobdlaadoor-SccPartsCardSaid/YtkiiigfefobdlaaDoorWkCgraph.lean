/- That the functions of a package do what their plain functions say. -/
import Derived.Test.YtkiiigfefobdlaaDoorSh
import Derived.Test.YtkiiigfefobdlaaDoorWkCFacts
import Derived.Test.YtkiiigfefobdlaaDoorWkCbits
open Go Go.Av Go.Proofs
set_option linter.unusedVariables false
set_option maxHeartbeats 8000000
set_option maxRecDepth 20000
namespace Wk
theorem graph_nodes_ok0 {W0 : World} (hT : Tab W0) {n_0 : Int} {r : (BitVec 64)} (h : G.graph_nodes n_0 = some r) : Fun2 Tryd.prog W0 55 [i64 n_0] (u64 r) .empty := by
 refine fun2_of_awp Tryd.func55 rfl (by kernel_rfl) Tryd.ntmps55 (by simp) ?_
 unfold G.graph_nodes at h
 show AWP _ _ _ _ ⟨[(0, i64 n_0)], .empty⟩ _
 refine awp_seqK fun K1 hK1 => awp_reg rfl <| AR.op rfl (aop_move (.inr rfl) rfl) <| AR.nil <| hK1 _ (AWP.weak (Weak.kt [0] rfl) ?_)
 refine awp_seqK fun K2 hK2 => awp_reg rfl <| AR.op rfl (aop_move (.inl rfl) rfl) ?_
 obtain ⟨s3, hs3, h⟩ := Sh.bind_some' h
 refine AR.op (r := u64 s3) rfl (t_shl hs3 rfl rfl rfl) <| AR.op (r := u64 (s3 - 1#64)) rfl (aop_sub64 (a := s3) (b := 1#64) rfl rfl rfl) <| AR.keep [5] rfl <| AR.op rfl (aop_move (.inr rfl) rfl) <| AR.nil <| hK2 _ (AWP.weak (Weak.kt [2] rfl) ?_)
 refine awp_ret ?_
 obtain rfl := Option.some.inj h
 refine ⟨.inr rfl, u64 (s3 - 1#64), rfl, ?_⟩
 exact Weak.e ⟨.k, trivial⟩
theorem graph_nodes_ok {W0 : World} (hT : Tab W0) {n_0 : Int} {r : (BitVec 64)} (h : G.graph_nodes n_0 = some r) : Fun1 Tryd.prog W0 55 [i64 n_0] (u64 r) := Fun1.two (graph_nodes_ok0 hT h) (by simp)


theorem graph_Right_ok0 {W0 : World} (hT : Tab W0) {g_0 : G.graph_Graph} {r : Bool} (h : G.graph_Right g_0 = some r) : Fun2 Tryd.prog W0 30 [G.graph_Graph.av g_0] (bl r) .empty := by
 refine fun2_of_awp Tryd.func30 rfl (by kernel_rfl) Tryd.ntmps30 (by simp) ?_
 unfold G.graph_Right at h
 show AWP _ _ _ _ ⟨[(0, G.graph_Graph.av g_0)], .empty⟩ _
 refine awp_seqK fun K1 hK1 => awp_reg rfl <| AR.op (r := .ref 0 0 0) rfl (aop_box 2 [G.graph_Graph.av g_0] rfl rfl rfl (.inl ⟨rfl, rfl⟩)) <| AR.op rfl (aop_move (.inr rfl) rfl) <| AR.nil <| hK1 _ (AWP.weak (Weak.e (fr' := [(1, .pp [i64 g_0.N, .sl (List.map u64 g_0.Rows)] 0)]) (H' := .empty) ⟨⟨_, rfl, .frzA rfl rfl rfl rfl (by simp)⟩, trivial⟩) ?_)
 refine awp_seqK fun K2 hK2 => awp_any [(true, false), (true, false), (true, false), (true, false), (true, false), (true, false), (true, false), (true, false), (true, false), (true, false), (true, false), (true, false), (true, false), (true, false), (true, false), (true, false), (true, false), (true, false), (true, false), (true, false), (true, false), (true, false), (true, false), (true, false), (true, false), (true, false)] (by kernel_rfl) (by kernel_rfl) rfl ?_
 refine ARH.dry rfl (fun _ => aop_field_pp rfl rfl fd24_0 (by decide)) <| ARH.dry (r := i64 g_0.N) rfl (fun _ => aop_load_pp rfl rfl sz3 rfl) <| ARH.dry rfl (fun _ => aop_geq rfl rfl rfl) <| ARH.keep [1, 5] rfl <| ARH.dry rfl (fun _ => aop_move (.inl rfl) rfl) ?_
 rcases Bool.eq_false_or_eq_true (decide ((0 : Int) ≤ g_0.N)) with hb14 | hb14
 ·rw [hb14]
  replace h := Sh.if_t h hb14
  refine ARH.dry rfl (fun _ => aop_field_pp rfl rfl fd24_0 (by decide)) <| ARH.dry (r := i64 g_0.N) rfl (fun _ => aop_load_pp rfl rfl sz3 rfl) <| ARH.keep [1, 6, 8] rfl <| ARH.dry rfl (fun _ => aop_leq rfl rfl rfl) <| ARH.dry rfl (fun _ => aop_pick rfl rfl rfl) <| ARH.dry rfl (fun _ => aop_move (.inl rfl) rfl) <| ARH.keep [1, 11] rfl ?_
  rcases Bool.eq_false_or_eq_true (decide (g_0.N ≤ 64)) with hb15 | hb15
  ·rw [hb15]
   replace h := Sh.if_t h hb15
   refine ARH.dry rfl (fun _ => aop_field_pp rfl rfl fd24_1 (by decide)) <| ARH.dry (r := .sl (List.map u64 g_0.Rows)) rfl (fun _ => aop_load_pp rfl rfl sz22 rfl) <| ARH.dry rfl (fun _ => t_len_sl u64 g_0.Rows rfl rfl el22) <| ARH.keep [1, 11, 14] rfl <| ARH.dry rfl (fun _ => aop_field_pp rfl rfl fd24_0 (by decide)) <| ARH.dry (r := i64 g_0.N) rfl (fun _ => aop_load_pp rfl rfl sz3 rfl) <| ARH.dry (r := bl (decide ((Sh.len g_0.Rows) = g_0.N))) rfl (fun _ => aop_eql rfl rfl rfl) <| ARH.keep [1, 11, 17] rfl ?_
   refine ARH.dry rfl (fun _ => aop_pick rfl rfl rfl) <| ARH.dry rfl (fun _ => aop_move (.inl rfl) rfl) ?_
   rcases Bool.eq_false_or_eq_true (decide ((Sh.len g_0.Rows) = g_0.N)) with hb16 | hb16
   ·rw [hb16]
    replace h := Sh.if_t h hb16
    refine ARH.dry rfl (fun _ => aop_field_pp rfl rfl fd24_1 (by decide)) <| ARH.keep [1, 19, 20] rfl <| ARH.dry (r := .sl (List.map u64 g_0.Rows)) rfl (fun _ => aop_load_pp rfl rfl sz22 rfl) ?_
    obtain ⟨r17, hr17, h⟩ := Sh.bind_some' h
    refine ARH.dry (r := u64 r17) rfl (fun _ => aop_call1 rfl rfl (by simp) (bits_Join_ok hT hr17)) <| ARH.dry rfl (fun _ => aop_field_pp rfl rfl fd24_0 (by decide)) <| ARH.keep [19, 22, 23] rfl <| ARH.dry (r := i64 g_0.N) rfl (fun _ => aop_load_pp rfl rfl sz3 rfl) ?_
    obtain ⟨r18, hr18, h⟩ := Sh.bind_some' h
    refine ARH.dry (r := u64 r18) rfl (fun _ => aop_call1 rfl rfl (by simp) (graph_nodes_ok hT hr18)) ?_
    obtain ⟨r19, hr19, h⟩ := Sh.bind_some' h
    refine ARH.dry (r := bl r19) rfl (fun _ => aop_call1 rfl rfl (by simp) (bits_Sub_ok hT hr19)) <| ARH.keep [19, 26] rfl <| ARH.dry rfl (fun _ => aop_pick rfl rfl rfl) <| ARH.dry rfl (fun _ => aop_move (.inr rfl) rfl) <| ARH.nil <| hK2 _ (AWP.weak (Weak.kt [2] rfl) ?_)
    refine awp_ret ?_
    obtain rfl := Option.some.inj h
    refine ⟨.inr rfl, bl r19, rfl, ?_⟩
    exact Weak.e ⟨.k, trivial⟩
   ·rw [hb16]
    replace h := Sh.if_f h hb16
    refine ARH.skip rfl <| ARH.keep [1, 19, 20] rfl <| ARH.skip rfl <| ARH.skip rfl <| ARH.skip rfl <| ARH.keep [19, 22, 23] rfl <| ARH.skip rfl <| ARH.skip rfl ?_
    refine ARH.skip rfl <| ARH.keep [19, 26] rfl <| ARH.dry rfl (fun _ => aop_pick rfl rfl rfl) <| ARH.dry rfl (fun _ => aop_move (.inr rfl) rfl) <| ARH.nil <| hK2 _ (AWP.weak (Weak.kt [2] rfl) ?_)
    refine awp_ret ?_
    obtain rfl := Option.some.inj h
    refine ⟨.inr rfl, bl false, rfl, ?_⟩
    exact Weak.e ⟨.k, trivial⟩
  ·rw [hb15]
   replace h := Sh.if_f h hb15
   refine ARH.skip rfl <| ARH.skip rfl <| ARH.skip rfl <| ARH.keep [1, 11, 14] rfl <| ARH.skip rfl <| ARH.skip rfl <| ARH.skip rfl <| ARH.keep [1, 11, 17] rfl ?_
   refine ARH.dry rfl (fun _ => aop_pick rfl rfl rfl) <| ARH.dry rfl (fun _ => aop_move (.inl rfl) rfl) <| ARH.skip rfl <| ARH.keep [1, 19, 20] rfl <| ARH.skip rfl <| ARH.skip rfl <| ARH.skip rfl <| ARH.keep [19, 22, 23] rfl ?_
   refine ARH.skip rfl <| ARH.skip rfl <| ARH.skip rfl <| ARH.keep [19, 26] rfl <| ARH.dry rfl (fun _ => aop_pick rfl rfl rfl) <| ARH.dry rfl (fun _ => aop_move (.inr rfl) rfl) <| ARH.nil <| hK2 _ (AWP.weak (Weak.kt [2] rfl) ?_)
   refine awp_ret ?_
   obtain rfl := Option.some.inj h
   refine ⟨.inr rfl, bl false, rfl, ?_⟩
   exact Weak.e ⟨.k, trivial⟩
 ·rw [hb14]
  replace h := Sh.if_f h hb14
  refine ARH.skip rfl <| ARH.skip rfl <| ARH.keep [1, 6, 8] rfl <| ARH.skip rfl <| ARH.dry rfl (fun _ => aop_pick rfl rfl rfl) <| ARH.dry rfl (fun _ => aop_move (.inl rfl) rfl) <| ARH.keep [1, 11] rfl <| ARH.skip rfl ?_
  refine ARH.skip rfl <| ARH.skip rfl <| ARH.keep [1, 11, 14] rfl <| ARH.skip rfl <| ARH.skip rfl <| ARH.skip rfl <| ARH.keep [1, 11, 17] rfl <| ARH.dry rfl (fun _ => aop_pick rfl rfl rfl) ?_
  refine ARH.dry rfl (fun _ => aop_move (.inl rfl) rfl) <| ARH.skip rfl <| ARH.keep [1, 19, 20] rfl <| ARH.skip rfl <| ARH.skip rfl <| ARH.skip rfl <| ARH.keep [19, 22, 23] rfl <| ARH.skip rfl ?_
  refine ARH.skip rfl <| ARH.skip rfl <| ARH.keep [19, 26] rfl <| ARH.dry rfl (fun _ => aop_pick rfl rfl rfl) <| ARH.dry rfl (fun _ => aop_move (.inr rfl) rfl) <| ARH.nil <| hK2 _ (AWP.weak (Weak.kt [2] rfl) ?_)
  refine awp_ret ?_
  obtain rfl := Option.some.inj h
  refine ⟨.inr rfl, bl false, rfl, ?_⟩
  exact Weak.e ⟨.k, trivial⟩
theorem graph_Right_ok {W0 : World} (hT : Tab W0) {g_0 : G.graph_Graph} {r : Bool} (h : G.graph_Right g_0 = some r) : Fun1 Tryd.prog W0 30 [G.graph_Graph.av g_0] (bl r) := Fun1.two (graph_Right_ok0 hT h) (by simp)


theorem graph_Has_ok0 {W0 : World} (hT : Tab W0) {g_0 : G.graph_Graph} {a_1 : Int} {b_2 : Int} {r : Bool} (h : G.graph_Has g_0 a_1 b_2 = some r) : Fun2 Tryd.prog W0 19 [G.graph_Graph.av g_0, i64 a_1, i64 b_2] (bl r) .empty := by
 refine fun2_of_awp Tryd.func19 rfl (by kernel_rfl) Tryd.ntmps19 (by simp) ?_
 unfold G.graph_Has at h
 show AWP _ _ _ _ ⟨[(0, G.graph_Graph.av g_0), (1, i64 a_1), (2, i64 b_2)], .empty⟩ _
 refine awp_seqK fun K1 hK1 => awp_reg rfl <| AR.op (r := .ref 0 0 0) rfl (aop_box 2 [G.graph_Graph.av g_0] rfl rfl rfl (.inl ⟨rfl, rfl⟩)) <| AR.op rfl (aop_move (.inr rfl) rfl) <| AR.nil <| hK1 _ (AWP.weak (Weak.e (fr' := [(1, i64 a_1), (2, i64 b_2), (3, .pp [i64 g_0.N, .sl (List.map u64 g_0.Rows)] 0)]) (H' := .empty) ⟨.k, .k, ⟨_, rfl, .frzA rfl rfl rfl rfl (by simp)⟩, trivial⟩) ?_)
 refine awp_seqK fun K2 hK2 => awp_reg rfl <| AR.op (r := G.graph_Graph.av g_0) rfl (aop_load_pp rfl rfl sz24 rfl) ?_
 obtain ⟨r16, hr16, h⟩ := Sh.bind_some' h
 refine AR.op (r := bl r16) rfl (aop_call1 rfl rfl (by simp) (graph_Right_ok hT hr16)) <| AR.op rfl (aop_move (.inl rfl) rfl) <| AR.keep [1, 2, 3, 9] rfl ?_
 rcases Bool.eq_false_or_eq_true (r16) with hb17 | hb17
 ·rw [hb17]
  replace h := Sh.if_t h hb17
  refine AR.op rfl (aop_move (.inl rfl) rfl) <| AR.op rfl (aop_geq rfl rfl rfl) <| AR.op rfl (aop_pick rfl rfl rfl) <| AR.keep [1, 2, 3, 12] rfl <| AR.op rfl (aop_move (.inl rfl) rfl) ?_
  rcases Bool.eq_false_or_eq_true (decide ((0 : Int) ≤ a_1)) with hb18 | hb18
  ·rw [hb18]
   replace h := Sh.if_t h hb18
   refine AR.op rfl (aop_move (.inl rfl) rfl) <| AR.op rfl (aop_field_pp rfl rfl fd24_0 (by decide)) <| AR.keep [1, 2, 3, 13, 14, 15] rfl <| AR.op (r := i64 g_0.N) rfl (aop_load_pp rfl rfl sz3 rfl) <| AR.op rfl (aop_lss rfl rfl rfl) <| AR.op rfl (aop_pick rfl rfl rfl) <| AR.keep [1, 2, 3, 18] rfl <| AR.op rfl (aop_move (.inl rfl) rfl) ?_
   rcases Bool.eq_false_or_eq_true (decide (a_1 < g_0.N)) with hb19 | hb19
   ·rw [hb19]
    replace h := Sh.if_t h hb19
    refine AR.op rfl (aop_field_pp rfl rfl fd24_1 (by decide)) <| AR.op (r := .sl (List.map u64 g_0.Rows)) rfl (aop_load_pp rfl rfl sz22 rfl) <| AR.keep [1, 2, 19, 21] rfl <| AR.op rfl (aop_move (.inl rfl) rfl) ?_
    obtain ⟨x20, hx20, h⟩ := Sh.bind_some' h
    obtain ⟨k21, hi21, hl21⟩ := Sh.idx_some hx20
    refine AR.op rfl (t_index_sl u64 g_0.Rows hi21 hl21 rfl rfl rfl el22 rfl) <| AR.op (r := u64 x20) rfl (aop_load_pp rfl rfl sz35 rfl) <| AR.keep [2, 19, 24] rfl <| AR.op rfl (aop_move (.inl rfl) rfl) ?_
    obtain ⟨r22, hr22, h⟩ := Sh.bind_some' h
    refine AR.op (r := bl r22) rfl (aop_call1 rfl rfl (by simp) (bits_Has_ok hT hr22)) <| AR.op rfl (aop_pick rfl rfl rfl) <| AR.keep [27] rfl <| AR.op rfl (aop_move (.inr rfl) rfl) <| AR.nil <| hK2 _ (AWP.weak (Weak.kt [6] rfl) ?_)
    refine awp_ret ?_
    obtain rfl := Option.some.inj h
    refine ⟨.inr rfl, bl r22, rfl, ?_⟩
    exact Weak.e ⟨.k, trivial⟩
   ·rw [hb19]
    replace h := Sh.if_f h hb19
    refine AR.skip rfl <| AR.skip rfl <| AR.keep [1, 2, 19, 21] rfl <| AR.skip rfl <| AR.skip rfl <| AR.skip rfl <| AR.keep [2, 19, 24] rfl <| AR.skip rfl ?_
    refine AR.skip rfl <| AR.op rfl (aop_pick rfl rfl rfl) <| AR.keep [27] rfl <| AR.op rfl (aop_move (.inr rfl) rfl) <| AR.nil <| hK2 _ (AWP.weak (Weak.kt [6] rfl) ?_)
    refine awp_ret ?_
    obtain rfl := Option.some.inj h
    refine ⟨.inr rfl, bl false, rfl, ?_⟩
    exact Weak.e ⟨.k, trivial⟩
  ·rw [hb18]
   replace h := Sh.if_f h hb18
   refine AR.skip rfl <| AR.skip rfl <| AR.keep [1, 2, 3, 13, 14, 15] rfl <| AR.skip rfl <| AR.skip rfl <| AR.op rfl (aop_pick rfl rfl rfl) <| AR.keep [1, 2, 3, 18] rfl <| AR.op rfl (aop_move (.inl rfl) rfl) ?_
   refine AR.skip rfl <| AR.skip rfl <| AR.keep [1, 2, 19, 21] rfl <| AR.skip rfl <| AR.skip rfl <| AR.skip rfl <| AR.keep [2, 19, 24] rfl <| AR.skip rfl ?_
   refine AR.skip rfl <| AR.op rfl (aop_pick rfl rfl rfl) <| AR.keep [27] rfl <| AR.op rfl (aop_move (.inr rfl) rfl) <| AR.nil <| hK2 _ (AWP.weak (Weak.kt [6] rfl) ?_)
   refine awp_ret ?_
   obtain rfl := Option.some.inj h
   refine ⟨.inr rfl, bl false, rfl, ?_⟩
   exact Weak.e ⟨.k, trivial⟩
 ·rw [hb17]
  replace h := Sh.if_f h hb17
  refine AR.skip rfl <| AR.skip rfl <| AR.op rfl (aop_pick rfl rfl rfl) <| AR.keep [1, 2, 3, 12] rfl <| AR.op rfl (aop_move (.inl rfl) rfl) <| AR.skip rfl <| AR.skip rfl <| AR.keep [1, 2, 3, 13, 14, 15] rfl ?_
  refine AR.skip rfl <| AR.skip rfl <| AR.op rfl (aop_pick rfl rfl rfl) <| AR.keep [1, 2, 3, 18] rfl <| AR.op rfl (aop_move (.inl rfl) rfl) <| AR.skip rfl <| AR.skip rfl <| AR.keep [1, 2, 19, 21] rfl ?_
  refine AR.skip rfl <| AR.skip rfl <| AR.skip rfl <| AR.keep [2, 19, 24] rfl <| AR.skip rfl <| AR.skip rfl <| AR.op rfl (aop_pick rfl rfl rfl) <| AR.keep [27] rfl ?_
  refine AR.op rfl (aop_move (.inr rfl) rfl) <| AR.nil <| hK2 _ (AWP.weak (Weak.kt [6] rfl) ?_)
  refine awp_ret ?_
  obtain rfl := Option.some.inj h
  refine ⟨.inr rfl, bl false, rfl, ?_⟩
  exact Weak.e ⟨.k, trivial⟩
theorem graph_Has_ok {W0 : World} (hT : Tab W0) {g_0 : G.graph_Graph} {a_1 : Int} {b_2 : Int} {r : Bool} (h : G.graph_Has g_0 a_1 b_2 = some r) : Fun1 Tryd.prog W0 19 [G.graph_Graph.av g_0, i64 a_1, i64 b_2] (bl r) := Fun1.two (graph_Has_ok0 hT h) (by simp)


end Wk
