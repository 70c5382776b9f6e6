/- That the functions of a package do what their plain functions say. -/
import Derived.Test.YtcoegkcdabpijaaDoorSh
import Derived.Test.YtcoegkcdabpijaaDoorWkDFacts
import Derived.Test.YtcoegkcdabpijaaDoorWkDbits
open Go Go.Av Go.Proofs
set_option linter.unusedVariables false
set_option maxHeartbeats 8000000
set_option maxRecDepth 20000
namespace Wk
theorem graph_New_own {W0 : World} (hT : Tab W0) {n_0 : Int} {r : G.graph_Graph × Int} (h : G.graph_New n_0 = some r) : Fun2 Tryd.prog W0 54 [i64 n_0] (.tuple [.agg [i64 r.1.N, .view 0 0 (List.map u64 r.1.Rows).length], i64 r.2]) ⟨1, [(0, (1, List.map u64 r.1.Rows))], []⟩ := by
 refine fun2_of_awp Tryd.func54 rfl (by kernel_rfl) Tryd.ntmps54 (by simp) ?_
 unfold G.graph_New at h
 show AWP _ _ _ _ ⟨[(0, i64 n_0)], .empty⟩ _
 refine awp_seqK fun K1 hK1 => awp_reg rfl <| AR.op (r := .ref 0 0 0) rfl (aop_alloc 2 [.agg [i64 0, nilS]] rfl zr34 (by kernel_rfl) (.inl ⟨rfl, rfl⟩)) <| AR.op rfl (aop_move (.inr rfl) rfl) <| AR.nil <| hK1 _ (AWP.weak (Weak.kt [0, 2] rfl) ?_)
 refine awp_seqK fun K2 hK2 => awp_seqJ (fun (p : Bool) => (⟨[(0, i64 n_0), (2, .ref 0 0 0), (9, bl p)], ⟨1, [(0, (2, [.agg [i64 0, nilS]]))], []⟩⟩ : St)) (fun (p : Bool) => G.graph_New_j1 n_0 p = some r) ?_ ?_
 ·rintro v7 h
  replace h : G.graph_New_j1 n_0 v7 = some r := h
  unfold G.graph_New_j1 at h
  refine awp_cond rfl (fun hb8 => ?_) (fun hb8 => ?_)
  ·replace h := Sh.if_t h hb8
   refine awp_seqK fun K3 hK3 => awp_reg rfl <| AR.op (r := .agg [i64 0, nilS]) rfl (aop_build rfl bd34 rfl rfl rfl) <| AR.op rfl (aop_store (e' := .agg [i64 0, nilS]) rfl rfl rfl rfl rfl rfl sz34 rfl dt rfl) <| AR.op rfl (aop_move (.inr rfl) rfl) <| AR.nil <| hK3 _ (AWP.weak (Weak.kt [2, 3] rfl) ?_)
   refine awp_ret ?_
   obtain rfl := Option.some.inj h
   refine ⟨.inr rfl, .tuple [.agg [i64 0, nilS], i64 1], rfl, ?_⟩
   exact Weak.re [] [0] rfl rfl rfl (.fresh (by simp) dt trivial) ⟨⟨.tuple [.agg [i64 0, nilS], i64 1], rfl, .tp ⟨.ag ⟨.sm, .nil (by simp), trivial⟩, .sm, trivial⟩⟩, trivial⟩
  ·replace h := Sh.if_f h hb8
   refine awp_skip <| hK2 _ (AWP.weak (Weak.kt [0, 2] rfl) ?_)
   refine awp_seqK fun K4 hK4 => awp_reg rfl <| AR.op rfl (aop_move (.inl rfl) rfl) <| AR.op rfl (aop_move (.inl rfl) rfl) ?_
   obtain ⟨made10, hmade10, h⟩ := Sh.bind_some' h
   refine AR.op (r := .view 1 0 (List.map u64 made10).length) rfl (t_make u64 0#64 made10 hmade10 rfl rfl rfl el32 zv32 rfl rfl rfl) <| AR.keep [2, 11, 13] rfl <| AR.op (r := .agg [i64 n_0, .view 1 0 (List.map u64 made10).length]) rfl (aop_build rfl bd34 rfl rfl rfl) <| AR.op rfl (aop_store (e' := .agg [i64 n_0, .view 1 0 (List.map u64 made10).length]) rfl rfl rfl rfl rfl rfl sz34 rfl dt rfl) <| AR.op rfl (aop_move (.inr rfl) rfl) <| AR.nil <| hK4 _ (AWP.weak (Weak.kt [2, 3] rfl) ?_)
   refine awp_ret ?_
   obtain rfl := Option.some.inj h
   refine ⟨.inr rfl, .tuple [.agg [i64 n_0, .view 1 0 (List.map u64 made10).length], i64 0], rfl, ?_⟩
   exact Weak.re [(0, 1)] [] rfl rfl rfl (.cons rfl rfl (.same (by simp)) dt trivial) ⟨⟨.tuple [.agg [i64 n_0, .view 1 0 (List.map u64 made10).length], i64 0], rfl, .tp ⟨.ag ⟨.sm, .view rfl, trivial⟩, .sm, trivial⟩⟩, trivial⟩
 ·intro K5 hK5
  refine awp_reg rfl <| AR.op rfl (aop_move (.inl rfl) rfl) <| AR.op rfl (aop_lss rfl rfl rfl) <| AR.op rfl (aop_move (.inl rfl) rfl) <| AR.keep [0, 2, 6] rfl ?_
  rcases Bool.eq_false_or_eq_true (decide (n_0 < 0)) with hb11 | hb11
  ·rw [hb11]
   replace h := Sh.if_t h hb11
   refine AR.skip rfl <| AR.skip rfl <| AR.op rfl (aop_pick rfl rfl rfl) <| AR.nil ?_
   exact hK5 true _ h (Weak.kt [0, 2, 9] rfl)
  ·rw [hb11]
   replace h := Sh.if_f h hb11
   refine AR.op rfl (aop_move (.inl rfl) rfl) <| AR.op rfl (aop_gtr rfl rfl rfl) <| AR.op rfl (aop_pick rfl rfl rfl) <| AR.nil ?_
   exact hK5 (decide ((64 : Int) < n_0)) _ h (Weak.kt [0, 2, 9] rfl)
theorem graph_New_ok {W0 : World} (hT : Tab W0) {n_0 : Int} {r : G.graph_Graph × Int} (h : G.graph_New n_0 = some r) : Fun1 Tryd.prog W0 54 [i64 n_0] (.tuple [G.graph_Graph.av r.1, i64 r.2]) :=
 (graph_New_own hT h).give (Weak.e ⟨⟨_, rfl, .tp ⟨.ag ⟨.sm, .lendAll rfl rfl (by simp), trivial⟩, .sm, trivial⟩⟩, trivial⟩) (by simp)


theorem graph_nodes_ok0 {W0 : World} (hT : Tab W0) {n_0 : Int} {r : (BitVec 64)} (h : G.graph_nodes n_0 = some r) : Fun2 Tryd.prog W0 58 [i64 n_0] (u64 r) .empty := by
 refine fun2_of_awp Tryd.func58 rfl (by kernel_rfl) Tryd.ntmps58 (by simp) ?_
 unfold G.graph_nodes at h
 show AWP _ _ _ _ ⟨[(0, i64 n_0)], .empty⟩ _
 refine awp_seqK fun K1 hK1 => awp_reg rfl <| AR.op rfl (aop_move (.inr rfl) rfl) <| AR.nil <| hK1 _ (AWP.weak (Weak.kt [0] rfl) ?_)
 refine awp_seqK fun K2 hK2 => awp_reg rfl <| AR.op rfl (aop_move (.inl rfl) rfl) ?_
 obtain ⟨s3, hs3, h⟩ := Sh.bind_some' h
 refine AR.op (r := u64 s3) rfl (t_shl hs3 rfl rfl rfl) <| AR.op (r := u64 (s3 - 1#64)) rfl (aop_sub64 (a := s3) (b := 1#64) rfl rfl rfl) <| AR.keep [5] rfl <| AR.op rfl (aop_move (.inr rfl) rfl) <| AR.nil <| hK2 _ (AWP.weak (Weak.kt [2] rfl) ?_)
 refine awp_ret ?_
 obtain rfl := Option.some.inj h
 refine ⟨.inr rfl, u64 (s3 - 1#64), rfl, ?_⟩
 exact Weak.e ⟨.k, trivial⟩
theorem graph_nodes_ok {W0 : World} (hT : Tab W0) {n_0 : Int} {r : (BitVec 64)} (h : G.graph_nodes n_0 = some r) : Fun1 Tryd.prog W0 58 [i64 n_0] (u64 r) := Fun1.two (graph_nodes_ok0 hT h) (by simp)


theorem graph_Right_ok0 {W0 : World} (hT : Tab W0) {g_0 : G.graph_Graph} {r : Bool} (h : G.graph_Right g_0 = some r) : Fun2 Tryd.prog W0 32 [G.graph_Graph.av g_0] (bl r) .empty := by
 refine fun2_of_awp Tryd.func32 rfl (by kernel_rfl) Tryd.ntmps32 (by simp) ?_
 unfold G.graph_Right at h
 show AWP _ _ _ _ ⟨[(0, G.graph_Graph.av g_0)], .empty⟩ _
 refine awp_seqK fun K1 hK1 => awp_reg rfl <| AR.op (r := .ref 0 0 0) rfl (aop_box 2 [G.graph_Graph.av g_0] rfl rfl rfl (.inl ⟨rfl, rfl⟩)) <| AR.op rfl (aop_move (.inr rfl) rfl) <| AR.nil <| hK1 _ (AWP.weak (Weak.e (fr' := [(1, .pp [i64 g_0.N, .sl (List.map u64 g_0.Rows)] 0)]) (H' := .empty) ⟨⟨_, rfl, .frzA rfl rfl rfl rfl (by simp)⟩, trivial⟩) ?_)
 refine awp_seqK fun K2 hK2 => awp_any [(true, false), (true, false), (true, false), (true, false), (true, false), (true, false), (true, false), (true, false), (true, false), (true, false), (true, false), (true, false), (true, false), (true, false), (true, false), (true, false), (true, false), (true, false), (true, false), (true, false), (true, false), (true, false), (true, false), (true, false), (true, false), (true, false)] (by kernel_rfl) (by kernel_rfl) rfl ?_
 refine ARH.dry rfl (fun _ => aop_field_pp rfl rfl fd34_0 (by decide)) <| ARH.dry (r := i64 g_0.N) rfl (fun _ => aop_load_pp rfl rfl sz3 rfl) <| ARH.dry rfl (fun _ => aop_geq rfl rfl rfl) <| ARH.keep [1, 5] rfl <| ARH.dry rfl (fun _ => aop_move (.inl rfl) rfl) ?_
 rcases Bool.eq_false_or_eq_true (decide ((0 : Int) ≤ g_0.N)) with hb14 | hb14
 ·rw [hb14]
  replace h := Sh.if_t h hb14
  refine ARH.dry rfl (fun _ => aop_field_pp rfl rfl fd34_0 (by decide)) <| ARH.dry (r := i64 g_0.N) rfl (fun _ => aop_load_pp rfl rfl sz3 rfl) <| ARH.keep [1, 6, 8] rfl <| ARH.dry rfl (fun _ => aop_leq rfl rfl rfl) <| ARH.dry rfl (fun _ => aop_pick rfl rfl rfl) <| ARH.dry rfl (fun _ => aop_move (.inl rfl) rfl) <| ARH.keep [1, 11] rfl ?_
  rcases Bool.eq_false_or_eq_true (decide (g_0.N ≤ 64)) with hb15 | hb15
  ·rw [hb15]
   replace h := Sh.if_t h hb15
   refine ARH.dry rfl (fun _ => aop_field_pp rfl rfl fd34_1 (by decide)) <| ARH.dry (r := .sl (List.map u64 g_0.Rows)) rfl (fun _ => aop_load_pp rfl rfl sz32 rfl) <| ARH.dry rfl (fun _ => t_len_sl u64 g_0.Rows rfl rfl el32) <| ARH.keep [1, 11, 14] rfl <| ARH.dry rfl (fun _ => aop_field_pp rfl rfl fd34_0 (by decide)) <| ARH.dry (r := i64 g_0.N) rfl (fun _ => aop_load_pp rfl rfl sz3 rfl) <| ARH.dry (r := bl (decide ((Sh.len g_0.Rows) = g_0.N))) rfl (fun _ => aop_eql rfl rfl rfl) <| ARH.keep [1, 11, 17] rfl ?_
   refine ARH.dry rfl (fun _ => aop_pick rfl rfl rfl) <| ARH.dry rfl (fun _ => aop_move (.inl rfl) rfl) ?_
   rcases Bool.eq_false_or_eq_true (decide ((Sh.len g_0.Rows) = g_0.N)) with hb16 | hb16
   ·rw [hb16]
    replace h := Sh.if_t h hb16
    refine ARH.dry rfl (fun _ => aop_field_pp rfl rfl fd34_1 (by decide)) <| ARH.keep [1, 19, 20] rfl <| ARH.dry (r := .sl (List.map u64 g_0.Rows)) rfl (fun _ => aop_load_pp rfl rfl sz32 rfl) ?_
    obtain ⟨r17, hr17, h⟩ := Sh.bind_some' h
    refine ARH.dry (r := u64 r17) rfl (fun _ => aop_call1 rfl rfl (by simp) (bits_Join_ok hT hr17)) <| ARH.dry rfl (fun _ => aop_field_pp rfl rfl fd34_0 (by decide)) <| ARH.keep [19, 22, 23] rfl <| ARH.dry (r := i64 g_0.N) rfl (fun _ => aop_load_pp rfl rfl sz3 rfl) ?_
    obtain ⟨r18, hr18, h⟩ := Sh.bind_some' h
    refine ARH.dry (r := u64 r18) rfl (fun _ => aop_call1 rfl rfl (by simp) (graph_nodes_ok hT hr18)) ?_
    obtain ⟨r19, hr19, h⟩ := Sh.bind_some' h
    refine ARH.dry (r := bl r19) rfl (fun _ => aop_call1 rfl rfl (by simp) (bits_Sub_ok hT hr19)) <| ARH.keep [19, 26] rfl <| ARH.dry rfl (fun _ => aop_pick rfl rfl rfl) <| ARH.dry rfl (fun _ => aop_move (.inr rfl) rfl) <| ARH.nil <| hK2 _ (AWP.weak (Weak.kt [2] rfl) ?_)
    refine awp_ret ?_
    obtain rfl := Option.some.inj h
    refine ⟨.inr rfl, bl r19, rfl, ?_⟩
    exact Weak.e ⟨.k, trivial⟩
   ·rw [hb16]
    replace h := Sh.if_f h hb16
    refine ARH.skip rfl <| ARH.keep [1, 19, 20] rfl <| ARH.skip rfl <| ARH.skip rfl <| ARH.skip rfl <| ARH.keep [19, 22, 23] rfl <| ARH.skip rfl <| ARH.skip rfl ?_
    refine ARH.skip rfl <| ARH.keep [19, 26] rfl <| ARH.dry rfl (fun _ => aop_pick rfl rfl rfl) <| ARH.dry rfl (fun _ => aop_move (.inr rfl) rfl) <| ARH.nil <| hK2 _ (AWP.weak (Weak.kt [2] rfl) ?_)
    refine awp_ret ?_
    obtain rfl := Option.some.inj h
    refine ⟨.inr rfl, bl false, rfl, ?_⟩
    exact Weak.e ⟨.k, trivial⟩
  ·rw [hb15]
   replace h := Sh.if_f h hb15
   refine ARH.skip rfl <| ARH.skip rfl <| ARH.skip rfl <| ARH.keep [1, 11, 14] rfl <| ARH.skip rfl <| ARH.skip rfl <| ARH.skip rfl <| ARH.keep [1, 11, 17] rfl ?_
   refine ARH.dry rfl (fun _ => aop_pick rfl rfl rfl) <| ARH.dry rfl (fun _ => aop_move (.inl rfl) rfl) <| ARH.skip rfl <| ARH.keep [1, 19, 20] rfl <| ARH.skip rfl <| ARH.skip rfl <| ARH.skip rfl <| ARH.keep [19, 22, 23] rfl ?_
   refine ARH.skip rfl <| ARH.skip rfl <| ARH.skip rfl <| ARH.keep [19, 26] rfl <| ARH.dry rfl (fun _ => aop_pick rfl rfl rfl) <| ARH.dry rfl (fun _ => aop_move (.inr rfl) rfl) <| ARH.nil <| hK2 _ (AWP.weak (Weak.kt [2] rfl) ?_)
   refine awp_ret ?_
   obtain rfl := Option.some.inj h
   refine ⟨.inr rfl, bl false, rfl, ?_⟩
   exact Weak.e ⟨.k, trivial⟩
 ·rw [hb14]
  replace h := Sh.if_f h hb14
  refine ARH.skip rfl <| ARH.skip rfl <| ARH.keep [1, 6, 8] rfl <| ARH.skip rfl <| ARH.dry rfl (fun _ => aop_pick rfl rfl rfl) <| ARH.dry rfl (fun _ => aop_move (.inl rfl) rfl) <| ARH.keep [1, 11] rfl <| ARH.skip rfl ?_
  refine ARH.skip rfl <| ARH.skip rfl <| ARH.keep [1, 11, 14] rfl <| ARH.skip rfl <| ARH.skip rfl <| ARH.skip rfl <| ARH.keep [1, 11, 17] rfl <| ARH.dry rfl (fun _ => aop_pick rfl rfl rfl) ?_
  refine ARH.dry rfl (fun _ => aop_move (.inl rfl) rfl) <| ARH.skip rfl <| ARH.keep [1, 19, 20] rfl <| ARH.skip rfl <| ARH.skip rfl <| ARH.skip rfl <| ARH.keep [19, 22, 23] rfl <| ARH.skip rfl ?_
  refine ARH.skip rfl <| ARH.skip rfl <| ARH.keep [19, 26] rfl <| ARH.dry rfl (fun _ => aop_pick rfl rfl rfl) <| ARH.dry rfl (fun _ => aop_move (.inr rfl) rfl) <| ARH.nil <| hK2 _ (AWP.weak (Weak.kt [2] rfl) ?_)
  refine awp_ret ?_
  obtain rfl := Option.some.inj h
  refine ⟨.inr rfl, bl false, rfl, ?_⟩
  exact Weak.e ⟨.k, trivial⟩
theorem graph_Right_ok {W0 : World} (hT : Tab W0) {g_0 : G.graph_Graph} {r : Bool} (h : G.graph_Right g_0 = some r) : Fun1 Tryd.prog W0 32 [G.graph_Graph.av g_0] (bl r) := Fun1.two (graph_Right_ok0 hT h) (by simp)


theorem graph_Add_own {W0 : World} (hT : Tab W0) {g_0 : G.graph_Graph} {a_1 : Int} {b_2 : Int} {r : G.graph_Graph × Int} (h : G.graph_Add g_0 a_1 b_2 = some r) : Fun2 Tryd.prog W0 37 [G.graph_Graph.av g_0, i64 a_1, i64 b_2] (.tuple [.agg [i64 r.1.N, .view 0 0 (List.map u64 r.1.Rows).length], i64 r.2]) ⟨1, [(0, (1, List.map u64 r.1.Rows))], []⟩ := by
 refine fun2_of_awp Tryd.func37 rfl (by kernel_rfl) Tryd.ntmps37 (by simp) ?_
 unfold G.graph_Add at h
 show AWP _ _ _ _ ⟨[(0, G.graph_Graph.av g_0), (1, i64 a_1), (2, i64 b_2)], .empty⟩ _
 refine awp_seqK fun K1 hK1 => awp_reg rfl <| AR.op (r := .ref 0 0 0) rfl (aop_box 2 [G.graph_Graph.av g_0] rfl rfl rfl (.inl ⟨rfl, rfl⟩)) <| AR.op (r := .ref 1 0 0) rfl (aop_alloc 2 [.agg [i64 0, nilS]] rfl zr34 (by kernel_rfl) (.inl ⟨rfl, rfl⟩)) <| AR.op rfl (aop_move (.inr rfl) rfl) <| AR.nil <| hK1 _ (AWP.weak (Weak.re (fr' := [(1, i64 a_1), (2, i64 b_2), (3, .pp [i64 g_0.N, .sl (List.map u64 g_0.Rows)] 0), (6, .ref 0 0 0)]) (H' := ⟨1, [(0, (2, [.agg [i64 0, nilS]]))], []⟩) [(0, 1)] [] rfl rfl rfl (.cons rfl rfl (.one (.sm) rfl) dt trivial) ⟨.k, .k, ⟨_, rfl, .frzA rfl rfl rfl rfl (by simp)⟩, ⟨_, rfl, .ref rfl⟩, trivial⟩) ?_)
 refine awp_seqK fun K2 hK2 => awp_seqJ (fun (p : Bool) => (⟨[(1, i64 a_1), (2, i64 b_2), (3, .pp [i64 g_0.N, .sl (List.map u64 g_0.Rows)] 0), (6, .ref 0 0 0), (32, bl p)], ⟨1, [(0, (2, [.agg [i64 0, nilS]]))], []⟩⟩ : St)) (fun (p : Bool) => G.graph_Add_j1 g_0 a_1 b_2 p = some r) ?_ ?_
 ·rintro v26 h
  replace h : G.graph_Add_j1 g_0 a_1 b_2 v26 = some r := h
  unfold G.graph_Add_j1 at h
  refine awp_cond rfl (fun hb27 => ?_) (fun hb27 => ?_)
  ·replace h := Sh.if_t h hb27
   refine awp_seqK fun K3 hK3 => awp_reg rfl <| AR.op (r := .agg [i64 0, nilS]) rfl (aop_build rfl bd34 rfl rfl rfl) <| AR.op rfl (aop_store (e' := .agg [i64 0, nilS]) rfl rfl rfl rfl rfl rfl sz34 rfl dt rfl) <| AR.op rfl (aop_move (.inr rfl) rfl) <| AR.nil <| hK3 _ (AWP.weak (Weak.kt [6, 7] rfl) ?_)
   refine awp_ret ?_
   obtain rfl := Option.some.inj h
   refine ⟨.inr rfl, .tuple [.agg [i64 0, nilS], i64 1], rfl, ?_⟩
   exact Weak.re [] [0] rfl rfl rfl (.fresh (by simp) dt trivial) ⟨⟨.tuple [.agg [i64 0, nilS], i64 1], rfl, .tp ⟨.ag ⟨.sm, .nil (by simp), trivial⟩, .sm, trivial⟩⟩, trivial⟩
  ·replace h := Sh.if_f h hb27
   refine awp_skip <| hK2 _ (AWP.weak (Weak.kt [1, 2, 3, 6] rfl) ?_)
   refine awp_seqK fun K4 hK4 => awp_reg rfl <| AR.op rfl (aop_field_pp rfl rfl fd34_0 (by decide)) <| AR.op (r := i64 g_0.N) rfl (aop_load_pp rfl rfl sz3 rfl) ?_
   obtain ⟨r29, hr29, h⟩ := Sh.bind_some' h
   refine AR.op (r := .tuple [.agg [i64 r29.1.N, .view 1 0 (List.map u64 r29.1.Rows).length], i64 r29.2]) rfl (aop_call2N (.tuple [.agg [i64 r29.1.N, .view 1 0 (List.map u64 r29.1.Rows).length], i64 r29.2]) [(1, (1, List.map u64 r29.1.Rows))] rfl (ys := [i64 g_0.N]) (xs := [i64 g_0.N]) rfl (Weak.refl _) rfl (by simp) (graph_New_own hT hr29) (.tp ⟨.ag ⟨.sm, .view _ _ _, trivial⟩, .sm, trivial⟩) ⟨rfl, rfl, .same (by simp [AV.flat]), trivial⟩) <| AR.keep [1, 2, 3, 6, 37] rfl <| AR.op rfl (aop_move (.inl rfl) rfl) <| AR.op (r := .agg [i64 r29.1.N, .view 1 0 (List.map u64 r29.1.Rows).length]) rfl (aop_extract rfl rfl rfl) <| AR.op (r := i64 r29.2) rfl (aop_extract rfl rfl rfl) <| AR.keep [1, 2, 3, 6, 38, 39] rfl <| AR.op (r := .ref 2 0 0) rfl (aop_alloc 2 [.agg [i64 0, nilS]] rfl zr34 (by kernel_rfl) (.inl ⟨rfl, rfl⟩)) <| AR.op rfl (aop_store (e' := .agg [i64 r29.1.N, .view 1 0 (List.map u64 r29.1.Rows).length]) rfl rfl rfl rfl rfl rfl sz34 rfl dt rfl) ?_
   refine AR.op rfl (aop_move (.inr rfl) rfl) <| AR.nil <| hK4 _ (AWP.weak (Weak.re (fr' := [(1, i64 a_1), (2, i64 b_2), (3, .pp [i64 g_0.N, .sl (List.map u64 g_0.Rows)] 0), (6, .ref 0 0 0), (8, .ref 1 0 0), (9, i64 r29.2)]) (H' := ⟨3, [(0, (2, [.agg [i64 0, nilS]])), (1, (2, [.agg [i64 r29.1.N, .view 2 0 (List.map u64 r29.1.Rows).length]])), (2, (1, List.map u64 r29.1.Rows))], []⟩) [(0, 0), (1, 2), (2, 1)] [] rfl rfl rfl (.cons rfl rfl (.one (.sm) rfl) dt (.cons rfl rfl (.one (.ag ⟨.sm, .view rfl, trivial⟩) rfl) dt (.cons rfl rfl (.same (by simp)) dt trivial))) ⟨.k, .k, .k, ⟨_, rfl, .ref rfl⟩, ⟨_, rfl, .ref rfl⟩, .k, trivial⟩) ?_)
   refine awp_seqK fun K5 hK5 => awp_reg rfl <| AR.op rfl (aop_field_ref rfl rfl rfl fd34_1 (by decide)) <| AR.op (r := .view 2 0 (List.map u64 r29.1.Rows).length) rfl (aop_load_ref rfl rfl rfl rfl sz32 rfl) <| AR.op rfl (aop_field_pp rfl rfl fd34_1 (by decide)) <| AR.keep [1, 2, 6, 8, 9, 41, 42] rfl <| AR.op (r := .sl (List.map u64 g_0.Rows)) rfl (aop_load_pp rfl rfl sz32 rfl) ?_
   obtain ⟨copied32, hcopied32, h⟩ := Sh.bind_some' h
   have hlen33 := Sh.cpy_len hcopied32
   refine AR.op (r := .any) rfl (t_copy u64 r29.1.Rows g_0.Rows copied32 hcopied32 rfl (fun _ => rfl) rfl rfl rfl rfl rfl rfl el32) <| AR.nil <| hK5 _ (AWP.weak (Weak.re (fr' := [(1, i64 a_1), (2, i64 b_2), (6, .ref 0 0 0), (8, .ref 1 0 0), (9, i64 r29.2)]) (H' := ⟨3, [(0, (2, [.agg [i64 0, nilS]])), (1, (2, [.agg [i64 r29.1.N, .view 2 0 (List.map u64 copied32).length]])), (2, (1, List.map u64 copied32))], []⟩) [(0, 0), (1, 1), (2, 2)] [] rfl rfl rfl (.cons rfl rfl (.one (.sm) rfl) dt (.cons rfl rfl (.one (.ag ⟨.sm, .viewL rfl (by simp [hlen33]), trivial⟩) rfl) dt (.cons rfl rfl (.same (by simp)) dt trivial))) ⟨.k, .k, ⟨_, rfl, .ref rfl⟩, ⟨_, rfl, .ref rfl⟩, .k, trivial⟩) ?_)
   refine awp_seqK fun K6 hK6 => awp_any [(false, false), (false, false), (true, false), (false, false), (false, false), (true, false), (false, false), (false, false), (true, false), (true, false), (false, false), (false, true)] (by kernel_rfl) (by kernel_rfl) rfl ?_
   refine ARH.op rfl rfl (aop_field_ref rfl rfl rfl fd34_1 (by decide)) <| ARH.op (r := .view 2 0 (List.map u64 copied32).length) rfl rfl (aop_load_ref rfl rfl rfl rfl sz32 rfl) <| ARH.dry rfl (fun _ => aop_move (.inl rfl) rfl) <| ARH.keep [1, 2, 6, 8, 9, 46, 47] rfl <| ARH.op rfl rfl (aop_field_ref rfl rfl rfl fd34_1 (by decide)) <| ARH.op (r := .view 2 0 (List.map u64 copied32).length) rfl rfl (aop_load_ref rfl rfl rfl rfl sz32 rfl) <| ARH.dry rfl (fun _ => aop_move (.inl rfl) rfl) <| ARH.keep [2, 6, 8, 9, 46, 47, 49, 50] rfl ?_
   obtain ⟨x39, hx39, h⟩ := Sh.bind_some' h
   obtain ⟨k40, hi40, hl40⟩ := Sh.idx_some hx39
   refine ARH.op (r := .ref 2 k40 0) rfl rfl (t_index_view u64 copied32 hi40 hl40 rfl rfl rfl rfl rfl el32 rfl) <| ARH.op (r := u64 x39) rfl rfl (t_load_el u64 copied32 hl40 rfl rfl rfl sz65 rfl) <| ARH.dry rfl (fun _ => aop_move (.inl rfl) rfl) <| ARH.keep [6, 8, 9, 46, 47, 52, 53] rfl ?_
   obtain ⟨r41, hr41, h⟩ := Sh.bind_some' h
   refine ARH.dry (r := u64 r41) rfl (fun _ => aop_call1 rfl rfl (by simp) (bits_With_ok hT hr41)) ?_
   obtain ⟨x42, hx42, h⟩ := Sh.bind_some' h
   obtain ⟨k43, hi43, hl43⟩ := Sh.idx_some hx42
   refine ARH.op (r := .ref 2 k43 0) rfl rfl (t_index_view u64 copied32 hi43 hl43 rfl rfl rfl rfl rfl el32 rfl) <| ARH.loud rfl rfl (t_store_el u64 copied32 r41 hi43 hl43 rfl rfl rfl rfl rfl sz65 rfl dt rfl) <| ARH.nil <| hK6 _ (AWP.weak (Weak.re (fr' := [(6, .ref 0 0 0), (8, .ref 1 0 0), (9, i64 r29.2)]) (H' := ⟨3, [(0, (2, [.agg [i64 0, nilS]])), (1, (2, [.agg [i64 r29.1.N, .view 2 0 (List.map u64 (Sh.set copied32 a_1 r41)).length]])), (2, (1, List.map u64 (Sh.set copied32 a_1 r41)))], []⟩) [(0, 0), (1, 1), (2, 2)] [] rfl rfl rfl (.cons rfl rfl (.one (.sm) rfl) dt (.cons rfl rfl (.one (.ag ⟨.sm, .viewL rfl (by simp [hlen33]), trivial⟩) rfl) dt (.cons rfl rfl (.same (by simp)) dt trivial))) ⟨⟨_, rfl, .ref rfl⟩, ⟨_, rfl, .ref rfl⟩, .k, trivial⟩) ?_)
   refine awp_seqK fun K7 hK7 => awp_reg rfl <| AR.op (r := .agg [i64 r29.1.N, .view 2 0 (List.map u64 (Sh.set copied32 a_1 r41)).length]) rfl (aop_load_ref rfl rfl rfl rfl sz34 rfl) <| AR.op rfl (aop_move (.inl rfl) rfl) <| AR.op rfl (aop_store (e' := .agg [i64 r29.1.N, .view 2 0 (List.map u64 (Sh.set copied32 a_1 r41)).length]) rfl rfl rfl rfl rfl rfl sz34 rfl dt rfl) <| AR.keep [6, 57] rfl <| AR.op rfl (aop_move (.inr rfl) rfl) <| AR.nil ?_
   refine hK7 _ (AWP.weak (Weak.re (fr' := [(6, .ref 0 0 0), (7, i64 r29.2)]) (H' := ⟨2, [(0, (2, [.agg [i64 r29.1.N, .view 1 0 (List.map u64 (Sh.set copied32 a_1 r41)).length]])), (1, (1, List.map u64 (Sh.set copied32 a_1 r41)))], []⟩) [(0, 0), (1, 2)] [] rfl rfl rfl (.cons rfl rfl (.one (.ag ⟨.sm, .view rfl, trivial⟩) rfl) dt (.cons rfl rfl (.same (by simp)) dt trivial)) ⟨⟨_, rfl, .ref rfl⟩, .k, trivial⟩) ?_)
   refine awp_ret ?_
   obtain rfl := Option.some.inj h
   refine ⟨.inr rfl, .tuple [.agg [i64 r29.1.N, .view 1 0 (List.map u64 (Sh.set copied32 a_1 r41)).length], i64 r29.2], rfl, ?_⟩
   exact Weak.re [(0, 1)] [] rfl rfl rfl (.cons rfl rfl (.same (by simp)) dt trivial) ⟨⟨.tuple [.agg [i64 r29.1.N, .view 1 0 (List.map u64 (Sh.set copied32 a_1 r41)).length], i64 r29.2], rfl, .tp ⟨.ag ⟨.sm, .view rfl, trivial⟩, .sm, trivial⟩⟩, trivial⟩
 ·intro K8 hK8
  refine awp_reg rfl <| AR.op (r := G.graph_Graph.av g_0) rfl (aop_load_pp rfl rfl sz34 rfl) ?_
  obtain ⟨r44, hr44, h⟩ := Sh.bind_some' h
  refine AR.op (r := bl r44) rfl (aop_call1 rfl rfl (by simp) (graph_Right_ok hT hr44)) <| AR.op (r := bl (!r44)) rfl (aop_not rfl rfl) <| AR.keep [1, 2, 3, 6, 12] rfl <| AR.op rfl (aop_move (.inl rfl) rfl) ?_
  rcases Bool.eq_false_or_eq_true (!r44) with hb45 | hb45
  ·rw [hb45]
   replace h := Sh.if_t h hb45
   refine AR.skip rfl <| AR.skip rfl <| AR.keep [1, 2, 3, 6, 13, 15] rfl <| AR.op rfl (aop_pick rfl rfl rfl) <| AR.op rfl (aop_move (.inl rfl) rfl) <| AR.skip rfl <| AR.keep [1, 2, 3, 6, 17, 18] rfl <| AR.skip rfl ?_
   refine AR.skip rfl <| AR.skip rfl <| AR.keep [1, 2, 3, 6, 17, 21] rfl <| AR.op rfl (aop_pick rfl rfl rfl) <| AR.op rfl (aop_move (.inl rfl) rfl) <| AR.skip rfl <| AR.keep [1, 2, 3, 6, 23, 24] rfl <| AR.skip rfl ?_
   refine AR.op rfl (aop_pick rfl rfl rfl) <| AR.op rfl (aop_move (.inl rfl) rfl) <| AR.keep [1, 2, 3, 6, 27] rfl <| AR.skip rfl <| AR.skip rfl <| AR.skip rfl <| AR.keep [1, 2, 3, 6, 27, 28, 30] rfl <| AR.skip rfl ?_
   refine AR.op rfl (aop_pick rfl rfl rfl) <| AR.nil ?_
   exact hK8 true _ h (Weak.kt [1, 2, 3, 6, 32] rfl)
  ·rw [hb45]
   replace h := Sh.if_f h hb45
   refine AR.op rfl (aop_move (.inl rfl) rfl) <| AR.op rfl (aop_lss rfl rfl rfl) <| AR.keep [1, 2, 3, 6, 13, 15] rfl <| AR.op rfl (aop_pick rfl rfl rfl) <| AR.op rfl (aop_move (.inl rfl) rfl) ?_
   rcases Bool.eq_false_or_eq_true (decide (a_1 < 0)) with hb46 | hb46
   ·rw [hb46]
    replace h := Sh.if_t h hb46
    refine AR.skip rfl <| AR.keep [1, 2, 3, 6, 17, 18] rfl <| AR.skip rfl <| AR.skip rfl <| AR.skip rfl <| AR.keep [1, 2, 3, 6, 17, 21] rfl <| AR.op rfl (aop_pick rfl rfl rfl) <| AR.op rfl (aop_move (.inl rfl) rfl) ?_
    refine AR.skip rfl <| AR.keep [1, 2, 3, 6, 23, 24] rfl <| AR.skip rfl <| AR.op rfl (aop_pick rfl rfl rfl) <| AR.op rfl (aop_move (.inl rfl) rfl) <| AR.keep [1, 2, 3, 6, 27] rfl <| AR.skip rfl <| AR.skip rfl ?_
    refine AR.skip rfl <| AR.keep [1, 2, 3, 6, 27, 28, 30] rfl <| AR.skip rfl <| AR.op rfl (aop_pick rfl rfl rfl) <| AR.nil ?_
    exact hK8 true _ h (Weak.kt [1, 2, 3, 6, 32] rfl)
   ·rw [hb46]
    replace h := Sh.if_f h hb46
    refine AR.op rfl (aop_move (.inl rfl) rfl) <| AR.keep [1, 2, 3, 6, 17, 18] rfl <| AR.op rfl (aop_field_pp rfl rfl fd34_0 (by decide)) <| AR.op (r := i64 g_0.N) rfl (aop_load_pp rfl rfl sz3 rfl) <| AR.op rfl (aop_geq rfl rfl rfl) <| AR.keep [1, 2, 3, 6, 17, 21] rfl <| AR.op rfl (aop_pick rfl rfl rfl) <| AR.op rfl (aop_move (.inl rfl) rfl) ?_
    rcases Bool.eq_false_or_eq_true (decide (g_0.N ≤ a_1)) with hb47 | hb47
    ·rw [hb47]
     replace h := Sh.if_t h hb47
     refine AR.skip rfl <| AR.keep [1, 2, 3, 6, 23, 24] rfl <| AR.skip rfl <| AR.op rfl (aop_pick rfl rfl rfl) <| AR.op rfl (aop_move (.inl rfl) rfl) <| AR.keep [1, 2, 3, 6, 27] rfl <| AR.skip rfl <| AR.skip rfl ?_
     refine AR.skip rfl <| AR.keep [1, 2, 3, 6, 27, 28, 30] rfl <| AR.skip rfl <| AR.op rfl (aop_pick rfl rfl rfl) <| AR.nil ?_
     exact hK8 true _ h (Weak.kt [1, 2, 3, 6, 32] rfl)
    ·rw [hb47]
     replace h := Sh.if_f h hb47
     refine AR.op rfl (aop_move (.inl rfl) rfl) <| AR.keep [1, 2, 3, 6, 23, 24] rfl <| AR.op rfl (aop_lss rfl rfl rfl) <| AR.op rfl (aop_pick rfl rfl rfl) <| AR.op rfl (aop_move (.inl rfl) rfl) <| AR.keep [1, 2, 3, 6, 27] rfl ?_
     rcases Bool.eq_false_or_eq_true (decide (b_2 < 0)) with hb48 | hb48
     ·rw [hb48]
      replace h := Sh.if_t h hb48
      refine AR.skip rfl <| AR.skip rfl <| AR.skip rfl <| AR.keep [1, 2, 3, 6, 27, 28, 30] rfl <| AR.skip rfl <| AR.op rfl (aop_pick rfl rfl rfl) <| AR.nil ?_
      exact hK8 true _ h (Weak.kt [1, 2, 3, 6, 32] rfl)
     ·rw [hb48]
      replace h := Sh.if_f h hb48
      refine AR.op rfl (aop_move (.inl rfl) rfl) <| AR.op rfl (aop_field_pp rfl rfl fd34_0 (by decide)) <| AR.op (r := i64 g_0.N) rfl (aop_load_pp rfl rfl sz3 rfl) <| AR.keep [1, 2, 3, 6, 27, 28, 30] rfl <| AR.op rfl (aop_geq rfl rfl rfl) <| AR.op rfl (aop_pick rfl rfl rfl) <| AR.nil ?_
      exact hK8 (decide (g_0.N ≤ b_2)) _ h (Weak.kt [1, 2, 3, 6, 32] rfl)
theorem graph_Add_ok {W0 : World} (hT : Tab W0) {g_0 : G.graph_Graph} {a_1 : Int} {b_2 : Int} {r : G.graph_Graph × Int} (h : G.graph_Add g_0 a_1 b_2 = some r) : Fun1 Tryd.prog W0 37 [G.graph_Graph.av g_0, i64 a_1, i64 b_2] (.tuple [G.graph_Graph.av r.1, i64 r.2]) :=
 (graph_Add_own hT h).give (Weak.e ⟨⟨_, rfl, .tp ⟨.ag ⟨.sm, .lendAll rfl rfl (by simp), trivial⟩, .sm, trivial⟩⟩, trivial⟩) (by simp)


theorem graph_like_ok0 {W0 : World} (hT : Tab W0) {a_0 : G.graph_Graph} {b_1 : G.graph_Graph} {r : Bool} (h : G.graph_like a_0 b_1 = some r) : Fun2 Tryd.prog W0 55 [G.graph_Graph.av a_0, G.graph_Graph.av b_1] (bl r) .empty := by
 refine fun2_of_awp Tryd.func55 rfl (by kernel_rfl) Tryd.ntmps55 (by simp) ?_
 unfold G.graph_like at h
 show AWP _ _ _ _ ⟨[(0, G.graph_Graph.av a_0), (1, G.graph_Graph.av b_1)], .empty⟩ _
 refine awp_seqK fun K1 hK1 => awp_reg rfl <| AR.op (r := .ref 0 0 0) rfl (aop_box 2 [G.graph_Graph.av a_0] rfl rfl rfl (.inl ⟨rfl, rfl⟩)) <| AR.op (r := .ref 1 0 0) rfl (aop_box 2 [G.graph_Graph.av b_1] rfl rfl rfl (.inl ⟨rfl, rfl⟩)) <| AR.op rfl (aop_move (.inr rfl) rfl) <| AR.nil <| hK1 _ (AWP.weak (Weak.e (fr' := [(2, .pp [i64 a_0.N, .sl (List.map u64 a_0.Rows)] 0), (3, .pp [i64 b_1.N, .sl (List.map u64 b_1.Rows)] 0)]) (H' := .empty) ⟨⟨_, rfl, .frzA rfl rfl rfl rfl (by simp)⟩, ⟨_, rfl, .frzA rfl rfl rfl rfl (by simp)⟩, trivial⟩) ?_)
 refine awp_seqK fun K2 hK2 => awp_reg rfl <| AR.op (r := G.graph_Graph.av a_0) rfl (aop_load_pp rfl rfl sz34 rfl) ?_
 obtain ⟨r10, hr10, h⟩ := Sh.bind_some' h
 refine AR.op (r := bl r10) rfl (aop_call1 rfl rfl (by simp) (graph_Right_ok hT hr10)) <| AR.op rfl (aop_move (.inl rfl) rfl) <| AR.keep [2, 3, 7] rfl ?_
 rcases Bool.eq_false_or_eq_true (r10) with hb11 | hb11
 ·rw [hb11]
  replace h := Sh.if_t h hb11
  refine AR.op (r := G.graph_Graph.av b_1) rfl (aop_load_pp rfl rfl sz34 rfl) ?_
  obtain ⟨r12, hr12, h⟩ := Sh.bind_some' h
  refine AR.op (r := bl r12) rfl (aop_call1 rfl rfl (by simp) (graph_Right_ok hT hr12)) <| AR.op rfl (aop_pick rfl rfl rfl) <| AR.keep [2, 3, 10] rfl <| AR.op rfl (aop_move (.inl rfl) rfl) ?_
  rcases Bool.eq_false_or_eq_true (r12) with hb13 | hb13
  ·rw [hb13]
   replace h := Sh.if_t h hb13
   refine AR.op rfl (aop_field_pp rfl rfl fd34_0 (by decide)) <| AR.op (r := i64 a_0.N) rfl (aop_load_pp rfl rfl sz3 rfl) <| AR.keep [3, 11, 13] rfl <| AR.op rfl (aop_field_pp rfl rfl fd34_0 (by decide)) <| AR.op (r := i64 b_1.N) rfl (aop_load_pp rfl rfl sz3 rfl) <| AR.op (r := bl (decide (a_0.N = b_1.N))) rfl (aop_eql rfl rfl rfl) <| AR.keep [11, 16] rfl <| AR.op rfl (aop_pick rfl rfl rfl) ?_
   refine AR.op rfl (aop_move (.inr rfl) rfl) <| AR.nil <| hK2 _ (AWP.weak (Weak.kt [4] rfl) ?_)
   refine awp_ret ?_
   obtain rfl := Option.some.inj h
   refine ⟨.inr rfl, bl (decide (a_0.N = b_1.N)), rfl, ?_⟩
   exact Weak.e ⟨.k, trivial⟩
  ·rw [hb13]
   replace h := Sh.if_f h hb13
   refine AR.skip rfl <| AR.skip rfl <| AR.keep [3, 11, 13] rfl <| AR.skip rfl <| AR.skip rfl <| AR.skip rfl <| AR.keep [11, 16] rfl <| AR.op rfl (aop_pick rfl rfl rfl) ?_
   refine AR.op rfl (aop_move (.inr rfl) rfl) <| AR.nil <| hK2 _ (AWP.weak (Weak.kt [4] rfl) ?_)
   refine awp_ret ?_
   obtain rfl := Option.some.inj h
   refine ⟨.inr rfl, bl false, rfl, ?_⟩
   exact Weak.e ⟨.k, trivial⟩
 ·rw [hb11]
  replace h := Sh.if_f h hb11
  refine AR.skip rfl <| AR.skip rfl <| AR.op rfl (aop_pick rfl rfl rfl) <| AR.keep [2, 3, 10] rfl <| AR.op rfl (aop_move (.inl rfl) rfl) <| AR.skip rfl <| AR.skip rfl <| AR.keep [3, 11, 13] rfl ?_
  refine AR.skip rfl <| AR.skip rfl <| AR.skip rfl <| AR.keep [11, 16] rfl <| AR.op rfl (aop_pick rfl rfl rfl) <| AR.op rfl (aop_move (.inr rfl) rfl) <| AR.nil <| hK2 _ (AWP.weak (Weak.kt [4] rfl) ?_)
  refine awp_ret ?_
  obtain rfl := Option.some.inj h
  refine ⟨.inr rfl, bl false, rfl, ?_⟩
  exact Weak.e ⟨.k, trivial⟩
theorem graph_like_ok {W0 : World} (hT : Tab W0) {a_0 : G.graph_Graph} {b_1 : G.graph_Graph} {r : Bool} (h : G.graph_like a_0 b_1 = some r) : Fun1 Tryd.prog W0 55 [G.graph_Graph.av a_0, G.graph_Graph.av b_1] (bl r) := Fun1.two (graph_like_ok0 hT h) (by simp)


theorem graph_Union_own {W0 : World} (hT : Tab W0) {a_0 : G.graph_Graph} {b_1 : G.graph_Graph} {r : G.graph_Graph × Int} (h : G.graph_Union a_0 b_1 = some r) : Fun2 Tryd.prog W0 51 [G.graph_Graph.av a_0, G.graph_Graph.av b_1] (.tuple [.agg [i64 r.1.N, .view 0 0 (List.map u64 r.1.Rows).length], i64 r.2]) ⟨1, [(0, (1, List.map u64 r.1.Rows))], []⟩ := by
 refine fun2_of_awp Tryd.func51 rfl (by kernel_rfl) Tryd.ntmps51 (by simp) ?_
 unfold G.graph_Union at h
 show AWP _ _ _ _ ⟨[(0, G.graph_Graph.av a_0), (1, G.graph_Graph.av b_1)], .empty⟩ _
 refine awp_seqK fun K1 hK1 => awp_reg rfl <| AR.op (r := .ref 0 0 0) rfl (aop_box 2 [G.graph_Graph.av a_0] rfl rfl rfl (.inl ⟨rfl, rfl⟩)) <| AR.op (r := .ref 1 0 0) rfl (aop_box 2 [G.graph_Graph.av b_1] rfl rfl rfl (.inl ⟨rfl, rfl⟩)) <| AR.op (r := .ref 2 0 0) rfl (aop_alloc 2 [.agg [i64 0, nilS]] rfl zr34 (by kernel_rfl) (.inl ⟨rfl, rfl⟩)) <| AR.keep [2, 3, 4] rfl <| AR.op rfl (aop_move (.inr rfl) rfl) <| AR.nil ?_
 refine hK1 _ (AWP.weak (Weak.re (fr' := [(2, .pp [i64 a_0.N, .sl (List.map u64 a_0.Rows)] 0), (3, .pp [i64 b_1.N, .sl (List.map u64 b_1.Rows)] 0), (4, .ref 0 0 0)]) (H' := ⟨1, [(0, (2, [.agg [i64 0, nilS]]))], []⟩) [(0, 2)] [] rfl rfl rfl (.cons rfl rfl (.one (.sm) rfl) dt trivial) ⟨⟨_, rfl, .frzA rfl rfl rfl rfl (by simp)⟩, ⟨_, rfl, .frzA rfl rfl rfl rfl (by simp)⟩, ⟨_, rfl, .ref rfl⟩, trivial⟩) ?_)
 refine awp_seqK fun K2 hK2 => awp_seqK fun K3 hK3 => awp_reg rfl <| AR.op (r := G.graph_Graph.av a_0) rfl (aop_load_pp rfl rfl sz34 rfl) <| AR.op (r := G.graph_Graph.av b_1) rfl (aop_load_pp rfl rfl sz34 rfl) ?_
 obtain ⟨r30, hr30, h⟩ := Sh.bind_some' h
 refine AR.op (r := bl r30) rfl (aop_call1 rfl rfl (by simp) (graph_like_ok hT hr30)) <| AR.keep [2, 3, 4, 11] rfl <| AR.op (r := bl (!r30)) rfl (aop_not rfl rfl) <| AR.nil <| hK3 _ (AWP.weak (Weak.kt [2, 3, 4, 12] rfl) ?_)
 refine awp_cond rfl (fun hb31 => ?_) (fun hb31 => ?_)
 ·replace h := Sh.if_t h hb31
  refine awp_seqK fun K4 hK4 => awp_reg rfl <| AR.op (r := .agg [i64 0, nilS]) rfl (aop_build rfl bd34 rfl rfl rfl) <| AR.op rfl (aop_store (e' := .agg [i64 0, nilS]) rfl rfl rfl rfl rfl rfl sz34 rfl dt rfl) <| AR.op rfl (aop_move (.inr rfl) rfl) <| AR.nil <| hK4 _ (AWP.weak (Weak.kt [4, 5] rfl) ?_)
  refine awp_ret ?_
  obtain rfl := Option.some.inj h
  refine ⟨.inr rfl, .tuple [.agg [i64 0, nilS], i64 1], rfl, ?_⟩
  exact Weak.re [] [0] rfl rfl rfl (.fresh (by simp) dt trivial) ⟨⟨.tuple [.agg [i64 0, nilS], i64 1], rfl, .tp ⟨.ag ⟨.sm, .nil (by simp), trivial⟩, .sm, trivial⟩⟩, trivial⟩
 ·replace h := Sh.if_f h hb31
  refine awp_skip <| hK2 _ (AWP.weak (Weak.kt [2, 3, 4] rfl) ?_)
  refine awp_seqK fun K5 hK5 => awp_reg rfl <| AR.op rfl (aop_field_pp rfl rfl fd34_0 (by decide)) <| AR.op (r := i64 a_0.N) rfl (aop_load_pp rfl rfl sz3 rfl) ?_
  obtain ⟨r33, hr33, h⟩ := Sh.bind_some' h
  refine AR.op (r := .tuple [.agg [i64 r33.1.N, .view 1 0 (List.map u64 r33.1.Rows).length], i64 r33.2]) rfl (aop_call2N (.tuple [.agg [i64 r33.1.N, .view 1 0 (List.map u64 r33.1.Rows).length], i64 r33.2]) [(1, (1, List.map u64 r33.1.Rows))] rfl (ys := [i64 a_0.N]) (xs := [i64 a_0.N]) rfl (Weak.refl _) rfl (by simp) (graph_New_own hT hr33) (.tp ⟨.ag ⟨.sm, .view _ _ _, trivial⟩, .sm, trivial⟩) ⟨rfl, rfl, .same (by simp [AV.flat]), trivial⟩) <| AR.keep [2, 3, 4, 17] rfl <| AR.op rfl (aop_move (.inl rfl) rfl) <| AR.op (r := .agg [i64 r33.1.N, .view 1 0 (List.map u64 r33.1.Rows).length]) rfl (aop_extract rfl rfl rfl) <| AR.op (r := i64 r33.2) rfl (aop_extract rfl rfl rfl) <| AR.keep [2, 3, 4, 18, 19] rfl <| AR.op (r := .ref 2 0 0) rfl (aop_alloc 2 [.agg [i64 0, nilS]] rfl zr34 (by kernel_rfl) (.inl ⟨rfl, rfl⟩)) <| AR.op rfl (aop_store (e' := .agg [i64 r33.1.N, .view 1 0 (List.map u64 r33.1.Rows).length]) rfl rfl rfl rfl rfl rfl sz34 rfl dt rfl) ?_
  refine AR.op rfl (aop_move (.inr rfl) rfl) <| AR.nil <| hK5 _ (AWP.weak (Weak.re (fr' := [(2, .pp [i64 a_0.N, .sl (List.map u64 a_0.Rows)] 0), (3, .pp [i64 b_1.N, .sl (List.map u64 b_1.Rows)] 0), (4, .ref 0 0 0), (6, .ref 1 0 0), (7, i64 r33.2)]) (H' := ⟨3, [(0, (2, [.agg [i64 0, nilS]])), (1, (2, [.agg [i64 r33.1.N, .view 2 0 (List.map u64 r33.1.Rows).length]])), (2, (1, List.map u64 r33.1.Rows))], []⟩) [(0, 0), (1, 2), (2, 1)] [] rfl rfl rfl (.cons rfl rfl (.one (.sm) rfl) dt (.cons rfl rfl (.one (.ag ⟨.sm, .view rfl, trivial⟩) rfl) dt (.cons rfl rfl (.same (by simp)) dt trivial))) ⟨.k, .k, ⟨_, rfl, .ref rfl⟩, ⟨_, rfl, .ref rfl⟩, .k, trivial⟩) ?_)
  refine awp_seqJ (fun (p : (List (BitVec 64))) => (⟨[(4, .ref 0 0 0), (6, .ref 1 0 0), (7, i64 r33.2)], ⟨3, [(0, (2, [.agg [i64 0, nilS]])), (1, (2, [.agg [i64 r33.1.N, .view 2 0 (List.map u64 p).length]])), (2, (1, List.map u64 p))], []⟩⟩ : St)) (fun (p : (List (BitVec 64))) => G.graph_Union_j1 r33 p = some r) ?_ ?_
  ·rintro v59 h
   replace h : G.graph_Union_j1 r33 v59 = some r := h
   unfold G.graph_Union_j1 at h
   refine awp_seqK fun K6 hK6 => awp_reg rfl <| AR.op (r := .agg [i64 r33.1.N, .view 2 0 (List.map u64 v59).length]) rfl (aop_load_ref rfl rfl rfl rfl sz34 rfl) <| AR.op rfl (aop_move (.inl rfl) rfl) <| AR.op rfl (aop_store (e' := .agg [i64 r33.1.N, .view 2 0 (List.map u64 v59).length]) rfl rfl rfl rfl rfl rfl sz34 rfl dt rfl) <| AR.keep [4, 44] rfl <| AR.op rfl (aop_move (.inr rfl) rfl) <| AR.nil ?_
   refine hK6 _ (AWP.weak (Weak.re (fr' := [(4, .ref 0 0 0), (5, i64 r33.2)]) (H' := ⟨2, [(0, (2, [.agg [i64 r33.1.N, .view 1 0 (List.map u64 v59).length]])), (1, (1, List.map u64 v59))], []⟩) [(0, 0), (1, 2)] [] rfl rfl rfl (.cons rfl rfl (.one (.ag ⟨.sm, .view rfl, trivial⟩) rfl) dt (.cons rfl rfl (.same (by simp)) dt trivial)) ⟨⟨_, rfl, .ref rfl⟩, .k, trivial⟩) ?_)
   refine awp_ret ?_
   obtain rfl := Option.some.inj h
   refine ⟨.inr rfl, .tuple [.agg [i64 r33.1.N, .view 1 0 (List.map u64 v59).length], i64 r33.2], rfl, ?_⟩
   exact Weak.re [(0, 1)] [] rfl rfl rfl (.cons rfl rfl (.same (by simp)) dt trivial) ⟨⟨.tuple [.agg [i64 r33.1.N, .view 1 0 (List.map u64 v59).length], i64 r33.2], rfl, .tp ⟨.ag ⟨.sm, .view rfl, trivial⟩, .sm, trivial⟩⟩, trivial⟩
  ·intro K7 hK7
   refine awp_seqK fun K8 hK8 => awp_reg rfl <| AR.op rfl (aop_field_ref rfl rfl rfl fd34_1 (by decide)) <| AR.op (r := .view 2 0 (List.map u64 r33.1.Rows).length) rfl (aop_load_ref rfl rfl rfl rfl sz32 rfl) <| AR.op (r := i64 (Sh.len r33.1.Rows)) rfl (t_len_view u64 r33.1.Rows rfl rfl rfl rfl el32) <| AR.keep [2, 3, 4, 6, 7, 22] rfl <| AR.op rfl (aop_move (.inl rfl) rfl) <| AR.nil ?_
   refine hK8 _ ?_
   refine awp_block <| awp_iter (fun (p : (List (BitVec 64)) × Int) => G.graph_Union_b1 a_0 b_1 r33 p.1 p.2) (fun (p : (List (BitVec 64)) × Int) => (⟨[(2, .pp [i64 a_0.N, .sl (List.map u64 a_0.Rows)] 0), (3, .pp [i64 b_1.N, .sl (List.map u64 b_1.Rows)] 0), (4, .ref 0 0 0), (6, .ref 1 0 0), (7, i64 r33.2), (22, i64 (Sh.len r33.1.Rows)), (23, i64 p.2)], ⟨3, [(0, (2, [.agg [i64 0, nilS]])), (1, (2, [.agg [i64 r33.1.N, .view 2 0 (List.map u64 p.1).length]])), (2, (1, List.map u64 p.1))], []⟩⟩ : St)) h (Weak.kt [2, 3, 4, 6, 7, 22, 23] rfl) ?_
   ·skip
    rintro ⟨outRows76, v77⟩ o1 h hx1
    replace h : G.graph_Union_b1 a_0 b_1 r33 outRows76 v77 = some o1 := h
    unfold G.graph_Union_b1 at h
    refine awp_seqK fun K9 hK9 => awp_reg rfl <| AR.op rfl (aop_lss rfl rfl rfl) <| AR.nil <| hK9 _ ?_
    refine awp_seqK fun K10 hK10 => awp_cond rfl (fun hb78 => ?_) (fun hb78 => ?_)
    ·replace h := Sh.if_t h hb78
     refine awp_skip <| hK10 _ (AWP.weak (Weak.kt [2, 3, 4, 6, 7, 22, 23] rfl) ?_)
     refine awp_seqK fun K11 hK11 => awp_block <| awp_seqK fun K12 hK12 => awp_reg rfl <| AR.op rfl (aop_move (.inl rfl) rfl) <| AR.op rfl (aop_move (.inr rfl) rfl) <| AR.nil <| hK12 _ (AWP.weak (Weak.kt [2, 3, 4, 6, 7, 22, 23, 8] rfl) ?_)
     refine awp_any [(false, false), (false, false), (true, false), (true, false), (true, false), (true, false), (true, false), (true, false), (true, false), (true, false), (true, false), (true, false), (true, false), (true, false), (true, false), (false, false), (false, true)] (by kernel_rfl) (by kernel_rfl) rfl ?_
     refine ARH.op rfl rfl (aop_field_ref rfl rfl rfl fd34_1 (by decide)) <| ARH.op (r := .view 2 0 (List.map u64 outRows76).length) rfl rfl (aop_load_ref rfl rfl rfl rfl sz32 rfl) <| ARH.dry rfl (fun _ => aop_move (.inl rfl) rfl) <| ARH.keep [2, 3, 4, 6, 7, 22, 23, 8, 27, 28] rfl <| ARH.dry rfl (fun _ => aop_field_pp rfl rfl fd34_1 (by decide)) <| ARH.dry (r := .sl (List.map u64 a_0.Rows)) rfl (fun _ => aop_load_pp rfl rfl sz32 rfl) <| ARH.dry rfl (fun _ => aop_move (.inl rfl) rfl) <| ARH.keep [2, 3, 4, 6, 7, 22, 23, 8, 27, 28, 30, 31] rfl ?_
     obtain ⟨x86, hx86, h⟩ := Sh.bind_some' h
     obtain ⟨k87, hi87, hl87⟩ := Sh.idx_some hx86
     refine ARH.dry rfl (fun _ => t_index_sl u64 a_0.Rows hi87 hl87 rfl rfl rfl el32 rfl) <| ARH.dry (r := u64 x86) rfl (fun _ => aop_load_pp rfl rfl sz65 rfl) <| ARH.dry rfl (fun _ => aop_field_pp rfl rfl fd34_1 (by decide)) <| ARH.keep [2, 3, 4, 6, 7, 22, 23, 8, 27, 28, 33, 34] rfl <| ARH.dry (r := .sl (List.map u64 b_1.Rows)) rfl (fun _ => aop_load_pp rfl rfl sz32 rfl) <| ARH.dry rfl (fun _ => aop_move (.inl rfl) rfl) ?_
     obtain ⟨x88, hx88, h⟩ := Sh.bind_some' h
     obtain ⟨k89, hi89, hl89⟩ := Sh.idx_some hx88
     refine ARH.dry rfl (fun _ => t_index_sl u64 b_1.Rows hi89 hl89 rfl rfl rfl el32 rfl) <| ARH.keep [2, 3, 4, 6, 7, 22, 23, 27, 28, 33, 37] rfl <| ARH.dry (r := u64 x88) rfl (fun _ => aop_load_pp rfl rfl sz65 rfl) <| ARH.dry (r := .clip (List.map u64 [x86, x88])) rfl (fun _ => aop_buildSlice rfl (xo := [.tmp 33, .tmp 38]) rfl rfl rfl (by simp [AV.solid]) (by simp [AV.flat]) el32 ze32 (by decide)) ?_
     obtain ⟨r90, hr90, h⟩ := Sh.bind_some' h
     refine ARH.dry (r := u64 r90) rfl (fun _ => aop_callN rfl (ys := [.clip (List.map u64 [x86, x88])]) (xs := [.sl (List.map u64 [x86, x88])]) rfl (Weak.e (fr' := argsFr 0 [.sl (List.map u64 [x86, x88])]) (H' := .empty) ⟨⟨.clip (List.map u64 [x86, x88]), rfl, .wide _ (by simp)⟩, trivial⟩) rfl (by simp) (bits_Join_ok hT hr90)) <| ARH.keep [2, 3, 4, 6, 7, 22, 23, 27, 28, 40] rfl ?_
     obtain ⟨x91, hx91, h⟩ := Sh.bind_some' h
     obtain ⟨k92, hi92, hl92⟩ := Sh.idx_some hx91
     refine ARH.op (r := .ref 2 k92 0) rfl rfl (t_index_view u64 outRows76 hi92 hl92 rfl rfl rfl rfl rfl el32 rfl) <| ARH.loud rfl rfl (t_store_el u64 outRows76 r90 hi92 hl92 rfl rfl rfl rfl rfl sz65 rfl dt rfl) <| ARH.nil <| hK11 _ (AWP.weak (Weak.re (fr' := [(2, .pp [i64 a_0.N, .sl (List.map u64 a_0.Rows)] 0), (3, .pp [i64 b_1.N, .sl (List.map u64 b_1.Rows)] 0), (4, .ref 0 0 0), (6, .ref 1 0 0), (7, i64 r33.2), (22, i64 (Sh.len r33.1.Rows)), (23, i64 v77)]) (H' := ⟨3, [(0, (2, [.agg [i64 0, nilS]])), (1, (2, [.agg [i64 r33.1.N, .view 2 0 (List.map u64 (Sh.set outRows76 v77 r90)).length]])), (2, (1, List.map u64 (Sh.set outRows76 v77 r90)))], []⟩) [(0, 0), (1, 1), (2, 2)] [] rfl rfl rfl (.cons rfl rfl (.one (.sm) rfl) dt (.cons rfl rfl (.one (.ag ⟨.sm, .viewL rfl (by simp []), trivial⟩) rfl) dt (.cons rfl rfl (.same (by simp)) dt trivial))) ⟨.k, .k, ⟨_, rfl, .ref rfl⟩, ⟨_, rfl, .ref rfl⟩, .k, .k, .k, trivial⟩) ?_)
     refine awp_reg rfl <| AR.op rfl (aop_add rfl rfl rfl rfl) <| AR.op rfl (aop_move (.inl rfl) rfl) <| AR.nil ?_
     replace h := Sh.next_eq h
     exact ⟨_, h, Weak.kt [2, 3, 4, 6, 7, 22, 23] rfl⟩
    ·replace h := Sh.if_f h hb78
     refine awp_exit ?_
     replace h := Sh.exit_eq h hx1
     exact hK7 outRows76 _ h (Weak.kt [4, 6, 7] rfl)
theorem graph_Union_ok {W0 : World} (hT : Tab W0) {a_0 : G.graph_Graph} {b_1 : G.graph_Graph} {r : G.graph_Graph × Int} (h : G.graph_Union a_0 b_1 = some r) : Fun1 Tryd.prog W0 51 [G.graph_Graph.av a_0, G.graph_Graph.av b_1] (.tuple [G.graph_Graph.av r.1, i64 r.2]) :=
 (graph_Union_own hT h).give (Weak.e ⟨⟨_, rfl, .tp ⟨.ag ⟨.sm, .lendAll rfl rfl (by simp), trivial⟩, .sm, trivial⟩⟩, trivial⟩) (by simp)


theorem graph_Compose_own {W0 : World} (hT : Tab W0) {a_0 : G.graph_Graph} {b_1 : G.graph_Graph} {r : G.graph_Graph × Int} (h : G.graph_Compose a_0 b_1 = some r) : Fun2 Tryd.prog W0 31 [G.graph_Graph.av a_0, G.graph_Graph.av b_1] (.tuple [.agg [i64 r.1.N, .view 0 0 (List.map u64 r.1.Rows).length], i64 r.2]) ⟨1, [(0, (1, List.map u64 r.1.Rows))], []⟩ := by
 refine fun2_of_awp Tryd.func31 rfl (by kernel_rfl) Tryd.ntmps31 (by simp) ?_
 unfold G.graph_Compose at h
 show AWP _ _ _ _ ⟨[(0, G.graph_Graph.av a_0), (1, G.graph_Graph.av b_1)], .empty⟩ _
 refine awp_seqK fun K1 hK1 => awp_reg rfl <| AR.op (r := .ref 0 0 0) rfl (aop_box 2 [G.graph_Graph.av a_0] rfl rfl rfl (.inl ⟨rfl, rfl⟩)) <| AR.op (r := .ref 1 0 0) rfl (aop_box 2 [G.graph_Graph.av b_1] rfl rfl rfl (.inl ⟨rfl, rfl⟩)) <| AR.op (r := .ref 2 0 0) rfl (aop_alloc 2 [.agg [i64 0, nilS]] rfl zr34 (by kernel_rfl) (.inl ⟨rfl, rfl⟩)) <| AR.keep [2, 3, 4] rfl <| AR.op rfl (aop_move (.inr rfl) rfl) <| AR.nil ?_
 refine hK1 _ (AWP.weak (Weak.re (fr' := [(2, .pp [i64 a_0.N, .sl (List.map u64 a_0.Rows)] 0), (3, .pp [i64 b_1.N, .sl (List.map u64 b_1.Rows)] 0), (4, .ref 0 0 0)]) (H' := ⟨1, [(0, (2, [.agg [i64 0, nilS]]))], []⟩) [(0, 2)] [] rfl rfl rfl (.cons rfl rfl (.one (.sm) rfl) dt trivial) ⟨⟨_, rfl, .frzA rfl rfl rfl rfl (by simp)⟩, ⟨_, rfl, .frzA rfl rfl rfl rfl (by simp)⟩, ⟨_, rfl, .ref rfl⟩, trivial⟩) ?_)
 refine awp_seqK fun K2 hK2 => awp_seqK fun K3 hK3 => awp_reg rfl <| AR.op (r := G.graph_Graph.av a_0) rfl (aop_load_pp rfl rfl sz34 rfl) <| AR.op (r := G.graph_Graph.av b_1) rfl (aop_load_pp rfl rfl sz34 rfl) ?_
 obtain ⟨r111, hr111, h⟩ := Sh.bind_some' h
 refine AR.op (r := bl r111) rfl (aop_call1 rfl rfl (by simp) (graph_like_ok hT hr111)) <| AR.keep [2, 3, 4, 13] rfl <| AR.op (r := bl (!r111)) rfl (aop_not rfl rfl) <| AR.nil <| hK3 _ (AWP.weak (Weak.kt [2, 3, 4, 14] rfl) ?_)
 refine awp_cond rfl (fun hb112 => ?_) (fun hb112 => ?_)
 ·replace h := Sh.if_t h hb112
  refine awp_seqK fun K4 hK4 => awp_reg rfl <| AR.op (r := .agg [i64 0, nilS]) rfl (aop_build rfl bd34 rfl rfl rfl) <| AR.op rfl (aop_store (e' := .agg [i64 0, nilS]) rfl rfl rfl rfl rfl rfl sz34 rfl dt rfl) <| AR.op rfl (aop_move (.inr rfl) rfl) <| AR.nil <| hK4 _ (AWP.weak (Weak.kt [4, 5] rfl) ?_)
  refine awp_ret ?_
  obtain rfl := Option.some.inj h
  refine ⟨.inr rfl, .tuple [.agg [i64 0, nilS], i64 1], rfl, ?_⟩
  exact Weak.re [] [0] rfl rfl rfl (.fresh (by simp) dt trivial) ⟨⟨.tuple [.agg [i64 0, nilS], i64 1], rfl, .tp ⟨.ag ⟨.sm, .nil (by simp), trivial⟩, .sm, trivial⟩⟩, trivial⟩
 ·replace h := Sh.if_f h hb112
  refine awp_skip <| hK2 _ (AWP.weak (Weak.kt [2, 3, 4] rfl) ?_)
  refine awp_seqK fun K5 hK5 => awp_reg rfl <| AR.op rfl (aop_field_pp rfl rfl fd34_0 (by decide)) <| AR.op (r := i64 a_0.N) rfl (aop_load_pp rfl rfl sz3 rfl) ?_
  obtain ⟨r114, hr114, h⟩ := Sh.bind_some' h
  refine AR.op (r := .tuple [.agg [i64 r114.1.N, .view 1 0 (List.map u64 r114.1.Rows).length], i64 r114.2]) rfl (aop_call2N (.tuple [.agg [i64 r114.1.N, .view 1 0 (List.map u64 r114.1.Rows).length], i64 r114.2]) [(1, (1, List.map u64 r114.1.Rows))] rfl (ys := [i64 a_0.N]) (xs := [i64 a_0.N]) rfl (Weak.refl _) rfl (by simp) (graph_New_own hT hr114) (.tp ⟨.ag ⟨.sm, .view _ _ _, trivial⟩, .sm, trivial⟩) ⟨rfl, rfl, .same (by simp [AV.flat]), trivial⟩) <| AR.keep [2, 3, 4, 19] rfl <| AR.op rfl (aop_move (.inl rfl) rfl) <| AR.op (r := .agg [i64 r114.1.N, .view 1 0 (List.map u64 r114.1.Rows).length]) rfl (aop_extract rfl rfl rfl) <| AR.op (r := i64 r114.2) rfl (aop_extract rfl rfl rfl) <| AR.keep [2, 3, 4, 20, 21] rfl <| AR.op (r := .ref 2 0 0) rfl (aop_alloc 2 [.agg [i64 0, nilS]] rfl zr34 (by kernel_rfl) (.inl ⟨rfl, rfl⟩)) <| AR.op rfl (aop_store (e' := .agg [i64 r114.1.N, .view 1 0 (List.map u64 r114.1.Rows).length]) rfl rfl rfl rfl rfl rfl sz34 rfl dt rfl) ?_
  refine AR.op rfl (aop_move (.inr rfl) rfl) <| AR.nil <| hK5 _ (AWP.weak (Weak.re (fr' := [(2, .pp [i64 a_0.N, .sl (List.map u64 a_0.Rows)] 0), (3, .pp [i64 b_1.N, .sl (List.map u64 b_1.Rows)] 0), (4, .ref 0 0 0), (6, .ref 1 0 0), (7, i64 r114.2)]) (H' := ⟨3, [(0, (2, [.agg [i64 0, nilS]])), (1, (2, [.agg [i64 r114.1.N, .view 2 0 (List.map u64 r114.1.Rows).length]])), (2, (1, List.map u64 r114.1.Rows))], []⟩) [(0, 0), (1, 2), (2, 1)] [] rfl rfl rfl (.cons rfl rfl (.one (.sm) rfl) dt (.cons rfl rfl (.one (.ag ⟨.sm, .view rfl, trivial⟩) rfl) dt (.cons rfl rfl (.same (by simp)) dt trivial))) ⟨.k, .k, ⟨_, rfl, .ref rfl⟩, ⟨_, rfl, .ref rfl⟩, .k, trivial⟩) ?_)
  refine awp_seqJ (fun (p : (List (BitVec 64))) => (⟨[(4, .ref 0 0 0), (6, .ref 1 0 0), (7, i64 r114.2)], ⟨3, [(0, (2, [.agg [i64 0, nilS]])), (1, (2, [.agg [i64 r114.1.N, .view 2 0 (List.map u64 p).length]])), (2, (1, List.map u64 p))], []⟩⟩ : St)) (fun (p : (List (BitVec 64))) => G.graph_Compose_j1 r114 p = some r) ?_ ?_
  ·rintro v221 h
   replace h : G.graph_Compose_j1 r114 v221 = some r := h
   unfold G.graph_Compose_j1 at h
   refine awp_seqK fun K6 hK6 => awp_reg rfl <| AR.op (r := .agg [i64 r114.1.N, .view 2 0 (List.map u64 v221).length]) rfl (aop_load_ref rfl rfl rfl rfl sz34 rfl) <| AR.op rfl (aop_move (.inl rfl) rfl) <| AR.op rfl (aop_store (e' := .agg [i64 r114.1.N, .view 2 0 (List.map u64 v221).length]) rfl rfl rfl rfl rfl rfl sz34 rfl dt rfl) <| AR.keep [4, 58] rfl <| AR.op rfl (aop_move (.inr rfl) rfl) <| AR.nil ?_
   refine hK6 _ (AWP.weak (Weak.re (fr' := [(4, .ref 0 0 0), (5, i64 r114.2)]) (H' := ⟨2, [(0, (2, [.agg [i64 r114.1.N, .view 1 0 (List.map u64 v221).length]])), (1, (1, List.map u64 v221))], []⟩) [(0, 0), (1, 2)] [] rfl rfl rfl (.cons rfl rfl (.one (.ag ⟨.sm, .view rfl, trivial⟩) rfl) dt (.cons rfl rfl (.same (by simp)) dt trivial)) ⟨⟨_, rfl, .ref rfl⟩, .k, trivial⟩) ?_)
   refine awp_ret ?_
   obtain rfl := Option.some.inj h
   refine ⟨.inr rfl, .tuple [.agg [i64 r114.1.N, .view 1 0 (List.map u64 v221).length], i64 r114.2], rfl, ?_⟩
   exact Weak.re [(0, 1)] [] rfl rfl rfl (.cons rfl rfl (.same (by simp)) dt trivial) ⟨⟨.tuple [.agg [i64 r114.1.N, .view 1 0 (List.map u64 v221).length], i64 r114.2], rfl, .tp ⟨.ag ⟨.sm, .view rfl, trivial⟩, .sm, trivial⟩⟩, trivial⟩
  ·intro K7 hK7
   refine awp_seqK fun K8 hK8 => awp_reg rfl <| AR.op rfl (aop_field_ref rfl rfl rfl fd34_1 (by decide)) <| AR.op (r := .view 2 0 (List.map u64 r114.1.Rows).length) rfl (aop_load_ref rfl rfl rfl rfl sz32 rfl) <| AR.op (r := i64 (Sh.len r114.1.Rows)) rfl (t_len_view u64 r114.1.Rows rfl rfl rfl rfl el32) <| AR.keep [2, 3, 4, 6, 7, 24] rfl <| AR.op rfl (aop_move (.inl rfl) rfl) <| AR.nil ?_
   refine hK8 _ ?_
   refine awp_block <| awp_iter (fun (p : (List (BitVec 64)) × Int) => G.graph_Compose_b1 a_0 b_1 r114 p.1 p.2) (fun (p : (List (BitVec 64)) × Int) => (⟨[(2, .pp [i64 a_0.N, .sl (List.map u64 a_0.Rows)] 0), (3, .pp [i64 b_1.N, .sl (List.map u64 b_1.Rows)] 0), (4, .ref 0 0 0), (6, .ref 1 0 0), (7, i64 r114.2), (24, i64 (Sh.len r114.1.Rows)), (25, i64 p.2)], ⟨3, [(0, (2, [.agg [i64 0, nilS]])), (1, (2, [.agg [i64 r114.1.N, .view 2 0 (List.map u64 p.1).length]])), (2, (1, List.map u64 p.1))], []⟩⟩ : St)) h (Weak.kt [2, 3, 4, 6, 7, 24, 25] rfl) ?_
   ·skip
    rintro ⟨outRows292, v293⟩ o1 h hx1
    replace h : G.graph_Compose_b1 a_0 b_1 r114 outRows292 v293 = some o1 := h
    unfold G.graph_Compose_b1 at h
    refine awp_seqK fun K9 hK9 => awp_reg rfl <| AR.op rfl (aop_lss rfl rfl rfl) <| AR.nil <| hK9 _ ?_
    refine awp_seqK fun K10 hK10 => awp_cond rfl (fun hb294 => ?_) (fun hb294 => ?_)
    ·replace h := Sh.if_t h hb294
     refine awp_skip <| hK10 _ (AWP.weak (Weak.kt [2, 3, 4, 6, 7, 24, 25] rfl) ?_)
     refine awp_seqJ (fun (p : (List (BitVec 64))) => (⟨[(2, .pp [i64 a_0.N, .sl (List.map u64 a_0.Rows)] 0), (3, .pp [i64 b_1.N, .sl (List.map u64 b_1.Rows)] 0), (4, .ref 0 0 0), (6, .ref 1 0 0), (7, i64 r114.2), (24, i64 (Sh.len r114.1.Rows)), (25, i64 v293)], ⟨3, [(0, (2, [.agg [i64 0, nilS]])), (1, (2, [.agg [i64 r114.1.N, .view 2 0 (List.map u64 p).length]])), (2, (1, List.map u64 p))], []⟩⟩ : St)) (fun (p : (List (BitVec 64))) => G.graph_Compose_j2 v293 p = some o1) ?_ ?_
     ·rintro v329 h
      replace h : G.graph_Compose_j2 v293 v329 = some o1 := h
      unfold G.graph_Compose_j2 at h
      refine awp_reg rfl <| AR.op rfl (aop_add rfl rfl rfl rfl) <| AR.op rfl (aop_move (.inl rfl) rfl) <| AR.nil ?_
      replace h := Sh.next_eq h
      exact ⟨_, h, Weak.kt [2, 3, 4, 6, 7, 24, 25] rfl⟩
     ·intro K11 hK11
      refine awp_block <| awp_seqK fun K12 hK12 => awp_reg rfl <| AR.op rfl (aop_move (.inl rfl) rfl) <| AR.op rfl (aop_move (.inr rfl) rfl) <| AR.nil <| hK12 _ (AWP.weak (Weak.kt [2, 3, 4, 6, 7, 24, 25, 8] rfl) ?_)
      refine awp_seqK fun K13 hK13 => awp_reg rfl <| AR.op rfl (aop_field_pp rfl rfl fd34_1 (by decide)) <| AR.op (r := .sl (List.map u64 a_0.Rows)) rfl (aop_load_pp rfl rfl sz32 rfl) <| AR.op rfl (aop_move (.inl rfl) rfl) <| AR.keep [2, 3, 4, 6, 7, 24, 25, 8, 29, 30] rfl ?_
      obtain ⟨x333, hx333, h⟩ := Sh.bind_some' h
      obtain ⟨k334, hi334, hl334⟩ := Sh.idx_some hx333
      refine AR.op rfl (t_index_sl u64 a_0.Rows hi334 hl334 rfl rfl rfl el32 rfl) <| AR.op (r := u64 x333) rfl (aop_load_pp rfl rfl sz65 rfl) ?_
      obtain ⟨r335, hr335, h⟩ := Sh.bind_some' h
      refine AR.op (r := .sl (List.map i64 r335)) rfl (aop_call1 rfl rfl (by simp) (bits_List_ok hT hr335)) <| AR.keep [2, 3, 4, 6, 7, 24, 25, 8, 33] rfl <| AR.op rfl (t_len_sl i64 r335 rfl rfl el26) <| AR.op rfl (aop_move (.inl rfl) rfl) <| AR.nil <| hK13 _ ?_
      refine awp_block <| awp_iter (fun (p : (List (BitVec 64)) × Int) => G.graph_Compose_b2 b_1 v293 r335 p.1 p.2) (fun (p : (List (BitVec 64)) × Int) => (⟨[(2, .pp [i64 a_0.N, .sl (List.map u64 a_0.Rows)] 0), (3, .pp [i64 b_1.N, .sl (List.map u64 b_1.Rows)] 0), (4, .ref 0 0 0), (6, .ref 1 0 0), (7, i64 r114.2), (24, i64 (Sh.len r114.1.Rows)), (25, i64 v293), (8, i64 v293), (33, .sl (List.map i64 r335)), (34, i64 (Sh.len r335)), (35, i64 p.2)], ⟨3, [(0, (2, [.agg [i64 0, nilS]])), (1, (2, [.agg [i64 r114.1.N, .view 2 0 (List.map u64 p.1).length]])), (2, (1, List.map u64 p.1))], []⟩⟩ : St)) h (Weak.kt [2, 3, 4, 6, 7, 24, 25, 8, 33, 34, 35] rfl) ?_
      ·skip
       rintro ⟨outRows356, v357⟩ o2 h hx2
       replace h : G.graph_Compose_b2 b_1 v293 r335 outRows356 v357 = some o2 := h
       unfold G.graph_Compose_b2 at h
       refine awp_seqK fun K14 hK14 => awp_reg rfl <| AR.op rfl (aop_lss rfl rfl rfl) <| AR.nil <| hK14 _ ?_
       refine awp_seqK fun K15 hK15 => awp_cond rfl (fun hb358 => ?_) (fun hb358 => ?_)
       ·replace h := Sh.if_t h hb358
        refine awp_skip <| hK15 _ (AWP.weak (Weak.kt [2, 3, 4, 6, 7, 24, 25, 8, 33, 34, 35] rfl) ?_)
        refine awp_seqK fun K16 hK16 => awp_block <| awp_seqK fun K17 hK17 => awp_reg rfl ?_
        obtain ⟨x370, hx370, h⟩ := Sh.bind_some' h
        obtain ⟨k371, hi371, hl371⟩ := Sh.idx_some hx370
        refine AR.op rfl (t_index_sl i64 r335 hi371 hl371 rfl rfl rfl el26 rfl) <| AR.op (r := i64 x370) rfl (aop_load_pp rfl rfl sz3 rfl) <| AR.op rfl (aop_move (.inr rfl) rfl) <| AR.nil <| hK17 _ (AWP.weak (Weak.kt [2, 3, 4, 6, 7, 24, 25, 8, 33, 34, 35, 10] rfl) ?_)
        refine awp_any [(false, false), (false, false), (true, false), (false, false), (false, false), (true, false), (false, false), (false, false), (true, false), (true, false), (true, false), (true, false), (true, false), (true, false), (true, false), (false, false), (false, true)] (by kernel_rfl) (by kernel_rfl) rfl ?_
        refine ARH.op rfl rfl (aop_field_ref rfl rfl rfl fd34_1 (by decide)) <| ARH.op (r := .view 2 0 (List.map u64 outRows356).length) rfl rfl (aop_load_ref rfl rfl rfl rfl sz32 rfl) <| ARH.dry rfl (fun _ => aop_move (.inl rfl) rfl) <| ARH.keep [2, 3, 4, 6, 7, 24, 25, 8, 33, 34, 35, 10, 40, 41] rfl <| ARH.op rfl rfl (aop_field_ref rfl rfl rfl fd34_1 (by decide)) <| ARH.op (r := .view 2 0 (List.map u64 outRows356).length) rfl rfl (aop_load_ref rfl rfl rfl rfl sz32 rfl) <| ARH.dry rfl (fun _ => aop_move (.inl rfl) rfl) <| ARH.keep [2, 3, 4, 6, 7, 24, 25, 8, 33, 34, 35, 10, 40, 41, 43, 44] rfl ?_
        obtain ⟨x372, hx372, h⟩ := Sh.bind_some' h
        obtain ⟨k373, hi373, hl373⟩ := Sh.idx_some hx372
        refine ARH.op (r := .ref 2 k373 0) rfl rfl (t_index_view u64 outRows356 hi373 hl373 rfl rfl rfl rfl rfl el32 rfl) <| ARH.op (r := u64 x372) rfl rfl (t_load_el u64 outRows356 hl373 rfl rfl rfl sz65 rfl) <| ARH.dry rfl (fun _ => aop_field_pp rfl rfl fd34_1 (by decide)) <| ARH.keep [2, 3, 4, 6, 7, 24, 25, 8, 33, 34, 35, 10, 40, 41, 46, 47] rfl <| ARH.dry (r := .sl (List.map u64 b_1.Rows)) rfl (fun _ => aop_load_pp rfl rfl sz32 rfl) <| ARH.dry rfl (fun _ => aop_move (.inl rfl) rfl) ?_
        obtain ⟨x374, hx374, h⟩ := Sh.bind_some' h
        obtain ⟨k375, hi375, hl375⟩ := Sh.idx_some hx374
        refine ARH.dry rfl (fun _ => t_index_sl u64 b_1.Rows hi375 hl375 rfl rfl rfl el32 rfl) <| ARH.keep [2, 3, 4, 6, 7, 24, 25, 8, 33, 34, 35, 40, 41, 46, 50] rfl <| ARH.dry (r := u64 x374) rfl (fun _ => aop_load_pp rfl rfl sz65 rfl) <| ARH.dry (r := .clip (List.map u64 [x372, x374])) rfl (fun _ => aop_buildSlice rfl (xo := [.tmp 46, .tmp 51]) rfl rfl rfl (by simp [AV.solid]) (by simp [AV.flat]) el32 ze32 (by decide)) ?_
        obtain ⟨r376, hr376, h⟩ := Sh.bind_some' h
        refine ARH.dry (r := u64 r376) rfl (fun _ => aop_callN rfl (ys := [.clip (List.map u64 [x372, x374])]) (xs := [.sl (List.map u64 [x372, x374])]) rfl (Weak.e (fr' := argsFr 0 [.sl (List.map u64 [x372, x374])]) (H' := .empty) ⟨⟨.clip (List.map u64 [x372, x374]), rfl, .wide _ (by simp)⟩, trivial⟩) rfl (by simp) (bits_Join_ok hT hr376)) <| ARH.keep [2, 3, 4, 6, 7, 24, 25, 8, 33, 34, 35, 40, 41, 53] rfl ?_
        obtain ⟨x377, hx377, h⟩ := Sh.bind_some' h
        obtain ⟨k378, hi378, hl378⟩ := Sh.idx_some hx377
        refine ARH.op (r := .ref 2 k378 0) rfl rfl (t_index_view u64 outRows356 hi378 hl378 rfl rfl rfl rfl rfl el32 rfl) <| ARH.loud rfl rfl (t_store_el u64 outRows356 r376 hi378 hl378 rfl rfl rfl rfl rfl sz65 rfl dt rfl) <| ARH.nil <| hK16 _ (AWP.weak (Weak.re (fr' := [(2, .pp [i64 a_0.N, .sl (List.map u64 a_0.Rows)] 0), (3, .pp [i64 b_1.N, .sl (List.map u64 b_1.Rows)] 0), (4, .ref 0 0 0), (6, .ref 1 0 0), (7, i64 r114.2), (24, i64 (Sh.len r114.1.Rows)), (25, i64 v293), (8, i64 v293), (33, .sl (List.map i64 r335)), (34, i64 (Sh.len r335)), (35, i64 v357)]) (H' := ⟨3, [(0, (2, [.agg [i64 0, nilS]])), (1, (2, [.agg [i64 r114.1.N, .view 2 0 (List.map u64 (Sh.set outRows356 v293 r376)).length]])), (2, (1, List.map u64 (Sh.set outRows356 v293 r376)))], []⟩) [(0, 0), (1, 1), (2, 2)] [] rfl rfl rfl (.cons rfl rfl (.one (.sm) rfl) dt (.cons rfl rfl (.one (.ag ⟨.sm, .viewL rfl (by simp []), trivial⟩) rfl) dt (.cons rfl rfl (.same (by simp)) dt trivial))) ⟨.k, .k, ⟨_, rfl, .ref rfl⟩, ⟨_, rfl, .ref rfl⟩, .k, .k, .k, .k, ⟨.sl (List.map i64 r335), rfl, .sm⟩, .k, .k, trivial⟩) ?_)
        refine awp_reg rfl <| AR.op rfl (aop_add rfl rfl rfl rfl) <| AR.op rfl (aop_move (.inl rfl) rfl) <| AR.nil ?_
        replace h := Sh.next_eq h
        exact ⟨_, h, Weak.kt [2, 3, 4, 6, 7, 24, 25, 8, 33, 34, 35] rfl⟩
       ·replace h := Sh.if_f h hb358
        refine awp_exit ?_
        replace h := Sh.exit_eq h hx2
        exact hK11 outRows356 _ h (Weak.kt [2, 3, 4, 6, 7, 24, 25] rfl)
    ·replace h := Sh.if_f h hb294
     refine awp_exit ?_
     replace h := Sh.exit_eq h hx1
     exact hK7 outRows292 _ h (Weak.kt [4, 6, 7] rfl)
theorem graph_Compose_ok {W0 : World} (hT : Tab W0) {a_0 : G.graph_Graph} {b_1 : G.graph_Graph} {r : G.graph_Graph × Int} (h : G.graph_Compose a_0 b_1 = some r) : Fun1 Tryd.prog W0 31 [G.graph_Graph.av a_0, G.graph_Graph.av b_1] (.tuple [G.graph_Graph.av r.1, i64 r.2]) :=
 (graph_Compose_own hT h).give (Weak.e ⟨⟨_, rfl, .tp ⟨.ag ⟨.sm, .lendAll rfl rfl (by simp), trivial⟩, .sm, trivial⟩⟩, trivial⟩) (by simp)


end Wk
