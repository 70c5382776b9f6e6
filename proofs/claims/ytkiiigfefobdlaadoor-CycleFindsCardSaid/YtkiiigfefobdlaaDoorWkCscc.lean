/- That the functions of a package do what their plain functions say. -/
import Derived.Test.YtkiiigfefobdlaaDoorSh
import Derived.Test.YtkiiigfefobdlaaDoorWkCFacts
import Derived.Test.YtkiiigfefobdlaaDoorWkCbits
import Derived.Test.YtkiiigfefobdlaaDoorWkCgraph
import Derived.Test.YtkiiigfefobdlaaDoorWkCstack
import Derived.Test.YtkiiigfefobdlaaDoorWkCstdcmp
open Go Go.Av Go.Proofs
set_option linter.unusedVariables false
set_option maxHeartbeats 8000000
set_option maxRecDepth 20000
namespace Wk
theorem stack_Stack_scc_place_Push__1_ok {W0 : World} (hT : Tab W0) {x_0 : G.scc_place} {cmost_1 : Int} {l_2 : List G.scc_place} {r : (List G.scc_place) × Bool} (h : G.stack_Stack_scc_place_Push__1 x_0 cmost_1 l_2 = some r) : Fun3 Tryd.prog (.pinned W0 1) 68 [.ref 0 0 0, G.scc_place.av x_0] ⟨2, [(0, (2, [.agg [i64 cmost_1, .view 1 0 (List.map G.scc_place.av l_2).length]])), (1, (2, List.map G.scc_place.av l_2))], []⟩ (bl r.2) ⟨2, [(0, (2, [.agg [i64 cmost_1, .view 1 0 (List.map G.scc_place.av r.1).length]])), (1, (2, List.map G.scc_place.av r.1))], []⟩ := by
 refine fun3_of_awp rfl Tryd.func68 rfl (by kernel_rfl) Tryd.ntmps68 (by simp) ?_
 unfold G.stack_Stack_scc_place_Push__1 at h
 show AWP _ _ _ _ ⟨[(0, .ref 0 0 0), (1, G.scc_place.av x_0)], ⟨2, [(0, (2, [.agg [i64 cmost_1, .view 1 0 (List.map G.scc_place.av l_2).length]])), (1, (2, List.map G.scc_place.av l_2))], []⟩⟩ _
 refine awp_seqK fun K1 hK1 => awp_reg rfl <| AR.op (r := .ref 2 0 0) rfl (aop_box 2 [G.scc_place.av x_0] rfl rfl rfl (.inl ⟨rfl, rfl⟩)) <| AR.op rfl (aop_move (.inr rfl) rfl) <| AR.nil <| hK1 _ (AWP.weak (Weak.re (fr' := [(0, .ref 0 0 0), (3, .pp [i64 x_0.node, u64 x_0.left] 0)]) (H' := ⟨2, [(0, (2, [.agg [i64 cmost_1, .view 1 0 (List.map G.scc_place.av l_2).length]])), (1, (2, List.map G.scc_place.av l_2))], []⟩) [(0, 0), (1, 1)] [] rfl rfl rfl (.cons rfl rfl (.one (.ag ⟨.sm, .view rfl, trivial⟩) rfl) dt (.cons rfl rfl (.same (by simp)) dt trivial)) ⟨⟨_, rfl, .ref rfl⟩, ⟨_, rfl, .frzA rfl rfl rfl rfl (by simp)⟩, trivial⟩) ?_)
 refine awp_seqK fun K2 hK2 => awp_seqK fun K3 hK3 => awp_any [(true, false), (false, false), (false, false), (false, false), (false, false), (true, false), (false, false), (false, false), (false, false), (true, false)] (by kernel_rfl) (by kernel_rfl) rfl ?_
 refine ARH.dry rfl (fun _ => aop_move (.inl rfl) rfl) <| ARH.op (r := .ref 0 0 0) rfl rfl (aop_nilCheck_ref rfl rfl rfl) <| ARH.op rfl rfl (aop_field_ref rfl rfl rfl fd85_1 (by decide)) <| ARH.keep [0, 3, 7] rfl <| ARH.op (r := .view 1 0 (List.map G.scc_place.av l_2).length) rfl rfl (aop_load_ref rfl rfl rfl rfl sz83 rfl) <| ARH.op (r := i64 (Sh.len l_2)) rfl rfl (t_len_view G.scc_place.av l_2 rfl rfl rfl rfl el83) <| ARH.dry rfl (fun _ => aop_move (.inl rfl) rfl) <| ARH.keep [0, 3, 9, 10] rfl ?_
 refine ARH.op (r := .ref 0 0 0) rfl rfl (aop_nilCheck_ref rfl rfl rfl) <| ARH.op rfl rfl (aop_field_ref rfl rfl rfl fd85_0 (by decide)) <| ARH.op (r := i64 cmost_1) rfl rfl (aop_load_ref rfl rfl rfl rfl sz3 rfl) <| ARH.keep [0, 3, 9, 13] rfl <| ARH.dry rfl (fun _ => aop_geq rfl rfl rfl) <| ARH.nil <| hK3 _ (AWP.weak (Weak.kt [0, 3, 14] rfl) ?_)
 refine awp_cond rfl (fun hb4 => ?_) (fun hb4 => ?_)
 ·replace h := Sh.if_t h hb4
  refine awp_seqK fun K4 hK4 => awp_reg rfl <| AR.op rfl (aop_move (.inr rfl) rfl) <| AR.nil <| hK4 _ (AWP.weak (Weak.kt [4] rfl) ?_)
  refine awp_ret ?_
  obtain rfl := Option.some.inj h
  refine ⟨.inr rfl, bl false, rfl, ?_⟩
  exact Weak.re [(0, 0), (1, 1)] [] rfl rfl rfl (.cons rfl rfl (.one (.ag ⟨.sm, .view rfl, trivial⟩) rfl) dt (.cons rfl rfl (.same (by simp)) dt trivial)) ⟨.k, trivial⟩
 ·replace h := Sh.if_f h hb4
  refine awp_skip <| hK2 _ (AWP.weak (Weak.kt [0, 3] rfl) ?_)
  refine awp_seqK fun K5 hK5 => awp_any [(true, false), (true, false), (false, false), (false, false), (false, false), (true, false), (true, false), (false, true), (false, false), (false, false), (false, true)] (by kernel_rfl) (by kernel_rfl) rfl ?_
  refine ARH.dry rfl (fun _ => aop_move (.inl rfl) rfl) <| ARH.dry rfl (fun _ => aop_move (.inl rfl) rfl) <| ARH.op (r := .ref 0 0 0) rfl rfl (aop_nilCheck_ref rfl rfl rfl) <| ARH.keep [3, 15, 17] rfl <| ARH.op rfl rfl (aop_field_ref rfl rfl rfl fd85_1 (by decide)) <| ARH.op (r := .view 1 0 (List.map G.scc_place.av l_2).length) rfl rfl (aop_load_ref rfl rfl rfl rfl sz83 rfl) <| ARH.dry (r := G.scc_place.av x_0) rfl (fun _ => aop_load_pp rfl rfl sz63 rfl) <| ARH.keep [15, 19, 20] rfl ?_
  refine ARH.dry (r := .clip (List.map G.scc_place.av ([x_0] : List G.scc_place))) rfl (fun _ => aop_buildSlice rfl (xo := [.tmp 20]) rfl rfl rfl (by simp) (by simp) el83 ze83 (by decide)) ?_
  obtain ⟨l6, hl6, h⟩ := Sh.bind_some' h
  refine ARH.loud (r := .view 2 0 (List.map G.scc_place.av l6).length) rfl rfl (t_app_view G.scc_place.av l_2 ([x_0] : List G.scc_place) l6 hl6 rfl et83 (fun _ => rfl) rfl rfl rfl rfl rfl rfl rfl) <| ARH.op (r := .ref 0 0 0) rfl rfl (aop_nilCheck_ref rfl rfl rfl) <| ARH.keep [22, 23] rfl <| ARH.op rfl rfl (aop_field_ref rfl rfl rfl fd85_1 (by decide)) <| ARH.loud rfl rfl (aop_store (e' := .agg [i64 cmost_1, .view 2 0 (List.map G.scc_place.av l6).length]) rfl rfl rfl rfl rfl rfl sz83 rfl dt rfl) <| ARH.nil <| hK5 _ (AWP.weak (Weak.re (fr' := []) (H' := ⟨2, [(0, (2, [.agg [i64 cmost_1, .view 1 0 (List.map G.scc_place.av l6).length]])), (1, (2, List.map G.scc_place.av l6))], []⟩) [(0, 0), (1, 2)] [] rfl rfl rfl (.cons rfl rfl (.one (.ag ⟨.sm, .view rfl, trivial⟩) rfl) dt (.cons rfl rfl (.same (by simp)) dt trivial)) trivial) ?_)
  refine awp_seqK fun K6 hK6 => awp_reg rfl <| AR.op rfl (aop_move (.inr rfl) rfl) <| AR.nil <| hK6 _ ?_
  refine awp_ret ?_
  obtain rfl := Option.some.inj h
  refine ⟨.inr rfl, bl true, rfl, ?_⟩
  exact Weak.re [(0, 0), (1, 1)] [] rfl rfl rfl (.cons rfl rfl (.one (.ag ⟨.sm, .view rfl, trivial⟩) rfl) dt (.cons rfl rfl (.same (by simp)) dt trivial)) ⟨.k, trivial⟩


theorem stack_Stack_int_Push__1_ok {W0 : World} (hT : Tab W0) {x_0 : Int} {cmost_1 : Int} {l_2 : List Int} {r : (List Int) × Bool} (h : G.stack_Stack_int_Push__1 x_0 cmost_1 l_2 = some r) : Fun3 Tryd.prog (.pinned W0 1) 76 [.ref 0 0 0, i64 x_0] ⟨2, [(0, (2, [.agg [i64 cmost_1, .view 1 0 (List.map i64 l_2).length]])), (1, (1, List.map i64 l_2))], []⟩ (bl r.2) ⟨2, [(0, (2, [.agg [i64 cmost_1, .view 1 0 (List.map i64 r.1).length]])), (1, (1, List.map i64 r.1))], []⟩ := by
 refine fun3_of_awp rfl Tryd.func76 rfl (by kernel_rfl) Tryd.ntmps76 (by simp) ?_
 unfold G.stack_Stack_int_Push__1 at h
 show AWP _ _ _ _ ⟨[(0, .ref 0 0 0), (1, i64 x_0)], ⟨2, [(0, (2, [.agg [i64 cmost_1, .view 1 0 (List.map i64 l_2).length]])), (1, (1, List.map i64 l_2))], []⟩⟩ _
 refine awp_seqK fun K1 hK1 => awp_reg rfl <| AR.op rfl (aop_move (.inr rfl) rfl) <| AR.nil <| hK1 _ (AWP.weak (Weak.kt [0, 1] rfl) ?_)
 refine awp_seqK fun K2 hK2 => awp_seqK fun K3 hK3 => awp_any [(true, false), (false, false), (false, false), (false, false), (false, false), (true, false), (false, false), (false, false), (false, false), (true, false)] (by kernel_rfl) (by kernel_rfl) rfl ?_
 refine ARH.dry rfl (fun _ => aop_move (.inl rfl) rfl) <| ARH.op (r := .ref 0 0 0) rfl rfl (aop_nilCheck_ref rfl rfl rfl) <| ARH.op rfl rfl (aop_field_ref rfl rfl rfl fd97_1 (by decide)) <| ARH.keep [0, 1, 7] rfl <| ARH.op (r := .view 1 0 (List.map i64 l_2).length) rfl rfl (aop_load_ref rfl rfl rfl rfl sz25 rfl) <| ARH.op (r := i64 (Sh.len l_2)) rfl rfl (t_len_view i64 l_2 rfl rfl rfl rfl el25) <| ARH.dry rfl (fun _ => aop_move (.inl rfl) rfl) <| ARH.keep [0, 1, 9, 10] rfl ?_
 refine ARH.op (r := .ref 0 0 0) rfl rfl (aop_nilCheck_ref rfl rfl rfl) <| ARH.op rfl rfl (aop_field_ref rfl rfl rfl fd97_0 (by decide)) <| ARH.op (r := i64 cmost_1) rfl rfl (aop_load_ref rfl rfl rfl rfl sz3 rfl) <| ARH.keep [0, 1, 9, 13] rfl <| ARH.dry rfl (fun _ => aop_geq rfl rfl rfl) <| ARH.nil <| hK3 _ (AWP.weak (Weak.kt [0, 1, 14] rfl) ?_)
 refine awp_cond rfl (fun hb4 => ?_) (fun hb4 => ?_)
 ·replace h := Sh.if_t h hb4
  refine awp_seqK fun K4 hK4 => awp_reg rfl <| AR.op rfl (aop_move (.inr rfl) rfl) <| AR.nil <| hK4 _ (AWP.weak (Weak.kt [4] rfl) ?_)
  refine awp_ret ?_
  obtain rfl := Option.some.inj h
  refine ⟨.inr rfl, bl false, rfl, ?_⟩
  exact Weak.re [(0, 0), (1, 1)] [] rfl rfl rfl (.cons rfl rfl (.one (.ag ⟨.sm, .view rfl, trivial⟩) rfl) dt (.cons rfl rfl (.same (by simp)) dt trivial)) ⟨.k, trivial⟩
 ·replace h := Sh.if_f h hb4
  refine awp_skip <| hK2 _ (AWP.weak (Weak.kt [0, 1] rfl) ?_)
  refine awp_seqK fun K5 hK5 => awp_reg rfl <| AR.op rfl (aop_move (.inl rfl) rfl) <| AR.op rfl (aop_move (.inl rfl) rfl) <| AR.op (r := .ref 0 0 0) rfl (aop_nilCheck_ref rfl rfl rfl) <| AR.keep [1, 15, 17] rfl <| AR.op rfl (aop_field_ref rfl rfl rfl fd97_1 (by decide)) <| AR.op (r := .view 1 0 (List.map i64 l_2).length) rfl (aop_load_ref rfl rfl rfl rfl sz25 rfl) ?_
  refine AR.op rfl (aop_move (.inl rfl) rfl) <| AR.keep [15, 19, 20] rfl <| AR.op (r := .clip (List.map i64 [x_0])) rfl (aop_buildSlice rfl (xo := [.tmp 20]) rfl rfl rfl (by simp [AV.solid]) (by simp [AV.flat]) el25 ze25 (by decide)) ?_
  obtain ⟨l6, hl6, h⟩ := Sh.bind_some' h
  refine AR.op (r := .view 2 0 (List.map i64 l6).length) rfl (t_app_view i64 l_2 [x_0] l6 hl6 rfl et25 (fun _ => rfl) rfl rfl rfl rfl rfl rfl rfl) <| AR.op (r := .ref 0 0 0) rfl (aop_nilCheck_ref rfl rfl rfl) <| AR.keep [22, 23] rfl <| AR.op rfl (aop_field_ref rfl rfl rfl fd97_1 (by decide)) <| AR.op rfl (aop_store (e' := .agg [i64 cmost_1, .view 2 0 (List.map i64 l6).length]) rfl rfl rfl rfl rfl rfl sz25 rfl dt rfl) <| AR.nil <| hK5 _ (AWP.weak (Weak.re (fr' := []) (H' := ⟨2, [(0, (2, [.agg [i64 cmost_1, .view 1 0 (List.map i64 l6).length]])), (1, (1, List.map i64 l6))], []⟩) [(0, 0), (1, 2)] [] rfl rfl rfl (.cons rfl rfl (.one (.ag ⟨.sm, .view rfl, trivial⟩) rfl) dt (.cons rfl rfl (.same (by simp)) dt trivial)) trivial) ?_)
  refine awp_seqK fun K6 hK6 => awp_reg rfl <| AR.op rfl (aop_move (.inr rfl) rfl) <| AR.nil <| hK6 _ ?_
  refine awp_ret ?_
  obtain rfl := Option.some.inj h
  refine ⟨.inr rfl, bl true, rfl, ?_⟩
  exact Weak.re [(0, 0), (1, 1)] [] rfl rfl rfl (.cons rfl rfl (.one (.ag ⟨.sm, .view rfl, trivial⟩) rfl) dt (.cons rfl rfl (.same (by simp)) dt trivial)) ⟨.k, trivial⟩


theorem scc_walk_enter__1_ok {W0 : World} (hT : Tab W0) {n_0 : Int} {cgN_1 : Int} {cgRows_2 : List (BitVec 64)} {cmet_3 : Int} {l_4 : List Int} {l_5 : List Int} {l_6 : List Bool} {cmost_7 : Int} {cmost_8 : Int} {l_9 : List (List Int)} {l_10 : List G.scc_place} {l_11 : List Int} {r : (List G.scc_place) × (List Int)} (h : G.scc_walk_enter__1 n_0 cgN_1 cgRows_2 cmet_3 l_4 l_5 l_6 cmost_7 cmost_8 l_9 l_10 l_11 = some r) : Fun3 Tryd.prog (.pinned W0 1) 63 [.ref 0 0 0, i64 n_0] ⟨9, [(0, (9, [.agg [i64 cgN_1, .sl (List.map u64 cgRows_2), .view 1 0 (List.map i64 l_4).length, .view 2 0 (List.map i64 l_5).length, .view 3 0 (List.map bl l_6).length, i64 cmet_3, .ref 4 0 0, .ref 5 0 0, .view 6 0 (List.map (slA i64) l_9).length]])), (1, (1, List.map i64 l_4)), (2, (1, List.map i64 l_5)), (3, (1, List.map bl l_6)), (4, (2, [.agg [i64 cmost_7, .view 7 0 (List.map G.scc_place.av l_10).length]])), (5, (2, [.agg [i64 cmost_8, .view 8 0 (List.map i64 l_11).length]])), (6, (1, List.map (slA i64) l_9)), (7, (2, List.map G.scc_place.av l_10)), (8, (1, List.map i64 l_11))], []⟩ (.tuple []) ⟨9, [(0, (9, [.agg [i64 cgN_1, .sl (List.map u64 cgRows_2), .view 1 0 (List.map i64 (Sh.set l_4 n_0 (w64 (cmet_3 + 1)))).length, .view 2 0 (List.map i64 (Sh.set l_5 n_0 (w64 (cmet_3 + 1)))).length, .view 3 0 (List.map bl l_6).length, i64 (w64 (cmet_3 + 1)), .ref 4 0 0, .ref 5 0 0, .view 6 0 (List.map (slA i64) l_9).length]])), (1, (1, List.map i64 (Sh.set l_4 n_0 (w64 (cmet_3 + 1))))), (2, (1, List.map i64 (Sh.set l_5 n_0 (w64 (cmet_3 + 1))))), (3, (1, List.map bl l_6)), (4, (2, [.agg [i64 cmost_7, .view 7 0 (List.map G.scc_place.av r.1).length]])), (5, (2, [.agg [i64 cmost_8, .view 8 0 (List.map i64 r.2).length]])), (6, (1, List.map (slA i64) l_9)), (7, (2, List.map G.scc_place.av r.1)), (8, (1, List.map i64 r.2))], []⟩ := by
 refine fun3_of_awp rfl Tryd.func63 rfl (by kernel_rfl) Tryd.ntmps63 (by simp) ?_
 unfold G.scc_walk_enter__1 at h
 show AWP _ _ _ _ ⟨[(0, .ref 0 0 0), (1, i64 n_0)], ⟨9, [(0, (9, [.agg [i64 cgN_1, .sl (List.map u64 cgRows_2), .view 1 0 (List.map i64 l_4).length, .view 2 0 (List.map i64 l_5).length, .view 3 0 (List.map bl l_6).length, i64 cmet_3, .ref 4 0 0, .ref 5 0 0, .view 6 0 (List.map (slA i64) l_9).length]])), (1, (1, List.map i64 l_4)), (2, (1, List.map i64 l_5)), (3, (1, List.map bl l_6)), (4, (2, [.agg [i64 cmost_7, .view 7 0 (List.map G.scc_place.av l_10).length]])), (5, (2, [.agg [i64 cmost_8, .view 8 0 (List.map i64 l_11).length]])), (6, (1, List.map (slA i64) l_9)), (7, (2, List.map G.scc_place.av l_10)), (8, (1, List.map i64 l_11))], []⟩⟩ _
 refine awp_seqK fun K1 hK1 => awp_reg rfl <| AR.op rfl (aop_move (.inl rfl) rfl) <| AR.op (r := .ref 0 0 0) rfl (aop_nilCheck_ref rfl rfl rfl) <| AR.op rfl (aop_field_ref rfl rfl rfl fd67_4 (by decide)) <| AR.keep [0, 1, 4, 6] rfl <| AR.op (r := i64 cmet_3) rfl (aop_load_ref rfl rfl rfl rfl sz3 rfl) <| AR.op rfl (aop_add rfl rfl rfl rfl) ?_
 refine AR.op (r := .ref 0 0 0) rfl (aop_nilCheck_ref rfl rfl rfl) <| AR.keep [0, 1, 8, 9] rfl <| AR.op rfl (aop_field_ref rfl rfl rfl fd67_4 (by decide)) <| AR.op rfl (aop_store (e' := .agg [i64 cgN_1, .sl (List.map u64 cgRows_2), .view 1 0 (List.map i64 l_4).length, .view 2 0 (List.map i64 l_5).length, .view 3 0 (List.map bl l_6).length, i64 (w64 (cmet_3 + 1)), .ref 4 0 0, .ref 5 0 0, .view 6 0 (List.map (slA i64) l_9).length]) rfl rfl rfl rfl rfl rfl sz3 rfl dt rfl) <| AR.nil <| hK1 _ (AWP.weak (Weak.re (fr' := [(0, .ref 0 0 0), (1, i64 n_0)]) (H' := ⟨9, [(0, (9, [.agg [i64 cgN_1, .sl (List.map u64 cgRows_2), .view 1 0 (List.map i64 l_4).length, .view 2 0 (List.map i64 l_5).length, .view 3 0 (List.map bl l_6).length, i64 (w64 (cmet_3 + 1)), .ref 4 0 0, .ref 6 0 0, .view 8 0 (List.map (slA i64) l_9).length]])), (1, (1, List.map i64 l_4)), (2, (1, List.map i64 l_5)), (3, (1, List.map bl l_6)), (4, (2, [.agg [i64 cmost_7, .view 5 0 (List.map G.scc_place.av l_10).length]])), (5, (2, List.map G.scc_place.av l_10)), (6, (2, [.agg [i64 cmost_8, .view 7 0 (List.map i64 l_11).length]])), (7, (1, List.map i64 l_11)), (8, (1, List.map (slA i64) l_9))], []⟩) [(0, 0), (1, 1), (2, 2), (3, 3), (4, 4), (5, 7), (6, 5), (7, 8), (8, 6)] [] rfl rfl rfl (.cons rfl rfl (.one (.ag ⟨.sm, .sm, .view rfl, .view rfl, .view rfl, .sm, .ref rfl, .ref rfl, .view rfl, trivial⟩) rfl) dt (.cons rfl rfl (.same (by simp)) dt (.cons rfl rfl (.same (by simp)) dt (.cons rfl rfl (.same (by simp)) dt (.cons rfl rfl (.one (.ag ⟨.sm, .view rfl, trivial⟩) rfl) dt (.cons rfl rfl (.same (by simp)) dt (.cons rfl rfl (.one (.ag ⟨.sm, .view rfl, trivial⟩) rfl) dt (.cons rfl rfl (.same (by simp)) dt (.cons rfl rfl (.same (by simp)) dt trivial))))))))) ⟨⟨_, rfl, .ref rfl⟩, .k, trivial⟩) ?_)
 refine awp_seqK fun K2 hK2 => awp_any [(true, false), (false, false), (false, false), (false, false), (true, false), (true, false), (false, false), (false, false), (false, false), (true, false), (true, false), (false, false), (false, false), (false, false), (true, false), (false, false), (false, false), (false, false), (false, false), (false, true), (false, false), (false, true)] (by kernel_rfl) (by kernel_rfl) rfl ?_
 refine ARH.dry rfl (fun _ => aop_move (.inl rfl) rfl) <| ARH.op (r := .ref 0 0 0) rfl rfl (aop_nilCheck_ref rfl rfl rfl) <| ARH.op rfl rfl (aop_field_ref rfl rfl rfl fd67_1 (by decide)) <| ARH.keep [0, 1, 13] rfl <| ARH.op (r := .view 1 0 (List.map i64 l_4).length) rfl rfl (aop_load_ref rfl rfl rfl rfl sz25 rfl) <| ARH.dry rfl (fun _ => aop_move (.inl rfl) rfl) <| ARH.dry rfl (fun _ => aop_move (.inl rfl) rfl) <| ARH.keep [0, 1, 14, 15, 16] rfl ?_
 refine ARH.op (r := .ref 0 0 0) rfl rfl (aop_nilCheck_ref rfl rfl rfl) <| ARH.op rfl rfl (aop_field_ref rfl rfl rfl fd67_2 (by decide)) <| ARH.op (r := .view 2 0 (List.map i64 l_5).length) rfl rfl (aop_load_ref rfl rfl rfl rfl sz25 rfl) <| ARH.keep [0, 1, 14, 15, 19] rfl <| ARH.dry rfl (fun _ => aop_move (.inl rfl) rfl) <| ARH.dry rfl (fun _ => aop_move (.inl rfl) rfl) <| ARH.op (r := .ref 0 0 0) rfl rfl (aop_nilCheck_ref rfl rfl rfl) <| ARH.keep [0, 1, 14, 15, 19, 20, 22] rfl ?_
 refine ARH.op rfl rfl (aop_field_ref rfl rfl rfl fd67_4 (by decide)) <| ARH.op (r := i64 (w64 (cmet_3 + 1))) rfl rfl (aop_load_ref rfl rfl rfl rfl sz3 rfl) <| ARH.dry rfl (fun _ => aop_move (.inl rfl) rfl) <| ARH.keep [0, 1, 14, 15, 19, 20, 24, 25] rfl <| ARH.op (r := .ref 0 0 0) rfl rfl (aop_nilCheck_ref rfl rfl rfl) <| ARH.op rfl rfl (aop_field_ref rfl rfl rfl fd67_4 (by decide)) <| ARH.op (r := i64 (w64 (cmet_3 + 1))) rfl rfl (aop_load_ref rfl rfl rfl rfl sz3 rfl) <| ARH.keep [0, 1, 14, 15, 19, 20, 24, 28] rfl ?_
 obtain ⟨x15, hx15, h⟩ := Sh.bind_some' h
 obtain ⟨k16, hi16, hl16⟩ := Sh.idx_some hx15
 refine ARH.op (r := .ref 1 k16 0) rfl rfl (t_index_view i64 l_4 hi16 hl16 rfl rfl rfl rfl rfl el25 rfl) <| ARH.loud rfl rfl (t_store_el i64 l_4 (w64 (cmet_3 + 1)) hi16 hl16 rfl rfl rfl rfl rfl sz3 rfl dt rfl) ?_
 obtain ⟨x17, hx17, h⟩ := Sh.bind_some' h
 obtain ⟨k18, hi18, hl18⟩ := Sh.idx_some hx17
 refine ARH.op (r := .ref 2 k18 0) rfl rfl (t_index_view i64 l_5 hi18 hl18 rfl rfl rfl rfl rfl el25 rfl) <| ARH.keep [0, 1, 28, 30] rfl <| ARH.loud rfl rfl (t_store_el i64 l_5 (w64 (cmet_3 + 1)) hi18 hl18 rfl rfl rfl rfl rfl sz3 rfl dt rfl) <| ARH.nil <| hK2 _ (AWP.weak (Weak.re (fr' := [(0, .ref 0 0 0), (1, i64 n_0)]) (H' := ⟨9, [(0, (9, [.agg [i64 cgN_1, .sl (List.map u64 cgRows_2), .view 1 0 (List.map i64 (Sh.set l_4 n_0 (w64 (cmet_3 + 1)))).length, .view 2 0 (List.map i64 (Sh.set l_5 n_0 (w64 (cmet_3 + 1)))).length, .view 3 0 (List.map bl l_6).length, i64 (w64 (cmet_3 + 1)), .ref 4 0 0, .ref 6 0 0, .view 8 0 (List.map (slA i64) l_9).length]])), (1, (1, List.map i64 (Sh.set l_4 n_0 (w64 (cmet_3 + 1))))), (2, (1, List.map i64 (Sh.set l_5 n_0 (w64 (cmet_3 + 1))))), (3, (1, List.map bl l_6)), (4, (2, [.agg [i64 cmost_7, .view 5 0 (List.map G.scc_place.av l_10).length]])), (5, (2, List.map G.scc_place.av l_10)), (6, (2, [.agg [i64 cmost_8, .view 7 0 (List.map i64 l_11).length]])), (7, (1, List.map i64 l_11)), (8, (1, List.map (slA i64) l_9))], []⟩) [(0, 0), (1, 1), (2, 2), (3, 3), (4, 4), (5, 5), (6, 6), (7, 7), (8, 8)] [] rfl rfl rfl (.cons rfl rfl (.one (.ag ⟨.sm, .sm, .viewL rfl (by simp []), .viewL rfl (by simp []), .view rfl, .sm, .ref rfl, .ref rfl, .view rfl, trivial⟩) rfl) dt (.cons rfl rfl (.same (by simp)) dt (.cons rfl rfl (.same (by simp)) dt (.cons rfl rfl (.same (by simp)) dt (.cons rfl rfl (.one (.ag ⟨.sm, .view rfl, trivial⟩) rfl) dt (.cons rfl rfl (.same (by simp)) dt (.cons rfl rfl (.one (.ag ⟨.sm, .view rfl, trivial⟩) rfl) dt (.cons rfl rfl (.same (by simp)) dt (.cons rfl rfl (.same (by simp)) dt trivial))))))))) ⟨⟨_, rfl, .ref rfl⟩, .k, trivial⟩) ?_)
 refine awp_seqK fun K3 hK3 => awp_any [(true, false), (false, false), (false, false), (false, false), (true, false), (true, false), (false, false), (false, false), (false, false), (false, false), (true, false), (true, false), (true, false), (true, false), (false, true)] (by kernel_rfl) (by kernel_rfl) rfl ?_
 refine ARH.dry rfl (fun _ => aop_move (.inl rfl) rfl) <| ARH.op (r := .ref 0 0 0) rfl rfl (aop_nilCheck_ref rfl rfl rfl) <| ARH.op rfl rfl (aop_field_ref rfl rfl rfl fd67_5 (by decide)) <| ARH.keep [0, 1, 33] rfl <| ARH.op (r := .ref 4 0 0) rfl rfl (aop_load_ref rfl rfl rfl rfl sz60 rfl) <| ARH.dry rfl (fun _ => aop_move (.inl rfl) rfl) <| ARH.dry rfl (fun _ => aop_move (.inl rfl) rfl) <| ARH.keep [0, 1, 34, 35, 36] rfl ?_
 refine ARH.op (r := .ref 0 0 0) rfl rfl (aop_nilCheck_ref rfl rfl rfl) <| ARH.op rfl rfl (aop_field_ref rfl rfl rfl fd67_0 (by decide)) <| ARH.op rfl rfl (aop_field_ref rfl rfl rfl fd24_1 (by decide)) <| ARH.keep [0, 1, 34, 35, 39] rfl <| ARH.op (r := .sl (List.map u64 cgRows_2)) rfl rfl (aop_load_ref rfl rfl rfl rfl sz22 rfl) <| ARH.dry rfl (fun _ => aop_move (.inl rfl) rfl) ?_
 obtain ⟨x22, hx22, h⟩ := Sh.bind_some' h
 obtain ⟨k23, hi23, hl23⟩ := Sh.idx_some hx22
 refine ARH.dry rfl (fun _ => t_index_sl u64 cgRows_2 hi23 hl23 rfl rfl rfl el22 rfl) <| ARH.keep [0, 1, 34, 35, 42] rfl <| ARH.dry (r := u64 x22) rfl (fun _ => aop_load_pp rfl rfl sz35 rfl) <| ARH.dry (r := .agg [i64 n_0, u64 x22]) rfl (fun _ => aop_build rfl bd63 rfl rfl rfl) ?_
 obtain ⟨r24, hr24, h⟩ := Sh.bind_some' h
 refine ARH.loud (r := bl r24.2) rfl rfl (aop_call3E (ok := NoId) (ys := [.ref 4 0 0, .agg [i64 n_0, u64 x22]]) (xs := [.ref 0 0 0, G.scc_place.av (G.scc_place.mk n_0 x22)]) (r' := bl r24.2) (Hs := ⟨9, [(4, (2, [.agg [i64 cmost_7, .view 5 0 (List.map G.scc_place.av l_10).length]])), (5, (2, List.map G.scc_place.av l_10))], []⟩) (H' := ⟨11, [(0, (9, [.agg [i64 cgN_1, .sl (List.map u64 cgRows_2), .view 1 0 (List.map i64 (Sh.set l_4 n_0 (w64 (cmet_3 + 1)))).length, .view 2 0 (List.map i64 (Sh.set l_5 n_0 (w64 (cmet_3 + 1)))).length, .view 3 0 (List.map bl l_6).length, i64 (w64 (cmet_3 + 1)), .ref 4 0 0, .ref 6 0 0, .view 8 0 (List.map (slA i64) l_9).length]])), (1, (1, List.map i64 (Sh.set l_4 n_0 (w64 (cmet_3 + 1))))), (2, (1, List.map i64 (Sh.set l_5 n_0 (w64 (cmet_3 + 1))))), (3, (1, List.map bl l_6)), (4, (2, [.agg [i64 cmost_7, .view 10 0 (List.map G.scc_place.av r24.1).length]])), (6, (2, [.agg [i64 cmost_8, .view 7 0 (List.map i64 l_11).length]])), (7, (1, List.map i64 l_11)), (8, (1, List.map (slA i64) l_9)), (10, (2, List.map G.scc_place.av r24.1))], []⟩) (g := [(0, 4), (1, 5)]) (m := [(0, 4), (1, 10)]) (nw := []) (p := 1) (.func rfl rfl (stack_Stack_scc_place_Push__1_ok hT hr24).call) (stack_Stack_scc_place_Push__1_ok hT hr24) { next := rfl, part := ⟨rfl, rfl, trivial⟩, inj := rfl, lt := rfl, nwf := rfl, gin := rfl, held := .cons rfl rfl (.one (.ag ⟨.sm, .view rfl, trivial⟩) rfl) dt (.cons rfl rfl (.same (by simp)) dt trivial), seen := ⟨⟨_, rfl, .ref rfl⟩, ⟨.agg [i64 n_0, u64 x22], rfl, .sm⟩, trivial⟩, inlps := rfl, ple := rfl, map := rfl, next' := rfl, back := .kept rfl rfl (.kept rfl rfl (.kept rfl rfl (.kept rfl rfl (.new 0 rfl rfl (.one ⟨.sm, .view rfl, trivial⟩) (.kept rfl rfl (.kept rfl rfl (.kept rfl rfl (.new 1 rfl rfl (.same (by simp [AV.flat, G.scc_place.av])) trivial)))))))), lps := .inl ⟨rfl, rfl⟩, mode := .inr ⟨fun _ h => h, rfl⟩, ren := .sm } rfl) <| ARH.nil <| hK3 _ (AWP.weak (Weak.re (fr' := [(0, .ref 0 0 0), (1, i64 n_0)]) (H' := ⟨9, [(0, (9, [.agg [i64 cgN_1, .sl (List.map u64 cgRows_2), .view 1 0 (List.map i64 (Sh.set l_4 n_0 (w64 (cmet_3 + 1)))).length, .view 2 0 (List.map i64 (Sh.set l_5 n_0 (w64 (cmet_3 + 1)))).length, .view 3 0 (List.map bl l_6).length, i64 (w64 (cmet_3 + 1)), .ref 4 0 0, .ref 6 0 0, .view 8 0 (List.map (slA i64) l_9).length]])), (1, (1, List.map i64 (Sh.set l_4 n_0 (w64 (cmet_3 + 1))))), (2, (1, List.map i64 (Sh.set l_5 n_0 (w64 (cmet_3 + 1))))), (3, (1, List.map bl l_6)), (4, (2, [.agg [i64 cmost_7, .view 5 0 (List.map G.scc_place.av r24.1).length]])), (5, (2, List.map G.scc_place.av r24.1)), (6, (2, [.agg [i64 cmost_8, .view 7 0 (List.map i64 l_11).length]])), (7, (1, List.map i64 l_11)), (8, (1, List.map (slA i64) l_9))], []⟩) [(0, 0), (1, 1), (2, 2), (3, 3), (4, 4), (5, 10), (6, 6), (7, 7), (8, 8)] [] rfl rfl rfl (.cons rfl rfl (.one (.ag ⟨.sm, .sm, .view rfl, .view rfl, .view rfl, .sm, .ref rfl, .ref rfl, .view rfl, trivial⟩) rfl) dt (.cons rfl rfl (.same (by simp)) dt (.cons rfl rfl (.same (by simp)) dt (.cons rfl rfl (.same (by simp)) dt (.cons rfl rfl (.one (.ag ⟨.sm, .view rfl, trivial⟩) rfl) dt (.cons rfl rfl (.same (by simp)) dt (.cons rfl rfl (.one (.ag ⟨.sm, .view rfl, trivial⟩) rfl) dt (.cons rfl rfl (.same (by simp)) dt (.cons rfl rfl (.same (by simp)) dt trivial))))))))) ⟨⟨_, rfl, .ref rfl⟩, .k, trivial⟩) ?_)
 refine awp_reg rfl <| AR.op rfl (aop_move (.inl rfl) rfl) <| AR.op (r := .ref 0 0 0) rfl (aop_nilCheck_ref rfl rfl rfl) <| AR.op rfl (aop_field_ref rfl rfl rfl fd67_6 (by decide)) <| AR.keep [1, 48] rfl <| AR.op (r := .ref 6 0 0) rfl (aop_load_ref rfl rfl rfl rfl sz64 rfl) <| AR.op rfl (aop_move (.inl rfl) rfl) ?_
 obtain ⟨r25, hr25, h⟩ := Sh.bind_some' h
 refine AR.op (r := bl r25.2) rfl (aop_call3E (ok := NoId) (ys := [.ref 6 0 0, i64 n_0]) (xs := [.ref 0 0 0, i64 n_0]) (r' := bl r25.2) (Hs := ⟨9, [(6, (2, [.agg [i64 cmost_8, .view 7 0 (List.map i64 l_11).length]])), (7, (1, List.map i64 l_11))], []⟩) (H' := ⟨11, [(0, (9, [.agg [i64 cgN_1, .sl (List.map u64 cgRows_2), .view 1 0 (List.map i64 (Sh.set l_4 n_0 (w64 (cmet_3 + 1)))).length, .view 2 0 (List.map i64 (Sh.set l_5 n_0 (w64 (cmet_3 + 1)))).length, .view 3 0 (List.map bl l_6).length, i64 (w64 (cmet_3 + 1)), .ref 4 0 0, .ref 6 0 0, .view 8 0 (List.map (slA i64) l_9).length]])), (1, (1, List.map i64 (Sh.set l_4 n_0 (w64 (cmet_3 + 1))))), (2, (1, List.map i64 (Sh.set l_5 n_0 (w64 (cmet_3 + 1))))), (3, (1, List.map bl l_6)), (4, (2, [.agg [i64 cmost_7, .view 5 0 (List.map G.scc_place.av r24.1).length]])), (5, (2, List.map G.scc_place.av r24.1)), (6, (2, [.agg [i64 cmost_8, .view 10 0 (List.map i64 r25.1).length]])), (8, (1, List.map (slA i64) l_9)), (10, (1, List.map i64 r25.1))], []⟩) (g := [(0, 6), (1, 7)]) (m := [(0, 6), (1, 10)]) (nw := []) (p := 1) (.func rfl rfl (stack_Stack_int_Push__1_ok hT hr25).call) (stack_Stack_int_Push__1_ok hT hr25) { next := rfl, part := ⟨rfl, rfl, trivial⟩, inj := rfl, lt := rfl, nwf := rfl, gin := rfl, held := .cons rfl rfl (.one (.ag ⟨.sm, .view rfl, trivial⟩) rfl) dt (.cons rfl rfl (.same (by simp)) dt trivial), seen := ⟨⟨_, rfl, .ref rfl⟩, ⟨_, rfl, .sm⟩, trivial⟩, inlps := rfl, ple := rfl, map := rfl, next' := rfl, back := .kept rfl rfl (.kept rfl rfl (.kept rfl rfl (.kept rfl rfl (.kept rfl rfl (.kept rfl rfl (.new 0 rfl rfl (.one ⟨.sm, .view rfl, trivial⟩) (.kept rfl rfl (.new 1 rfl rfl (.same (by simp [AV.flat])) trivial)))))))), lps := .inl ⟨rfl, rfl⟩, mode := .inr ⟨fun _ h => h, rfl⟩, ren := .sm } rfl) <| AR.nil ?_
 obtain rfl := Option.some.inj h
 refine ⟨.inl rfl, .tuple [], rfl, ?_⟩
 exact Weak.re [(0, 0), (1, 1), (2, 2), (3, 3), (4, 4), (5, 6), (6, 8), (7, 5), (8, 10)] [] rfl rfl rfl (.cons rfl rfl (.one (.ag ⟨.sm, .sm, .view rfl, .view rfl, .view rfl, .sm, .ref rfl, .ref rfl, .view rfl, trivial⟩) rfl) dt (.cons rfl rfl (.same (by simp)) dt (.cons rfl rfl (.same (by simp)) dt (.cons rfl rfl (.same (by simp)) dt (.cons rfl rfl (.one (.ag ⟨.sm, .view rfl, trivial⟩) rfl) dt (.cons rfl rfl (.one (.ag ⟨.sm, .view rfl, trivial⟩) rfl) dt (.cons rfl rfl (.same (by simp)) dt (.cons rfl rfl (.same (by simp)) dt (.cons rfl rfl (.same (by simp)) dt trivial))))))))) ⟨⟨.tuple [], rfl, .tp trivial⟩, trivial⟩


theorem stack_Stack_scc_place_Len__1_ok {W0 : World} (hT : Tab W0) {cmost_0 : Int} {l_1 : List G.scc_place} {r : Unit} (h : G.stack_Stack_scc_place_Len__1 cmost_0 l_1 = some r) : Fun3 Tryd.prog (.pinned W0 1) 64 [.ref 0 0 0] ⟨2, [(0, (2, [.agg [i64 cmost_0, .view 1 0 (List.map G.scc_place.av l_1).length]])), (1, (2, List.map G.scc_place.av l_1))], []⟩ (i64 (Sh.len l_1)) ⟨2, [(0, (2, [.agg [i64 cmost_0, .view 1 0 (List.map G.scc_place.av l_1).length]])), (1, (2, List.map G.scc_place.av l_1))], []⟩ := by
 refine fun3_of_awp rfl Tryd.func64 rfl (by kernel_rfl) Tryd.ntmps64 (by simp) ?_
 unfold G.stack_Stack_scc_place_Len__1 at h
 show AWP _ _ _ _ ⟨[(0, .ref 0 0 0)], ⟨2, [(0, (2, [.agg [i64 cmost_0, .view 1 0 (List.map G.scc_place.av l_1).length]])), (1, (2, List.map G.scc_place.av l_1))], []⟩⟩ _
 refine awp_seqK fun K1 hK1 => awp_reg rfl <| AR.op rfl (aop_move (.inr rfl) rfl) <| AR.nil <| hK1 _ (AWP.weak (Weak.kt [0] rfl) ?_)
 refine awp_seqK fun K2 hK2 => awp_reg rfl <| AR.op rfl (aop_move (.inl rfl) rfl) <| AR.op (r := .ref 0 0 0) rfl (aop_nilCheck_ref rfl rfl rfl) <| AR.op rfl (aop_field_ref rfl rfl rfl fd85_1 (by decide)) <| AR.keep [5] rfl <| AR.op (r := .view 1 0 (List.map G.scc_place.av l_1).length) rfl (aop_load_ref rfl rfl rfl rfl sz83 rfl) <| AR.op (r := i64 (Sh.len l_1)) rfl (t_len_view G.scc_place.av l_1 rfl rfl rfl rfl el83) ?_
 refine AR.op rfl (aop_move (.inr rfl) rfl) <| AR.nil <| hK2 _ (AWP.weak (Weak.kt [2] rfl) ?_)
 refine awp_ret ?_
 obtain rfl := Option.some.inj h
 refine ⟨.inr rfl, i64 (Sh.len l_1), rfl, ?_⟩
 exact Weak.re [(0, 0), (1, 1)] [] rfl rfl rfl (.cons rfl rfl (.one (.ag ⟨.sm, .view rfl, trivial⟩) rfl) dt (.cons rfl rfl (.same (by simp)) dt trivial)) ⟨.k, trivial⟩


theorem stack_Stack_scc_place_Top__1_ok {W0 : World} (hT : Tab W0) {cmost_0 : Int} {l_1 : List G.scc_place} {r : G.scc_place × Bool} (h : G.stack_Stack_scc_place_Top__1 cmost_0 l_1 = some r) : Fun3 Tryd.prog (.pinned W0 1) 77 [.ref 0 0 0] ⟨2, [(0, (2, [.agg [i64 cmost_0, .view 1 0 (List.map G.scc_place.av l_1).length]])), (1, (2, List.map G.scc_place.av l_1))], []⟩ (.tuple [G.scc_place.av r.1, bl r.2]) ⟨2, [(0, (2, [.agg [i64 cmost_0, .view 1 0 (List.map G.scc_place.av l_1).length]])), (1, (2, List.map G.scc_place.av l_1))], []⟩ := by
 refine fun3_of_awp rfl Tryd.func77 rfl (by kernel_rfl) Tryd.ntmps77 (by simp) ?_
 unfold G.stack_Stack_scc_place_Top__1 at h
 show AWP _ _ _ _ ⟨[(0, .ref 0 0 0)], ⟨2, [(0, (2, [.agg [i64 cmost_0, .view 1 0 (List.map G.scc_place.av l_1).length]])), (1, (2, List.map G.scc_place.av l_1))], []⟩⟩ _
 refine awp_seqK fun K1 hK1 => awp_reg rfl <| AR.op (r := .ref 2 0 0) rfl (aop_alloc 2 [.agg [i64 0, u64 0#64]] rfl zr63 (by kernel_rfl) (.inl ⟨rfl, rfl⟩)) <| AR.op rfl (aop_move (.inr rfl) rfl) <| AR.nil <| hK1 _ (AWP.weak (Weak.kt [0, 2] rfl) ?_)
 refine awp_seqK fun K2 hK2 => awp_seqK fun K3 hK3 => awp_reg rfl <| AR.op rfl (aop_move (.inl rfl) rfl) <| AR.op (r := .ref 0 0 0) rfl (aop_nilCheck_ref rfl rfl rfl) <| AR.op rfl (aop_field_ref rfl rfl rfl fd85_1 (by decide)) <| AR.keep [0, 2, 7] rfl <| AR.op (r := .view 1 0 (List.map G.scc_place.av l_1).length) rfl (aop_load_ref rfl rfl rfl rfl sz83 rfl) ?_
 refine AR.op (r := i64 (Sh.len l_1)) rfl (t_len_view G.scc_place.av l_1 rfl rfl rfl rfl el83) <| AR.op (r := bl (decide ((Sh.len l_1) = 0))) rfl (aop_eql rfl rfl rfl) <| AR.nil <| hK3 _ (AWP.weak (Weak.kt [0, 2, 10] rfl) ?_)
 refine awp_cond rfl (fun hb5 => ?_) (fun hb5 => ?_)
 ·replace h := Sh.if_t h hb5
  refine awp_seqK fun K4 hK4 => awp_reg rfl <| AR.op (r := .ref 3 0 0) rfl (aop_alloc 2 [.agg [i64 0, u64 0#64]] rfl zr63 (by kernel_rfl) (.inl ⟨rfl, rfl⟩)) <| AR.nil <| hK4 _ (AWP.weak (Weak.re (fr' := [(2, .ref 2 0 0), (4, .pp [i64 0, u64 0#64] 0)]) (H' := ⟨3, [(0, (2, [.agg [i64 cmost_0, .view 1 0 (List.map G.scc_place.av l_1).length]])), (1, (2, List.map G.scc_place.av l_1)), (2, (2, [.agg [i64 0, u64 0#64]]))], []⟩) [(0, 0), (1, 1), (2, 2)] [] rfl rfl rfl (.cons rfl rfl (.one (.ag ⟨.sm, .view rfl, trivial⟩) rfl) dt (.cons rfl rfl (.same (by simp)) dt (.cons rfl rfl (.one (.sm) rfl) dt trivial))) ⟨⟨_, rfl, .ref rfl⟩, ⟨_, rfl, .frzA rfl rfl rfl rfl (by simp)⟩, trivial⟩) ?_)
  refine awp_seqK fun K5 hK5 => awp_reg rfl <| AR.op (r := .agg [i64 0, u64 0#64]) rfl (aop_load_pp rfl rfl sz63 rfl) <| AR.op rfl (aop_store (e' := .agg [i64 0, u64 0#64]) rfl rfl rfl rfl rfl rfl sz63 rfl dt rfl) <| AR.op rfl (aop_move (.inr rfl) rfl) <| AR.nil <| hK5 _ (AWP.weak (Weak.kt [2, 3] rfl) ?_)
  refine awp_ret ?_
  obtain rfl := Option.some.inj h
  refine ⟨.inr rfl, .tuple [.agg [i64 0, u64 0#64], bl false], rfl, ?_⟩
  exact Weak.re [(0, 0), (1, 1)] [] rfl rfl rfl (.cons rfl rfl (.one (.ag ⟨.sm, .view rfl, trivial⟩) rfl) dt (.cons rfl rfl (.same (by simp)) dt trivial)) ⟨⟨.tuple [.agg [i64 0, u64 0#64], bl false], rfl, .tp ⟨.sm, .sm, trivial⟩⟩, trivial⟩
 ·replace h := Sh.if_f h hb5
  refine awp_skip <| hK2 _ (AWP.weak (Weak.kt [0, 2] rfl) ?_)
  refine awp_seqK fun K6 hK6 => awp_any [(true, false), (false, false), (false, false), (false, false), (true, false), (false, false), (false, false), (false, false), (false, false), (true, false), (false, false), (false, false), (false, true), (true, false)] (by kernel_rfl) (by kernel_rfl) rfl ?_
  refine ARH.dry rfl (fun _ => aop_move (.inl rfl) rfl) <| ARH.op (r := .ref 0 0 0) rfl rfl (aop_nilCheck_ref rfl rfl rfl) <| ARH.op rfl rfl (aop_field_ref rfl rfl rfl fd85_1 (by decide)) <| ARH.keep [0, 2, 14] rfl <| ARH.op (r := .view 1 0 (List.map G.scc_place.av l_1).length) rfl rfl (aop_load_ref rfl rfl rfl rfl sz83 rfl) <| ARH.dry rfl (fun _ => aop_move (.inl rfl) rfl) <| ARH.op (r := .ref 0 0 0) rfl rfl (aop_nilCheck_ref rfl rfl rfl) <| ARH.keep [2, 15, 17] rfl ?_
  refine ARH.op rfl rfl (aop_field_ref rfl rfl rfl fd85_1 (by decide)) <| ARH.op (r := .view 1 0 (List.map G.scc_place.av l_1).length) rfl rfl (aop_load_ref rfl rfl rfl rfl sz83 rfl) <| ARH.op (r := i64 (Sh.len l_1)) rfl rfl (t_len_view G.scc_place.av l_1 rfl rfl rfl rfl el83) <| ARH.keep [2, 15, 20] rfl <| ARH.dry rfl (fun _ => aop_sub rfl rfl rfl rfl) ?_
  obtain ⟨x8, hx8, h⟩ := Sh.bind_some' h
  obtain ⟨k9, hi9, hl9⟩ := Sh.idx_some hx8
  refine ARH.op (r := .ref 1 k9 0) rfl rfl (t_index_view G.scc_place.av l_1 hi9 hl9 rfl rfl rfl rfl rfl el83 rfl) <| ARH.op (r := G.scc_place.av x8) rfl rfl (t_load_el G.scc_place.av l_1 hl9 rfl rfl rfl sz63 rfl) <| ARH.keep [2, 23] rfl <| ARH.loud rfl rfl (aop_store (e' := G.scc_place.av x8) rfl rfl rfl rfl rfl rfl sz63 rfl dt rfl) <| ARH.dry rfl (fun _ => aop_move (.inr rfl) rfl) <| ARH.nil <| hK6 _ (AWP.weak (Weak.kt [2, 3] rfl) ?_)
  refine awp_ret ?_
  obtain rfl := Option.some.inj h
  refine ⟨.inr rfl, .tuple [G.scc_place.av x8, bl true], rfl, ?_⟩
  exact Weak.re [(0, 0), (1, 1)] [] rfl rfl rfl (.cons rfl rfl (.one (.ag ⟨.sm, .view rfl, trivial⟩) rfl) dt (.cons rfl rfl (.same (by simp)) dt trivial)) ⟨⟨.tuple [G.scc_place.av x8, bl true], rfl, .tp ⟨.sm, .sm, trivial⟩⟩, trivial⟩


theorem stack_Stack_scc_place_Pop__1_ok {W0 : World} (hT : Tab W0) {cmost_0 : Int} {l_1 : List G.scc_place} {r : G.scc_place × Bool × (List G.scc_place)} (h : G.stack_Stack_scc_place_Pop__1 cmost_0 l_1 = some r) : Fun3 Tryd.prog (.pinned W0 1) 65 [.ref 0 0 0] ⟨2, [(0, (2, [.agg [i64 cmost_0, .view 1 0 (List.map G.scc_place.av l_1).length]])), (1, (2, List.map G.scc_place.av l_1))], []⟩ (.tuple [G.scc_place.av r.1, bl r.2.1]) ⟨2, [(0, (2, [.agg [i64 cmost_0, .view 1 0 (List.map G.scc_place.av r.2.2).length]])), (1, (2, List.map G.scc_place.av r.2.2))], []⟩ := by
 refine fun3_of_awp rfl Tryd.func65 rfl (by kernel_rfl) Tryd.ntmps65 (by simp) ?_
 unfold G.stack_Stack_scc_place_Pop__1 at h
 show AWP _ _ _ _ ⟨[(0, .ref 0 0 0)], ⟨2, [(0, (2, [.agg [i64 cmost_0, .view 1 0 (List.map G.scc_place.av l_1).length]])), (1, (2, List.map G.scc_place.av l_1))], []⟩⟩ _
 refine awp_seqK fun K1 hK1 => awp_reg rfl <| AR.op (r := .ref 2 0 0) rfl (aop_alloc 2 [.agg [i64 0, u64 0#64]] rfl zr63 (by kernel_rfl) (.inl ⟨rfl, rfl⟩)) <| AR.op rfl (aop_move (.inr rfl) rfl) <| AR.nil <| hK1 _ (AWP.weak (Weak.kt [0, 2] rfl) ?_)
 refine awp_seqK fun K2 hK2 => awp_reg rfl <| AR.op rfl (aop_move (.inl rfl) rfl) ?_
 obtain ⟨r8, hr8, h⟩ := Sh.bind_some' h
 refine AR.op (r := .tuple [G.scc_place.av r8.1, bl r8.2]) rfl (aop_call3E (ok := NoId) (ys := [.ref 0 0 0]) (xs := [.ref 0 0 0]) (r' := .tuple [G.scc_place.av r8.1, bl r8.2]) (Hs := ⟨3, [(0, (2, [.agg [i64 cmost_0, .view 1 0 (List.map G.scc_place.av l_1).length]])), (1, (2, List.map G.scc_place.av l_1))], []⟩) (H' := ⟨5, [(0, (2, [.agg [i64 cmost_0, .view 4 0 (List.map G.scc_place.av l_1).length]])), (2, (2, [.agg [i64 0, u64 0#64]])), (4, (2, List.map G.scc_place.av l_1))], []⟩) (g := [(0, 0), (1, 1)]) (m := [(0, 0), (1, 4)]) (nw := []) (p := 1) (.func rfl rfl (stack_Stack_scc_place_Top__1_ok hT hr8).call) (stack_Stack_scc_place_Top__1_ok hT hr8) { next := rfl, part := ⟨rfl, rfl, trivial⟩, inj := rfl, lt := rfl, nwf := rfl, gin := rfl, held := .cons rfl rfl (.one (.ag ⟨.sm, .view rfl, trivial⟩) rfl) dt (.cons rfl rfl (.same (by simp)) dt trivial), seen := ⟨⟨_, rfl, .ref rfl⟩, trivial⟩, inlps := rfl, ple := rfl, map := rfl, next' := rfl, back := .new 0 rfl rfl (.one ⟨.sm, .view rfl, trivial⟩) (.kept rfl rfl (.new 1 rfl rfl (.same (by simp [AV.flat, G.scc_place.av])) trivial)), lps := .inl ⟨rfl, rfl⟩, mode := .inr ⟨fun _ h => h, rfl⟩, ren := .sm } rfl) <| AR.op rfl (aop_move (.inl rfl) rfl) <| AR.keep [0, 2, 6] rfl <| AR.op (r := G.scc_place.av r8.1) rfl (aop_extract rfl rfl rfl) <| AR.op (r := bl r8.2) rfl (aop_extract rfl rfl rfl) <| AR.op (r := .ref 5 0 0) rfl (aop_alloc 2 [.agg [i64 0, u64 0#64]] rfl zr63 (by kernel_rfl) (.inl ⟨rfl, rfl⟩)) <| AR.keep [0, 2, 9, 10, 4] rfl <| AR.op rfl (aop_store (e' := G.scc_place.av r8.1) rfl rfl rfl rfl rfl rfl sz63 rfl dt rfl) ?_
 refine AR.op rfl (aop_move (.inr rfl) rfl) <| AR.nil <| hK2 _ (AWP.weak (Weak.re (fr' := [(0, .ref 0 0 0), (2, .ref 2 0 0), (4, .pp [i64 r8.1.node, u64 r8.1.left] 0), (5, bl r8.2)]) (H' := ⟨3, [(0, (2, [.agg [i64 cmost_0, .view 1 0 (List.map G.scc_place.av l_1).length]])), (1, (2, List.map G.scc_place.av l_1)), (2, (2, [.agg [i64 0, u64 0#64]]))], []⟩) [(0, 0), (1, 4), (2, 2)] [] rfl rfl rfl (.cons rfl rfl (.one (.ag ⟨.sm, .view rfl, trivial⟩) rfl) dt (.cons rfl rfl (.same (by simp)) dt (.cons rfl rfl (.one (.sm) rfl) dt trivial))) ⟨⟨_, rfl, .ref rfl⟩, ⟨_, rfl, .ref rfl⟩, ⟨_, rfl, .frzA rfl rfl rfl rfl (by simp)⟩, .k, trivial⟩) ?_)
 refine awp_seqJ (fun (p : (List G.scc_place)) => (⟨[(2, .ref 2 0 0), (4, .pp [i64 r8.1.node, u64 r8.1.left] 0), (5, bl r8.2)], ⟨3, [(0, (2, [.agg [i64 cmost_0, .view 1 0 (List.map G.scc_place.av p).length]])), (1, (2, List.map G.scc_place.av p)), (2, (2, [.agg [i64 0, u64 0#64]]))], []⟩⟩ : St)) (fun (p : (List G.scc_place)) => G.stack_Stack_scc_place_Pop__1_j1 r8 p = some r) ?_ ?_
 ·rintro cl10 h
  replace h : G.stack_Stack_scc_place_Pop__1_j1 r8 cl10 = some r := h
  unfold G.stack_Stack_scc_place_Pop__1_j1 at h
  refine awp_seqK fun K3 hK3 => awp_reg rfl <| AR.op (r := G.scc_place.av r8.1) rfl (aop_load_pp rfl rfl sz63 rfl) <| AR.op rfl (aop_move (.inl rfl) rfl) <| AR.op rfl (aop_store (e' := G.scc_place.av r8.1) rfl rfl rfl rfl rfl rfl sz63 rfl dt rfl) <| AR.keep [2, 27] rfl <| AR.op rfl (aop_move (.inr rfl) rfl) <| AR.nil ?_
  refine hK3 _ (AWP.weak (Weak.kt [2, 3] rfl) ?_)
  refine awp_ret ?_
  obtain rfl := Option.some.inj h
  refine ⟨.inr rfl, .tuple [G.scc_place.av r8.1, bl r8.2], rfl, ?_⟩
  exact Weak.re [(0, 0), (1, 1)] [] rfl rfl rfl (.cons rfl rfl (.one (.ag ⟨.sm, .view rfl, trivial⟩) rfl) dt (.cons rfl rfl (.same (by simp)) dt trivial)) ⟨⟨.tuple [G.scc_place.av r8.1, bl r8.2], rfl, .tp ⟨.sm, .sm, trivial⟩⟩, trivial⟩
 ·intro K4 hK4
  refine awp_seqK fun K5 hK5 => awp_reg rfl <| AR.op rfl (aop_move (.inl rfl) rfl) <| AR.nil <| hK5 _ ?_
  refine awp_cond rfl (fun hb11 => ?_) (fun hb11 => ?_)
  ·replace h := Sh.if_t h hb11
   refine awp_any [(true, false), (true, false), (false, false), (false, false), (false, false), (true, false), (false, false), (false, false), (false, false), (false, false), (true, false), (false, true), (false, false), (false, false), (false, true)] (by kernel_rfl) (by kernel_rfl) rfl ?_
   refine ARH.dry rfl (fun _ => aop_move (.inl rfl) rfl) <| ARH.dry rfl (fun _ => aop_move (.inl rfl) rfl) <| ARH.op (r := .ref 0 0 0) rfl rfl (aop_nilCheck_ref rfl rfl rfl) <| ARH.keep [0, 2, 4, 5, 12, 14] rfl <| ARH.op rfl rfl (aop_field_ref rfl rfl rfl fd85_1 (by decide)) <| ARH.op (r := .view 1 0 (List.map G.scc_place.av l_1).length) rfl rfl (aop_load_ref rfl rfl rfl rfl sz83 rfl) <| ARH.dry rfl (fun _ => aop_move (.inl rfl) rfl) <| ARH.keep [2, 4, 5, 12, 16, 17] rfl ?_
   refine ARH.op (r := .ref 0 0 0) rfl rfl (aop_nilCheck_ref rfl rfl rfl) <| ARH.op rfl rfl (aop_field_ref rfl rfl rfl fd85_1 (by decide)) <| ARH.op (r := .view 1 0 (List.map G.scc_place.av l_1).length) rfl rfl (aop_load_ref rfl rfl rfl rfl sz83 rfl) <| ARH.keep [2, 4, 5, 12, 16, 20] rfl <| ARH.op (r := i64 (Sh.len l_1)) rfl rfl (t_len_view G.scc_place.av l_1 rfl rfl rfl rfl el83) <| ARH.dry rfl (fun _ => aop_sub rfl rfl rfl rfl) ?_
   obtain ⟨part12, hpart12, h⟩ := Sh.bind_some' h
   refine ARH.loud (r := .view 3 0 (List.map G.scc_place.av part12).length) rfl rfl (t_cut G.scc_place.av l_1 part12 hpart12 rfl (fun _ => rfl) rfl rfl rfl rfl rfl el83) <| ARH.keep [2, 4, 5, 12, 23] rfl <| ARH.op (r := .ref 0 0 0) rfl rfl (aop_nilCheck_ref rfl rfl rfl) <| ARH.op rfl rfl (aop_field_ref rfl rfl rfl fd85_1 (by decide)) <| ARH.loud rfl rfl (aop_store (e' := .agg [i64 cmost_0, .view 3 0 (List.map G.scc_place.av part12).length]) rfl rfl rfl rfl rfl rfl sz83 rfl dt rfl) <| ARH.nil ?_
   exact hK4 part12 _ h (Weak.re [(0, 0), (1, 3), (2, 2)] [] rfl rfl rfl (.cons rfl rfl (.one (.ag ⟨.sm, .view rfl, trivial⟩) rfl) dt (.cons rfl rfl (.same (by simp)) dt (.cons rfl rfl (.one (.sm) rfl) dt trivial))) ⟨⟨_, rfl, .ref rfl⟩, .k, .k, trivial⟩)
  ·replace h := Sh.if_f h hb11
   refine awp_skip ?_
   exact hK4 l_1 _ h (Weak.kt [2, 4, 5] rfl)


theorem stack_Stack_int_Top__1_ok {W0 : World} (hT : Tab W0) {cmost_0 : Int} {l_1 : List Int} {r : Int × Bool} (h : G.stack_Stack_int_Top__1 cmost_0 l_1 = some r) : Fun3 Tryd.prog (.pinned W0 1) 98 [.ref 0 0 0] ⟨2, [(0, (2, [.agg [i64 cmost_0, .view 1 0 (List.map i64 l_1).length]])), (1, (1, List.map i64 l_1))], []⟩ (.tuple [i64 r.1, bl r.2]) ⟨2, [(0, (2, [.agg [i64 cmost_0, .view 1 0 (List.map i64 l_1).length]])), (1, (1, List.map i64 l_1))], []⟩ := by
 refine fun3_of_awp rfl Tryd.func98 rfl (by kernel_rfl) Tryd.ntmps98 (by simp) ?_
 unfold G.stack_Stack_int_Top__1 at h
 show AWP _ _ _ _ ⟨[(0, .ref 0 0 0)], ⟨2, [(0, (2, [.agg [i64 cmost_0, .view 1 0 (List.map i64 l_1).length]])), (1, (1, List.map i64 l_1))], []⟩⟩ _
 refine awp_seqK fun K1 hK1 => awp_reg rfl <| AR.op rfl (aop_move (.inr rfl) rfl) <| AR.op rfl (aop_move (.inr rfl) rfl) <| AR.nil <| hK1 _ (AWP.weak (Weak.kt [0] rfl) ?_)
 refine awp_seqK fun K2 hK2 => awp_seqK fun K3 hK3 => awp_reg rfl <| AR.op rfl (aop_move (.inl rfl) rfl) <| AR.op (r := .ref 0 0 0) rfl (aop_nilCheck_ref rfl rfl rfl) <| AR.op rfl (aop_field_ref rfl rfl rfl fd97_1 (by decide)) <| AR.keep [0, 7] rfl <| AR.op (r := .view 1 0 (List.map i64 l_1).length) rfl (aop_load_ref rfl rfl rfl rfl sz25 rfl) ?_
 refine AR.op (r := i64 (Sh.len l_1)) rfl (t_len_view i64 l_1 rfl rfl rfl rfl el25) <| AR.op (r := bl (decide ((Sh.len l_1) = 0))) rfl (aop_eql rfl rfl rfl) <| AR.nil <| hK3 _ (AWP.weak (Weak.kt [0, 10] rfl) ?_)
 refine awp_cond rfl (fun hb5 => ?_) (fun hb5 => ?_)
 ·replace h := Sh.if_t h hb5
  refine awp_seqK fun K4 hK4 => awp_reg rfl <| AR.op rfl (aop_move (.inr rfl) rfl) <| AR.nil <| hK4 _ (AWP.weak (Weak.kt [4] rfl) ?_)
  refine awp_seqK fun K5 hK5 => awp_reg rfl <| AR.op rfl (aop_move (.inl rfl) rfl) <| AR.op rfl (aop_move (.inr rfl) rfl) <| AR.op rfl (aop_move (.inr rfl) rfl) <| AR.nil <| hK5 _ (AWP.weak (Weak.kt [2, 3] rfl) ?_)
  refine awp_ret ?_
  obtain rfl := Option.some.inj h
  refine ⟨.inr rfl, .tuple [i64 0, bl false], rfl, ?_⟩
  exact Weak.re [(0, 0), (1, 1)] [] rfl rfl rfl (.cons rfl rfl (.one (.ag ⟨.sm, .view rfl, trivial⟩) rfl) dt (.cons rfl rfl (.same (by simp)) dt trivial)) ⟨⟨.tuple [i64 0, bl false], rfl, .tp ⟨.sm, .sm, trivial⟩⟩, trivial⟩
 ·replace h := Sh.if_f h hb5
  refine awp_skip <| hK2 _ (AWP.weak (Weak.kt [0] rfl) ?_)
  refine awp_seqK fun K6 hK6 => awp_any [(true, false), (false, false), (false, false), (false, false), (true, false), (false, false), (false, false), (false, false), (false, false), (true, false), (false, false), (false, false), (true, false), (true, false)] (by kernel_rfl) (by kernel_rfl) rfl ?_
  refine ARH.dry rfl (fun _ => aop_move (.inl rfl) rfl) <| ARH.op (r := .ref 0 0 0) rfl rfl (aop_nilCheck_ref rfl rfl rfl) <| ARH.op rfl rfl (aop_field_ref rfl rfl rfl fd97_1 (by decide)) <| ARH.keep [0, 14] rfl <| ARH.op (r := .view 1 0 (List.map i64 l_1).length) rfl rfl (aop_load_ref rfl rfl rfl rfl sz25 rfl) <| ARH.dry rfl (fun _ => aop_move (.inl rfl) rfl) <| ARH.op (r := .ref 0 0 0) rfl rfl (aop_nilCheck_ref rfl rfl rfl) <| ARH.keep [15, 17] rfl ?_
  refine ARH.op rfl rfl (aop_field_ref rfl rfl rfl fd97_1 (by decide)) <| ARH.op (r := .view 1 0 (List.map i64 l_1).length) rfl rfl (aop_load_ref rfl rfl rfl rfl sz25 rfl) <| ARH.op (r := i64 (Sh.len l_1)) rfl rfl (t_len_view i64 l_1 rfl rfl rfl rfl el25) <| ARH.keep [15, 20] rfl <| ARH.dry rfl (fun _ => aop_sub rfl rfl rfl rfl) ?_
  obtain ⟨x8, hx8, h⟩ := Sh.bind_some' h
  obtain ⟨k9, hi9, hl9⟩ := Sh.idx_some hx8
  refine ARH.op (r := .ref 1 k9 0) rfl rfl (t_index_view i64 l_1 hi9 hl9 rfl rfl rfl rfl rfl el25 rfl) <| ARH.op (r := i64 x8) rfl rfl (t_load_el i64 l_1 hl9 rfl rfl rfl sz3 rfl) <| ARH.keep [23] rfl <| ARH.dry rfl (fun _ => aop_move (.inr rfl) rfl) <| ARH.dry rfl (fun _ => aop_move (.inr rfl) rfl) <| ARH.nil <| hK6 _ (AWP.weak (Weak.kt [2, 3] rfl) ?_)
  refine awp_ret ?_
  obtain rfl := Option.some.inj h
  refine ⟨.inr rfl, .tuple [i64 x8, bl true], rfl, ?_⟩
  exact Weak.re [(0, 0), (1, 1)] [] rfl rfl rfl (.cons rfl rfl (.one (.ag ⟨.sm, .view rfl, trivial⟩) rfl) dt (.cons rfl rfl (.same (by simp)) dt trivial)) ⟨⟨.tuple [i64 x8, bl true], rfl, .tp ⟨.sm, .sm, trivial⟩⟩, trivial⟩


theorem stack_Stack_int_Pop__1_ok {W0 : World} (hT : Tab W0) {cmost_0 : Int} {l_1 : List Int} {r : Int × Bool × (List Int)} (h : G.stack_Stack_int_Pop__1 cmost_0 l_1 = some r) : Fun3 Tryd.prog (.pinned W0 1) 78 [.ref 0 0 0] ⟨2, [(0, (2, [.agg [i64 cmost_0, .view 1 0 (List.map i64 l_1).length]])), (1, (1, List.map i64 l_1))], []⟩ (.tuple [i64 r.1, bl r.2.1]) ⟨2, [(0, (2, [.agg [i64 cmost_0, .view 1 0 (List.map i64 r.2.2).length]])), (1, (1, List.map i64 r.2.2))], []⟩ := by
 refine fun3_of_awp rfl Tryd.func78 rfl (by kernel_rfl) Tryd.ntmps78 (by simp) ?_
 unfold G.stack_Stack_int_Pop__1 at h
 show AWP _ _ _ _ ⟨[(0, .ref 0 0 0)], ⟨2, [(0, (2, [.agg [i64 cmost_0, .view 1 0 (List.map i64 l_1).length]])), (1, (1, List.map i64 l_1))], []⟩⟩ _
 refine awp_seqK fun K1 hK1 => awp_reg rfl <| AR.op rfl (aop_move (.inr rfl) rfl) <| AR.op rfl (aop_move (.inr rfl) rfl) <| AR.nil <| hK1 _ (AWP.weak (Weak.kt [0] rfl) ?_)
 refine awp_seqK fun K2 hK2 => awp_reg rfl <| AR.op rfl (aop_move (.inl rfl) rfl) ?_
 obtain ⟨r8, hr8, h⟩ := Sh.bind_some' h
 refine AR.op (r := .tuple [i64 r8.1, bl r8.2]) rfl (aop_call3E (ok := NoId) (ys := [.ref 0 0 0]) (xs := [.ref 0 0 0]) (r' := .tuple [i64 r8.1, bl r8.2]) (Hs := ⟨2, [(0, (2, [.agg [i64 cmost_0, .view 1 0 (List.map i64 l_1).length]])), (1, (1, List.map i64 l_1))], []⟩) (H' := ⟨4, [(0, (2, [.agg [i64 cmost_0, .view 3 0 (List.map i64 l_1).length]])), (3, (1, List.map i64 l_1))], []⟩) (g := [(0, 0), (1, 1)]) (m := [(0, 0), (1, 3)]) (nw := []) (p := 1) (.func rfl rfl (stack_Stack_int_Top__1_ok hT hr8).call) (stack_Stack_int_Top__1_ok hT hr8) { next := rfl, part := ⟨rfl, rfl, trivial⟩, inj := rfl, lt := rfl, nwf := rfl, gin := rfl, held := .cons rfl rfl (.one (.ag ⟨.sm, .view rfl, trivial⟩) rfl) dt (.cons rfl rfl (.same (by simp)) dt trivial), seen := ⟨⟨_, rfl, .ref rfl⟩, trivial⟩, inlps := rfl, ple := rfl, map := rfl, next' := rfl, back := .new 0 rfl rfl (.one ⟨.sm, .view rfl, trivial⟩) (.new 1 rfl rfl (.same (by simp [AV.flat])) trivial), lps := .inl ⟨rfl, rfl⟩, mode := .inr ⟨fun _ h => h, rfl⟩, ren := .sm } rfl) <| AR.op rfl (aop_move (.inl rfl) rfl) <| AR.keep [0, 6] rfl <| AR.op (r := i64 r8.1) rfl (aop_extract rfl rfl rfl) <| AR.op (r := bl r8.2) rfl (aop_extract rfl rfl rfl) <| AR.op rfl (aop_move (.inr rfl) rfl) <| AR.keep [0, 10, 4] rfl <| AR.op rfl (aop_move (.inr rfl) rfl) ?_
 refine AR.nil <| hK2 _ (AWP.weak (Weak.re (fr' := [(0, .ref 0 0 0), (4, i64 r8.1), (5, bl r8.2)]) (H' := ⟨2, [(0, (2, [.agg [i64 cmost_0, .view 1 0 (List.map i64 l_1).length]])), (1, (1, List.map i64 l_1))], []⟩) [(0, 0), (1, 3)] [] rfl rfl rfl (.cons rfl rfl (.one (.ag ⟨.sm, .view rfl, trivial⟩) rfl) dt (.cons rfl rfl (.same (by simp)) dt trivial)) ⟨⟨_, rfl, .ref rfl⟩, .k, .k, trivial⟩) ?_)
 refine awp_seqJ (fun (p : (List Int)) => (⟨[(4, i64 r8.1), (5, bl r8.2)], ⟨2, [(0, (2, [.agg [i64 cmost_0, .view 1 0 (List.map i64 p).length]])), (1, (1, List.map i64 p))], []⟩⟩ : St)) (fun (p : (List Int)) => G.stack_Stack_int_Pop__1_j1 r8 p = some r) ?_ ?_
 ·rintro cl10 h
  replace h : G.stack_Stack_int_Pop__1_j1 r8 cl10 = some r := h
  unfold G.stack_Stack_int_Pop__1_j1 at h
  refine awp_seqK fun K3 hK3 => awp_reg rfl <| AR.op rfl (aop_move (.inl rfl) rfl) <| AR.op rfl (aop_move (.inl rfl) rfl) <| AR.op rfl (aop_move (.inr rfl) rfl) <| AR.keep [27, 2] rfl <| AR.op rfl (aop_move (.inr rfl) rfl) <| AR.nil ?_
  refine hK3 _ (AWP.weak (Weak.kt [2, 3] rfl) ?_)
  refine awp_ret ?_
  obtain rfl := Option.some.inj h
  refine ⟨.inr rfl, .tuple [i64 r8.1, bl r8.2], rfl, ?_⟩
  exact Weak.re [(0, 0), (1, 1)] [] rfl rfl rfl (.cons rfl rfl (.one (.ag ⟨.sm, .view rfl, trivial⟩) rfl) dt (.cons rfl rfl (.same (by simp)) dt trivial)) ⟨⟨.tuple [i64 r8.1, bl r8.2], rfl, .tp ⟨.sm, .sm, trivial⟩⟩, trivial⟩
 ·intro K4 hK4
  refine awp_seqK fun K5 hK5 => awp_reg rfl <| AR.op rfl (aop_move (.inl rfl) rfl) <| AR.nil <| hK5 _ ?_
  refine awp_cond rfl (fun hb11 => ?_) (fun hb11 => ?_)
  ·replace h := Sh.if_t h hb11
   refine awp_any [(true, false), (true, false), (false, false), (false, false), (false, false), (true, false), (false, false), (false, false), (false, false), (false, false), (true, false), (false, true), (false, false), (false, false), (false, true)] (by kernel_rfl) (by kernel_rfl) rfl ?_
   refine ARH.dry rfl (fun _ => aop_move (.inl rfl) rfl) <| ARH.dry rfl (fun _ => aop_move (.inl rfl) rfl) <| ARH.op (r := .ref 0 0 0) rfl rfl (aop_nilCheck_ref rfl rfl rfl) <| ARH.keep [0, 4, 5, 12, 14] rfl <| ARH.op rfl rfl (aop_field_ref rfl rfl rfl fd97_1 (by decide)) <| ARH.op (r := .view 1 0 (List.map i64 l_1).length) rfl rfl (aop_load_ref rfl rfl rfl rfl sz25 rfl) <| ARH.dry rfl (fun _ => aop_move (.inl rfl) rfl) <| ARH.keep [4, 5, 12, 16, 17] rfl ?_
   refine ARH.op (r := .ref 0 0 0) rfl rfl (aop_nilCheck_ref rfl rfl rfl) <| ARH.op rfl rfl (aop_field_ref rfl rfl rfl fd97_1 (by decide)) <| ARH.op (r := .view 1 0 (List.map i64 l_1).length) rfl rfl (aop_load_ref rfl rfl rfl rfl sz25 rfl) <| ARH.keep [4, 5, 12, 16, 20] rfl <| ARH.op (r := i64 (Sh.len l_1)) rfl rfl (t_len_view i64 l_1 rfl rfl rfl rfl el25) <| ARH.dry rfl (fun _ => aop_sub rfl rfl rfl rfl) ?_
   obtain ⟨part12, hpart12, h⟩ := Sh.bind_some' h
   refine ARH.loud (r := .view 2 0 (List.map i64 part12).length) rfl rfl (t_cut i64 l_1 part12 hpart12 rfl (fun _ => rfl) rfl rfl rfl rfl rfl el25) <| ARH.keep [4, 5, 12, 23] rfl <| ARH.op (r := .ref 0 0 0) rfl rfl (aop_nilCheck_ref rfl rfl rfl) <| ARH.op rfl rfl (aop_field_ref rfl rfl rfl fd97_1 (by decide)) <| ARH.loud rfl rfl (aop_store (e' := .agg [i64 cmost_0, .view 2 0 (List.map i64 part12).length]) rfl rfl rfl rfl rfl rfl sz25 rfl dt rfl) <| ARH.nil ?_
   exact hK4 part12 _ h (Weak.re [(0, 0), (1, 2)] [] rfl rfl rfl (.cons rfl rfl (.one (.ag ⟨.sm, .view rfl, trivial⟩) rfl) dt (.cons rfl rfl (.same (by simp)) dt trivial)) ⟨.k, .k, trivial⟩)
  ·replace h := Sh.if_f h hb11
   refine awp_skip ?_
   exact hK4 l_1 _ h (Weak.kt [4, 5] rfl)


theorem scc_walk_leave__1_ok {W0 : World} (hT : Tab W0) {n_0 : Int} {cgN_1 : Int} {cgRows_2 : List (BitVec 64)} {cmet_3 : Int} {l_4 : List Int} {l_5 : List Int} {l_6 : List Bool} {cmost_7 : Int} {cmost_8 : Int} {l_9 : List (List Int)} {l_10 : List G.scc_place} {l_11 : List Int} {r : (List Int) × (List Bool) × (List Int) × (List (List Int))} (h : G.scc_walk_leave__1 n_0 cgN_1 cgRows_2 cmet_3 l_4 l_5 l_6 cmost_7 cmost_8 l_9 l_10 l_11 = some r) : Fun3 Tryd.prog (.pinned W0 1) 69 [.ref 0 0 0, i64 n_0] ⟨9, [(0, (9, [.agg [i64 cgN_1, .sl (List.map u64 cgRows_2), .view 1 0 (List.map i64 l_4).length, .view 2 0 (List.map i64 l_5).length, .view 3 0 (List.map bl l_6).length, i64 cmet_3, .ref 4 0 0, .ref 5 0 0, .view 6 0 (List.map (slA i64) l_9).length]])), (1, (1, List.map i64 l_4)), (2, (1, List.map i64 l_5)), (3, (1, List.map bl l_6)), (4, (2, [.agg [i64 cmost_7, .view 7 0 (List.map G.scc_place.av l_10).length]])), (5, (2, [.agg [i64 cmost_8, .view 8 0 (List.map i64 l_11).length]])), (6, (1, List.map (slA i64) l_9)), (7, (2, List.map G.scc_place.av l_10)), (8, (1, List.map i64 l_11))], []⟩ (.tuple []) ⟨9, [(0, (9, [.agg [i64 cgN_1, .sl (List.map u64 cgRows_2), .view 1 0 (List.map i64 l_4).length, .view 2 0 (List.map i64 r.1).length, .view 3 0 (List.map bl r.2.1).length, i64 cmet_3, .ref 4 0 0, .ref 6 0 0, .view 8 0 (List.map (slA i64) r.2.2.2).length]])), (1, (1, List.map i64 l_4)), (2, (1, List.map i64 r.1)), (3, (1, List.map bl r.2.1)), (4, (2, [.agg [i64 cmost_7, .view 5 0 (List.map G.scc_place.av l_10).length]])), (5, (2, List.map G.scc_place.av l_10)), (6, (2, [.agg [i64 cmost_8, .view 7 0 (List.map i64 r.2.2.1).length]])), (7, (1, List.map i64 r.2.2.1)), (8, (1, List.map (slA i64) r.2.2.2))], []⟩ := by
 refine fun3_of_awp rfl Tryd.func69 rfl (by kernel_rfl) Tryd.ntmps69 (by simp) ?_
 unfold G.scc_walk_leave__1 at h
 show AWP _ _ _ _ ⟨[(0, .ref 0 0 0), (1, i64 n_0)], ⟨9, [(0, (9, [.agg [i64 cgN_1, .sl (List.map u64 cgRows_2), .view 1 0 (List.map i64 l_4).length, .view 2 0 (List.map i64 l_5).length, .view 3 0 (List.map bl l_6).length, i64 cmet_3, .ref 4 0 0, .ref 5 0 0, .view 6 0 (List.map (slA i64) l_9).length]])), (1, (1, List.map i64 l_4)), (2, (1, List.map i64 l_5)), (3, (1, List.map bl l_6)), (4, (2, [.agg [i64 cmost_7, .view 7 0 (List.map G.scc_place.av l_10).length]])), (5, (2, [.agg [i64 cmost_8, .view 8 0 (List.map i64 l_11).length]])), (6, (1, List.map (slA i64) l_9)), (7, (2, List.map G.scc_place.av l_10)), (8, (1, List.map i64 l_11))], []⟩⟩ _
 refine awp_seqJ (fun (p : (List Bool) × (List Int) × (List (List Int))) => (⟨[(0, .ref 0 0 0), (1, i64 n_0)], ⟨9, [(0, (9, [.agg [i64 cgN_1, .sl (List.map u64 cgRows_2), .view 1 0 (List.map i64 l_4).length, .view 2 0 (List.map i64 l_5).length, .view 3 0 (List.map bl p.1).length, i64 cmet_3, .ref 4 0 0, .ref 6 0 0, .view 8 0 (List.map (slA i64) p.2.2).length]])), (1, (1, List.map i64 l_4)), (2, (1, List.map i64 l_5)), (3, (1, List.map bl p.1)), (4, (2, [.agg [i64 cmost_7, .view 5 0 (List.map G.scc_place.av l_10).length]])), (5, (2, List.map G.scc_place.av l_10)), (6, (2, [.agg [i64 cmost_8, .view 7 0 (List.map i64 p.2.1).length]])), (7, (1, List.map i64 p.2.1)), (8, (1, List.map (slA i64) p.2.2))], []⟩⟩ : St)) (fun (p : (List Bool) × (List Int) × (List (List Int))) => G.scc_walk_leave__1_j1 n_0 l_5 cmost_7 l_10 p.1 p.2.1 p.2.2 = some r) ?_ ?_
 ·rintro ⟨cdone65, copenl66, ccomponents67⟩ h
  replace h : G.scc_walk_leave__1_j1 n_0 l_5 cmost_7 l_10 cdone65 copenl66 ccomponents67 = some r := h
  unfold G.scc_walk_leave__1_j1 at h
  refine awp_seqK fun K1 hK1 => awp_reg rfl <| AR.op rfl (aop_move (.inl rfl) rfl) <| AR.op (r := .ref 0 0 0) rfl (aop_nilCheck_ref rfl rfl rfl) <| AR.op rfl (aop_field_ref rfl rfl rfl fd67_5 (by decide)) <| AR.keep [0, 1, 60] rfl <| AR.op (r := .ref 4 0 0) rfl (aop_load_ref rfl rfl rfl rfl sz60 rfl) ?_
  obtain ⟨r69, hr69, h⟩ := Sh.bind_some' h
  refine AR.op (r := .tuple [G.scc_place.av r69.1, bl r69.2]) rfl (aop_call3E (ok := NoId) (ys := [.ref 4 0 0]) (xs := [.ref 0 0 0]) (r' := .tuple [G.scc_place.av r69.1, bl r69.2]) (Hs := ⟨9, [(4, (2, [.agg [i64 cmost_7, .view 5 0 (List.map G.scc_place.av l_10).length]])), (5, (2, List.map G.scc_place.av l_10))], []⟩) (H' := ⟨11, [(0, (9, [.agg [i64 cgN_1, .sl (List.map u64 cgRows_2), .view 1 0 (List.map i64 l_4).length, .view 2 0 (List.map i64 l_5).length, .view 3 0 (List.map bl cdone65).length, i64 cmet_3, .ref 4 0 0, .ref 6 0 0, .view 8 0 (List.map (slA i64) ccomponents67).length]])), (1, (1, List.map i64 l_4)), (2, (1, List.map i64 l_5)), (3, (1, List.map bl cdone65)), (4, (2, [.agg [i64 cmost_7, .view 10 0 (List.map G.scc_place.av l_10).length]])), (6, (2, [.agg [i64 cmost_8, .view 7 0 (List.map i64 copenl66).length]])), (7, (1, List.map i64 copenl66)), (8, (1, List.map (slA i64) ccomponents67)), (10, (2, List.map G.scc_place.av l_10))], []⟩) (g := [(0, 4), (1, 5)]) (m := [(0, 4), (1, 10)]) (nw := []) (p := 1) (.func rfl rfl (stack_Stack_scc_place_Top__1_ok hT hr69).call) (stack_Stack_scc_place_Top__1_ok hT hr69) { next := rfl, part := ⟨rfl, rfl, trivial⟩, inj := rfl, lt := rfl, nwf := rfl, gin := rfl, held := .cons rfl rfl (.one (.ag ⟨.sm, .view rfl, trivial⟩) rfl) dt (.cons rfl rfl (.same (by simp)) dt trivial), seen := ⟨⟨_, rfl, .ref rfl⟩, trivial⟩, inlps := rfl, ple := rfl, map := rfl, next' := rfl, back := .kept rfl rfl (.kept rfl rfl (.kept rfl rfl (.kept rfl rfl (.new 0 rfl rfl (.one ⟨.sm, .view rfl, trivial⟩) (.kept rfl rfl (.kept rfl rfl (.kept rfl rfl (.new 1 rfl rfl (.same (by simp [AV.flat, G.scc_place.av])) trivial)))))))), lps := .inl ⟨rfl, rfl⟩, mode := .inr ⟨fun _ h => h, rfl⟩, ren := .sm } rfl) <| AR.op rfl (aop_move (.inl rfl) rfl) <| AR.keep [0, 1, 57] rfl <| AR.op (r := G.scc_place.av r69.1) rfl (aop_extract rfl rfl rfl) <| AR.op (r := bl r69.2) rfl (aop_extract rfl rfl rfl) <| AR.op (r := .ref 11 0 0) rfl (aop_alloc 2 [.agg [i64 0, u64 0#64]] rfl zr63 (by kernel_rfl) (.inl ⟨rfl, rfl⟩)) <| AR.keep [0, 1, 63, 64, 7] rfl <| AR.op rfl (aop_store (e' := G.scc_place.av r69.1) rfl rfl rfl rfl rfl rfl sz63 rfl dt rfl) ?_
  refine AR.op rfl (aop_move (.inr rfl) rfl) <| AR.nil <| hK1 _ (AWP.weak (Weak.re (fr' := [(0, .ref 0 0 0), (1, i64 n_0), (7, .pp [i64 r69.1.node, u64 r69.1.left] 0), (8, bl r69.2)]) (H' := ⟨9, [(0, (9, [.agg [i64 cgN_1, .sl (List.map u64 cgRows_2), .view 1 0 (List.map i64 l_4).length, .view 2 0 (List.map i64 l_5).length, .view 3 0 (List.map bl cdone65).length, i64 cmet_3, .ref 4 0 0, .ref 6 0 0, .view 8 0 (List.map (slA i64) ccomponents67).length]])), (1, (1, List.map i64 l_4)), (2, (1, List.map i64 l_5)), (3, (1, List.map bl cdone65)), (4, (2, [.agg [i64 cmost_7, .view 5 0 (List.map G.scc_place.av l_10).length]])), (5, (2, List.map G.scc_place.av l_10)), (6, (2, [.agg [i64 cmost_8, .view 7 0 (List.map i64 copenl66).length]])), (7, (1, List.map i64 copenl66)), (8, (1, List.map (slA i64) ccomponents67))], []⟩) [(0, 0), (1, 1), (2, 2), (3, 3), (4, 4), (5, 10), (6, 6), (7, 7), (8, 8)] [] rfl rfl rfl (.cons rfl rfl (.one (.ag ⟨.sm, .sm, .view rfl, .view rfl, .view rfl, .sm, .ref rfl, .ref rfl, .view rfl, trivial⟩) rfl) dt (.cons rfl rfl (.same (by simp)) dt (.cons rfl rfl (.same (by simp)) dt (.cons rfl rfl (.same (by simp)) dt (.cons rfl rfl (.one (.ag ⟨.sm, .view rfl, trivial⟩) rfl) dt (.cons rfl rfl (.same (by simp)) dt (.cons rfl rfl (.one (.ag ⟨.sm, .view rfl, trivial⟩) rfl) dt (.cons rfl rfl (.same (by simp)) dt (.cons rfl rfl (.same (by simp)) dt trivial))))))))) ⟨⟨_, rfl, .ref rfl⟩, .k, ⟨_, rfl, .frzA rfl rfl rfl rfl (by simp)⟩, .k, trivial⟩) ?_)
  refine awp_seqK fun K2 hK2 => awp_reg rfl <| AR.op rfl (aop_move (.inl rfl) rfl) <| AR.nil <| hK2 _ (AWP.weak (Weak.kt [0, 1, 7, 65] rfl) ?_)
  refine awp_cond rfl (fun hb70 => ?_) (fun hb70 => ?_)
  ·replace h := Sh.if_t h hb70
   refine awp_any [(true, false), (false, false), (false, false), (false, false), (true, false), (true, false), (true, false), (false, false), (false, false), (false, false), (true, false), (true, false), (false, false), (false, false), (true, false), (false, false), (false, false), (false, false), (true, false), (false, false), (false, false), (true, false), (false, false), (false, true)] (by kernel_rfl) (by kernel_rfl) rfl ?_
   refine ARH.dry rfl (fun _ => aop_move (.inl rfl) rfl) <| ARH.op (r := .ref 0 0 0) rfl rfl (aop_nilCheck_ref rfl rfl rfl) <| ARH.op rfl rfl (aop_field_ref rfl rfl rfl fd67_2 (by decide)) <| ARH.keep [0, 1, 7, 68] rfl <| ARH.op (r := .view 2 0 (List.map i64 l_5).length) rfl rfl (aop_load_ref rfl rfl rfl rfl sz25 rfl) <| ARH.dry rfl (fun _ => aop_field_pp rfl rfl fd63_0 (by decide)) <| ARH.dry (r := i64 r69.1.node) rfl (fun _ => aop_load_pp rfl rfl sz3 rfl) <| ARH.keep [0, 1, 7, 69, 71] rfl ?_
   refine ARH.dry rfl (fun _ => aop_move (.inl rfl) rfl) <| ARH.op (r := .ref 0 0 0) rfl rfl (aop_nilCheck_ref rfl rfl rfl) <| ARH.op rfl rfl (aop_field_ref rfl rfl rfl fd67_2 (by decide)) <| ARH.keep [0, 1, 7, 69, 71, 74] rfl <| ARH.op (r := .view 2 0 (List.map i64 l_5).length) rfl rfl (aop_load_ref rfl rfl rfl rfl sz25 rfl) <| ARH.dry rfl (fun _ => aop_field_pp rfl rfl fd63_0 (by decide)) <| ARH.dry (r := i64 r69.1.node) rfl (fun _ => aop_load_pp rfl rfl sz3 rfl) <| ARH.keep [0, 1, 69, 71, 75, 77] rfl ?_
   obtain ⟨x71, hx71, h⟩ := Sh.bind_some' h
   obtain ⟨k72, hi72, hl72⟩ := Sh.idx_some hx71
   refine ARH.op (r := .ref 2 k72 0) rfl rfl (t_index_view i64 l_5 hi72 hl72 rfl rfl rfl rfl rfl el25 rfl) <| ARH.op (r := i64 x71) rfl rfl (t_load_el i64 l_5 hl72 rfl rfl rfl sz3 rfl) <| ARH.dry rfl (fun _ => aop_move (.inl rfl) rfl) <| ARH.keep [1, 69, 71, 79, 80] rfl <| ARH.op (r := .ref 0 0 0) rfl rfl (aop_nilCheck_ref rfl rfl rfl) <| ARH.op rfl rfl (aop_field_ref rfl rfl rfl fd67_2 (by decide)) <| ARH.op (r := .view 2 0 (List.map i64 l_5).length) rfl rfl (aop_load_ref rfl rfl rfl rfl sz25 rfl) <| ARH.keep [1, 69, 71, 79, 83] rfl ?_
   refine ARH.dry rfl (fun _ => aop_move (.inl rfl) rfl) ?_
   obtain ⟨x73, hx73, h⟩ := Sh.bind_some' h
   obtain ⟨k74, hi74, hl74⟩ := Sh.idx_some hx73
   refine ARH.op (r := .ref 2 k74 0) rfl rfl (t_index_view i64 l_5 hi74 hl74 rfl rfl rfl rfl rfl el25 rfl) <| ARH.op (r := i64 x73) rfl rfl (t_load_el i64 l_5 hl74 rfl rfl rfl sz3 rfl) <| ARH.keep [69, 71, 79, 86] rfl <| ARH.dry (r := i64 (Sh.min x71 x73)) rfl (fun _ => aop_min2 rfl rfl rfl) ?_
   obtain ⟨x75, hx75, h⟩ := Sh.bind_some' h
   obtain ⟨k76, hi76, hl76⟩ := Sh.idx_some hx75
   refine ARH.op (r := .ref 2 k76 0) rfl rfl (t_index_view i64 l_5 hi76 hl76 rfl rfl rfl rfl rfl el25 rfl) <| ARH.loud rfl rfl (t_store_el i64 l_5 (Sh.min x71 x73) hi76 hl76 rfl rfl rfl rfl rfl sz3 rfl dt rfl) <| ARH.nil ?_
   obtain rfl := Option.some.inj h
   refine ⟨.inl rfl, .tuple [], rfl, ?_⟩
   exact Weak.re [(0, 0), (1, 1), (2, 2), (3, 3), (4, 4), (5, 5), (6, 6), (7, 7), (8, 8)] [] rfl rfl rfl (.cons rfl rfl (.one (.ag ⟨.sm, .sm, .view rfl, .viewL rfl (by simp []), .view rfl, .sm, .ref rfl, .ref rfl, .view rfl, trivial⟩) rfl) dt (.cons rfl rfl (.same (by simp)) dt (.cons rfl rfl (.same (by simp)) dt (.cons rfl rfl (.same (by simp)) dt (.cons rfl rfl (.one (.ag ⟨.sm, .view rfl, trivial⟩) rfl) dt (.cons rfl rfl (.same (by simp)) dt (.cons rfl rfl (.one (.ag ⟨.sm, .view rfl, trivial⟩) rfl) dt (.cons rfl rfl (.same (by simp)) dt (.cons rfl rfl (.same (by simp)) dt trivial))))))))) ⟨⟨.tuple [], rfl, .tp trivial⟩, trivial⟩
  ·replace h := Sh.if_f h hb70
   refine awp_skip ?_
   obtain rfl := Option.some.inj h
   refine ⟨.inl rfl, .tuple [], rfl, ?_⟩
   exact Weak.re [(0, 0), (1, 1), (2, 2), (3, 3), (4, 4), (5, 5), (6, 6), (7, 7), (8, 8)] [] rfl rfl rfl (.cons rfl rfl (.one (.ag ⟨.sm, .sm, .view rfl, .view rfl, .view rfl, .sm, .ref rfl, .ref rfl, .view rfl, trivial⟩) rfl) dt (.cons rfl rfl (.same (by simp)) dt (.cons rfl rfl (.same (by simp)) dt (.cons rfl rfl (.same (by simp)) dt (.cons rfl rfl (.one (.ag ⟨.sm, .view rfl, trivial⟩) rfl) dt (.cons rfl rfl (.same (by simp)) dt (.cons rfl rfl (.one (.ag ⟨.sm, .view rfl, trivial⟩) rfl) dt (.cons rfl rfl (.same (by simp)) dt (.cons rfl rfl (.same (by simp)) dt trivial))))))))) ⟨⟨.tuple [], rfl, .tp trivial⟩, trivial⟩
 ·intro K3 hK3
  refine awp_seqK fun K4 hK4 => awp_any [(true, false), (false, false), (false, false), (false, false), (true, false), (false, false), (false, false), (true, false), (false, false), (false, false), (false, false), (true, false), (false, false), (false, false), (true, false)] (by kernel_rfl) (by kernel_rfl) rfl ?_
  refine ARH.dry rfl (fun _ => aop_move (.inl rfl) rfl) <| ARH.op (r := .ref 0 0 0) rfl rfl (aop_nilCheck_ref rfl rfl rfl) <| ARH.op rfl rfl (aop_field_ref rfl rfl rfl fd67_2 (by decide)) <| ARH.keep [0, 1, 11] rfl <| ARH.op (r := .view 2 0 (List.map i64 l_5).length) rfl rfl (aop_load_ref rfl rfl rfl rfl sz25 rfl) <| ARH.dry rfl (fun _ => aop_move (.inl rfl) rfl) ?_
  obtain ⟨x81, hx81, h⟩ := Sh.bind_some' h
  obtain ⟨k82, hi82, hl82⟩ := Sh.idx_some hx81
  refine ARH.op (r := .ref 2 k82 0) rfl rfl (t_index_view i64 l_5 hi82 hl82 rfl rfl rfl rfl rfl el25 rfl) <| ARH.keep [0, 1, 14] rfl <| ARH.op (r := i64 x81) rfl rfl (t_load_el i64 l_5 hl82 rfl rfl rfl sz3 rfl) <| ARH.dry rfl (fun _ => aop_move (.inl rfl) rfl) <| ARH.op (r := .ref 0 0 0) rfl rfl (aop_nilCheck_ref rfl rfl rfl) <| ARH.keep [0, 1, 15, 17] rfl <| ARH.op rfl rfl (aop_field_ref rfl rfl rfl fd67_1 (by decide)) <| ARH.op (r := .view 1 0 (List.map i64 l_4).length) rfl rfl (aop_load_ref rfl rfl rfl rfl sz25 rfl) ?_
  refine ARH.dry rfl (fun _ => aop_move (.inl rfl) rfl) <| ARH.keep [0, 1, 15, 19, 20] rfl ?_
  obtain ⟨x83, hx83, h⟩ := Sh.bind_some' h
  obtain ⟨k84, hi84, hl84⟩ := Sh.idx_some hx83
  refine ARH.op (r := .ref 1 k84 0) rfl rfl (t_index_view i64 l_4 hi84 hl84 rfl rfl rfl rfl rfl el25 rfl) <| ARH.op (r := i64 x83) rfl rfl (t_load_el i64 l_4 hl84 rfl rfl rfl sz3 rfl) <| ARH.dry (r := bl (decide (x81 = x83))) rfl (fun _ => aop_eql rfl rfl rfl) <| ARH.nil <| hK4 _ (AWP.weak (Weak.re (fr' := [(0, .ref 0 0 0), (1, i64 n_0), (23, bl (decide (x81 = x83)))]) (H' := ⟨9, [(0, (9, [.agg [i64 cgN_1, .sl (List.map u64 cgRows_2), .view 1 0 (List.map i64 l_4).length, .view 2 0 (List.map i64 l_5).length, .view 3 0 (List.map bl l_6).length, i64 cmet_3, .ref 4 0 0, .ref 6 0 0, .view 8 0 (List.map (slA i64) l_9).length]])), (1, (1, List.map i64 l_4)), (2, (1, List.map i64 l_5)), (3, (1, List.map bl l_6)), (4, (2, [.agg [i64 cmost_7, .view 5 0 (List.map G.scc_place.av l_10).length]])), (5, (2, List.map G.scc_place.av l_10)), (6, (2, [.agg [i64 cmost_8, .view 7 0 (List.map i64 l_11).length]])), (7, (1, List.map i64 l_11)), (8, (1, List.map (slA i64) l_9))], []⟩) [(0, 0), (1, 1), (2, 2), (3, 3), (4, 4), (5, 7), (6, 5), (7, 8), (8, 6)] [] rfl rfl rfl (.cons rfl rfl (.one (.ag ⟨.sm, .sm, .view rfl, .view rfl, .view rfl, .sm, .ref rfl, .ref rfl, .view rfl, trivial⟩) rfl) dt (.cons rfl rfl (.same (by simp)) dt (.cons rfl rfl (.same (by simp)) dt (.cons rfl rfl (.same (by simp)) dt (.cons rfl rfl (.one (.ag ⟨.sm, .view rfl, trivial⟩) rfl) dt (.cons rfl rfl (.same (by simp)) dt (.cons rfl rfl (.one (.ag ⟨.sm, .view rfl, trivial⟩) rfl) dt (.cons rfl rfl (.same (by simp)) dt (.cons rfl rfl (.same (by simp)) dt trivial))))))))) ⟨⟨_, rfl, .ref rfl⟩, .k, .k, trivial⟩) ?_)
  refine awp_cond rfl (fun hb85 => ?_) (fun hb85 => ?_)
  ·replace h := Sh.if_t h hb85
   refine awp_seqK fun K5 hK5 => awp_reg rfl <| AR.op rfl (aop_move (.inr rfl) rfl) <| AR.nil <| hK5 _ (AWP.weak (Weak.kt [0, 1, 4] rfl) ?_)
   refine awp_seqJ (fun (p : (List Int) × (List Bool) × (List Int)) => (⟨[(0, .ref 0 0 0), (1, i64 n_0), (4, .view 9 0 (List.map i64 p.1).length)], ⟨10, [(0, (9, [.agg [i64 cgN_1, .sl (List.map u64 cgRows_2), .view 1 0 (List.map i64 l_4).length, .view 2 0 (List.map i64 l_5).length, .view 3 0 (List.map bl p.2.1).length, i64 cmet_3, .ref 4 0 0, .ref 6 0 0, .view 8 0 (List.map (slA i64) l_9).length]])), (1, (1, List.map i64 l_4)), (2, (1, List.map i64 l_5)), (3, (1, List.map bl p.2.1)), (4, (2, [.agg [i64 cmost_7, .view 5 0 (List.map G.scc_place.av l_10).length]])), (5, (2, List.map G.scc_place.av l_10)), (6, (2, [.agg [i64 cmost_8, .view 7 0 (List.map i64 p.2.2).length]])), (7, (1, List.map i64 p.2.2)), (8, (1, List.map (slA i64) l_9)), (9, (1, List.map i64 p.1))], []⟩⟩ : St)) (fun (p : (List Int) × (List Bool) × (List Int)) => G.scc_walk_leave__1_j2 n_0 l_5 cmost_7 l_9 l_10 p.1 p.2.1 p.2.2 = some r) ?_ ?_
   ·rintro ⟨c104, v105, v106⟩ h
    replace h : G.scc_walk_leave__1_j2 n_0 l_5 cmost_7 l_9 l_10 c104 v105 v106 = some r := h
    unfold G.scc_walk_leave__1_j2 at h
    refine awp_seqK fun K6 hK6 => awp_reg rfl <| AR.op rfl (aop_move (.inl rfl) rfl) ?_
    obtain ⟨sort109, hsort109, h⟩ := Sh.bind_some' h
    have hlen110 := Sh.sort_len hsort109
    refine AR.op (r := .tuple []) rfl (aop_sort so51 c104 sort109 hsort109 rfl rfl rfl rfl rfl) <| AR.nil <| hK6 _ (AWP.weak (Weak.re (fr' := [(0, .ref 0 0 0), (1, i64 n_0), (4, .sl (List.map i64 sort109))]) (H' := ⟨9, [(0, (9, [.agg [i64 cgN_1, .sl (List.map u64 cgRows_2), .view 1 0 (List.map i64 l_4).length, .view 2 0 (List.map i64 l_5).length, .view 3 0 (List.map bl v105).length, i64 cmet_3, .ref 4 0 0, .ref 6 0 0, .view 8 0 (List.map (slA i64) l_9).length]])), (1, (1, List.map i64 l_4)), (2, (1, List.map i64 l_5)), (3, (1, List.map bl v105)), (4, (2, [.agg [i64 cmost_7, .view 5 0 (List.map G.scc_place.av l_10).length]])), (5, (2, List.map G.scc_place.av l_10)), (6, (2, [.agg [i64 cmost_8, .view 7 0 (List.map i64 v106).length]])), (7, (1, List.map i64 v106)), (8, (1, List.map (slA i64) l_9))], []⟩) [(0, 0), (1, 1), (2, 2), (3, 3), (4, 4), (5, 5), (6, 6), (7, 7), (8, 8)] [] rfl rfl rfl (.cons rfl rfl (.one (.ag ⟨.sm, .sm, .view rfl, .view rfl, .view rfl, .sm, .ref rfl, .ref rfl, .view rfl, trivial⟩) rfl) dt (.cons rfl rfl (.same (by simp)) dt (.cons rfl rfl (.same (by simp)) dt (.cons rfl rfl (.same (by simp)) dt (.cons rfl rfl (.one (.ag ⟨.sm, .view rfl, trivial⟩) rfl) dt (.cons rfl rfl (.same (by simp)) dt (.cons rfl rfl (.one (.ag ⟨.sm, .view rfl, trivial⟩) rfl) dt (.cons rfl rfl (.same (by simp)) dt (.cons rfl rfl (.same (by simp)) dt trivial))))))))) ⟨⟨_, rfl, .ref rfl⟩, .k, ⟨_, rfl, .lendL rfl rfl (by simp [hlen110]) (by simp)⟩, trivial⟩) ?_)
    refine awp_reg rfl <| AR.op rfl (aop_move (.inl rfl) rfl) <| AR.op rfl (aop_move (.inl rfl) rfl) <| AR.op (r := .ref 0 0 0) rfl (aop_nilCheck_ref rfl rfl rfl) <| AR.keep [0, 1, 4, 47, 49] rfl <| AR.op rfl (aop_field_ref rfl rfl rfl fd67_7 (by decide)) <| AR.op (r := .view 8 0 (List.map (slA i64) l_9).length) rfl (aop_load_ref rfl rfl rfl rfl sz42 rfl) <| AR.op rfl (aop_move (.inl rfl) rfl) ?_
    refine AR.keep [0, 1, 47, 51, 52] rfl <| AR.op (r := .clip (List.map (slA i64) ([sort109] : List (List Int)))) rfl (aop_buildSlice rfl (xo := [.tmp 52]) rfl rfl rfl (by simp [AV.solid]) (by simp [AV.flat]) el42 ze42 (by decide)) ?_
    obtain ⟨l111, hl111, h⟩ := Sh.bind_some' h
    refine AR.op (r := .view 9 0 (List.map (slA i64) l111).length) rfl (t_app_view (slA i64) l_9 ([sort109] : List (List Int)) l111 hl111 rfl et42 (fun _ => rfl) rfl rfl rfl rfl rfl rfl rfl) <| AR.op (r := .ref 0 0 0) rfl (aop_nilCheck_ref rfl rfl rfl) <| AR.keep [0, 1, 54, 55] rfl <| AR.op rfl (aop_field_ref rfl rfl rfl fd67_7 (by decide)) <| AR.op rfl (aop_store (e' := .agg [i64 cgN_1, .sl (List.map u64 cgRows_2), .view 1 0 (List.map i64 l_4).length, .view 2 0 (List.map i64 l_5).length, .view 3 0 (List.map bl v105).length, i64 cmet_3, .ref 4 0 0, .ref 6 0 0, .view 9 0 (List.map (slA i64) l111).length]) rfl rfl rfl rfl rfl rfl sz42 rfl dt rfl) <| AR.nil ?_
    exact hK3 (v105, v106, l111) _ h (Weak.re [(0, 0), (1, 1), (2, 2), (3, 3), (4, 4), (5, 5), (6, 6), (7, 7), (8, 9)] [] rfl rfl rfl (.cons rfl rfl (.one (.ag ⟨.sm, .sm, .view rfl, .view rfl, .view rfl, .sm, .ref rfl, .ref rfl, .view rfl, trivial⟩) rfl) dt (.cons rfl rfl (.same (by simp)) dt (.cons rfl rfl (.same (by simp)) dt (.cons rfl rfl (.same (by simp)) dt (.cons rfl rfl (.one (.ag ⟨.sm, .view rfl, trivial⟩) rfl) dt (.cons rfl rfl (.same (by simp)) dt (.cons rfl rfl (.one (.ag ⟨.sm, .view rfl, trivial⟩) rfl) dt (.cons rfl rfl (.same (by simp)) dt (.cons rfl rfl (.same (by simp)) dt trivial))))))))) ⟨⟨_, rfl, .ref rfl⟩, .k, trivial⟩)
   ·intro K7 hK7
    refine awp_block <| awp_iter (fun (p : (List Bool) × (List Int) × (List Int)) => G.scc_walk_leave__1_b1 n_0 l_5 cmost_7 cmost_8 l_9 l_10 p.1 p.2.1 p.2.2) (fun (p : (List Bool) × (List Int) × (List Int)) => (⟨[(0, .ref 0 0 0), (1, i64 n_0), (4, .view 9 0 (List.map i64 p.2.2).length)], ⟨10, [(0, (9, [.agg [i64 cgN_1, .sl (List.map u64 cgRows_2), .view 1 0 (List.map i64 l_4).length, .view 2 0 (List.map i64 l_5).length, .view 3 0 (List.map bl p.1).length, i64 cmet_3, .ref 4 0 0, .ref 6 0 0, .view 8 0 (List.map (slA i64) l_9).length]])), (1, (1, List.map i64 l_4)), (2, (1, List.map i64 l_5)), (3, (1, List.map bl p.1)), (4, (2, [.agg [i64 cmost_7, .view 5 0 (List.map G.scc_place.av l_10).length]])), (5, (2, List.map G.scc_place.av l_10)), (6, (2, [.agg [i64 cmost_8, .view 7 0 (List.map i64 p.2.1).length]])), (7, (1, List.map i64 p.2.1)), (8, (1, List.map (slA i64) l_9)), (9, (1, List.map i64 p.2.2))], []⟩⟩ : St)) h (Weak.re [(0, 0), (1, 1), (2, 2), (3, 3), (4, 4), (5, 5), (6, 6), (7, 7), (8, 8)] [9] rfl rfl rfl (.cons rfl rfl (.one (.ag ⟨.sm, .sm, .view rfl, .view rfl, .view rfl, .sm, .ref rfl, .ref rfl, .view rfl, trivial⟩) rfl) dt (.cons rfl rfl (.same (by simp)) dt (.cons rfl rfl (.same (by simp)) dt (.cons rfl rfl (.same (by simp)) dt (.cons rfl rfl (.one (.ag ⟨.sm, .view rfl, trivial⟩) rfl) dt (.cons rfl rfl (.same (by simp)) dt (.cons rfl rfl (.one (.ag ⟨.sm, .view rfl, trivial⟩) rfl) dt (.cons rfl rfl (.same (by simp)) dt (.cons rfl rfl (.same (by simp)) dt (.fresh (by simp) dt trivial)))))))))) ⟨⟨_, rfl, .ref rfl⟩, .k, ⟨_, rfl, .nil (by simp)⟩, trivial⟩) ?_
    ·skip
     rintro ⟨cdone123, copenl124, c125⟩ o1 h hx1
     replace h : G.scc_walk_leave__1_b1 n_0 l_5 cmost_7 cmost_8 l_9 l_10 cdone123 copenl124 c125 = some o1 := h
     unfold G.scc_walk_leave__1_b1 at h
     refine awp_block <| awp_seqK fun K8 hK8 => awp_reg rfl <| AR.op rfl (aop_move (.inl rfl) rfl) <| AR.op (r := .ref 0 0 0) rfl (aop_nilCheck_ref rfl rfl rfl) <| AR.op rfl (aop_field_ref rfl rfl rfl fd67_6 (by decide)) <| AR.keep [0, 1, 4, 27] rfl <| AR.op (r := .ref 6 0 0) rfl (aop_load_ref rfl rfl rfl rfl sz64 rfl) ?_
     obtain ⟨r127, hr127, h⟩ := Sh.bind_some' h
     refine AR.op (r := .tuple [i64 r127.1, bl r127.2.1]) rfl (aop_call3E (ok := NoId) (ys := [.ref 6 0 0]) (xs := [.ref 0 0 0]) (r' := .tuple [i64 r127.1, bl r127.2.1]) (Hs := ⟨10, [(6, (2, [.agg [i64 cmost_8, .view 7 0 (List.map i64 copenl124).length]])), (7, (1, List.map i64 copenl124))], []⟩) (H' := ⟨12, [(0, (9, [.agg [i64 cgN_1, .sl (List.map u64 cgRows_2), .view 1 0 (List.map i64 l_4).length, .view 2 0 (List.map i64 l_5).length, .view 3 0 (List.map bl cdone123).length, i64 cmet_3, .ref 4 0 0, .ref 6 0 0, .view 8 0 (List.map (slA i64) l_9).length]])), (1, (1, List.map i64 l_4)), (2, (1, List.map i64 l_5)), (3, (1, List.map bl cdone123)), (4, (2, [.agg [i64 cmost_7, .view 5 0 (List.map G.scc_place.av l_10).length]])), (5, (2, List.map G.scc_place.av l_10)), (6, (2, [.agg [i64 cmost_8, .view 11 0 (List.map i64 r127.2.2).length]])), (8, (1, List.map (slA i64) l_9)), (9, (1, List.map i64 c125)), (11, (1, List.map i64 r127.2.2))], []⟩) (g := [(0, 6), (1, 7)]) (m := [(0, 6), (1, 11)]) (nw := []) (p := 1) (.func rfl rfl (stack_Stack_int_Pop__1_ok hT hr127).call) (stack_Stack_int_Pop__1_ok hT hr127) { next := rfl, part := ⟨rfl, rfl, trivial⟩, inj := rfl, lt := rfl, nwf := rfl, gin := rfl, held := .cons rfl rfl (.one (.ag ⟨.sm, .view rfl, trivial⟩) rfl) dt (.cons rfl rfl (.same (by simp)) dt trivial), seen := ⟨⟨_, rfl, .ref rfl⟩, trivial⟩, inlps := rfl, ple := rfl, map := rfl, next' := rfl, back := .kept rfl rfl (.kept rfl rfl (.kept rfl rfl (.kept rfl rfl (.kept rfl rfl (.kept rfl rfl (.new 0 rfl rfl (.one ⟨.sm, .view rfl, trivial⟩) (.kept rfl rfl (.kept rfl rfl (.new 1 rfl rfl (.same (by simp [AV.flat])) trivial))))))))), lps := .inl ⟨rfl, rfl⟩, mode := .inr ⟨fun _ h => h, rfl⟩, ren := .sm } rfl) <| AR.op rfl (aop_move (.inl rfl) rfl) <| AR.keep [0, 1, 4, 24] rfl <| AR.op (r := i64 r127.1) rfl (aop_extract rfl rfl rfl) <| AR.op (r := bl r127.2.1) rfl (aop_extract rfl rfl rfl) <| AR.op rfl (aop_move (.inr rfl) rfl) <| AR.keep [0, 1, 4, 31, 5] rfl <| AR.op rfl (aop_move (.inr rfl) rfl) ?_
     refine AR.nil <| hK8 _ (AWP.weak (Weak.re (fr' := [(0, .ref 0 0 0), (1, i64 n_0), (4, .view 9 0 (List.map i64 c125).length), (5, i64 r127.1)]) (H' := ⟨10, [(0, (9, [.agg [i64 cgN_1, .sl (List.map u64 cgRows_2), .view 1 0 (List.map i64 l_4).length, .view 2 0 (List.map i64 l_5).length, .view 3 0 (List.map bl cdone123).length, i64 cmet_3, .ref 4 0 0, .ref 6 0 0, .view 8 0 (List.map (slA i64) l_9).length]])), (1, (1, List.map i64 l_4)), (2, (1, List.map i64 l_5)), (3, (1, List.map bl cdone123)), (4, (2, [.agg [i64 cmost_7, .view 5 0 (List.map G.scc_place.av l_10).length]])), (5, (2, List.map G.scc_place.av l_10)), (6, (2, [.agg [i64 cmost_8, .view 7 0 (List.map i64 r127.2.2).length]])), (7, (1, List.map i64 r127.2.2)), (8, (1, List.map (slA i64) l_9)), (9, (1, List.map i64 c125))], []⟩) [(0, 0), (1, 1), (2, 2), (3, 3), (4, 4), (5, 5), (6, 6), (7, 11), (8, 8), (9, 9)] [] rfl rfl rfl (.cons rfl rfl (.one (.ag ⟨.sm, .sm, .view rfl, .view rfl, .view rfl, .sm, .ref rfl, .ref rfl, .view rfl, trivial⟩) rfl) dt (.cons rfl rfl (.same (by simp)) dt (.cons rfl rfl (.same (by simp)) dt (.cons rfl rfl (.same (by simp)) dt (.cons rfl rfl (.one (.ag ⟨.sm, .view rfl, trivial⟩) rfl) dt (.cons rfl rfl (.same (by simp)) dt (.cons rfl rfl (.one (.ag ⟨.sm, .view rfl, trivial⟩) rfl) dt (.cons rfl rfl (.same (by simp)) dt (.cons rfl rfl (.same (by simp)) dt (.cons rfl rfl (.same (by simp)) dt trivial)))))))))) ⟨⟨_, rfl, .ref rfl⟩, .k, ⟨_, rfl, .view rfl⟩, .k, trivial⟩) ?_)
     refine awp_seqK fun K9 hK9 => awp_reg rfl <| AR.op rfl (aop_move (.inl rfl) rfl) <| AR.op (r := .ref 0 0 0) rfl (aop_nilCheck_ref rfl rfl rfl) <| AR.op rfl (aop_field_ref rfl rfl rfl fd67_3 (by decide)) <| AR.keep [0, 1, 4, 5, 34] rfl <| AR.op (r := .view 3 0 (List.map bl cdone123).length) rfl (aop_load_ref rfl rfl rfl rfl sz59 rfl) <| AR.op rfl (aop_move (.inl rfl) rfl) ?_
     obtain ⟨x130, hx130, h⟩ := Sh.bind_some' h
     obtain ⟨k131, hi131, hl131⟩ := Sh.idx_some hx130
     refine AR.op (r := .ref 3 k131 0) rfl (t_index_view bl cdone123 hi131 hl131 rfl rfl rfl rfl rfl el59 rfl) <| AR.keep [0, 1, 4, 5, 37] rfl <| AR.op rfl (t_store_el bl cdone123 true hi131 hl131 rfl rfl rfl rfl rfl sz4 rfl dt rfl) <| AR.nil <| hK9 _ (AWP.weak (Weak.re (fr' := [(0, .ref 0 0 0), (1, i64 n_0), (4, .view 9 0 (List.map i64 c125).length), (5, i64 r127.1)]) (H' := ⟨10, [(0, (9, [.agg [i64 cgN_1, .sl (List.map u64 cgRows_2), .view 1 0 (List.map i64 l_4).length, .view 2 0 (List.map i64 l_5).length, .view 3 0 (List.map bl (Sh.set cdone123 r127.1 true)).length, i64 cmet_3, .ref 4 0 0, .ref 6 0 0, .view 8 0 (List.map (slA i64) l_9).length]])), (1, (1, List.map i64 l_4)), (2, (1, List.map i64 l_5)), (3, (1, List.map bl (Sh.set cdone123 r127.1 true))), (4, (2, [.agg [i64 cmost_7, .view 5 0 (List.map G.scc_place.av l_10).length]])), (5, (2, List.map G.scc_place.av l_10)), (6, (2, [.agg [i64 cmost_8, .view 7 0 (List.map i64 r127.2.2).length]])), (7, (1, List.map i64 r127.2.2)), (8, (1, List.map (slA i64) l_9)), (9, (1, List.map i64 c125))], []⟩) [(0, 0), (1, 1), (2, 2), (3, 3), (4, 4), (5, 5), (6, 6), (7, 7), (8, 8), (9, 9)] [] rfl rfl rfl (.cons rfl rfl (.one (.ag ⟨.sm, .sm, .view rfl, .view rfl, .viewL rfl (by simp []), .sm, .ref rfl, .ref rfl, .view rfl, trivial⟩) rfl) dt (.cons rfl rfl (.same (by simp)) dt (.cons rfl rfl (.same (by simp)) dt (.cons rfl rfl (.same (by simp)) dt (.cons rfl rfl (.one (.ag ⟨.sm, .view rfl, trivial⟩) rfl) dt (.cons rfl rfl (.same (by simp)) dt (.cons rfl rfl (.one (.ag ⟨.sm, .view rfl, trivial⟩) rfl) dt (.cons rfl rfl (.same (by simp)) dt (.cons rfl rfl (.same (by simp)) dt (.cons rfl rfl (.same (by simp)) dt trivial)))))))))) ⟨⟨_, rfl, .ref rfl⟩, .k, ⟨_, rfl, .view rfl⟩, .k, trivial⟩) ?_)
     refine awp_seqK fun K10 hK10 => awp_reg rfl <| AR.op rfl (aop_move (.inl rfl) rfl) <| AR.op rfl (aop_move (.inl rfl) rfl) <| AR.op (r := .clip (List.map i64 [r127.1])) rfl (aop_buildSlice rfl (xo := [.tmp 39]) rfl rfl rfl (by simp [AV.solid]) (by simp [AV.flat]) el25 ze25 (by decide)) <| AR.keep [0, 1, 5, 38, 40] rfl ?_
     obtain ⟨c133, hc133, h⟩ := Sh.bind_some' h
     refine AR.op (r := .view 10 0 (List.map i64 c133).length) rfl (t_app_view i64 c125 [r127.1] c133 hc133 rfl et25 (fun _ => rfl) rfl rfl rfl rfl rfl rfl rfl) <| AR.op rfl (aop_move (.inr rfl) rfl) <| AR.nil <| hK10 _ (AWP.weak (Weak.re (fr' := [(0, .ref 0 0 0), (1, i64 n_0), (5, i64 r127.1), (4, .view 9 0 (List.map i64 c133).length)]) (H' := ⟨10, [(0, (9, [.agg [i64 cgN_1, .sl (List.map u64 cgRows_2), .view 1 0 (List.map i64 l_4).length, .view 2 0 (List.map i64 l_5).length, .view 3 0 (List.map bl (Sh.set cdone123 r127.1 true)).length, i64 cmet_3, .ref 4 0 0, .ref 6 0 0, .view 8 0 (List.map (slA i64) l_9).length]])), (1, (1, List.map i64 l_4)), (2, (1, List.map i64 l_5)), (3, (1, List.map bl (Sh.set cdone123 r127.1 true))), (4, (2, [.agg [i64 cmost_7, .view 5 0 (List.map G.scc_place.av l_10).length]])), (5, (2, List.map G.scc_place.av l_10)), (6, (2, [.agg [i64 cmost_8, .view 7 0 (List.map i64 r127.2.2).length]])), (7, (1, List.map i64 r127.2.2)), (8, (1, List.map (slA i64) l_9)), (9, (1, List.map i64 c133))], []⟩) [(0, 0), (1, 1), (2, 2), (3, 3), (4, 4), (5, 5), (6, 6), (7, 7), (8, 8), (9, 10)] [] rfl rfl rfl (.cons rfl rfl (.one (.ag ⟨.sm, .sm, .view rfl, .view rfl, .view rfl, .sm, .ref rfl, .ref rfl, .view rfl, trivial⟩) rfl) dt (.cons rfl rfl (.same (by simp)) dt (.cons rfl rfl (.same (by simp)) dt (.cons rfl rfl (.same (by simp)) dt (.cons rfl rfl (.one (.ag ⟨.sm, .view rfl, trivial⟩) rfl) dt (.cons rfl rfl (.same (by simp)) dt (.cons rfl rfl (.one (.ag ⟨.sm, .view rfl, trivial⟩) rfl) dt (.cons rfl rfl (.same (by simp)) dt (.cons rfl rfl (.same (by simp)) dt (.cons rfl rfl (.same (by simp)) dt trivial)))))))))) ⟨⟨_, rfl, .ref rfl⟩, .k, .k, ⟨_, rfl, .view rfl⟩, trivial⟩) ?_)
     refine awp_seqK fun K11 hK11 => awp_reg rfl <| AR.op rfl (aop_move (.inl rfl) rfl) <| AR.op rfl (aop_move (.inl rfl) rfl) <| AR.op (r := bl (decide (r127.1 = n_0))) rfl (aop_eql rfl rfl rfl) <| AR.nil <| hK11 _ (AWP.weak (Weak.kt [0, 1, 4, 44] rfl) ?_)
     refine awp_cond rfl (fun hb134 => ?_) (fun hb134 => ?_)
     ·replace h := Sh.if_t h hb134
      refine awp_exit ?_
      replace h := Sh.exit_eq h hx1
      exact hK7 (c133, Sh.set cdone123 r127.1 true, r127.2.2) _ h (Weak.kt [0, 1, 4] rfl)
     ·replace h := Sh.if_f h hb134
      refine awp_skip ?_
      replace h := Sh.next_eq h
      exact ⟨_, h, Weak.kt [0, 1, 4] rfl⟩
  ·replace h := Sh.if_f h hb85
   refine awp_skip ?_
   exact hK3 (l_6, l_11, l_9) _ h (Weak.kt [0, 1] rfl)


theorem scc_walk_from__1_ok {W0 : World} (hT : Tab W0) {n_0 : Int} {cgN_1 : Int} {cgRows_2 : List (BitVec 64)} {cmet_3 : Int} {l_4 : List Int} {l_5 : List Int} {l_6 : List Bool} {cmost_7 : Int} {cmost_8 : Int} {l_9 : List (List Int)} {l_10 : List G.scc_place} {l_11 : List Int} {r : (List Int) × (List Int) × (List Bool) × Int × (List (List Int)) × (List G.scc_place) × (List Int)} (h : G.scc_walk_from__1 n_0 cgN_1 cgRows_2 cmet_3 l_4 l_5 l_6 cmost_7 cmost_8 l_9 l_10 l_11 = some r) : Fun3 Tryd.prog (.pinned W0 1) 47 [.ref 0 0 0, i64 n_0] ⟨9, [(0, (9, [.agg [i64 cgN_1, .sl (List.map u64 cgRows_2), .view 1 0 (List.map i64 l_4).length, .view 2 0 (List.map i64 l_5).length, .view 3 0 (List.map bl l_6).length, i64 cmet_3, .ref 4 0 0, .ref 5 0 0, .view 6 0 (List.map (slA i64) l_9).length]])), (1, (1, List.map i64 l_4)), (2, (1, List.map i64 l_5)), (3, (1, List.map bl l_6)), (4, (2, [.agg [i64 cmost_7, .view 7 0 (List.map G.scc_place.av l_10).length]])), (5, (2, [.agg [i64 cmost_8, .view 8 0 (List.map i64 l_11).length]])), (6, (1, List.map (slA i64) l_9)), (7, (2, List.map G.scc_place.av l_10)), (8, (1, List.map i64 l_11))], []⟩ (.tuple []) ⟨9, [(0, (9, [.agg [i64 cgN_1, .sl (List.map u64 cgRows_2), .view 1 0 (List.map i64 r.1).length, .view 2 0 (List.map i64 r.2.1).length, .view 3 0 (List.map bl r.2.2.1).length, i64 r.2.2.2.1, .ref 4 0 0, .ref 5 0 0, .view 6 0 (List.map (slA i64) r.2.2.2.2.1).length]])), (1, (1, List.map i64 r.1)), (2, (1, List.map i64 r.2.1)), (3, (1, List.map bl r.2.2.1)), (4, (2, [.agg [i64 cmost_7, .view 7 0 (List.map G.scc_place.av r.2.2.2.2.2.1).length]])), (5, (2, [.agg [i64 cmost_8, .view 8 0 (List.map i64 r.2.2.2.2.2.2).length]])), (6, (1, List.map (slA i64) r.2.2.2.2.1)), (7, (2, List.map G.scc_place.av r.2.2.2.2.2.1)), (8, (1, List.map i64 r.2.2.2.2.2.2))], []⟩ := by
 refine fun3_of_awp rfl Tryd.func47 rfl (by kernel_rfl) Tryd.ntmps47 (by simp) ?_
 unfold G.scc_walk_from__1 at h
 show AWP _ _ _ _ ⟨[(0, .ref 0 0 0), (1, i64 n_0)], ⟨9, [(0, (9, [.agg [i64 cgN_1, .sl (List.map u64 cgRows_2), .view 1 0 (List.map i64 l_4).length, .view 2 0 (List.map i64 l_5).length, .view 3 0 (List.map bl l_6).length, i64 cmet_3, .ref 4 0 0, .ref 5 0 0, .view 6 0 (List.map (slA i64) l_9).length]])), (1, (1, List.map i64 l_4)), (2, (1, List.map i64 l_5)), (3, (1, List.map bl l_6)), (4, (2, [.agg [i64 cmost_7, .view 7 0 (List.map G.scc_place.av l_10).length]])), (5, (2, [.agg [i64 cmost_8, .view 8 0 (List.map i64 l_11).length]])), (6, (1, List.map (slA i64) l_9)), (7, (2, List.map G.scc_place.av l_10)), (8, (1, List.map i64 l_11))], []⟩⟩ _
 refine awp_scope (σ := Unit) (α := Unit) 0 (fun _ => none) (fun _ => ⟨[], .empty⟩) () rfl ?_ (fun s o h _ => by cases h)
 refine awp_seqK fun K1 hK1 => awp_reg rfl <| AR.op rfl (aop_move (.inl rfl) rfl) <| AR.op rfl (aop_move (.inl rfl) rfl) ?_
 obtain ⟨r333, hr333, h⟩ := Sh.bind_some' h
 refine AR.op (r := .tuple []) rfl (aop_call3E (ok := NoId) (ys := [.ref 0 0 0, i64 n_0]) (xs := [.ref 0 0 0, i64 n_0]) (r' := .tuple []) (Hs := ⟨9, [(0, (9, [.agg [i64 cgN_1, .sl (List.map u64 cgRows_2), .view 1 0 (List.map i64 l_4).length, .view 2 0 (List.map i64 l_5).length, .view 3 0 (List.map bl l_6).length, i64 cmet_3, .ref 4 0 0, .ref 5 0 0, .view 6 0 (List.map (slA i64) l_9).length]])), (1, (1, List.map i64 l_4)), (2, (1, List.map i64 l_5)), (3, (1, List.map bl l_6)), (4, (2, [.agg [i64 cmost_7, .view 7 0 (List.map G.scc_place.av l_10).length]])), (5, (2, [.agg [i64 cmost_8, .view 8 0 (List.map i64 l_11).length]])), (6, (1, List.map (slA i64) l_9)), (7, (2, List.map G.scc_place.av l_10)), (8, (1, List.map i64 l_11))], []⟩) (H' := ⟨18, [(0, (9, [.agg [i64 cgN_1, .sl (List.map u64 cgRows_2), .view 10 0 (List.map i64 (Sh.set l_4 n_0 (w64 (cmet_3 + 1)))).length, .view 11 0 (List.map i64 (Sh.set l_5 n_0 (w64 (cmet_3 + 1)))).length, .view 12 0 (List.map bl l_6).length, i64 (w64 (cmet_3 + 1)), .ref 13 0 0, .ref 14 0 0, .view 15 0 (List.map (slA i64) l_9).length]])), (10, (1, List.map i64 (Sh.set l_4 n_0 (w64 (cmet_3 + 1))))), (11, (1, List.map i64 (Sh.set l_5 n_0 (w64 (cmet_3 + 1))))), (12, (1, List.map bl l_6)), (13, (2, [.agg [i64 cmost_7, .view 16 0 (List.map G.scc_place.av r333.1).length]])), (14, (2, [.agg [i64 cmost_8, .view 17 0 (List.map i64 r333.2).length]])), (15, (1, List.map (slA i64) l_9)), (16, (2, List.map G.scc_place.av r333.1)), (17, (1, List.map i64 r333.2))], []⟩) (g := [(0, 0), (1, 1), (2, 2), (3, 3), (4, 4), (5, 5), (6, 6), (7, 7), (8, 8)]) (m := [(0, 0), (1, 10), (2, 11), (3, 12), (4, 13), (5, 14), (6, 15), (7, 16), (8, 17)]) (nw := []) (p := 1) (.func rfl rfl (scc_walk_enter__1_ok hT hr333).call) (scc_walk_enter__1_ok hT hr333) { next := rfl, part := ⟨rfl, rfl, rfl, rfl, rfl, rfl, rfl, rfl, rfl, trivial⟩, inj := rfl, lt := rfl, nwf := rfl, gin := rfl, held := .cons rfl rfl (.one (.ag ⟨.sm, .sm, .view rfl, .view rfl, .view rfl, .sm, .ref rfl, .ref rfl, .view rfl, trivial⟩) rfl) dt (.cons rfl rfl (.same (by simp)) dt (.cons rfl rfl (.same (by simp)) dt (.cons rfl rfl (.same (by simp)) dt (.cons rfl rfl (.one (.ag ⟨.sm, .view rfl, trivial⟩) rfl) dt (.cons rfl rfl (.one (.ag ⟨.sm, .view rfl, trivial⟩) rfl) dt (.cons rfl rfl (.same (by simp)) dt (.cons rfl rfl (.same (by simp)) dt (.cons rfl rfl (.same (by simp)) dt trivial)))))))), seen := ⟨⟨_, rfl, .ref rfl⟩, ⟨_, rfl, .sm⟩, trivial⟩, inlps := rfl, ple := rfl, map := rfl, next' := rfl, back := .new 0 rfl rfl (.one ⟨.sm, .sm, .view rfl, .view rfl, .view rfl, .sm, .ref rfl, .ref rfl, .view rfl, trivial⟩) (.new 1 rfl rfl (.same (by simp [AV.flat])) (.new 2 rfl rfl (.same (by simp [AV.flat])) (.new 3 rfl rfl (.same (by simp [AV.flat])) (.new 4 rfl rfl (.one ⟨.sm, .view rfl, trivial⟩) (.new 5 rfl rfl (.one ⟨.sm, .view rfl, trivial⟩) (.new 6 rfl rfl (.same (by simp [AV.flat])) (.new 7 rfl rfl (.same (by simp [AV.flat, G.scc_place.av])) (.new 8 rfl rfl (.same (by simp [AV.flat])) trivial)))))))), lps := .inl ⟨rfl, rfl⟩, mode := .inr ⟨fun _ h => h, rfl⟩, ren := .sm } rfl) <| AR.nil <| hK1 _ (AWP.weak (Weak.re (fr' := [(0, .ref 0 0 0)]) (H' := ⟨9, [(0, (9, [.agg [i64 cgN_1, .sl (List.map u64 cgRows_2), .view 1 0 (List.map i64 (Sh.set l_4 n_0 (w64 (cmet_3 + 1)))).length, .view 2 0 (List.map i64 (Sh.set l_5 n_0 (w64 (cmet_3 + 1)))).length, .view 3 0 (List.map bl l_6).length, i64 (w64 (cmet_3 + 1)), .ref 4 0 0, .ref 6 0 0, .view 8 0 (List.map (slA i64) l_9).length]])), (1, (1, List.map i64 (Sh.set l_4 n_0 (w64 (cmet_3 + 1))))), (2, (1, List.map i64 (Sh.set l_5 n_0 (w64 (cmet_3 + 1))))), (3, (1, List.map bl l_6)), (4, (2, [.agg [i64 cmost_7, .view 5 0 (List.map G.scc_place.av r333.1).length]])), (5, (2, List.map G.scc_place.av r333.1)), (6, (2, [.agg [i64 cmost_8, .view 7 0 (List.map i64 r333.2).length]])), (7, (1, List.map i64 r333.2)), (8, (1, List.map (slA i64) l_9))], []⟩) [(0, 0), (1, 10), (2, 11), (3, 12), (4, 13), (5, 16), (6, 14), (7, 17), (8, 15)] [] rfl rfl rfl (.cons rfl rfl (.one (.ag ⟨.sm, .sm, .view rfl, .view rfl, .view rfl, .sm, .ref rfl, .ref rfl, .view rfl, trivial⟩) rfl) dt (.cons rfl rfl (.same (by simp)) dt (.cons rfl rfl (.same (by simp)) dt (.cons rfl rfl (.same (by simp)) dt (.cons rfl rfl (.one (.ag ⟨.sm, .view rfl, trivial⟩) rfl) dt (.cons rfl rfl (.same (by simp)) dt (.cons rfl rfl (.one (.ag ⟨.sm, .view rfl, trivial⟩) rfl) dt (.cons rfl rfl (.same (by simp)) dt (.cons rfl rfl (.same (by simp)) dt trivial))))))))) ⟨⟨_, rfl, .ref rfl⟩, trivial⟩) ?_)
 refine awp_seqK fun K2 hK2 => awp_label <| hK2 _ ?_
 refine awp_block <| awp_iter (fun (p : (List Int) × (List Int) × (List Bool) × Int × (List G.scc_place) × (List Int) × (List (List Int))) => G.scc_walk_from__1_b1 cgN_1 cgRows_2 cmost_7 cmost_8 p.1 p.2.1 p.2.2.1 p.2.2.2.1 p.2.2.2.2.1 p.2.2.2.2.2.1 p.2.2.2.2.2.2) (fun (p : (List Int) × (List Int) × (List Bool) × Int × (List G.scc_place) × (List Int) × (List (List Int))) => (⟨[(0, .ref 0 0 0)], ⟨9, [(0, (9, [.agg [i64 cgN_1, .sl (List.map u64 cgRows_2), .view 1 0 (List.map i64 p.1).length, .view 2 0 (List.map i64 p.2.1).length, .view 3 0 (List.map bl p.2.2.1).length, i64 p.2.2.2.1, .ref 4 0 0, .ref 6 0 0, .view 8 0 (List.map (slA i64) p.2.2.2.2.2.2).length]])), (1, (1, List.map i64 p.1)), (2, (1, List.map i64 p.2.1)), (3, (1, List.map bl p.2.2.1)), (4, (2, [.agg [i64 cmost_7, .view 5 0 (List.map G.scc_place.av p.2.2.2.2.1).length]])), (5, (2, List.map G.scc_place.av p.2.2.2.2.1)), (6, (2, [.agg [i64 cmost_8, .view 7 0 (List.map i64 p.2.2.2.2.2.1).length]])), (7, (1, List.map i64 p.2.2.2.2.2.1)), (8, (1, List.map (slA i64) p.2.2.2.2.2.2))], []⟩⟩ : St)) h (Weak.kt [0] rfl) ?_
 ·skip
  rintro ⟨cwhen439, clow440, cdone441, cmet442, ccallsl443, copenl444, ccomponents445⟩ o1 h hx1
  replace h : G.scc_walk_from__1_b1 cgN_1 cgRows_2 cmost_7 cmost_8 cwhen439 clow440 cdone441 cmet442 ccallsl443 copenl444 ccomponents445 = some o1 := h
  unfold G.scc_walk_from__1_b1 at h
  refine awp_seqK fun K3 hK3 => awp_seqK fun K4 hK4 => awp_reg rfl <| AR.op rfl (aop_move (.inl rfl) rfl) <| AR.op (r := .ref 0 0 0) rfl (aop_nilCheck_ref rfl rfl rfl) <| AR.op rfl (aop_field_ref rfl rfl rfl fd67_5 (by decide)) <| AR.keep [0, 12] rfl <| AR.op (r := .ref 4 0 0) rfl (aop_load_ref rfl rfl rfl rfl sz60 rfl) ?_
  obtain ⟨r448, hr448, h⟩ := Sh.bind_some' h
  refine AR.op (r := i64 (Sh.len ccallsl443)) rfl (aop_call3E (ok := NoId) (ys := [.ref 4 0 0]) (xs := [.ref 0 0 0]) (r' := i64 (Sh.len ccallsl443)) (Hs := ⟨9, [(4, (2, [.agg [i64 cmost_7, .view 5 0 (List.map G.scc_place.av ccallsl443).length]])), (5, (2, List.map G.scc_place.av ccallsl443))], []⟩) (H' := ⟨11, [(0, (9, [.agg [i64 cgN_1, .sl (List.map u64 cgRows_2), .view 1 0 (List.map i64 cwhen439).length, .view 2 0 (List.map i64 clow440).length, .view 3 0 (List.map bl cdone441).length, i64 cmet442, .ref 4 0 0, .ref 6 0 0, .view 8 0 (List.map (slA i64) ccomponents445).length]])), (1, (1, List.map i64 cwhen439)), (2, (1, List.map i64 clow440)), (3, (1, List.map bl cdone441)), (4, (2, [.agg [i64 cmost_7, .view 10 0 (List.map G.scc_place.av ccallsl443).length]])), (6, (2, [.agg [i64 cmost_8, .view 7 0 (List.map i64 copenl444).length]])), (7, (1, List.map i64 copenl444)), (8, (1, List.map (slA i64) ccomponents445)), (10, (2, List.map G.scc_place.av ccallsl443))], []⟩) (g := [(0, 4), (1, 5)]) (m := [(0, 4), (1, 10)]) (nw := []) (p := 1) (.func rfl rfl (stack_Stack_scc_place_Len__1_ok hT hr448).call) (stack_Stack_scc_place_Len__1_ok hT hr448) { next := rfl, part := ⟨rfl, rfl, trivial⟩, inj := rfl, lt := rfl, nwf := rfl, gin := rfl, held := .cons rfl rfl (.one (.ag ⟨.sm, .view rfl, trivial⟩) rfl) dt (.cons rfl rfl (.same (by simp)) dt trivial), seen := ⟨⟨_, rfl, .ref rfl⟩, trivial⟩, inlps := rfl, ple := rfl, map := rfl, next' := rfl, back := .kept rfl rfl (.kept rfl rfl (.kept rfl rfl (.kept rfl rfl (.new 0 rfl rfl (.one ⟨.sm, .view rfl, trivial⟩) (.kept rfl rfl (.kept rfl rfl (.kept rfl rfl (.new 1 rfl rfl (.same (by simp [AV.flat, G.scc_place.av])) trivial)))))))), lps := .inl ⟨rfl, rfl⟩, mode := .inr ⟨fun _ h => h, rfl⟩, ren := .sm } rfl) <| AR.op rfl (aop_gtr rfl rfl rfl) <| AR.nil <| hK4 _ (AWP.weak (Weak.re (fr' := [(0, .ref 0 0 0), (15, bl (decide ((0 : Int) < (Sh.len ccallsl443))))]) (H' := ⟨9, [(0, (9, [.agg [i64 cgN_1, .sl (List.map u64 cgRows_2), .view 1 0 (List.map i64 cwhen439).length, .view 2 0 (List.map i64 clow440).length, .view 3 0 (List.map bl cdone441).length, i64 cmet442, .ref 4 0 0, .ref 6 0 0, .view 8 0 (List.map (slA i64) ccomponents445).length]])), (1, (1, List.map i64 cwhen439)), (2, (1, List.map i64 clow440)), (3, (1, List.map bl cdone441)), (4, (2, [.agg [i64 cmost_7, .view 5 0 (List.map G.scc_place.av ccallsl443).length]])), (5, (2, List.map G.scc_place.av ccallsl443)), (6, (2, [.agg [i64 cmost_8, .view 7 0 (List.map i64 copenl444).length]])), (7, (1, List.map i64 copenl444)), (8, (1, List.map (slA i64) ccomponents445))], []⟩) [(0, 0), (1, 1), (2, 2), (3, 3), (4, 4), (5, 10), (6, 6), (7, 7), (8, 8)] [] rfl rfl rfl (.cons rfl rfl (.one (.ag ⟨.sm, .sm, .view rfl, .view rfl, .view rfl, .sm, .ref rfl, .ref rfl, .view rfl, trivial⟩) rfl) dt (.cons rfl rfl (.same (by simp)) dt (.cons rfl rfl (.same (by simp)) dt (.cons rfl rfl (.same (by simp)) dt (.cons rfl rfl (.one (.ag ⟨.sm, .view rfl, trivial⟩) rfl) dt (.cons rfl rfl (.same (by simp)) dt (.cons rfl rfl (.one (.ag ⟨.sm, .view rfl, trivial⟩) rfl) dt (.cons rfl rfl (.same (by simp)) dt (.cons rfl rfl (.same (by simp)) dt trivial))))))))) ⟨⟨_, rfl, .ref rfl⟩, .k, trivial⟩) ?_)
  refine awp_cond rfl (fun hb449 => ?_) (fun hb449 => ?_)
  ·replace h := Sh.if_t h hb449
   refine awp_skip <| hK3 _ (AWP.weak (Weak.kt [0] rfl) ?_)
   refine awp_block <| awp_seqK fun K5 hK5 => awp_reg rfl <| AR.op rfl (aop_move (.inl rfl) rfl) <| AR.op (r := .ref 0 0 0) rfl (aop_nilCheck_ref rfl rfl rfl) <| AR.op rfl (aop_field_ref rfl rfl rfl fd67_5 (by decide)) <| AR.keep [0, 19] rfl <| AR.op (r := .ref 4 0 0) rfl (aop_load_ref rfl rfl rfl rfl sz60 rfl) ?_
   obtain ⟨r451, hr451, h⟩ := Sh.bind_some' h
   refine AR.op (r := .tuple [G.scc_place.av r451.1, bl r451.2.1]) rfl (aop_call3E (ok := NoId) (ys := [.ref 4 0 0]) (xs := [.ref 0 0 0]) (r' := .tuple [G.scc_place.av r451.1, bl r451.2.1]) (Hs := ⟨9, [(4, (2, [.agg [i64 cmost_7, .view 5 0 (List.map G.scc_place.av ccallsl443).length]])), (5, (2, List.map G.scc_place.av ccallsl443))], []⟩) (H' := ⟨11, [(0, (9, [.agg [i64 cgN_1, .sl (List.map u64 cgRows_2), .view 1 0 (List.map i64 cwhen439).length, .view 2 0 (List.map i64 clow440).length, .view 3 0 (List.map bl cdone441).length, i64 cmet442, .ref 4 0 0, .ref 6 0 0, .view 8 0 (List.map (slA i64) ccomponents445).length]])), (1, (1, List.map i64 cwhen439)), (2, (1, List.map i64 clow440)), (3, (1, List.map bl cdone441)), (4, (2, [.agg [i64 cmost_7, .view 10 0 (List.map G.scc_place.av r451.2.2).length]])), (6, (2, [.agg [i64 cmost_8, .view 7 0 (List.map i64 copenl444).length]])), (7, (1, List.map i64 copenl444)), (8, (1, List.map (slA i64) ccomponents445)), (10, (2, List.map G.scc_place.av r451.2.2))], []⟩) (g := [(0, 4), (1, 5)]) (m := [(0, 4), (1, 10)]) (nw := []) (p := 1) (.func rfl rfl (stack_Stack_scc_place_Pop__1_ok hT hr451).call) (stack_Stack_scc_place_Pop__1_ok hT hr451) { next := rfl, part := ⟨rfl, rfl, trivial⟩, inj := rfl, lt := rfl, nwf := rfl, gin := rfl, held := .cons rfl rfl (.one (.ag ⟨.sm, .view rfl, trivial⟩) rfl) dt (.cons rfl rfl (.same (by simp)) dt trivial), seen := ⟨⟨_, rfl, .ref rfl⟩, trivial⟩, inlps := rfl, ple := rfl, map := rfl, next' := rfl, back := .kept rfl rfl (.kept rfl rfl (.kept rfl rfl (.kept rfl rfl (.new 0 rfl rfl (.one ⟨.sm, .view rfl, trivial⟩) (.kept rfl rfl (.kept rfl rfl (.kept rfl rfl (.new 1 rfl rfl (.same (by simp [AV.flat, G.scc_place.av])) trivial)))))))), lps := .inl ⟨rfl, rfl⟩, mode := .inr ⟨fun _ h => h, rfl⟩, ren := .sm } rfl) <| AR.op rfl (aop_move (.inl rfl) rfl) <| AR.keep [0, 16] rfl <| AR.op (r := G.scc_place.av r451.1) rfl (aop_extract rfl rfl rfl) <| AR.op (r := bl r451.2.1) rfl (aop_extract rfl rfl rfl) <| AR.op (r := .ref 11 0 0) rfl (aop_alloc 2 [.agg [i64 0, u64 0#64]] rfl zr63 (by kernel_rfl) (.inl ⟨rfl, rfl⟩)) <| AR.keep [0, 22, 23, 4] rfl <| AR.op rfl (aop_store (e' := G.scc_place.av r451.1) rfl rfl rfl rfl rfl rfl sz63 rfl dt rfl) ?_
   refine AR.op rfl (aop_move (.inr rfl) rfl) <| AR.nil <| hK5 _ (AWP.weak (Weak.re (fr' := [(0, .ref 0 0 0), (4, .ref 9 0 0)]) (H' := ⟨10, [(0, (9, [.agg [i64 cgN_1, .sl (List.map u64 cgRows_2), .view 1 0 (List.map i64 cwhen439).length, .view 2 0 (List.map i64 clow440).length, .view 3 0 (List.map bl cdone441).length, i64 cmet442, .ref 4 0 0, .ref 6 0 0, .view 8 0 (List.map (slA i64) ccomponents445).length]])), (1, (1, List.map i64 cwhen439)), (2, (1, List.map i64 clow440)), (3, (1, List.map bl cdone441)), (4, (2, [.agg [i64 cmost_7, .view 5 0 (List.map G.scc_place.av r451.2.2).length]])), (5, (2, List.map G.scc_place.av r451.2.2)), (6, (2, [.agg [i64 cmost_8, .view 7 0 (List.map i64 copenl444).length]])), (7, (1, List.map i64 copenl444)), (8, (1, List.map (slA i64) ccomponents445)), (9, (2, [G.scc_place.av r451.1]))], []⟩) [(0, 0), (1, 1), (2, 2), (3, 3), (4, 4), (5, 10), (6, 6), (7, 7), (8, 8), (9, 11)] [] rfl rfl rfl (.cons rfl rfl (.one (.ag ⟨.sm, .sm, .view rfl, .view rfl, .view rfl, .sm, .ref rfl, .ref rfl, .view rfl, trivial⟩) rfl) dt (.cons rfl rfl (.same (by simp)) dt (.cons rfl rfl (.same (by simp)) dt (.cons rfl rfl (.same (by simp)) dt (.cons rfl rfl (.one (.ag ⟨.sm, .view rfl, trivial⟩) rfl) dt (.cons rfl rfl (.same (by simp)) dt (.cons rfl rfl (.one (.ag ⟨.sm, .view rfl, trivial⟩) rfl) dt (.cons rfl rfl (.same (by simp)) dt (.cons rfl rfl (.same (by simp)) dt (.cons rfl rfl (.one (.sm) rfl) dt trivial)))))))))) ⟨⟨_, rfl, .ref rfl⟩, ⟨_, rfl, .ref rfl⟩, trivial⟩) ?_)
   refine awp_seqJ (fun (p : (List Int) × G.scc_place) => (⟨[(0, .ref 0 0 0), (4, .ref 9 0 0)], ⟨10, [(0, (9, [.agg [i64 cgN_1, .sl (List.map u64 cgRows_2), .view 1 0 (List.map i64 cwhen439).length, .view 2 0 (List.map i64 p.1).length, .view 3 0 (List.map bl cdone441).length, i64 cmet442, .ref 4 0 0, .ref 6 0 0, .view 8 0 (List.map (slA i64) ccomponents445).length]])), (1, (1, List.map i64 cwhen439)), (2, (1, List.map i64 p.1)), (3, (1, List.map bl cdone441)), (4, (2, [.agg [i64 cmost_7, .view 5 0 (List.map G.scc_place.av r451.2.2).length]])), (5, (2, List.map G.scc_place.av r451.2.2)), (6, (2, [.agg [i64 cmost_8, .view 7 0 (List.map i64 copenl444).length]])), (7, (1, List.map i64 copenl444)), (8, (1, List.map (slA i64) ccomponents445)), (9, (2, [G.scc_place.av p.2]))], []⟩⟩ : St)) (fun (p : (List Int) × G.scc_place) => G.scc_walk_from__1_j1 cgN_1 cgRows_2 cmost_7 cmost_8 cwhen439 cdone441 cmet442 copenl444 ccomponents445 r451 p.1 p.2 = some o1) ?_ ?_
   ·rintro ⟨v498, v499⟩ h
    replace h : G.scc_walk_from__1_j1 cgN_1 cgRows_2 cmost_7 cmost_8 cwhen439 cdone441 cmet442 copenl444 ccomponents445 r451 v498 v499 = some o1 := h
    unfold G.scc_walk_from__1_j1 at h
    refine awp_reg rfl <| AR.op rfl (aop_move (.inl rfl) rfl) <| AR.op rfl (aop_field_ref rfl rfl rfl fd63_0 (by decide)) <| AR.op (r := i64 v499.node) rfl (aop_load_ref rfl rfl rfl rfl sz3 rfl) <| AR.keep [0, 83, 85] rfl ?_
    obtain ⟨r500, hr500, h⟩ := Sh.bind_some' h
    refine AR.op (r := .tuple []) rfl (aop_call3E (ok := NoId) (ys := [.ref 0 0 0, i64 v499.node]) (xs := [.ref 0 0 0, i64 v499.node]) (r' := .tuple []) (Hs := ⟨10, [(0, (9, [.agg [i64 cgN_1, .sl (List.map u64 cgRows_2), .view 1 0 (List.map i64 cwhen439).length, .view 2 0 (List.map i64 v498).length, .view 3 0 (List.map bl cdone441).length, i64 cmet442, .ref 4 0 0, .ref 6 0 0, .view 8 0 (List.map (slA i64) ccomponents445).length]])), (1, (1, List.map i64 cwhen439)), (2, (1, List.map i64 v498)), (3, (1, List.map bl cdone441)), (4, (2, [.agg [i64 cmost_7, .view 5 0 (List.map G.scc_place.av r451.2.2).length]])), (5, (2, List.map G.scc_place.av r451.2.2)), (6, (2, [.agg [i64 cmost_8, .view 7 0 (List.map i64 copenl444).length]])), (7, (1, List.map i64 copenl444)), (8, (1, List.map (slA i64) ccomponents445))], []⟩) (H' := ⟨19, [(0, (9, [.agg [i64 cgN_1, .sl (List.map u64 cgRows_2), .view 11 0 (List.map i64 cwhen439).length, .view 12 0 (List.map i64 r500.1).length, .view 13 0 (List.map bl r500.2.1).length, i64 cmet442, .ref 14 0 0, .ref 16 0 0, .view 18 0 (List.map (slA i64) r500.2.2.2).length]])), (9, (2, [G.scc_place.av v499])), (11, (1, List.map i64 cwhen439)), (12, (1, List.map i64 r500.1)), (13, (1, List.map bl r500.2.1)), (14, (2, [.agg [i64 cmost_7, .view 15 0 (List.map G.scc_place.av r451.2.2).length]])), (15, (2, List.map G.scc_place.av r451.2.2)), (16, (2, [.agg [i64 cmost_8, .view 17 0 (List.map i64 r500.2.2.1).length]])), (17, (1, List.map i64 r500.2.2.1)), (18, (1, List.map (slA i64) r500.2.2.2))], []⟩) (g := [(0, 0), (1, 1), (2, 2), (3, 3), (4, 4), (5, 6), (6, 8), (7, 5), (8, 7)]) (m := [(0, 0), (1, 11), (2, 12), (3, 13), (4, 14), (5, 15), (6, 16), (7, 17), (8, 18)]) (nw := []) (p := 1) (.func rfl rfl (scc_walk_leave__1_ok hT hr500).call) (scc_walk_leave__1_ok hT hr500) { next := rfl, part := ⟨rfl, rfl, rfl, rfl, rfl, rfl, rfl, rfl, rfl, trivial⟩, inj := rfl, lt := rfl, nwf := rfl, gin := rfl, held := .cons rfl rfl (.one (.ag ⟨.sm, .sm, .view rfl, .view rfl, .view rfl, .sm, .ref rfl, .ref rfl, .view rfl, trivial⟩) rfl) dt (.cons rfl rfl (.same (by simp)) dt (.cons rfl rfl (.same (by simp)) dt (.cons rfl rfl (.same (by simp)) dt (.cons rfl rfl (.one (.ag ⟨.sm, .view rfl, trivial⟩) rfl) dt (.cons rfl rfl (.one (.ag ⟨.sm, .view rfl, trivial⟩) rfl) dt (.cons rfl rfl (.same (by simp)) dt (.cons rfl rfl (.same (by simp)) dt (.cons rfl rfl (.same (by simp)) dt trivial)))))))), seen := ⟨⟨_, rfl, .ref rfl⟩, ⟨_, rfl, .sm⟩, trivial⟩, inlps := rfl, ple := rfl, map := rfl, next' := rfl, back := .new 0 rfl rfl (.one ⟨.sm, .sm, .view rfl, .view rfl, .view rfl, .sm, .ref rfl, .ref rfl, .view rfl, trivial⟩) (.kept rfl rfl (.new 1 rfl rfl (.same (by simp [AV.flat])) (.new 2 rfl rfl (.same (by simp [AV.flat])) (.new 3 rfl rfl (.same (by simp [AV.flat])) (.new 4 rfl rfl (.one ⟨.sm, .view rfl, trivial⟩) (.new 5 rfl rfl (.same (by simp [AV.flat, G.scc_place.av])) (.new 6 rfl rfl (.one ⟨.sm, .view rfl, trivial⟩) (.new 7 rfl rfl (.same (by simp [AV.flat])) (.new 8 rfl rfl (.same (by simp [AV.flat])) trivial))))))))), lps := .inl ⟨rfl, rfl⟩, mode := .inr ⟨fun _ h => h, rfl⟩, ren := .sm } rfl) <| AR.nil ?_
    replace h := Sh.next_eq h
    exact ⟨_, h, Weak.re [(0, 0), (1, 11), (2, 12), (3, 13), (4, 14), (5, 15), (6, 16), (7, 17), (8, 18)] [] rfl rfl rfl (.cons rfl rfl (.one (.ag ⟨.sm, .sm, .view rfl, .view rfl, .view rfl, .sm, .ref rfl, .ref rfl, .view rfl, trivial⟩) rfl) dt (.cons rfl rfl (.same (by simp)) dt (.cons rfl rfl (.same (by simp)) dt (.cons rfl rfl (.same (by simp)) dt (.cons rfl rfl (.one (.ag ⟨.sm, .view rfl, trivial⟩) rfl) dt (.cons rfl rfl (.same (by simp)) dt (.cons rfl rfl (.one (.ag ⟨.sm, .view rfl, trivial⟩) rfl) dt (.cons rfl rfl (.same (by simp)) dt (.cons rfl rfl (.same (by simp)) dt trivial))))))))) ⟨⟨_, rfl, .ref rfl⟩, trivial⟩⟩
   ·intro K6 hK6
    refine awp_block <| awp_iter (fun (p : (List Int) × G.scc_place) => G.scc_walk_from__1_b2 cgN_1 cgRows_2 cmost_7 cmost_8 cwhen439 cdone441 cmet442 copenl444 ccomponents445 r451 p.1 p.2) (fun (p : (List Int) × G.scc_place) => (⟨[(0, .ref 0 0 0), (4, .ref 9 0 0)], ⟨10, [(0, (9, [.agg [i64 cgN_1, .sl (List.map u64 cgRows_2), .view 1 0 (List.map i64 cwhen439).length, .view 2 0 (List.map i64 p.1).length, .view 3 0 (List.map bl cdone441).length, i64 cmet442, .ref 4 0 0, .ref 6 0 0, .view 8 0 (List.map (slA i64) ccomponents445).length]])), (1, (1, List.map i64 cwhen439)), (2, (1, List.map i64 p.1)), (3, (1, List.map bl cdone441)), (4, (2, [.agg [i64 cmost_7, .view 5 0 (List.map G.scc_place.av r451.2.2).length]])), (5, (2, List.map G.scc_place.av r451.2.2)), (6, (2, [.agg [i64 cmost_8, .view 7 0 (List.map i64 copenl444).length]])), (7, (1, List.map i64 copenl444)), (8, (1, List.map (slA i64) ccomponents445)), (9, (2, [G.scc_place.av p.2]))], []⟩⟩ : St)) h (Weak.kt [0, 4] rfl) ?_
    ·skip
     rintro ⟨clow531, p532⟩ o2 h hx2
     replace h : G.scc_walk_from__1_b2 cgN_1 cgRows_2 cmost_7 cmost_8 cwhen439 cdone441 cmet442 copenl444 ccomponents445 r451 clow531 p532 = some o2 := h
     unfold G.scc_walk_from__1_b2 at h
     refine awp_seqK fun K7 hK7 => awp_seqK fun K8 hK8 => awp_reg rfl <| AR.op rfl (aop_field_ref rfl rfl rfl fd63_1 (by decide)) <| AR.op (r := u64 p532.left) rfl (aop_load_ref rfl rfl rfl rfl sz35 rfl) <| AR.op (r := bl (decide (p532.left ≠ 0#64))) rfl (aop_neq64 (a := p532.left) (b := 0#64) rfl rfl rfl) <| AR.nil <| hK8 _ (AWP.weak (Weak.kt [0, 4, 26] rfl) ?_)
     refine awp_cond rfl (fun hb533 => ?_) (fun hb533 => ?_)
     ·replace h := Sh.if_t h hb533
      refine awp_skip <| hK7 _ (AWP.weak (Weak.kt [0, 4] rfl) ?_)
      refine awp_block <| awp_seqK fun K9 hK9 => awp_reg rfl <| AR.op rfl (aop_field_ref rfl rfl rfl fd63_1 (by decide)) <| AR.op (r := u64 p532.left) rfl (aop_load_ref rfl rfl rfl rfl sz35 rfl) ?_
      obtain ⟨r535, hr535, h⟩ := Sh.bind_some' h
      refine AR.op (r := i64 r535) rfl (aop_call1 rfl rfl (by simp) (bits_Least_ok hT hr535)) <| AR.keep [0, 4, 29] rfl <| AR.op rfl (aop_move (.inr rfl) rfl) <| AR.nil <| hK9 _ (AWP.weak (Weak.kt [0, 4, 6] rfl) ?_)
      refine awp_seqK fun K10 hK10 => awp_reg rfl <| AR.op rfl (aop_field_ref rfl rfl rfl fd63_1 (by decide)) <| AR.op (r := u64 p532.left) rfl (aop_load_ref rfl rfl rfl rfl sz35 rfl) <| AR.op rfl (aop_move (.inl rfl) rfl) <| AR.keep [0, 4, 6, 31, 32] rfl ?_
      obtain ⟨r537, hr537, h⟩ := Sh.bind_some' h
      refine AR.op (r := u64 r537) rfl (aop_call1 rfl rfl (by simp) (bits_Without_ok hT hr537)) <| AR.op rfl (aop_field_ref rfl rfl rfl fd63_1 (by decide)) <| AR.op rfl (aop_store (e' := .agg [i64 p532.node, u64 r537]) rfl rfl rfl rfl rfl rfl sz35 rfl dt rfl) <| AR.nil <| hK10 _ (AWP.weak (Weak.kt [0, 4, 6] rfl) ?_)
      refine awp_seqK fun K11 hK11 => awp_seqK fun K12 hK12 => awp_reg rfl <| AR.op rfl (aop_move (.inl rfl) rfl) <| AR.op (r := .ref 0 0 0) rfl (aop_nilCheck_ref rfl rfl rfl) <| AR.op rfl (aop_field_ref rfl rfl rfl fd67_1 (by decide)) <| AR.keep [0, 4, 6, 37] rfl <| AR.op (r := .view 1 0 (List.map i64 cwhen439).length) rfl (aop_load_ref rfl rfl rfl rfl sz25 rfl) ?_
      refine AR.op rfl (aop_move (.inl rfl) rfl) ?_
      obtain ⟨x544, hx544, h⟩ := Sh.bind_some' h
      obtain ⟨k545, hi545, hl545⟩ := Sh.idx_some hx544
      refine AR.op (r := .ref 1 k545 0) rfl (t_index_view i64 cwhen439 hi545 hl545 rfl rfl rfl rfl rfl el25 rfl) <| AR.keep [0, 4, 6, 40] rfl <| AR.op (r := i64 x544) rfl (t_load_el i64 cwhen439 hl545 rfl rfl rfl sz3 rfl) <| AR.op (r := bl (decide (x544 = 0))) rfl (aop_eql rfl rfl rfl) <| AR.nil <| hK12 _ (AWP.weak (Weak.kt [0, 4, 6, 42] rfl) ?_)
      refine awp_cond rfl (fun hb546 => ?_) (fun hb546 => ?_)
      ·replace h := Sh.if_t h hb546
       refine awp_seqK fun K13 hK13 => awp_any [(true, false), (false, false), (false, false), (false, false), (false, false), (false, true)] (by kernel_rfl) (by kernel_rfl) rfl ?_
       refine ARH.dry rfl (fun _ => aop_move (.inl rfl) rfl) <| ARH.op (r := .ref 0 0 0) rfl rfl (aop_nilCheck_ref rfl rfl rfl) <| ARH.op rfl rfl (aop_field_ref rfl rfl rfl fd67_5 (by decide)) <| ARH.keep [0, 4, 6, 45] rfl <| ARH.op (r := .ref 4 0 0) rfl rfl (aop_load_ref rfl rfl rfl rfl sz60 rfl) <| ARH.op (r := .agg [i64 p532.node, u64 r537]) rfl rfl (aop_load_ref rfl rfl rfl rfl sz63 rfl) ?_
       obtain ⟨r548, hr548, h⟩ := Sh.bind_some' h
       refine ARH.loud (r := bl r548.2) rfl rfl (aop_call3E (ok := NoId) (ys := [.ref 4 0 0, .agg [i64 p532.node, u64 r537]]) (xs := [.ref 0 0 0, G.scc_place.av (G.scc_place.mk p532.node r537)]) (r' := bl r548.2) (Hs := ⟨10, [(4, (2, [.agg [i64 cmost_7, .view 5 0 (List.map G.scc_place.av r451.2.2).length]])), (5, (2, List.map G.scc_place.av r451.2.2))], []⟩) (H' := ⟨12, [(0, (9, [.agg [i64 cgN_1, .sl (List.map u64 cgRows_2), .view 1 0 (List.map i64 cwhen439).length, .view 2 0 (List.map i64 clow531).length, .view 3 0 (List.map bl cdone441).length, i64 cmet442, .ref 4 0 0, .ref 6 0 0, .view 8 0 (List.map (slA i64) ccomponents445).length]])), (1, (1, List.map i64 cwhen439)), (2, (1, List.map i64 clow531)), (3, (1, List.map bl cdone441)), (4, (2, [.agg [i64 cmost_7, .view 11 0 (List.map G.scc_place.av r548.1).length]])), (6, (2, [.agg [i64 cmost_8, .view 7 0 (List.map i64 copenl444).length]])), (7, (1, List.map i64 copenl444)), (8, (1, List.map (slA i64) ccomponents445)), (9, (2, [.agg [i64 p532.node, u64 r537]])), (11, (2, List.map G.scc_place.av r548.1))], []⟩) (g := [(0, 4), (1, 5)]) (m := [(0, 4), (1, 11)]) (nw := []) (p := 1) (.func rfl rfl (stack_Stack_scc_place_Push__1_ok hT hr548).call) (stack_Stack_scc_place_Push__1_ok hT hr548) { next := rfl, part := ⟨rfl, rfl, trivial⟩, inj := rfl, lt := rfl, nwf := rfl, gin := rfl, held := .cons rfl rfl (.one (.ag ⟨.sm, .view rfl, trivial⟩) rfl) dt (.cons rfl rfl (.same (by simp)) dt trivial), seen := ⟨⟨_, rfl, .ref rfl⟩, ⟨.agg [i64 p532.node, u64 r537], rfl, .sm⟩, trivial⟩, inlps := rfl, ple := rfl, map := rfl, next' := rfl, back := .kept rfl rfl (.kept rfl rfl (.kept rfl rfl (.kept rfl rfl (.new 0 rfl rfl (.one ⟨.sm, .view rfl, trivial⟩) (.kept rfl rfl (.kept rfl rfl (.kept rfl rfl (.kept rfl rfl (.new 1 rfl rfl (.same (by simp [AV.flat, G.scc_place.av])) trivial))))))))), lps := .inl ⟨rfl, rfl⟩, mode := .inr ⟨fun _ h => h, rfl⟩, ren := .sm } rfl) <| ARH.nil <| hK13 _ (AWP.weak (Weak.re (fr' := [(0, .ref 0 0 0), (6, i64 r535)]) (H' := ⟨9, [(0, (9, [.agg [i64 cgN_1, .sl (List.map u64 cgRows_2), .view 1 0 (List.map i64 cwhen439).length, .view 2 0 (List.map i64 clow531).length, .view 3 0 (List.map bl cdone441).length, i64 cmet442, .ref 4 0 0, .ref 6 0 0, .view 8 0 (List.map (slA i64) ccomponents445).length]])), (1, (1, List.map i64 cwhen439)), (2, (1, List.map i64 clow531)), (3, (1, List.map bl cdone441)), (4, (2, [.agg [i64 cmost_7, .view 5 0 (List.map G.scc_place.av r548.1).length]])), (5, (2, List.map G.scc_place.av r548.1)), (6, (2, [.agg [i64 cmost_8, .view 7 0 (List.map i64 copenl444).length]])), (7, (1, List.map i64 copenl444)), (8, (1, List.map (slA i64) ccomponents445))], []⟩) [(0, 0), (1, 1), (2, 2), (3, 3), (4, 4), (5, 11), (6, 6), (7, 7), (8, 8)] [] rfl rfl rfl (.cons rfl rfl (.one (.ag ⟨.sm, .sm, .view rfl, .view rfl, .view rfl, .sm, .ref rfl, .ref rfl, .view rfl, trivial⟩) rfl) dt (.cons rfl rfl (.same (by simp)) dt (.cons rfl rfl (.same (by simp)) dt (.cons rfl rfl (.same (by simp)) dt (.cons rfl rfl (.one (.ag ⟨.sm, .view rfl, trivial⟩) rfl) dt (.cons rfl rfl (.same (by simp)) dt (.cons rfl rfl (.one (.ag ⟨.sm, .view rfl, trivial⟩) rfl) dt (.cons rfl rfl (.same (by simp)) dt (.cons rfl rfl (.same (by simp)) dt trivial))))))))) ⟨⟨_, rfl, .ref rfl⟩, .k, trivial⟩) ?_)
       refine awp_seqK fun K14 hK14 => awp_reg rfl <| AR.op rfl (aop_move (.inl rfl) rfl) <| AR.op rfl (aop_move (.inl rfl) rfl) ?_
       obtain ⟨r550, hr550, h⟩ := Sh.bind_some' h
       refine AR.op (r := .tuple []) rfl (aop_call3E (ok := NoId) (ys := [.ref 0 0 0, i64 r535]) (xs := [.ref 0 0 0, i64 r535]) (r' := .tuple []) (Hs := ⟨9, [(0, (9, [.agg [i64 cgN_1, .sl (List.map u64 cgRows_2), .view 1 0 (List.map i64 cwhen439).length, .view 2 0 (List.map i64 clow531).length, .view 3 0 (List.map bl cdone441).length, i64 cmet442, .ref 4 0 0, .ref 6 0 0, .view 8 0 (List.map (slA i64) ccomponents445).length]])), (1, (1, List.map i64 cwhen439)), (2, (1, List.map i64 clow531)), (3, (1, List.map bl cdone441)), (4, (2, [.agg [i64 cmost_7, .view 5 0 (List.map G.scc_place.av r548.1).length]])), (5, (2, List.map G.scc_place.av r548.1)), (6, (2, [.agg [i64 cmost_8, .view 7 0 (List.map i64 copenl444).length]])), (7, (1, List.map i64 copenl444)), (8, (1, List.map (slA i64) ccomponents445))], []⟩) (H' := ⟨18, [(0, (9, [.agg [i64 cgN_1, .sl (List.map u64 cgRows_2), .view 10 0 (List.map i64 (Sh.set cwhen439 r535 (w64 (cmet442 + 1)))).length, .view 11 0 (List.map i64 (Sh.set clow531 r535 (w64 (cmet442 + 1)))).length, .view 12 0 (List.map bl cdone441).length, i64 (w64 (cmet442 + 1)), .ref 13 0 0, .ref 14 0 0, .view 15 0 (List.map (slA i64) ccomponents445).length]])), (10, (1, List.map i64 (Sh.set cwhen439 r535 (w64 (cmet442 + 1))))), (11, (1, List.map i64 (Sh.set clow531 r535 (w64 (cmet442 + 1))))), (12, (1, List.map bl cdone441)), (13, (2, [.agg [i64 cmost_7, .view 16 0 (List.map G.scc_place.av r550.1).length]])), (14, (2, [.agg [i64 cmost_8, .view 17 0 (List.map i64 r550.2).length]])), (15, (1, List.map (slA i64) ccomponents445)), (16, (2, List.map G.scc_place.av r550.1)), (17, (1, List.map i64 r550.2))], []⟩) (g := [(0, 0), (1, 1), (2, 2), (3, 3), (4, 4), (5, 6), (6, 8), (7, 5), (8, 7)]) (m := [(0, 0), (1, 10), (2, 11), (3, 12), (4, 13), (5, 14), (6, 15), (7, 16), (8, 17)]) (nw := []) (p := 1) (.func rfl rfl (scc_walk_enter__1_ok hT hr550).call) (scc_walk_enter__1_ok hT hr550) { next := rfl, part := ⟨rfl, rfl, rfl, rfl, rfl, rfl, rfl, rfl, rfl, trivial⟩, inj := rfl, lt := rfl, nwf := rfl, gin := rfl, held := .cons rfl rfl (.one (.ag ⟨.sm, .sm, .view rfl, .view rfl, .view rfl, .sm, .ref rfl, .ref rfl, .view rfl, trivial⟩) rfl) dt (.cons rfl rfl (.same (by simp)) dt (.cons rfl rfl (.same (by simp)) dt (.cons rfl rfl (.same (by simp)) dt (.cons rfl rfl (.one (.ag ⟨.sm, .view rfl, trivial⟩) rfl) dt (.cons rfl rfl (.one (.ag ⟨.sm, .view rfl, trivial⟩) rfl) dt (.cons rfl rfl (.same (by simp)) dt (.cons rfl rfl (.same (by simp)) dt (.cons rfl rfl (.same (by simp)) dt trivial)))))))), seen := ⟨⟨_, rfl, .ref rfl⟩, ⟨_, rfl, .sm⟩, trivial⟩, inlps := rfl, ple := rfl, map := rfl, next' := rfl, back := .new 0 rfl rfl (.one ⟨.sm, .sm, .view rfl, .view rfl, .view rfl, .sm, .ref rfl, .ref rfl, .view rfl, trivial⟩) (.new 1 rfl rfl (.same (by simp [AV.flat])) (.new 2 rfl rfl (.same (by simp [AV.flat])) (.new 3 rfl rfl (.same (by simp [AV.flat])) (.new 4 rfl rfl (.one ⟨.sm, .view rfl, trivial⟩) (.new 5 rfl rfl (.one ⟨.sm, .view rfl, trivial⟩) (.new 6 rfl rfl (.same (by simp [AV.flat])) (.new 7 rfl rfl (.same (by simp [AV.flat, G.scc_place.av])) (.new 8 rfl rfl (.same (by simp [AV.flat])) trivial)))))))), lps := .inl ⟨rfl, rfl⟩, mode := .inr ⟨fun _ h => h, rfl⟩, ren := .sm } rfl) <| AR.nil <| hK14 _ (AWP.weak (Weak.re (fr' := [(0, .ref 0 0 0)]) (H' := ⟨9, [(0, (9, [.agg [i64 cgN_1, .sl (List.map u64 cgRows_2), .view 1 0 (List.map i64 (Sh.set cwhen439 r535 (w64 (cmet442 + 1)))).length, .view 2 0 (List.map i64 (Sh.set clow531 r535 (w64 (cmet442 + 1)))).length, .view 3 0 (List.map bl cdone441).length, i64 (w64 (cmet442 + 1)), .ref 4 0 0, .ref 6 0 0, .view 8 0 (List.map (slA i64) ccomponents445).length]])), (1, (1, List.map i64 (Sh.set cwhen439 r535 (w64 (cmet442 + 1))))), (2, (1, List.map i64 (Sh.set clow531 r535 (w64 (cmet442 + 1))))), (3, (1, List.map bl cdone441)), (4, (2, [.agg [i64 cmost_7, .view 5 0 (List.map G.scc_place.av r550.1).length]])), (5, (2, List.map G.scc_place.av r550.1)), (6, (2, [.agg [i64 cmost_8, .view 7 0 (List.map i64 r550.2).length]])), (7, (1, List.map i64 r550.2)), (8, (1, List.map (slA i64) ccomponents445))], []⟩) [(0, 0), (1, 10), (2, 11), (3, 12), (4, 13), (5, 16), (6, 14), (7, 17), (8, 15)] [] rfl rfl rfl (.cons rfl rfl (.one (.ag ⟨.sm, .sm, .view rfl, .view rfl, .view rfl, .sm, .ref rfl, .ref rfl, .view rfl, trivial⟩) rfl) dt (.cons rfl rfl (.same (by simp)) dt (.cons rfl rfl (.same (by simp)) dt (.cons rfl rfl (.same (by simp)) dt (.cons rfl rfl (.one (.ag ⟨.sm, .view rfl, trivial⟩) rfl) dt (.cons rfl rfl (.same (by simp)) dt (.cons rfl rfl (.one (.ag ⟨.sm, .view rfl, trivial⟩) rfl) dt (.cons rfl rfl (.same (by simp)) dt (.cons rfl rfl (.same (by simp)) dt trivial))))))))) ⟨⟨_, rfl, .ref rfl⟩, trivial⟩) ?_)
       refine awp_exit ?_
       replace h := Sh.exit_eq h hx2
       replace h := Sh.next_eq h
       exact ⟨_, h, Weak.kt [0] rfl⟩
      ·replace h := Sh.if_f h hb546
       refine awp_skip <| hK11 _ (AWP.weak (Weak.kt [0, 4, 6] rfl) ?_)
       refine awp_seqK fun K15 hK15 => awp_reg rfl <| AR.op rfl (aop_move (.inl rfl) rfl) <| AR.op (r := .ref 0 0 0) rfl (aop_nilCheck_ref rfl rfl rfl) <| AR.op rfl (aop_field_ref rfl rfl rfl fd67_3 (by decide)) <| AR.keep [0, 4, 6, 54] rfl <| AR.op (r := .view 3 0 (List.map bl cdone441).length) rfl (aop_load_ref rfl rfl rfl rfl sz59 rfl) <| AR.op rfl (aop_move (.inl rfl) rfl) ?_
       obtain ⟨x553, hx553, h⟩ := Sh.bind_some' h
       obtain ⟨k554, hi554, hl554⟩ := Sh.idx_some hx553
       refine AR.op (r := .ref 3 k554 0) rfl (t_index_view bl cdone441 hi554 hl554 rfl rfl rfl rfl rfl el59 rfl) <| AR.keep [0, 4, 6, 57] rfl <| AR.op (r := bl x553) rfl (t_load_el bl cdone441 hl554 rfl rfl rfl sz4 rfl) <| AR.op (r := bl (!x553)) rfl (aop_not rfl rfl) <| AR.nil <| hK15 _ (AWP.weak (Weak.kt [0, 4, 6, 59] rfl) ?_)
       refine awp_cond rfl (fun hb555 => ?_) (fun hb555 => ?_)
       ·replace h := Sh.if_t h hb555
        refine awp_any [(true, false), (false, false), (false, false), (false, false), (false, false), (false, false), (true, false), (false, false), (false, false), (false, false), (false, false), (false, false), (false, false), (false, false), (true, false), (false, false), (false, false), (false, false), (true, false), (false, false), (false, false), (true, false), (false, false), (false, true)] (by kernel_rfl) (by kernel_rfl) rfl ?_
        refine ARH.dry rfl (fun _ => aop_move (.inl rfl) rfl) <| ARH.op (r := .ref 0 0 0) rfl rfl (aop_nilCheck_ref rfl rfl rfl) <| ARH.op rfl rfl (aop_field_ref rfl rfl rfl fd67_2 (by decide)) <| ARH.keep [0, 4, 6, 62] rfl <| ARH.op (r := .view 2 0 (List.map i64 clow531).length) rfl rfl (aop_load_ref rfl rfl rfl rfl sz25 rfl) <| ARH.op rfl rfl (aop_field_ref rfl rfl rfl fd63_0 (by decide)) <| ARH.op (r := i64 p532.node) rfl rfl (aop_load_ref rfl rfl rfl rfl sz3 rfl) <| ARH.keep [0, 4, 6, 63, 65] rfl ?_
        refine ARH.dry rfl (fun _ => aop_move (.inl rfl) rfl) <| ARH.op (r := .ref 0 0 0) rfl rfl (aop_nilCheck_ref rfl rfl rfl) <| ARH.op rfl rfl (aop_field_ref rfl rfl rfl fd67_2 (by decide)) <| ARH.keep [0, 4, 6, 63, 65, 68] rfl <| ARH.op (r := .view 2 0 (List.map i64 clow531).length) rfl rfl (aop_load_ref rfl rfl rfl rfl sz25 rfl) <| ARH.op rfl rfl (aop_field_ref rfl rfl rfl fd63_0 (by decide)) <| ARH.op (r := i64 p532.node) rfl rfl (aop_load_ref rfl rfl rfl rfl sz3 rfl) <| ARH.keep [0, 4, 6, 63, 65, 69, 71] rfl ?_
        obtain ⟨x556, hx556, h⟩ := Sh.bind_some' h
        obtain ⟨k557, hi557, hl557⟩ := Sh.idx_some hx556
        refine ARH.op (r := .ref 2 k557 0) rfl rfl (t_index_view i64 clow531 hi557 hl557 rfl rfl rfl rfl rfl el25 rfl) <| ARH.op (r := i64 x556) rfl rfl (t_load_el i64 clow531 hl557 rfl rfl rfl sz3 rfl) <| ARH.dry rfl (fun _ => aop_move (.inl rfl) rfl) <| ARH.keep [0, 4, 6, 63, 65, 73, 74] rfl <| ARH.op (r := .ref 0 0 0) rfl rfl (aop_nilCheck_ref rfl rfl rfl) <| ARH.op rfl rfl (aop_field_ref rfl rfl rfl fd67_1 (by decide)) <| ARH.op (r := .view 1 0 (List.map i64 cwhen439).length) rfl rfl (aop_load_ref rfl rfl rfl rfl sz25 rfl) <| ARH.keep [0, 4, 6, 63, 65, 73, 77] rfl ?_
        refine ARH.dry rfl (fun _ => aop_move (.inl rfl) rfl) ?_
        obtain ⟨x558, hx558, h⟩ := Sh.bind_some' h
        obtain ⟨k559, hi559, hl559⟩ := Sh.idx_some hx558
        refine ARH.op (r := .ref 1 k559 0) rfl rfl (t_index_view i64 cwhen439 hi559 hl559 rfl rfl rfl rfl rfl el25 rfl) <| ARH.op (r := i64 x558) rfl rfl (t_load_el i64 cwhen439 hl559 rfl rfl rfl sz3 rfl) <| ARH.keep [0, 4, 63, 65, 73, 80] rfl <| ARH.dry (r := i64 (Sh.min x556 x558)) rfl (fun _ => aop_min2 rfl rfl rfl) ?_
        obtain ⟨x560, hx560, h⟩ := Sh.bind_some' h
        obtain ⟨k561, hi561, hl561⟩ := Sh.idx_some hx560
        refine ARH.op (r := .ref 2 k561 0) rfl rfl (t_index_view i64 clow531 hi561 hl561 rfl rfl rfl rfl rfl el25 rfl) <| ARH.loud rfl rfl (t_store_el i64 clow531 (Sh.min x556 x558) hi561 hl561 rfl rfl rfl rfl rfl sz3 rfl dt rfl) <| ARH.nil ?_
        replace h := Sh.next_eq h
        exact ⟨_, h, Weak.re [(0, 0), (1, 1), (2, 2), (3, 3), (4, 4), (5, 5), (6, 6), (7, 7), (8, 8), (9, 9)] [] rfl rfl rfl (.cons rfl rfl (.one (.ag ⟨.sm, .sm, .view rfl, .viewL rfl (by simp []), .view rfl, .sm, .ref rfl, .ref rfl, .view rfl, trivial⟩) rfl) dt (.cons rfl rfl (.same (by simp)) dt (.cons rfl rfl (.same (by simp)) dt (.cons rfl rfl (.same (by simp)) dt (.cons rfl rfl (.one (.ag ⟨.sm, .view rfl, trivial⟩) rfl) dt (.cons rfl rfl (.same (by simp)) dt (.cons rfl rfl (.one (.ag ⟨.sm, .view rfl, trivial⟩) rfl) dt (.cons rfl rfl (.same (by simp)) dt (.cons rfl rfl (.same (by simp)) dt (.cons rfl rfl (.one (.sm) rfl) dt trivial)))))))))) ⟨⟨_, rfl, .ref rfl⟩, ⟨_, rfl, .ref rfl⟩, trivial⟩⟩
       ·replace h := Sh.if_f h hb555
        refine awp_skip ?_
        replace h := Sh.next_eq h
        exact ⟨_, h, Weak.re [(0, 0), (1, 1), (2, 2), (3, 3), (4, 4), (5, 5), (6, 6), (7, 7), (8, 8), (9, 9)] [] rfl rfl rfl (.cons rfl rfl (.one (.ag ⟨.sm, .sm, .view rfl, .view rfl, .view rfl, .sm, .ref rfl, .ref rfl, .view rfl, trivial⟩) rfl) dt (.cons rfl rfl (.same (by simp)) dt (.cons rfl rfl (.same (by simp)) dt (.cons rfl rfl (.same (by simp)) dt (.cons rfl rfl (.one (.ag ⟨.sm, .view rfl, trivial⟩) rfl) dt (.cons rfl rfl (.same (by simp)) dt (.cons rfl rfl (.one (.ag ⟨.sm, .view rfl, trivial⟩) rfl) dt (.cons rfl rfl (.same (by simp)) dt (.cons rfl rfl (.same (by simp)) dt (.cons rfl rfl (.one (.sm) rfl) dt trivial)))))))))) ⟨⟨_, rfl, .ref rfl⟩, ⟨_, rfl, .ref rfl⟩, trivial⟩⟩
     ·replace h := Sh.if_f h hb533
      refine awp_exit ?_
      replace h := Sh.exit_eq h hx2
      exact hK6 (clow531, p532) _ h (Weak.kt [0, 4] rfl)
  ·replace h := Sh.if_f h hb449
   refine awp_exit ?_
   replace h := Sh.exit_eq h hx1
   obtain rfl := Option.some.inj h
   refine ⟨.inl rfl, .tuple [], rfl, ?_⟩
   exact Weak.re [(0, 0), (1, 1), (2, 2), (3, 3), (4, 4), (5, 6), (6, 8), (7, 5), (8, 7)] [] rfl rfl rfl (.cons rfl rfl (.one (.ag ⟨.sm, .sm, .view rfl, .view rfl, .view rfl, .sm, .ref rfl, .ref rfl, .view rfl, trivial⟩) rfl) dt (.cons rfl rfl (.same (by simp)) dt (.cons rfl rfl (.same (by simp)) dt (.cons rfl rfl (.same (by simp)) dt (.cons rfl rfl (.one (.ag ⟨.sm, .view rfl, trivial⟩) rfl) dt (.cons rfl rfl (.one (.ag ⟨.sm, .view rfl, trivial⟩) rfl) dt (.cons rfl rfl (.same (by simp)) dt (.cons rfl rfl (.same (by simp)) dt (.cons rfl rfl (.same (by simp)) dt trivial))))))))) ⟨⟨.tuple [], rfl, .tp trivial⟩, trivial⟩


theorem scc_Comps_own {W0 : World} (hT : Tab W0) {g_0 : G.graph_Graph} {r : (List (List Int))} (h : G.scc_Comps g_0 = some r) : Fun2 Tryd.prog W0 23 [G.graph_Graph.av g_0] (.view 0 0 (List.map (slA i64) r).length) ⟨1, [(0, (1, List.map (slA i64) r))], []⟩ := by
 refine fun2_of_awp Tryd.func23 rfl (by kernel_rfl) Tryd.ntmps23 (by simp) ?_
 unfold G.scc_Comps at h
 show AWP _ _ _ _ ⟨[(0, G.graph_Graph.av g_0)], .empty⟩ _
 refine awp_seqK fun K1 hK1 => awp_reg rfl <| AR.op (r := .ref 0 0 0) rfl (aop_box 2 [G.graph_Graph.av g_0] rfl rfl rfl (.inl ⟨rfl, rfl⟩)) <| AR.op rfl (aop_move (.inr rfl) rfl) <| AR.nil <| hK1 _ (AWP.weak (Weak.e (fr' := [(1, .pp [i64 g_0.N, .sl (List.map u64 g_0.Rows)] 0)]) (H' := .empty) ⟨⟨_, rfl, .frzA rfl rfl rfl rfl (by simp)⟩, trivial⟩) ?_)
 refine awp_seqK fun K2 hK2 => awp_seqK fun K3 hK3 => awp_reg rfl <| AR.op (r := G.graph_Graph.av g_0) rfl (aop_load_pp rfl rfl sz24 rfl) ?_
 obtain ⟨r57, hr57, h⟩ := Sh.bind_some' h
 refine AR.op (r := bl r57) rfl (aop_call1 rfl rfl (by simp) (graph_Right_ok hT hr57)) <| AR.op (r := bl (!r57)) rfl (aop_not rfl rfl) <| AR.nil <| hK3 _ (AWP.weak (Weak.kt [1, 7] rfl) ?_)
 refine awp_cond rfl (fun hb58 => ?_) (fun hb58 => ?_)
 ·replace h := Sh.if_t h hb58
  refine awp_seqK fun K4 hK4 => awp_reg rfl <| AR.op rfl (aop_move (.inr rfl) rfl) <| AR.nil <| hK4 _ (AWP.weak (Weak.kt [2] rfl) ?_)
  refine awp_ret ?_
  obtain rfl := Option.some.inj h
  refine ⟨.inr rfl, nilS, rfl, ?_⟩
  exact Weak.re [] [0] rfl rfl rfl (.fresh (by simp) dt trivial) ⟨⟨_, rfl, .nil (by simp)⟩, trivial⟩
 ·replace h := Sh.if_f h hb58
  refine awp_skip <| hK2 _ (AWP.weak (Weak.kt [1] rfl) ?_)
  refine awp_seqKW fun K5 hW5 hK5 => ?_
  refine awp_anyF [(true, false), (true, false), (true, false), (false, true), (true, false), (true, false), (false, true), (true, false), (true, false), (false, true), (true, false), (true, false), (true, false), (false, true), (true, false), (true, false), (true, false), (false, true), (false, true), (false, true), (true, false)] (some 0) (by kernel_rfl) (by kernel_rfl) rfl ?_
  obtain ⟨made64, hmade64, h⟩ := Sh.bind_some' h
  obtain ⟨made65, hmade65, h⟩ := Sh.bind_some' h
  obtain ⟨made66, hmade66, h⟩ := Sh.bind_some' h
  obtain ⟨r67, hr67, h⟩ := Sh.bind_some' h
  obtain ⟨r68, hr68, h⟩ := Sh.bind_some' h
  have hC69 : K5 ⟨[(1, .pp [i64 g_0.N, .sl (List.map u64 g_0.Rows)] 0), (3, .ref 0 0 0)], ⟨6, [(0, (9, [.agg [i64 g_0.N, .sl (List.map u64 g_0.Rows), .view 1 0 (List.map i64 made64).length, .view 2 0 (List.map i64 made65).length, .view 3 0 (List.map bl made66).length, i64 0, .ref 4 0 0, .ref 5 0 0, nilS]])), (1, (1, List.map i64 made64)), (2, (1, List.map i64 made65)), (3, (1, List.map bl made66)), (4, (2, [.agg [i64 (w64 (g_0.N + 1)), nilS]])), (5, (2, [.agg [i64 (w64 (g_0.N + 1)), nilS]]))], []⟩⟩ := by
   refine hK5 _ ?_
   refine awp_seqJ (fun (p : (List Int) × (List Int) × (List Bool) × Int × (List (List Int)) × G.stack_Stack_scc_place × G.stack_Stack_int) => (⟨[(3, .ref 0 0 0)], ⟨4, [(0, (9, [.agg [i64 g_0.N, .sl (List.map u64 g_0.Rows), .sl (List.map i64 p.1), .sl (List.map i64 p.2.1), .sl (List.map bl p.2.2.1), i64 p.2.2.2.1, .ref 1 0 0, .ref 2 0 0, .view 3 0 (List.map (slA i64) p.2.2.2.2.1).length]])), (1, (2, [G.stack_Stack_scc_place.av p.2.2.2.2.2.1])), (2, (2, [G.stack_Stack_int.av p.2.2.2.2.2.2])), (3, (1, List.map (slA i64) p.2.2.2.2.1))], []⟩⟩ : St)) (fun (p : (List Int) × (List Int) × (List Bool) × Int × (List (List Int)) × G.stack_Stack_scc_place × G.stack_Stack_int) => G.scc_Comps_j1 p.1 p.2.1 p.2.2.1 p.2.2.2.1 p.2.2.2.2.1 p.2.2.2.2.2.1 p.2.2.2.2.2.2 = some r) ?_ ?_
   ·rintro ⟨v116, v117, v118, v119, v120, v121, v122⟩ h
    replace h : G.scc_Comps_j1 v116 v117 v118 v119 v120 v121 v122 = some r := h
    unfold G.scc_Comps_j1 at h
    refine awp_seqK fun K6 hK6 => awp_reg rfl <| AR.op rfl (aop_move (.inl rfl) rfl) <| AR.op (r := .ref 0 0 0) rfl (aop_nilCheck_ref rfl rfl rfl) <| AR.op rfl (aop_field_ref rfl rfl rfl fd67_7 (by decide)) <| AR.keep [3, 47] rfl <| AR.op (r := .view 3 0 (List.map (slA i64) v120).length) rfl (aop_load_ref rfl rfl rfl rfl sz42 rfl) ?_
    obtain ⟨sorted125, hsorted125, h⟩ := Sh.bind_some' h
    have hlen126 := Sh.sortFirst_len hsorted125
    refine AR.op (r := .tuple []) rfl (aop_sortFirst sf48_49_50 v120 sorted125 hsorted125 rfl rfl rfl rfl rfl rfl) <| AR.nil <| hK6 _ (AWP.weak (Weak.re (fr' := [(3, .ref 0 0 0)]) (H' := ⟨4, [(0, (9, [.agg [i64 g_0.N, .sl (List.map u64 g_0.Rows), .sl (List.map i64 v116), .sl (List.map i64 v117), .sl (List.map bl v118), i64 v119, .ref 1 0 0, .ref 2 0 0, .view 3 0 (List.map (slA i64) sorted125).length]])), (1, (2, [G.stack_Stack_scc_place.av v121])), (2, (2, [G.stack_Stack_int.av v122])), (3, (1, List.map (slA i64) sorted125))], []⟩) [(0, 0), (1, 1), (2, 2), (3, 3)] [] rfl rfl rfl (.cons rfl rfl (.one (.ag ⟨.sm, .sm, .sm, .sm, .sm, .sm, .ref rfl, .ref rfl, .viewL rfl (by simp [hlen126]), trivial⟩) rfl) dt (.cons rfl rfl (.one (.sm) rfl) dt (.cons rfl rfl (.one (.sm) rfl) dt (.cons rfl rfl (.same (by simp)) dt trivial)))) ⟨⟨_, rfl, .ref rfl⟩, trivial⟩) ?_)
    refine awp_seqK fun K7 hK7 => awp_reg rfl <| AR.op rfl (aop_move (.inl rfl) rfl) <| AR.op (r := .ref 0 0 0) rfl (aop_nilCheck_ref rfl rfl rfl) <| AR.op rfl (aop_field_ref rfl rfl rfl fd67_7 (by decide)) <| AR.keep [52] rfl <| AR.op (r := .view 3 0 (List.map (slA i64) sorted125).length) rfl (aop_load_ref rfl rfl rfl rfl sz42 rfl) <| AR.op rfl (aop_move (.inr rfl) rfl) ?_
    refine AR.nil <| hK7 _ (AWP.weak (Weak.re (fr' := [(2, .view 0 0 (List.map (slA i64) sorted125).length)]) (H' := ⟨1, [(0, (1, List.map (slA i64) sorted125))], []⟩) [(0, 3)] [] rfl rfl rfl (.cons rfl rfl (.same (by simp)) dt trivial) ⟨⟨_, rfl, .view rfl⟩, trivial⟩) ?_)
    refine awp_ret ?_
    obtain rfl := Option.some.inj h
    refine ⟨.inr rfl, .view 0 0 (List.map (slA i64) sorted125).length, rfl, ?_⟩
    exact Weak.re [(0, 0)] [] rfl rfl rfl (.cons rfl rfl (.same (by simp)) dt trivial) ⟨⟨_, rfl, .view rfl⟩, trivial⟩
   ·intro K8 hK8
    refine awp_seqK fun K9 hK9 => awp_reg rfl <| AR.op rfl (aop_field_pp rfl rfl fd24_0 (by decide)) <| AR.op (r := i64 g_0.N) rfl (aop_load_pp rfl rfl sz3 rfl) <| AR.op rfl (aop_move (.inl rfl) rfl) <| AR.nil <| hK9 _ (AWP.weak (Weak.kt [3, 29, 30] rfl) ?_)
    refine awp_block <| awp_iter (fun (p : (List Int) × (List Int) × (List Bool) × Int × (List G.scc_place) × (List Int) × (List (List Int)) × Int) => G.scc_Comps_b1 g_0 p.1 p.2.1 p.2.2.1 p.2.2.2.1 p.2.2.2.2.1 p.2.2.2.2.2.1 p.2.2.2.2.2.2.1 p.2.2.2.2.2.2.2) (fun (p : (List Int) × (List Int) × (List Bool) × Int × (List G.scc_place) × (List Int) × (List (List Int)) × Int) => (⟨[(3, .ref 0 0 0), (29, i64 g_0.N), (30, i64 p.2.2.2.2.2.2.2)], ⟨9, [(0, (9, [.agg [i64 g_0.N, .sl (List.map u64 g_0.Rows), .view 1 0 (List.map i64 p.1).length, .view 2 0 (List.map i64 p.2.1).length, .view 3 0 (List.map bl p.2.2.1).length, i64 p.2.2.2.1, .ref 4 0 0, .ref 6 0 0, .view 8 0 (List.map (slA i64) p.2.2.2.2.2.2.1).length]])), (1, (1, List.map i64 p.1)), (2, (1, List.map i64 p.2.1)), (3, (1, List.map bl p.2.2.1)), (4, (2, [.agg [i64 (w64 (g_0.N + 1)), .view 5 0 (List.map G.scc_place.av p.2.2.2.2.1).length]])), (5, (2, List.map G.scc_place.av p.2.2.2.2.1)), (6, (2, [.agg [i64 (w64 (g_0.N + 1)), .view 7 0 (List.map i64 p.2.2.2.2.2.1).length]])), (7, (1, List.map i64 p.2.2.2.2.2.1)), (8, (1, List.map (slA i64) p.2.2.2.2.2.2.1))], []⟩⟩ : St)) h (Weak.re [(0, 0), (1, 1), (2, 2), (3, 3), (4, 4), (6, 5)] [5, 7, 8] rfl rfl rfl (.cons rfl rfl (.one (.ag ⟨.sm, .sm, .view rfl, .view rfl, .view rfl, .sm, .ref rfl, .ref rfl, .nil (by simp), trivial⟩) rfl) dt (.cons rfl rfl (.same (by simp)) dt (.cons rfl rfl (.same (by simp)) dt (.cons rfl rfl (.same (by simp)) dt (.cons rfl rfl (.one (.ag ⟨.sm, .nil (by simp), trivial⟩) rfl) dt (.fresh (by simp) dt (.cons rfl rfl (.one (.ag ⟨.sm, .nil (by simp), trivial⟩) rfl) dt (.fresh (by simp) dt (.fresh (by simp) dt trivial))))))))) ⟨⟨_, rfl, .ref rfl⟩, .k, .k, trivial⟩) ?_
    ·skip
     rintro ⟨wwhen155, wlow156, wdone157, wmet158, wcallsl159, wopenl160, wcomponents161, v162⟩ o1 h hx1
     replace h : G.scc_Comps_b1 g_0 wwhen155 wlow156 wdone157 wmet158 wcallsl159 wopenl160 wcomponents161 v162 = some o1 := h
     unfold G.scc_Comps_b1 at h
     refine awp_seqK fun K10 hK10 => awp_reg rfl <| AR.op rfl (aop_lss rfl rfl rfl) <| AR.nil <| hK10 _ ?_
     refine awp_seqK fun K11 hK11 => awp_cond rfl (fun hb163 => ?_) (fun hb163 => ?_)
     ·replace h := Sh.if_t h hb163
      refine awp_skip <| hK11 _ (AWP.weak (Weak.kt [3, 29, 30] rfl) ?_)
      refine awp_seqJ (fun (p : (List Int) × (List Int) × (List Bool) × Int × (List G.scc_place) × (List Int) × (List (List Int))) => (⟨[(3, .ref 0 0 0), (29, i64 g_0.N), (30, i64 v162)], ⟨9, [(0, (9, [.agg [i64 g_0.N, .sl (List.map u64 g_0.Rows), .view 1 0 (List.map i64 p.1).length, .view 2 0 (List.map i64 p.2.1).length, .view 3 0 (List.map bl p.2.2.1).length, i64 p.2.2.2.1, .ref 4 0 0, .ref 6 0 0, .view 8 0 (List.map (slA i64) p.2.2.2.2.2.2).length]])), (1, (1, List.map i64 p.1)), (2, (1, List.map i64 p.2.1)), (3, (1, List.map bl p.2.2.1)), (4, (2, [.agg [i64 (w64 (g_0.N + 1)), .view 5 0 (List.map G.scc_place.av p.2.2.2.2.1).length]])), (5, (2, List.map G.scc_place.av p.2.2.2.2.1)), (6, (2, [.agg [i64 (w64 (g_0.N + 1)), .view 7 0 (List.map i64 p.2.2.2.2.2.1).length]])), (7, (1, List.map i64 p.2.2.2.2.2.1)), (8, (1, List.map (slA i64) p.2.2.2.2.2.2))], []⟩⟩ : St)) (fun (p : (List Int) × (List Int) × (List Bool) × Int × (List G.scc_place) × (List Int) × (List (List Int))) => G.scc_Comps_j2 v162 p.1 p.2.1 p.2.2.1 p.2.2.2.1 p.2.2.2.2.1 p.2.2.2.2.2.1 p.2.2.2.2.2.2 = some o1) ?_ ?_
      ·rintro ⟨wwhen167, wlow168, wdone169, wmet170, wcallsl171, wopenl172, wcomponents173⟩ h
       replace h : G.scc_Comps_j2 v162 wwhen167 wlow168 wdone169 wmet170 wcallsl171 wopenl172 wcomponents173 = some o1 := h
       unfold G.scc_Comps_j2 at h
       refine awp_reg rfl <| AR.op rfl (aop_add rfl rfl rfl rfl) <| AR.op rfl (aop_move (.inl rfl) rfl) <| AR.nil ?_
       replace h := Sh.next_eq h
       exact ⟨_, h, Weak.kt [3, 29, 30] rfl⟩
      ·intro K12 hK12
       refine awp_block <| awp_seqK fun K13 hK13 => awp_reg rfl <| AR.op rfl (aop_move (.inl rfl) rfl) <| AR.op rfl (aop_move (.inr rfl) rfl) <| AR.nil <| hK13 _ (AWP.weak (Weak.kt [3, 29, 30, 4] rfl) ?_)
       refine awp_seqK fun K14 hK14 => awp_reg rfl <| AR.op rfl (aop_move (.inl rfl) rfl) <| AR.op (r := .ref 0 0 0) rfl (aop_nilCheck_ref rfl rfl rfl) <| AR.op rfl (aop_field_ref rfl rfl rfl fd67_1 (by decide)) <| AR.keep [3, 29, 30, 4, 35] rfl <| AR.op (r := .view 1 0 (List.map i64 wwhen155).length) rfl (aop_load_ref rfl rfl rfl rfl sz25 rfl) <| AR.op rfl (aop_move (.inl rfl) rfl) ?_
       obtain ⟨x176, hx176, h⟩ := Sh.bind_some' h
       obtain ⟨k177, hi177, hl177⟩ := Sh.idx_some hx176
       refine AR.op (r := .ref 1 k177 0) rfl (t_index_view i64 wwhen155 hi177 hl177 rfl rfl rfl rfl rfl el25 rfl) <| AR.keep [3, 29, 30, 4, 38] rfl <| AR.op (r := i64 x176) rfl (t_load_el i64 wwhen155 hl177 rfl rfl rfl sz3 rfl) <| AR.op (r := bl (decide (x176 = 0))) rfl (aop_eql rfl rfl rfl) <| AR.nil <| hK14 _ (AWP.weak (Weak.kt [3, 29, 30, 4, 40] rfl) ?_)
       refine awp_cond rfl (fun hb178 => ?_) (fun hb178 => ?_)
       ·replace h := Sh.if_t h hb178
        refine awp_reg rfl <| AR.op rfl (aop_move (.inl rfl) rfl) <| AR.op rfl (aop_move (.inl rfl) rfl) ?_
        obtain ⟨r179, hr179, h⟩ := Sh.bind_some' h
        refine AR.op (r := .tuple []) rfl (aop_call3E (ok := NoId) (ys := [.ref 0 0 0, i64 v162]) (xs := [.ref 0 0 0, i64 v162]) (r' := .tuple []) (Hs := ⟨9, [(0, (9, [.agg [i64 g_0.N, .sl (List.map u64 g_0.Rows), .view 1 0 (List.map i64 wwhen155).length, .view 2 0 (List.map i64 wlow156).length, .view 3 0 (List.map bl wdone157).length, i64 wmet158, .ref 4 0 0, .ref 6 0 0, .view 8 0 (List.map (slA i64) wcomponents161).length]])), (1, (1, List.map i64 wwhen155)), (2, (1, List.map i64 wlow156)), (3, (1, List.map bl wdone157)), (4, (2, [.agg [i64 (w64 (g_0.N + 1)), .view 5 0 (List.map G.scc_place.av wcallsl159).length]])), (5, (2, List.map G.scc_place.av wcallsl159)), (6, (2, [.agg [i64 (w64 (g_0.N + 1)), .view 7 0 (List.map i64 wopenl160).length]])), (7, (1, List.map i64 wopenl160)), (8, (1, List.map (slA i64) wcomponents161))], []⟩) (H' := ⟨18, [(0, (9, [.agg [i64 g_0.N, .sl (List.map u64 g_0.Rows), .view 10 0 (List.map i64 r179.1).length, .view 11 0 (List.map i64 r179.2.1).length, .view 12 0 (List.map bl r179.2.2.1).length, i64 r179.2.2.2.1, .ref 13 0 0, .ref 14 0 0, .view 15 0 (List.map (slA i64) r179.2.2.2.2.1).length]])), (10, (1, List.map i64 r179.1)), (11, (1, List.map i64 r179.2.1)), (12, (1, List.map bl r179.2.2.1)), (13, (2, [.agg [i64 (w64 (g_0.N + 1)), .view 16 0 (List.map G.scc_place.av r179.2.2.2.2.2.1).length]])), (14, (2, [.agg [i64 (w64 (g_0.N + 1)), .view 17 0 (List.map i64 r179.2.2.2.2.2.2).length]])), (15, (1, List.map (slA i64) r179.2.2.2.2.1)), (16, (2, List.map G.scc_place.av r179.2.2.2.2.2.1)), (17, (1, List.map i64 r179.2.2.2.2.2.2))], []⟩) (g := [(0, 0), (1, 1), (2, 2), (3, 3), (4, 4), (5, 6), (6, 8), (7, 5), (8, 7)]) (m := [(0, 0), (1, 10), (2, 11), (3, 12), (4, 13), (5, 14), (6, 15), (7, 16), (8, 17)]) (nw := []) (p := 1) (.func rfl rfl (scc_walk_from__1_ok hT hr179).call) (scc_walk_from__1_ok hT hr179) { next := rfl, part := ⟨rfl, rfl, rfl, rfl, rfl, rfl, rfl, rfl, rfl, trivial⟩, inj := rfl, lt := rfl, nwf := rfl, gin := rfl, held := .cons rfl rfl (.one (.ag ⟨.sm, .sm, .view rfl, .view rfl, .view rfl, .sm, .ref rfl, .ref rfl, .view rfl, trivial⟩) rfl) dt (.cons rfl rfl (.same (by simp)) dt (.cons rfl rfl (.same (by simp)) dt (.cons rfl rfl (.same (by simp)) dt (.cons rfl rfl (.one (.ag ⟨.sm, .view rfl, trivial⟩) rfl) dt (.cons rfl rfl (.one (.ag ⟨.sm, .view rfl, trivial⟩) rfl) dt (.cons rfl rfl (.same (by simp)) dt (.cons rfl rfl (.same (by simp)) dt (.cons rfl rfl (.same (by simp)) dt trivial)))))))), seen := ⟨⟨_, rfl, .ref rfl⟩, ⟨_, rfl, .sm⟩, trivial⟩, inlps := rfl, ple := rfl, map := rfl, next' := rfl, back := .new 0 rfl rfl (.one ⟨.sm, .sm, .view rfl, .view rfl, .view rfl, .sm, .ref rfl, .ref rfl, .view rfl, trivial⟩) (.new 1 rfl rfl (.same (by simp [AV.flat])) (.new 2 rfl rfl (.same (by simp [AV.flat])) (.new 3 rfl rfl (.same (by simp [AV.flat])) (.new 4 rfl rfl (.one ⟨.sm, .view rfl, trivial⟩) (.new 5 rfl rfl (.one ⟨.sm, .view rfl, trivial⟩) (.new 6 rfl rfl (.same (by simp [AV.flat])) (.new 7 rfl rfl (.same (by simp [AV.flat, G.scc_place.av])) (.new 8 rfl rfl (.same (by simp [AV.flat])) trivial)))))))), lps := .inl ⟨rfl, rfl⟩, mode := .inr ⟨fun _ h => h, rfl⟩, ren := .sm } rfl) <| AR.nil ?_
        exact hK12 (r179.1, r179.2.1, r179.2.2.1, r179.2.2.2.1, r179.2.2.2.2.2.1, r179.2.2.2.2.2.2, r179.2.2.2.2.1) _ h (Weak.re [(0, 0), (1, 10), (2, 11), (3, 12), (4, 13), (5, 16), (6, 14), (7, 17), (8, 15)] [] rfl rfl rfl (.cons rfl rfl (.one (.ag ⟨.sm, .sm, .view rfl, .view rfl, .view rfl, .sm, .ref rfl, .ref rfl, .view rfl, trivial⟩) rfl) dt (.cons rfl rfl (.same (by simp)) dt (.cons rfl rfl (.same (by simp)) dt (.cons rfl rfl (.same (by simp)) dt (.cons rfl rfl (.one (.ag ⟨.sm, .view rfl, trivial⟩) rfl) dt (.cons rfl rfl (.same (by simp)) dt (.cons rfl rfl (.one (.ag ⟨.sm, .view rfl, trivial⟩) rfl) dt (.cons rfl rfl (.same (by simp)) dt (.cons rfl rfl (.same (by simp)) dt trivial))))))))) ⟨⟨_, rfl, .ref rfl⟩, .k, .k, trivial⟩)
       ·replace h := Sh.if_f h hb178
        refine awp_skip ?_
        exact hK12 (wwhen155, wlow156, wdone157, wmet158, wcallsl159, wopenl160, wcomponents161) _ h (Weak.kt [3, 29, 30] rfl)
     ·replace h := Sh.if_f h hb163
      refine awp_exit ?_
      replace h := Sh.exit_eq h hx1
      exact hK8 (wwhen155, wlow156, wdone157, wmet158, wcomponents161, (G.stack_Stack_scc_place.mk (w64 (g_0.N + 1)) wcallsl159), (G.stack_Stack_int.mk (w64 (g_0.N + 1)) wopenl160)) _ h (Weak.re [(0, 0), (1, 4), (2, 6), (3, 8)] [] rfl rfl rfl (.cons rfl rfl (.one (.ag ⟨.sm, .sm, .lendAll rfl rfl (by simp), .lendAll rfl rfl (by simp), .lendAll rfl rfl (by simp), .sm, .ref rfl, .ref rfl, .view rfl, trivial⟩) rfl) dt (.cons rfl rfl (.one (.ag ⟨.sm, .lendAll rfl rfl (by simp), trivial⟩) rfl) dt (.cons rfl rfl (.one (.ag ⟨.sm, .lendAll rfl rfl (by simp), trivial⟩) rfl) dt (.cons rfl rfl (.same (by simp)) dt trivial)))) ⟨⟨_, rfl, .ref rfl⟩, trivial⟩)
  refine ARH.fork ?_
  refine AF.dry (r := G.graph_Graph.av g_0) 0 rfl (by kernel_rfl) rfl (fun _ => aop_load_pp rfl rfl sz24 rfl) ?_
  refine AF.dry 1 rfl (by kernel_rfl) rfl (fun _ => aop_field_pp rfl rfl fd24_0 (by decide)) ?_
  refine AF.dry (r := i64 g_0.N) 2 rfl (by kernel_rfl) rfl (fun _ => aop_load_pp rfl rfl sz3 rfl) ?_
  refine AF.keep [1, 8, 10] rfl ?_
  refine AF.dry 4 rfl (by kernel_rfl) rfl (fun _ => aop_field_pp rfl rfl fd24_0 (by decide)) ?_
  refine AF.dry (r := i64 g_0.N) 5 rfl (by kernel_rfl) rfl (fun _ => aop_load_pp rfl rfl sz3 rfl) ?_
  refine AF.dry 7 rfl (by kernel_rfl) rfl (fun _ => aop_field_pp rfl rfl fd24_0 (by decide)) ?_
  refine AF.keep [1, 8, 10, 13, 15] rfl ?_
  refine AF.dry (r := i64 g_0.N) 8 rfl (by kernel_rfl) rfl (fun _ => aop_load_pp rfl rfl sz3 rfl) ?_
  refine AF.dry 10 rfl (by kernel_rfl) rfl (fun _ => aop_field_pp rfl rfl fd24_0 (by decide)) ?_
  refine AF.dry (r := i64 g_0.N) 11 rfl (by kernel_rfl) rfl (fun _ => aop_load_pp rfl rfl sz3 rfl) ?_
  refine AF.keep [1, 8, 10, 13, 16, 19] rfl ?_
  refine AF.dry (r := i64 (w64 (g_0.N + 1))) 12 rfl (by kernel_rfl) rfl (fun _ => aop_add rfl rfl rfl rfl) ?_
  refine AF.dry 14 rfl (by kernel_rfl) rfl (fun _ => aop_field_pp rfl rfl fd24_0 (by decide)) ?_
  refine AF.dry (r := i64 g_0.N) 15 rfl (by kernel_rfl) rfl (fun _ => aop_load_pp rfl rfl sz3 rfl) ?_
  refine AF.keep [1, 8, 10, 13, 16, 20, 23] rfl ?_
  refine AF.dry (r := i64 (w64 (g_0.N + 1))) 16 rfl (by kernel_rfl) rfl (fun _ => aop_add rfl rfl rfl rfl) ?_
  refine AF.many 3 [6, 9, 13] (by kernel_rfl) ⟨?_, ?_, ?_, ?_, trivial⟩
  ·skip
   refine AF1.loud (r := .view 0 0 (List.map i64 made64).length) _ rfl rfl rfl (t_make i64 0 made64 hmade64 rfl rfl rfl el25 zv25 rfl rfl rfl) ?_
   refine AF.many 6 [9, 13] (by kernel_rfl) ⟨?_, ?_, ?_, trivial⟩
   ·skip
    refine AF1.loud (r := .view 1 0 (List.map i64 made65).length) _ rfl rfl rfl (t_make i64 0 made65 hmade65 rfl rfl rfl el25 zv25 rfl rfl rfl) ?_
    refine AF.keep [1, 8, 16, 20, 24, 11, 14] rfl ?_
    refine AF.many 9 [13] (by kernel_rfl) ⟨?_, ?_, trivial⟩
    ·skip
     refine AF1.loud (r := .view 2 0 (List.map bl made66).length) _ rfl rfl rfl (t_make bl false made66 hmade66 rfl rfl rfl el59 zv59 rfl rfl rfl) ?_
     refine AF.many 13 [] (by kernel_rfl) ⟨?_, trivial⟩
     ·skip
      refine AF1.loud (r := .ref 3 0 0) _ rfl rfl rfl (aop_newE (.func rfl rfl (stack_New_scc_place_ok hT hr67).call) (stack_New_scc_place_ok hT hr67) (by simp) (by simp [AV.flat])) ?_
      refine AF.many 17 [] (by kernel_rfl) ⟨?_, trivial⟩
      ·skip
       refine AF1.loud (r := .ref 4 0 0) _ rfl rfl rfl (aop_newE (.func rfl rfl (stack_Ints_ok hT hr68).call) (stack_Ints_ok hT hr68) (by simp) (by simp [AV.flat])) ?_
       refine AF.keep [1, 8, 11, 14, 17, 21, 25] rfl ?_
       refine AF.many 18 [] (by kernel_rfl) ⟨?_, trivial⟩
       ·skip
        refine AF1.loud (r := .agg [i64 g_0.N, .sl (List.map u64 g_0.Rows), .view 0 0 (List.map i64 made64).length, .view 1 0 (List.map i64 made65).length, .view 2 0 (List.map bl made66).length, i64 0, .ref 3 0 0, .ref 4 0 0, nilS]) _ rfl rfl rfl (aop_build rfl bd67 rfl rfl rfl) ?_
        refine AF.many 19 [] (by kernel_rfl) ⟨?_, trivial⟩
        ·skip
         refine AF1.loud (r := .ref 5 0 0) _ rfl rfl rfl (aop_box 9 [.agg [i64 g_0.N, .sl (List.map u64 g_0.Rows), .view 0 0 (List.map i64 made64).length, .view 1 0 (List.map i64 made65).length, .view 2 0 (List.map bl made66).length, i64 0, .ref 3 0 0, .ref 4 0 0, nilS]] rfl rfl rfl (.inl ⟨rfl, rfl⟩)) ?_
         refine AF.dry (r := .ref 5 0 0) 20 rfl (by kernel_rfl) rfl (fun _ => aop_move (.inr rfl) rfl) ?_
         refine AF.done (by kernel_rfl) ?_
         exact (fun w => hW5 _ _ w hC69) (Weak.re [(0, 5), (1, 0), (2, 1), (3, 2), (4, 3), (5, 4)] [] rfl rfl rfl (.cons rfl rfl (.one (.ag ⟨.sm, .sm, .view rfl, .view rfl, .view rfl, .sm, .ref rfl, .ref rfl, .sm, trivial⟩) rfl) dt (.cons rfl rfl (.same (by simp)) dt (.cons rfl rfl (.same (by simp)) dt (.cons rfl rfl (.same (by simp)) dt (.cons rfl rfl (.one (.sm) rfl) dt (.cons rfl rfl (.one (.sm) rfl) dt trivial)))))) ⟨.k, ⟨_, rfl, .ref rfl⟩, trivial⟩)
    ·skip
     refine AF1.loud (r := .ref 2 0 0) _ rfl rfl rfl (aop_newE (.func rfl rfl (stack_New_scc_place_ok hT hr67).call) (stack_New_scc_place_ok hT hr67) (by simp) (by simp [AV.flat])) ?_
     refine AF.many 9 [17] (by kernel_rfl) ⟨?_, ?_, trivial⟩
     ·skip
      refine AF1.loud (r := .view 3 0 (List.map bl made66).length) _ rfl rfl rfl (t_make bl false made66 hmade66 rfl rfl rfl el59 zv59 rfl rfl rfl) ?_
      refine AF.many 17 [] (by kernel_rfl) ⟨?_, trivial⟩
      ·skip
       refine AF1.loud (r := .ref 4 0 0) _ rfl rfl rfl (aop_newE (.func rfl rfl (stack_Ints_ok hT hr68).call) (stack_Ints_ok hT hr68) (by simp) (by simp [AV.flat])) ?_
       refine AF.keep [1, 8, 11, 14, 21, 17, 25] rfl ?_
       refine AF.many 18 [] (by kernel_rfl) ⟨?_, trivial⟩
       ·skip
        refine AF1.loud (r := .agg [i64 g_0.N, .sl (List.map u64 g_0.Rows), .view 0 0 (List.map i64 made64).length, .view 1 0 (List.map i64 made65).length, .view 3 0 (List.map bl made66).length, i64 0, .ref 2 0 0, .ref 4 0 0, nilS]) _ rfl rfl rfl (aop_build rfl bd67 rfl rfl rfl) ?_
        refine AF.many 19 [] (by kernel_rfl) ⟨?_, trivial⟩
        ·skip
         refine AF1.loud (r := .ref 5 0 0) _ rfl rfl rfl (aop_box 9 [.agg [i64 g_0.N, .sl (List.map u64 g_0.Rows), .view 0 0 (List.map i64 made64).length, .view 1 0 (List.map i64 made65).length, .view 3 0 (List.map bl made66).length, i64 0, .ref 2 0 0, .ref 4 0 0, nilS]] rfl rfl rfl (.inl ⟨rfl, rfl⟩)) ?_
         refine AF.dry (r := .ref 5 0 0) 20 rfl (by kernel_rfl) rfl (fun _ => aop_move (.inr rfl) rfl) ?_
         refine AF.done (by kernel_rfl) ?_
         exact (fun w => hW5 _ _ w hC69) (Weak.re [(0, 5), (1, 0), (2, 1), (3, 3), (4, 2), (5, 4)] [] rfl rfl rfl (.cons rfl rfl (.one (.ag ⟨.sm, .sm, .view rfl, .view rfl, .view rfl, .sm, .ref rfl, .ref rfl, .sm, trivial⟩) rfl) dt (.cons rfl rfl (.same (by simp)) dt (.cons rfl rfl (.same (by simp)) dt (.cons rfl rfl (.same (by simp)) dt (.cons rfl rfl (.one (.sm) rfl) dt (.cons rfl rfl (.one (.sm) rfl) dt trivial)))))) ⟨.k, ⟨_, rfl, .ref rfl⟩, trivial⟩)
     ·skip
      refine AF1.loud (r := .ref 3 0 0) _ rfl rfl rfl (aop_newE (.func rfl rfl (stack_Ints_ok hT hr68).call) (stack_Ints_ok hT hr68) (by simp) (by simp [AV.flat])) ?_
      refine AF.many 9 [] (by kernel_rfl) ⟨?_, trivial⟩
      ·skip
       refine AF1.loud (r := .view 4 0 (List.map bl made66).length) _ rfl rfl rfl (t_make bl false made66 hmade66 rfl rfl rfl el59 zv59 rfl rfl rfl) ?_
       refine AF.keep [1, 8, 11, 14, 21, 25, 17] rfl ?_
       refine AF.many 18 [] (by kernel_rfl) ⟨?_, trivial⟩
       ·skip
        refine AF1.loud (r := .agg [i64 g_0.N, .sl (List.map u64 g_0.Rows), .view 0 0 (List.map i64 made64).length, .view 1 0 (List.map i64 made65).length, .view 4 0 (List.map bl made66).length, i64 0, .ref 2 0 0, .ref 3 0 0, nilS]) _ rfl rfl rfl (aop_build rfl bd67 rfl rfl rfl) ?_
        refine AF.many 19 [] (by kernel_rfl) ⟨?_, trivial⟩
        ·skip
         refine AF1.loud (r := .ref 5 0 0) _ rfl rfl rfl (aop_box 9 [.agg [i64 g_0.N, .sl (List.map u64 g_0.Rows), .view 0 0 (List.map i64 made64).length, .view 1 0 (List.map i64 made65).length, .view 4 0 (List.map bl made66).length, i64 0, .ref 2 0 0, .ref 3 0 0, nilS]] rfl rfl rfl (.inl ⟨rfl, rfl⟩)) ?_
         refine AF.dry (r := .ref 5 0 0) 20 rfl (by kernel_rfl) rfl (fun _ => aop_move (.inr rfl) rfl) ?_
         refine AF.done (by kernel_rfl) ?_
         exact (fun w => hW5 _ _ w hC69) (Weak.re [(0, 5), (1, 0), (2, 1), (3, 4), (4, 2), (5, 3)] [] rfl rfl rfl (.cons rfl rfl (.one (.ag ⟨.sm, .sm, .view rfl, .view rfl, .view rfl, .sm, .ref rfl, .ref rfl, .sm, trivial⟩) rfl) dt (.cons rfl rfl (.same (by simp)) dt (.cons rfl rfl (.same (by simp)) dt (.cons rfl rfl (.same (by simp)) dt (.cons rfl rfl (.one (.sm) rfl) dt (.cons rfl rfl (.one (.sm) rfl) dt trivial)))))) ⟨.k, ⟨_, rfl, .ref rfl⟩, trivial⟩)
   ·skip
    refine AF1.loud (r := .view 1 0 (List.map bl made66).length) _ rfl rfl rfl (t_make bl false made66 hmade66 rfl rfl rfl el59 zv59 rfl rfl rfl) ?_
    refine AF.keep [1, 8, 13, 20, 24, 11, 17] rfl ?_
    refine AF.many 6 [13] (by kernel_rfl) ⟨?_, ?_, trivial⟩
    ·skip
     refine AF1.loud (r := .view 2 0 (List.map i64 made65).length) _ rfl rfl rfl (t_make i64 0 made65 hmade65 rfl rfl rfl el25 zv25 rfl rfl rfl) ?_
     refine AF.many 13 [] (by kernel_rfl) ⟨?_, trivial⟩
     ·skip
      refine AF1.loud (r := .ref 3 0 0) _ rfl rfl rfl (aop_newE (.func rfl rfl (stack_New_scc_place_ok hT hr67).call) (stack_New_scc_place_ok hT hr67) (by simp) (by simp [AV.flat])) ?_
      refine AF.many 17 [] (by kernel_rfl) ⟨?_, trivial⟩
      ·skip
       refine AF1.loud (r := .ref 4 0 0) _ rfl rfl rfl (aop_newE (.func rfl rfl (stack_Ints_ok hT hr68).call) (stack_Ints_ok hT hr68) (by simp) (by simp [AV.flat])) ?_
       refine AF.keep [1, 8, 11, 17, 14, 21, 25] rfl ?_
       refine AF.many 18 [] (by kernel_rfl) ⟨?_, trivial⟩
       ·skip
        refine AF1.loud (r := .agg [i64 g_0.N, .sl (List.map u64 g_0.Rows), .view 0 0 (List.map i64 made64).length, .view 2 0 (List.map i64 made65).length, .view 1 0 (List.map bl made66).length, i64 0, .ref 3 0 0, .ref 4 0 0, nilS]) _ rfl rfl rfl (aop_build rfl bd67 rfl rfl rfl) ?_
        refine AF.many 19 [] (by kernel_rfl) ⟨?_, trivial⟩
        ·skip
         refine AF1.loud (r := .ref 5 0 0) _ rfl rfl rfl (aop_box 9 [.agg [i64 g_0.N, .sl (List.map u64 g_0.Rows), .view 0 0 (List.map i64 made64).length, .view 2 0 (List.map i64 made65).length, .view 1 0 (List.map bl made66).length, i64 0, .ref 3 0 0, .ref 4 0 0, nilS]] rfl rfl rfl (.inl ⟨rfl, rfl⟩)) ?_
         refine AF.dry (r := .ref 5 0 0) 20 rfl (by kernel_rfl) rfl (fun _ => aop_move (.inr rfl) rfl) ?_
         refine AF.done (by kernel_rfl) ?_
         exact (fun w => hW5 _ _ w hC69) (Weak.re [(0, 5), (1, 0), (2, 2), (3, 1), (4, 3), (5, 4)] [] rfl rfl rfl (.cons rfl rfl (.one (.ag ⟨.sm, .sm, .view rfl, .view rfl, .view rfl, .sm, .ref rfl, .ref rfl, .sm, trivial⟩) rfl) dt (.cons rfl rfl (.same (by simp)) dt (.cons rfl rfl (.same (by simp)) dt (.cons rfl rfl (.same (by simp)) dt (.cons rfl rfl (.one (.sm) rfl) dt (.cons rfl rfl (.one (.sm) rfl) dt trivial)))))) ⟨.k, ⟨_, rfl, .ref rfl⟩, trivial⟩)
    ·skip
     refine AF1.loud (r := .ref 2 0 0) _ rfl rfl rfl (aop_newE (.func rfl rfl (stack_New_scc_place_ok hT hr67).call) (stack_New_scc_place_ok hT hr67) (by simp) (by simp [AV.flat])) ?_
     refine AF.many 6 [17] (by kernel_rfl) ⟨?_, ?_, trivial⟩
     ·skip
      refine AF1.loud (r := .view 3 0 (List.map i64 made65).length) _ rfl rfl rfl (t_make i64 0 made65 hmade65 rfl rfl rfl el25 zv25 rfl rfl rfl) ?_
      refine AF.many 17 [] (by kernel_rfl) ⟨?_, trivial⟩
      ·skip
       refine AF1.loud (r := .ref 4 0 0) _ rfl rfl rfl (aop_newE (.func rfl rfl (stack_Ints_ok hT hr68).call) (stack_Ints_ok hT hr68) (by simp) (by simp [AV.flat])) ?_
       refine AF.keep [1, 8, 11, 17, 21, 14, 25] rfl ?_
       refine AF.many 18 [] (by kernel_rfl) ⟨?_, trivial⟩
       ·skip
        refine AF1.loud (r := .agg [i64 g_0.N, .sl (List.map u64 g_0.Rows), .view 0 0 (List.map i64 made64).length, .view 3 0 (List.map i64 made65).length, .view 1 0 (List.map bl made66).length, i64 0, .ref 2 0 0, .ref 4 0 0, nilS]) _ rfl rfl rfl (aop_build rfl bd67 rfl rfl rfl) ?_
        refine AF.many 19 [] (by kernel_rfl) ⟨?_, trivial⟩
        ·skip
         refine AF1.loud (r := .ref 5 0 0) _ rfl rfl rfl (aop_box 9 [.agg [i64 g_0.N, .sl (List.map u64 g_0.Rows), .view 0 0 (List.map i64 made64).length, .view 3 0 (List.map i64 made65).length, .view 1 0 (List.map bl made66).length, i64 0, .ref 2 0 0, .ref 4 0 0, nilS]] rfl rfl rfl (.inl ⟨rfl, rfl⟩)) ?_
         refine AF.dry (r := .ref 5 0 0) 20 rfl (by kernel_rfl) rfl (fun _ => aop_move (.inr rfl) rfl) ?_
         refine AF.done (by kernel_rfl) ?_
         exact (fun w => hW5 _ _ w hC69) (Weak.re [(0, 5), (1, 0), (2, 3), (3, 1), (4, 2), (5, 4)] [] rfl rfl rfl (.cons rfl rfl (.one (.ag ⟨.sm, .sm, .view rfl, .view rfl, .view rfl, .sm, .ref rfl, .ref rfl, .sm, trivial⟩) rfl) dt (.cons rfl rfl (.same (by simp)) dt (.cons rfl rfl (.same (by simp)) dt (.cons rfl rfl (.same (by simp)) dt (.cons rfl rfl (.one (.sm) rfl) dt (.cons rfl rfl (.one (.sm) rfl) dt trivial)))))) ⟨.k, ⟨_, rfl, .ref rfl⟩, trivial⟩)
     ·skip
      refine AF1.loud (r := .ref 3 0 0) _ rfl rfl rfl (aop_newE (.func rfl rfl (stack_Ints_ok hT hr68).call) (stack_Ints_ok hT hr68) (by simp) (by simp [AV.flat])) ?_
      refine AF.many 6 [] (by kernel_rfl) ⟨?_, trivial⟩
      ·skip
       refine AF1.loud (r := .view 4 0 (List.map i64 made65).length) _ rfl rfl rfl (t_make i64 0 made65 hmade65 rfl rfl rfl el25 zv25 rfl rfl rfl) ?_
       refine AF.keep [1, 8, 11, 17, 21, 25, 14] rfl ?_
       refine AF.many 18 [] (by kernel_rfl) ⟨?_, trivial⟩
       ·skip
        refine AF1.loud (r := .agg [i64 g_0.N, .sl (List.map u64 g_0.Rows), .view 0 0 (List.map i64 made64).length, .view 4 0 (List.map i64 made65).length, .view 1 0 (List.map bl made66).length, i64 0, .ref 2 0 0, .ref 3 0 0, nilS]) _ rfl rfl rfl (aop_build rfl bd67 rfl rfl rfl) ?_
        refine AF.many 19 [] (by kernel_rfl) ⟨?_, trivial⟩
        ·skip
         refine AF1.loud (r := .ref 5 0 0) _ rfl rfl rfl (aop_box 9 [.agg [i64 g_0.N, .sl (List.map u64 g_0.Rows), .view 0 0 (List.map i64 made64).length, .view 4 0 (List.map i64 made65).length, .view 1 0 (List.map bl made66).length, i64 0, .ref 2 0 0, .ref 3 0 0, nilS]] rfl rfl rfl (.inl ⟨rfl, rfl⟩)) ?_
         refine AF.dry (r := .ref 5 0 0) 20 rfl (by kernel_rfl) rfl (fun _ => aop_move (.inr rfl) rfl) ?_
         refine AF.done (by kernel_rfl) ?_
         exact (fun w => hW5 _ _ w hC69) (Weak.re [(0, 5), (1, 0), (2, 4), (3, 1), (4, 2), (5, 3)] [] rfl rfl rfl (.cons rfl rfl (.one (.ag ⟨.sm, .sm, .view rfl, .view rfl, .view rfl, .sm, .ref rfl, .ref rfl, .sm, trivial⟩) rfl) dt (.cons rfl rfl (.same (by simp)) dt (.cons rfl rfl (.same (by simp)) dt (.cons rfl rfl (.same (by simp)) dt (.cons rfl rfl (.one (.sm) rfl) dt (.cons rfl rfl (.one (.sm) rfl) dt trivial)))))) ⟨.k, ⟨_, rfl, .ref rfl⟩, trivial⟩)
   ·skip
    refine AF1.loud (r := .ref 1 0 0) _ rfl rfl rfl (aop_newE (.func rfl rfl (stack_New_scc_place_ok hT hr67).call) (stack_New_scc_place_ok hT hr67) (by simp) (by simp [AV.flat])) ?_
    refine AF.keep [1, 8, 13, 16, 24, 11, 21] rfl ?_
    refine AF.many 6 [9, 17] (by kernel_rfl) ⟨?_, ?_, ?_, trivial⟩
    ·skip
     refine AF1.loud (r := .view 2 0 (List.map i64 made65).length) _ rfl rfl rfl (t_make i64 0 made65 hmade65 rfl rfl rfl el25 zv25 rfl rfl rfl) ?_
     refine AF.many 9 [17] (by kernel_rfl) ⟨?_, ?_, trivial⟩
     ·skip
      refine AF1.loud (r := .view 3 0 (List.map bl made66).length) _ rfl rfl rfl (t_make bl false made66 hmade66 rfl rfl rfl el59 zv59 rfl rfl rfl) ?_
      refine AF.many 17 [] (by kernel_rfl) ⟨?_, trivial⟩
      ·skip
       refine AF1.loud (r := .ref 4 0 0) _ rfl rfl rfl (aop_newE (.func rfl rfl (stack_Ints_ok hT hr68).call) (stack_Ints_ok hT hr68) (by simp) (by simp [AV.flat])) ?_
       refine AF.keep [1, 8, 11, 21, 14, 17, 25] rfl ?_
       refine AF.many 18 [] (by kernel_rfl) ⟨?_, trivial⟩
       ·skip
        refine AF1.loud (r := .agg [i64 g_0.N, .sl (List.map u64 g_0.Rows), .view 0 0 (List.map i64 made64).length, .view 2 0 (List.map i64 made65).length, .view 3 0 (List.map bl made66).length, i64 0, .ref 1 0 0, .ref 4 0 0, nilS]) _ rfl rfl rfl (aop_build rfl bd67 rfl rfl rfl) ?_
        refine AF.many 19 [] (by kernel_rfl) ⟨?_, trivial⟩
        ·skip
         refine AF1.loud (r := .ref 5 0 0) _ rfl rfl rfl (aop_box 9 [.agg [i64 g_0.N, .sl (List.map u64 g_0.Rows), .view 0 0 (List.map i64 made64).length, .view 2 0 (List.map i64 made65).length, .view 3 0 (List.map bl made66).length, i64 0, .ref 1 0 0, .ref 4 0 0, nilS]] rfl rfl rfl (.inl ⟨rfl, rfl⟩)) ?_
         refine AF.dry (r := .ref 5 0 0) 20 rfl (by kernel_rfl) rfl (fun _ => aop_move (.inr rfl) rfl) ?_
         refine AF.done (by kernel_rfl) ?_
         exact (fun w => hW5 _ _ w hC69) (Weak.re [(0, 5), (1, 0), (2, 2), (3, 3), (4, 1), (5, 4)] [] rfl rfl rfl (.cons rfl rfl (.one (.ag ⟨.sm, .sm, .view rfl, .view rfl, .view rfl, .sm, .ref rfl, .ref rfl, .sm, trivial⟩) rfl) dt (.cons rfl rfl (.same (by simp)) dt (.cons rfl rfl (.same (by simp)) dt (.cons rfl rfl (.same (by simp)) dt (.cons rfl rfl (.one (.sm) rfl) dt (.cons rfl rfl (.one (.sm) rfl) dt trivial)))))) ⟨.k, ⟨_, rfl, .ref rfl⟩, trivial⟩)
     ·skip
      refine AF1.loud (r := .ref 3 0 0) _ rfl rfl rfl (aop_newE (.func rfl rfl (stack_Ints_ok hT hr68).call) (stack_Ints_ok hT hr68) (by simp) (by simp [AV.flat])) ?_
      refine AF.many 9 [] (by kernel_rfl) ⟨?_, trivial⟩
      ·skip
       refine AF1.loud (r := .view 4 0 (List.map bl made66).length) _ rfl rfl rfl (t_make bl false made66 hmade66 rfl rfl rfl el59 zv59 rfl rfl rfl) ?_
       refine AF.keep [1, 8, 11, 21, 14, 25, 17] rfl ?_
       refine AF.many 18 [] (by kernel_rfl) ⟨?_, trivial⟩
       ·skip
        refine AF1.loud (r := .agg [i64 g_0.N, .sl (List.map u64 g_0.Rows), .view 0 0 (List.map i64 made64).length, .view 2 0 (List.map i64 made65).length, .view 4 0 (List.map bl made66).length, i64 0, .ref 1 0 0, .ref 3 0 0, nilS]) _ rfl rfl rfl (aop_build rfl bd67 rfl rfl rfl) ?_
        refine AF.many 19 [] (by kernel_rfl) ⟨?_, trivial⟩
        ·skip
         refine AF1.loud (r := .ref 5 0 0) _ rfl rfl rfl (aop_box 9 [.agg [i64 g_0.N, .sl (List.map u64 g_0.Rows), .view 0 0 (List.map i64 made64).length, .view 2 0 (List.map i64 made65).length, .view 4 0 (List.map bl made66).length, i64 0, .ref 1 0 0, .ref 3 0 0, nilS]] rfl rfl rfl (.inl ⟨rfl, rfl⟩)) ?_
         refine AF.dry (r := .ref 5 0 0) 20 rfl (by kernel_rfl) rfl (fun _ => aop_move (.inr rfl) rfl) ?_
         refine AF.done (by kernel_rfl) ?_
         exact (fun w => hW5 _ _ w hC69) (Weak.re [(0, 5), (1, 0), (2, 2), (3, 4), (4, 1), (5, 3)] [] rfl rfl rfl (.cons rfl rfl (.one (.ag ⟨.sm, .sm, .view rfl, .view rfl, .view rfl, .sm, .ref rfl, .ref rfl, .sm, trivial⟩) rfl) dt (.cons rfl rfl (.same (by simp)) dt (.cons rfl rfl (.same (by simp)) dt (.cons rfl rfl (.same (by simp)) dt (.cons rfl rfl (.one (.sm) rfl) dt (.cons rfl rfl (.one (.sm) rfl) dt trivial)))))) ⟨.k, ⟨_, rfl, .ref rfl⟩, trivial⟩)
    ·skip
     refine AF1.loud (r := .view 2 0 (List.map bl made66).length) _ rfl rfl rfl (t_make bl false made66 hmade66 rfl rfl rfl el59 zv59 rfl rfl rfl) ?_
     refine AF.many 6 [17] (by kernel_rfl) ⟨?_, ?_, trivial⟩
     ·skip
      refine AF1.loud (r := .view 3 0 (List.map i64 made65).length) _ rfl rfl rfl (t_make i64 0 made65 hmade65 rfl rfl rfl el25 zv25 rfl rfl rfl) ?_
      refine AF.many 17 [] (by kernel_rfl) ⟨?_, trivial⟩
      ·skip
       refine AF1.loud (r := .ref 4 0 0) _ rfl rfl rfl (aop_newE (.func rfl rfl (stack_Ints_ok hT hr68).call) (stack_Ints_ok hT hr68) (by simp) (by simp [AV.flat])) ?_
       refine AF.keep [1, 8, 11, 21, 17, 14, 25] rfl ?_
       refine AF.many 18 [] (by kernel_rfl) ⟨?_, trivial⟩
       ·skip
        refine AF1.loud (r := .agg [i64 g_0.N, .sl (List.map u64 g_0.Rows), .view 0 0 (List.map i64 made64).length, .view 3 0 (List.map i64 made65).length, .view 2 0 (List.map bl made66).length, i64 0, .ref 1 0 0, .ref 4 0 0, nilS]) _ rfl rfl rfl (aop_build rfl bd67 rfl rfl rfl) ?_
        refine AF.many 19 [] (by kernel_rfl) ⟨?_, trivial⟩
        ·skip
         refine AF1.loud (r := .ref 5 0 0) _ rfl rfl rfl (aop_box 9 [.agg [i64 g_0.N, .sl (List.map u64 g_0.Rows), .view 0 0 (List.map i64 made64).length, .view 3 0 (List.map i64 made65).length, .view 2 0 (List.map bl made66).length, i64 0, .ref 1 0 0, .ref 4 0 0, nilS]] rfl rfl rfl (.inl ⟨rfl, rfl⟩)) ?_
         refine AF.dry (r := .ref 5 0 0) 20 rfl (by kernel_rfl) rfl (fun _ => aop_move (.inr rfl) rfl) ?_
         refine AF.done (by kernel_rfl) ?_
         exact (fun w => hW5 _ _ w hC69) (Weak.re [(0, 5), (1, 0), (2, 3), (3, 2), (4, 1), (5, 4)] [] rfl rfl rfl (.cons rfl rfl (.one (.ag ⟨.sm, .sm, .view rfl, .view rfl, .view rfl, .sm, .ref rfl, .ref rfl, .sm, trivial⟩) rfl) dt (.cons rfl rfl (.same (by simp)) dt (.cons rfl rfl (.same (by simp)) dt (.cons rfl rfl (.same (by simp)) dt (.cons rfl rfl (.one (.sm) rfl) dt (.cons rfl rfl (.one (.sm) rfl) dt trivial)))))) ⟨.k, ⟨_, rfl, .ref rfl⟩, trivial⟩)
     ·skip
      refine AF1.loud (r := .ref 3 0 0) _ rfl rfl rfl (aop_newE (.func rfl rfl (stack_Ints_ok hT hr68).call) (stack_Ints_ok hT hr68) (by simp) (by simp [AV.flat])) ?_
      refine AF.many 6 [] (by kernel_rfl) ⟨?_, trivial⟩
      ·skip
       refine AF1.loud (r := .view 4 0 (List.map i64 made65).length) _ rfl rfl rfl (t_make i64 0 made65 hmade65 rfl rfl rfl el25 zv25 rfl rfl rfl) ?_
       refine AF.keep [1, 8, 11, 21, 17, 25, 14] rfl ?_
       refine AF.many 18 [] (by kernel_rfl) ⟨?_, trivial⟩
       ·skip
        refine AF1.loud (r := .agg [i64 g_0.N, .sl (List.map u64 g_0.Rows), .view 0 0 (List.map i64 made64).length, .view 4 0 (List.map i64 made65).length, .view 2 0 (List.map bl made66).length, i64 0, .ref 1 0 0, .ref 3 0 0, nilS]) _ rfl rfl rfl (aop_build rfl bd67 rfl rfl rfl) ?_
        refine AF.many 19 [] (by kernel_rfl) ⟨?_, trivial⟩
        ·skip
         refine AF1.loud (r := .ref 5 0 0) _ rfl rfl rfl (aop_box 9 [.agg [i64 g_0.N, .sl (List.map u64 g_0.Rows), .view 0 0 (List.map i64 made64).length, .view 4 0 (List.map i64 made65).length, .view 2 0 (List.map bl made66).length, i64 0, .ref 1 0 0, .ref 3 0 0, nilS]] rfl rfl rfl (.inl ⟨rfl, rfl⟩)) ?_
         refine AF.dry (r := .ref 5 0 0) 20 rfl (by kernel_rfl) rfl (fun _ => aop_move (.inr rfl) rfl) ?_
         refine AF.done (by kernel_rfl) ?_
         exact (fun w => hW5 _ _ w hC69) (Weak.re [(0, 5), (1, 0), (2, 4), (3, 2), (4, 1), (5, 3)] [] rfl rfl rfl (.cons rfl rfl (.one (.ag ⟨.sm, .sm, .view rfl, .view rfl, .view rfl, .sm, .ref rfl, .ref rfl, .sm, trivial⟩) rfl) dt (.cons rfl rfl (.same (by simp)) dt (.cons rfl rfl (.same (by simp)) dt (.cons rfl rfl (.same (by simp)) dt (.cons rfl rfl (.one (.sm) rfl) dt (.cons rfl rfl (.one (.sm) rfl) dt trivial)))))) ⟨.k, ⟨_, rfl, .ref rfl⟩, trivial⟩)
    ·skip
     refine AF1.loud (r := .ref 2 0 0) _ rfl rfl rfl (aop_newE (.func rfl rfl (stack_Ints_ok hT hr68).call) (stack_Ints_ok hT hr68) (by simp) (by simp [AV.flat])) ?_
     refine AF.many 6 [9] (by kernel_rfl) ⟨?_, ?_, trivial⟩
     ·skip
      refine AF1.loud (r := .view 3 0 (List.map i64 made65).length) _ rfl rfl rfl (t_make i64 0 made65 hmade65 rfl rfl rfl el25 zv25 rfl rfl rfl) ?_
      refine AF.many 9 [] (by kernel_rfl) ⟨?_, trivial⟩
      ·skip
       refine AF1.loud (r := .view 4 0 (List.map bl made66).length) _ rfl rfl rfl (t_make bl false made66 hmade66 rfl rfl rfl el59 zv59 rfl rfl rfl) ?_
       refine AF.keep [1, 8, 11, 21, 25, 14, 17] rfl ?_
       refine AF.many 18 [] (by kernel_rfl) ⟨?_, trivial⟩
       ·skip
        refine AF1.loud (r := .agg [i64 g_0.N, .sl (List.map u64 g_0.Rows), .view 0 0 (List.map i64 made64).length, .view 3 0 (List.map i64 made65).length, .view 4 0 (List.map bl made66).length, i64 0, .ref 1 0 0, .ref 2 0 0, nilS]) _ rfl rfl rfl (aop_build rfl bd67 rfl rfl rfl) ?_
        refine AF.many 19 [] (by kernel_rfl) ⟨?_, trivial⟩
        ·skip
         refine AF1.loud (r := .ref 5 0 0) _ rfl rfl rfl (aop_box 9 [.agg [i64 g_0.N, .sl (List.map u64 g_0.Rows), .view 0 0 (List.map i64 made64).length, .view 3 0 (List.map i64 made65).length, .view 4 0 (List.map bl made66).length, i64 0, .ref 1 0 0, .ref 2 0 0, nilS]] rfl rfl rfl (.inl ⟨rfl, rfl⟩)) ?_
         refine AF.dry (r := .ref 5 0 0) 20 rfl (by kernel_rfl) rfl (fun _ => aop_move (.inr rfl) rfl) ?_
         refine AF.done (by kernel_rfl) ?_
         exact (fun w => hW5 _ _ w hC69) (Weak.re [(0, 5), (1, 0), (2, 3), (3, 4), (4, 1), (5, 2)] [] rfl rfl rfl (.cons rfl rfl (.one (.ag ⟨.sm, .sm, .view rfl, .view rfl, .view rfl, .sm, .ref rfl, .ref rfl, .sm, trivial⟩) rfl) dt (.cons rfl rfl (.same (by simp)) dt (.cons rfl rfl (.same (by simp)) dt (.cons rfl rfl (.same (by simp)) dt (.cons rfl rfl (.one (.sm) rfl) dt (.cons rfl rfl (.one (.sm) rfl) dt trivial)))))) ⟨.k, ⟨_, rfl, .ref rfl⟩, trivial⟩)
     ·skip
      refine AF1.loud (r := .view 3 0 (List.map bl made66).length) _ rfl rfl rfl (t_make bl false made66 hmade66 rfl rfl rfl el59 zv59 rfl rfl rfl) ?_
      refine AF.many 6 [] (by kernel_rfl) ⟨?_, trivial⟩
      ·skip
       refine AF1.loud (r := .view 4 0 (List.map i64 made65).length) _ rfl rfl rfl (t_make i64 0 made65 hmade65 rfl rfl rfl el25 zv25 rfl rfl rfl) ?_
       refine AF.keep [1, 8, 11, 21, 25, 17, 14] rfl ?_
       refine AF.many 18 [] (by kernel_rfl) ⟨?_, trivial⟩
       ·skip
        refine AF1.loud (r := .agg [i64 g_0.N, .sl (List.map u64 g_0.Rows), .view 0 0 (List.map i64 made64).length, .view 4 0 (List.map i64 made65).length, .view 3 0 (List.map bl made66).length, i64 0, .ref 1 0 0, .ref 2 0 0, nilS]) _ rfl rfl rfl (aop_build rfl bd67 rfl rfl rfl) ?_
        refine AF.many 19 [] (by kernel_rfl) ⟨?_, trivial⟩
        ·skip
         refine AF1.loud (r := .ref 5 0 0) _ rfl rfl rfl (aop_box 9 [.agg [i64 g_0.N, .sl (List.map u64 g_0.Rows), .view 0 0 (List.map i64 made64).length, .view 4 0 (List.map i64 made65).length, .view 3 0 (List.map bl made66).length, i64 0, .ref 1 0 0, .ref 2 0 0, nilS]] rfl rfl rfl (.inl ⟨rfl, rfl⟩)) ?_
         refine AF.dry (r := .ref 5 0 0) 20 rfl (by kernel_rfl) rfl (fun _ => aop_move (.inr rfl) rfl) ?_
         refine AF.done (by kernel_rfl) ?_
         exact (fun w => hW5 _ _ w hC69) (Weak.re [(0, 5), (1, 0), (2, 4), (3, 3), (4, 1), (5, 2)] [] rfl rfl rfl (.cons rfl rfl (.one (.ag ⟨.sm, .sm, .view rfl, .view rfl, .view rfl, .sm, .ref rfl, .ref rfl, .sm, trivial⟩) rfl) dt (.cons rfl rfl (.same (by simp)) dt (.cons rfl rfl (.same (by simp)) dt (.cons rfl rfl (.same (by simp)) dt (.cons rfl rfl (.one (.sm) rfl) dt (.cons rfl rfl (.one (.sm) rfl) dt trivial)))))) ⟨.k, ⟨_, rfl, .ref rfl⟩, trivial⟩)
  ·skip
   refine AF1.loud (r := .view 0 0 (List.map i64 made65).length) _ rfl rfl rfl (t_make i64 0 made65 hmade65 rfl rfl rfl el25 zv25 rfl rfl rfl) ?_
   refine AF.many 3 [9, 13] (by kernel_rfl) ⟨?_, ?_, ?_, trivial⟩
   ·skip
    refine AF1.loud (r := .view 1 0 (List.map i64 made64).length) _ rfl rfl rfl (t_make i64 0 made64 hmade64 rfl rfl rfl el25 zv25 rfl rfl rfl) ?_
    refine AF.keep [1, 8, 16, 20, 24, 14, 11] rfl ?_
    refine AF.many 9 [13] (by kernel_rfl) ⟨?_, ?_, trivial⟩
    ·skip
     refine AF1.loud (r := .view 2 0 (List.map bl made66).length) _ rfl rfl rfl (t_make bl false made66 hmade66 rfl rfl rfl el59 zv59 rfl rfl rfl) ?_
     refine AF.many 13 [] (by kernel_rfl) ⟨?_, trivial⟩
     ·skip
      refine AF1.loud (r := .ref 3 0 0) _ rfl rfl rfl (aop_newE (.func rfl rfl (stack_New_scc_place_ok hT hr67).call) (stack_New_scc_place_ok hT hr67) (by simp) (by simp [AV.flat])) ?_
      refine AF.many 17 [] (by kernel_rfl) ⟨?_, trivial⟩
      ·skip
       refine AF1.loud (r := .ref 4 0 0) _ rfl rfl rfl (aop_newE (.func rfl rfl (stack_Ints_ok hT hr68).call) (stack_Ints_ok hT hr68) (by simp) (by simp [AV.flat])) ?_
       refine AF.keep [1, 8, 14, 11, 17, 21, 25] rfl ?_
       refine AF.many 18 [] (by kernel_rfl) ⟨?_, trivial⟩
       ·skip
        refine AF1.loud (r := .agg [i64 g_0.N, .sl (List.map u64 g_0.Rows), .view 1 0 (List.map i64 made64).length, .view 0 0 (List.map i64 made65).length, .view 2 0 (List.map bl made66).length, i64 0, .ref 3 0 0, .ref 4 0 0, nilS]) _ rfl rfl rfl (aop_build rfl bd67 rfl rfl rfl) ?_
        refine AF.many 19 [] (by kernel_rfl) ⟨?_, trivial⟩
        ·skip
         refine AF1.loud (r := .ref 5 0 0) _ rfl rfl rfl (aop_box 9 [.agg [i64 g_0.N, .sl (List.map u64 g_0.Rows), .view 1 0 (List.map i64 made64).length, .view 0 0 (List.map i64 made65).length, .view 2 0 (List.map bl made66).length, i64 0, .ref 3 0 0, .ref 4 0 0, nilS]] rfl rfl rfl (.inl ⟨rfl, rfl⟩)) ?_
         refine AF.dry (r := .ref 5 0 0) 20 rfl (by kernel_rfl) rfl (fun _ => aop_move (.inr rfl) rfl) ?_
         refine AF.done (by kernel_rfl) ?_
         exact (fun w => hW5 _ _ w hC69) (Weak.re [(0, 5), (1, 1), (2, 0), (3, 2), (4, 3), (5, 4)] [] rfl rfl rfl (.cons rfl rfl (.one (.ag ⟨.sm, .sm, .view rfl, .view rfl, .view rfl, .sm, .ref rfl, .ref rfl, .sm, trivial⟩) rfl) dt (.cons rfl rfl (.same (by simp)) dt (.cons rfl rfl (.same (by simp)) dt (.cons rfl rfl (.same (by simp)) dt (.cons rfl rfl (.one (.sm) rfl) dt (.cons rfl rfl (.one (.sm) rfl) dt trivial)))))) ⟨.k, ⟨_, rfl, .ref rfl⟩, trivial⟩)
    ·skip
     refine AF1.loud (r := .ref 2 0 0) _ rfl rfl rfl (aop_newE (.func rfl rfl (stack_New_scc_place_ok hT hr67).call) (stack_New_scc_place_ok hT hr67) (by simp) (by simp [AV.flat])) ?_
     refine AF.many 9 [17] (by kernel_rfl) ⟨?_, ?_, trivial⟩
     ·skip
      refine AF1.loud (r := .view 3 0 (List.map bl made66).length) _ rfl rfl rfl (t_make bl false made66 hmade66 rfl rfl rfl el59 zv59 rfl rfl rfl) ?_
      refine AF.many 17 [] (by kernel_rfl) ⟨?_, trivial⟩
      ·skip
       refine AF1.loud (r := .ref 4 0 0) _ rfl rfl rfl (aop_newE (.func rfl rfl (stack_Ints_ok hT hr68).call) (stack_Ints_ok hT hr68) (by simp) (by simp [AV.flat])) ?_
       refine AF.keep [1, 8, 14, 11, 21, 17, 25] rfl ?_
       refine AF.many 18 [] (by kernel_rfl) ⟨?_, trivial⟩
       ·skip
        refine AF1.loud (r := .agg [i64 g_0.N, .sl (List.map u64 g_0.Rows), .view 1 0 (List.map i64 made64).length, .view 0 0 (List.map i64 made65).length, .view 3 0 (List.map bl made66).length, i64 0, .ref 2 0 0, .ref 4 0 0, nilS]) _ rfl rfl rfl (aop_build rfl bd67 rfl rfl rfl) ?_
        refine AF.many 19 [] (by kernel_rfl) ⟨?_, trivial⟩
        ·skip
         refine AF1.loud (r := .ref 5 0 0) _ rfl rfl rfl (aop_box 9 [.agg [i64 g_0.N, .sl (List.map u64 g_0.Rows), .view 1 0 (List.map i64 made64).length, .view 0 0 (List.map i64 made65).length, .view 3 0 (List.map bl made66).length, i64 0, .ref 2 0 0, .ref 4 0 0, nilS]] rfl rfl rfl (.inl ⟨rfl, rfl⟩)) ?_
         refine AF.dry (r := .ref 5 0 0) 20 rfl (by kernel_rfl) rfl (fun _ => aop_move (.inr rfl) rfl) ?_
         refine AF.done (by kernel_rfl) ?_
         exact (fun w => hW5 _ _ w hC69) (Weak.re [(0, 5), (1, 1), (2, 0), (3, 3), (4, 2), (5, 4)] [] rfl rfl rfl (.cons rfl rfl (.one (.ag ⟨.sm, .sm, .view rfl, .view rfl, .view rfl, .sm, .ref rfl, .ref rfl, .sm, trivial⟩) rfl) dt (.cons rfl rfl (.same (by simp)) dt (.cons rfl rfl (.same (by simp)) dt (.cons rfl rfl (.same (by simp)) dt (.cons rfl rfl (.one (.sm) rfl) dt (.cons rfl rfl (.one (.sm) rfl) dt trivial)))))) ⟨.k, ⟨_, rfl, .ref rfl⟩, trivial⟩)
     ·skip
      refine AF1.loud (r := .ref 3 0 0) _ rfl rfl rfl (aop_newE (.func rfl rfl (stack_Ints_ok hT hr68).call) (stack_Ints_ok hT hr68) (by simp) (by simp [AV.flat])) ?_
      refine AF.many 9 [] (by kernel_rfl) ⟨?_, trivial⟩
      ·skip
       refine AF1.loud (r := .view 4 0 (List.map bl made66).length) _ rfl rfl rfl (t_make bl false made66 hmade66 rfl rfl rfl el59 zv59 rfl rfl rfl) ?_
       refine AF.keep [1, 8, 14, 11, 21, 25, 17] rfl ?_
       refine AF.many 18 [] (by kernel_rfl) ⟨?_, trivial⟩
       ·skip
        refine AF1.loud (r := .agg [i64 g_0.N, .sl (List.map u64 g_0.Rows), .view 1 0 (List.map i64 made64).length, .view 0 0 (List.map i64 made65).length, .view 4 0 (List.map bl made66).length, i64 0, .ref 2 0 0, .ref 3 0 0, nilS]) _ rfl rfl rfl (aop_build rfl bd67 rfl rfl rfl) ?_
        refine AF.many 19 [] (by kernel_rfl) ⟨?_, trivial⟩
        ·skip
         refine AF1.loud (r := .ref 5 0 0) _ rfl rfl rfl (aop_box 9 [.agg [i64 g_0.N, .sl (List.map u64 g_0.Rows), .view 1 0 (List.map i64 made64).length, .view 0 0 (List.map i64 made65).length, .view 4 0 (List.map bl made66).length, i64 0, .ref 2 0 0, .ref 3 0 0, nilS]] rfl rfl rfl (.inl ⟨rfl, rfl⟩)) ?_
         refine AF.dry (r := .ref 5 0 0) 20 rfl (by kernel_rfl) rfl (fun _ => aop_move (.inr rfl) rfl) ?_
         refine AF.done (by kernel_rfl) ?_
         exact (fun w => hW5 _ _ w hC69) (Weak.re [(0, 5), (1, 1), (2, 0), (3, 4), (4, 2), (5, 3)] [] rfl rfl rfl (.cons rfl rfl (.one (.ag ⟨.sm, .sm, .view rfl, .view rfl, .view rfl, .sm, .ref rfl, .ref rfl, .sm, trivial⟩) rfl) dt (.cons rfl rfl (.same (by simp)) dt (.cons rfl rfl (.same (by simp)) dt (.cons rfl rfl (.same (by simp)) dt (.cons rfl rfl (.one (.sm) rfl) dt (.cons rfl rfl (.one (.sm) rfl) dt trivial)))))) ⟨.k, ⟨_, rfl, .ref rfl⟩, trivial⟩)
   ·skip
    refine AF1.loud (r := .view 1 0 (List.map bl made66).length) _ rfl rfl rfl (t_make bl false made66 hmade66 rfl rfl rfl el59 zv59 rfl rfl rfl) ?_
    refine AF.keep [1, 8, 10, 20, 24, 14, 17] rfl ?_
    refine AF.many 3 [13] (by kernel_rfl) ⟨?_, ?_, trivial⟩
    ·skip
     refine AF1.loud (r := .view 2 0 (List.map i64 made64).length) _ rfl rfl rfl (t_make i64 0 made64 hmade64 rfl rfl rfl el25 zv25 rfl rfl rfl) ?_
     refine AF.many 13 [] (by kernel_rfl) ⟨?_, trivial⟩
     ·skip
      refine AF1.loud (r := .ref 3 0 0) _ rfl rfl rfl (aop_newE (.func rfl rfl (stack_New_scc_place_ok hT hr67).call) (stack_New_scc_place_ok hT hr67) (by simp) (by simp [AV.flat])) ?_
      refine AF.many 17 [] (by kernel_rfl) ⟨?_, trivial⟩
      ·skip
       refine AF1.loud (r := .ref 4 0 0) _ rfl rfl rfl (aop_newE (.func rfl rfl (stack_Ints_ok hT hr68).call) (stack_Ints_ok hT hr68) (by simp) (by simp [AV.flat])) ?_
       refine AF.keep [1, 8, 14, 17, 11, 21, 25] rfl ?_
       refine AF.many 18 [] (by kernel_rfl) ⟨?_, trivial⟩
       ·skip
        refine AF1.loud (r := .agg [i64 g_0.N, .sl (List.map u64 g_0.Rows), .view 2 0 (List.map i64 made64).length, .view 0 0 (List.map i64 made65).length, .view 1 0 (List.map bl made66).length, i64 0, .ref 3 0 0, .ref 4 0 0, nilS]) _ rfl rfl rfl (aop_build rfl bd67 rfl rfl rfl) ?_
        refine AF.many 19 [] (by kernel_rfl) ⟨?_, trivial⟩
        ·skip
         refine AF1.loud (r := .ref 5 0 0) _ rfl rfl rfl (aop_box 9 [.agg [i64 g_0.N, .sl (List.map u64 g_0.Rows), .view 2 0 (List.map i64 made64).length, .view 0 0 (List.map i64 made65).length, .view 1 0 (List.map bl made66).length, i64 0, .ref 3 0 0, .ref 4 0 0, nilS]] rfl rfl rfl (.inl ⟨rfl, rfl⟩)) ?_
         refine AF.dry (r := .ref 5 0 0) 20 rfl (by kernel_rfl) rfl (fun _ => aop_move (.inr rfl) rfl) ?_
         refine AF.done (by kernel_rfl) ?_
         exact (fun w => hW5 _ _ w hC69) (Weak.re [(0, 5), (1, 2), (2, 0), (3, 1), (4, 3), (5, 4)] [] rfl rfl rfl (.cons rfl rfl (.one (.ag ⟨.sm, .sm, .view rfl, .view rfl, .view rfl, .sm, .ref rfl, .ref rfl, .sm, trivial⟩) rfl) dt (.cons rfl rfl (.same (by simp)) dt (.cons rfl rfl (.same (by simp)) dt (.cons rfl rfl (.same (by simp)) dt (.cons rfl rfl (.one (.sm) rfl) dt (.cons rfl rfl (.one (.sm) rfl) dt trivial)))))) ⟨.k, ⟨_, rfl, .ref rfl⟩, trivial⟩)
    ·skip
     refine AF1.loud (r := .ref 2 0 0) _ rfl rfl rfl (aop_newE (.func rfl rfl (stack_New_scc_place_ok hT hr67).call) (stack_New_scc_place_ok hT hr67) (by simp) (by simp [AV.flat])) ?_
     refine AF.many 3 [17] (by kernel_rfl) ⟨?_, ?_, trivial⟩
     ·skip
      refine AF1.loud (r := .view 3 0 (List.map i64 made64).length) _ rfl rfl rfl (t_make i64 0 made64 hmade64 rfl rfl rfl el25 zv25 rfl rfl rfl) ?_
      refine AF.many 17 [] (by kernel_rfl) ⟨?_, trivial⟩
      ·skip
       refine AF1.loud (r := .ref 4 0 0) _ rfl rfl rfl (aop_newE (.func rfl rfl (stack_Ints_ok hT hr68).call) (stack_Ints_ok hT hr68) (by simp) (by simp [AV.flat])) ?_
       refine AF.keep [1, 8, 14, 17, 21, 11, 25] rfl ?_
       refine AF.many 18 [] (by kernel_rfl) ⟨?_, trivial⟩
       ·skip
        refine AF1.loud (r := .agg [i64 g_0.N, .sl (List.map u64 g_0.Rows), .view 3 0 (List.map i64 made64).length, .view 0 0 (List.map i64 made65).length, .view 1 0 (List.map bl made66).length, i64 0, .ref 2 0 0, .ref 4 0 0, nilS]) _ rfl rfl rfl (aop_build rfl bd67 rfl rfl rfl) ?_
        refine AF.many 19 [] (by kernel_rfl) ⟨?_, trivial⟩
        ·skip
         refine AF1.loud (r := .ref 5 0 0) _ rfl rfl rfl (aop_box 9 [.agg [i64 g_0.N, .sl (List.map u64 g_0.Rows), .view 3 0 (List.map i64 made64).length, .view 0 0 (List.map i64 made65).length, .view 1 0 (List.map bl made66).length, i64 0, .ref 2 0 0, .ref 4 0 0, nilS]] rfl rfl rfl (.inl ⟨rfl, rfl⟩)) ?_
         refine AF.dry (r := .ref 5 0 0) 20 rfl (by kernel_rfl) rfl (fun _ => aop_move (.inr rfl) rfl) ?_
         refine AF.done (by kernel_rfl) ?_
         exact (fun w => hW5 _ _ w hC69) (Weak.re [(0, 5), (1, 3), (2, 0), (3, 1), (4, 2), (5, 4)] [] rfl rfl rfl (.cons rfl rfl (.one (.ag ⟨.sm, .sm, .view rfl, .view rfl, .view rfl, .sm, .ref rfl, .ref rfl, .sm, trivial⟩) rfl) dt (.cons rfl rfl (.same (by simp)) dt (.cons rfl rfl (.same (by simp)) dt (.cons rfl rfl (.same (by simp)) dt (.cons rfl rfl (.one (.sm) rfl) dt (.cons rfl rfl (.one (.sm) rfl) dt trivial)))))) ⟨.k, ⟨_, rfl, .ref rfl⟩, trivial⟩)
     ·skip
      refine AF1.loud (r := .ref 3 0 0) _ rfl rfl rfl (aop_newE (.func rfl rfl (stack_Ints_ok hT hr68).call) (stack_Ints_ok hT hr68) (by simp) (by simp [AV.flat])) ?_
      refine AF.many 3 [] (by kernel_rfl) ⟨?_, trivial⟩
      ·skip
       refine AF1.loud (r := .view 4 0 (List.map i64 made64).length) _ rfl rfl rfl (t_make i64 0 made64 hmade64 rfl rfl rfl el25 zv25 rfl rfl rfl) ?_
       refine AF.keep [1, 8, 14, 17, 21, 25, 11] rfl ?_
       refine AF.many 18 [] (by kernel_rfl) ⟨?_, trivial⟩
       ·skip
        refine AF1.loud (r := .agg [i64 g_0.N, .sl (List.map u64 g_0.Rows), .view 4 0 (List.map i64 made64).length, .view 0 0 (List.map i64 made65).length, .view 1 0 (List.map bl made66).length, i64 0, .ref 2 0 0, .ref 3 0 0, nilS]) _ rfl rfl rfl (aop_build rfl bd67 rfl rfl rfl) ?_
        refine AF.many 19 [] (by kernel_rfl) ⟨?_, trivial⟩
        ·skip
         refine AF1.loud (r := .ref 5 0 0) _ rfl rfl rfl (aop_box 9 [.agg [i64 g_0.N, .sl (List.map u64 g_0.Rows), .view 4 0 (List.map i64 made64).length, .view 0 0 (List.map i64 made65).length, .view 1 0 (List.map bl made66).length, i64 0, .ref 2 0 0, .ref 3 0 0, nilS]] rfl rfl rfl (.inl ⟨rfl, rfl⟩)) ?_
         refine AF.dry (r := .ref 5 0 0) 20 rfl (by kernel_rfl) rfl (fun _ => aop_move (.inr rfl) rfl) ?_
         refine AF.done (by kernel_rfl) ?_
         exact (fun w => hW5 _ _ w hC69) (Weak.re [(0, 5), (1, 4), (2, 0), (3, 1), (4, 2), (5, 3)] [] rfl rfl rfl (.cons rfl rfl (.one (.ag ⟨.sm, .sm, .view rfl, .view rfl, .view rfl, .sm, .ref rfl, .ref rfl, .sm, trivial⟩) rfl) dt (.cons rfl rfl (.same (by simp)) dt (.cons rfl rfl (.same (by simp)) dt (.cons rfl rfl (.same (by simp)) dt (.cons rfl rfl (.one (.sm) rfl) dt (.cons rfl rfl (.one (.sm) rfl) dt trivial)))))) ⟨.k, ⟨_, rfl, .ref rfl⟩, trivial⟩)
   ·skip
    refine AF1.loud (r := .ref 1 0 0) _ rfl rfl rfl (aop_newE (.func rfl rfl (stack_New_scc_place_ok hT hr67).call) (stack_New_scc_place_ok hT hr67) (by simp) (by simp [AV.flat])) ?_
    refine AF.keep [1, 8, 10, 16, 24, 14, 21] rfl ?_
    refine AF.many 3 [9, 17] (by kernel_rfl) ⟨?_, ?_, ?_, trivial⟩
    ·skip
     refine AF1.loud (r := .view 2 0 (List.map i64 made64).length) _ rfl rfl rfl (t_make i64 0 made64 hmade64 rfl rfl rfl el25 zv25 rfl rfl rfl) ?_
     refine AF.many 9 [17] (by kernel_rfl) ⟨?_, ?_, trivial⟩
     ·skip
      refine AF1.loud (r := .view 3 0 (List.map bl made66).length) _ rfl rfl rfl (t_make bl false made66 hmade66 rfl rfl rfl el59 zv59 rfl rfl rfl) ?_
      refine AF.many 17 [] (by kernel_rfl) ⟨?_, trivial⟩
      ·skip
       refine AF1.loud (r := .ref 4 0 0) _ rfl rfl rfl (aop_newE (.func rfl rfl (stack_Ints_ok hT hr68).call) (stack_Ints_ok hT hr68) (by simp) (by simp [AV.flat])) ?_
       refine AF.keep [1, 8, 14, 21, 11, 17, 25] rfl ?_
       refine AF.many 18 [] (by kernel_rfl) ⟨?_, trivial⟩
       ·skip
        refine AF1.loud (r := .agg [i64 g_0.N, .sl (List.map u64 g_0.Rows), .view 2 0 (List.map i64 made64).length, .view 0 0 (List.map i64 made65).length, .view 3 0 (List.map bl made66).length, i64 0, .ref 1 0 0, .ref 4 0 0, nilS]) _ rfl rfl rfl (aop_build rfl bd67 rfl rfl rfl) ?_
        refine AF.many 19 [] (by kernel_rfl) ⟨?_, trivial⟩
        ·skip
         refine AF1.loud (r := .ref 5 0 0) _ rfl rfl rfl (aop_box 9 [.agg [i64 g_0.N, .sl (List.map u64 g_0.Rows), .view 2 0 (List.map i64 made64).length, .view 0 0 (List.map i64 made65).length, .view 3 0 (List.map bl made66).length, i64 0, .ref 1 0 0, .ref 4 0 0, nilS]] rfl rfl rfl (.inl ⟨rfl, rfl⟩)) ?_
         refine AF.dry (r := .ref 5 0 0) 20 rfl (by kernel_rfl) rfl (fun _ => aop_move (.inr rfl) rfl) ?_
         refine AF.done (by kernel_rfl) ?_
         exact (fun w => hW5 _ _ w hC69) (Weak.re [(0, 5), (1, 2), (2, 0), (3, 3), (4, 1), (5, 4)] [] rfl rfl rfl (.cons rfl rfl (.one (.ag ⟨.sm, .sm, .view rfl, .view rfl, .view rfl, .sm, .ref rfl, .ref rfl, .sm, trivial⟩) rfl) dt (.cons rfl rfl (.same (by simp)) dt (.cons rfl rfl (.same (by simp)) dt (.cons rfl rfl (.same (by simp)) dt (.cons rfl rfl (.one (.sm) rfl) dt (.cons rfl rfl (.one (.sm) rfl) dt trivial)))))) ⟨.k, ⟨_, rfl, .ref rfl⟩, trivial⟩)
     ·skip
      refine AF1.loud (r := .ref 3 0 0) _ rfl rfl rfl (aop_newE (.func rfl rfl (stack_Ints_ok hT hr68).call) (stack_Ints_ok hT hr68) (by simp) (by simp [AV.flat])) ?_
      refine AF.many 9 [] (by kernel_rfl) ⟨?_, trivial⟩
      ·skip
       refine AF1.loud (r := .view 4 0 (List.map bl made66).length) _ rfl rfl rfl (t_make bl false made66 hmade66 rfl rfl rfl el59 zv59 rfl rfl rfl) ?_
       refine AF.keep [1, 8, 14, 21, 11, 25, 17] rfl ?_
       refine AF.many 18 [] (by kernel_rfl) ⟨?_, trivial⟩
       ·skip
        refine AF1.loud (r := .agg [i64 g_0.N, .sl (List.map u64 g_0.Rows), .view 2 0 (List.map i64 made64).length, .view 0 0 (List.map i64 made65).length, .view 4 0 (List.map bl made66).length, i64 0, .ref 1 0 0, .ref 3 0 0, nilS]) _ rfl rfl rfl (aop_build rfl bd67 rfl rfl rfl) ?_
        refine AF.many 19 [] (by kernel_rfl) ⟨?_, trivial⟩
        ·skip
         refine AF1.loud (r := .ref 5 0 0) _ rfl rfl rfl (aop_box 9 [.agg [i64 g_0.N, .sl (List.map u64 g_0.Rows), .view 2 0 (List.map i64 made64).length, .view 0 0 (List.map i64 made65).length, .view 4 0 (List.map bl made66).length, i64 0, .ref 1 0 0, .ref 3 0 0, nilS]] rfl rfl rfl (.inl ⟨rfl, rfl⟩)) ?_
         refine AF.dry (r := .ref 5 0 0) 20 rfl (by kernel_rfl) rfl (fun _ => aop_move (.inr rfl) rfl) ?_
         refine AF.done (by kernel_rfl) ?_
         exact (fun w => hW5 _ _ w hC69) (Weak.re [(0, 5), (1, 2), (2, 0), (3, 4), (4, 1), (5, 3)] [] rfl rfl rfl (.cons rfl rfl (.one (.ag ⟨.sm, .sm, .view rfl, .view rfl, .view rfl, .sm, .ref rfl, .ref rfl, .sm, trivial⟩) rfl) dt (.cons rfl rfl (.same (by simp)) dt (.cons rfl rfl (.same (by simp)) dt (.cons rfl rfl (.same (by simp)) dt (.cons rfl rfl (.one (.sm) rfl) dt (.cons rfl rfl (.one (.sm) rfl) dt trivial)))))) ⟨.k, ⟨_, rfl, .ref rfl⟩, trivial⟩)
    ·skip
     refine AF1.loud (r := .view 2 0 (List.map bl made66).length) _ rfl rfl rfl (t_make bl false made66 hmade66 rfl rfl rfl el59 zv59 rfl rfl rfl) ?_
     refine AF.many 3 [17] (by kernel_rfl) ⟨?_, ?_, trivial⟩
     ·skip
      refine AF1.loud (r := .view 3 0 (List.map i64 made64).length) _ rfl rfl rfl (t_make i64 0 made64 hmade64 rfl rfl rfl el25 zv25 rfl rfl rfl) ?_
      refine AF.many 17 [] (by kernel_rfl) ⟨?_, trivial⟩
      ·skip
       refine AF1.loud (r := .ref 4 0 0) _ rfl rfl rfl (aop_newE (.func rfl rfl (stack_Ints_ok hT hr68).call) (stack_Ints_ok hT hr68) (by simp) (by simp [AV.flat])) ?_
       refine AF.keep [1, 8, 14, 21, 17, 11, 25] rfl ?_
       refine AF.many 18 [] (by kernel_rfl) ⟨?_, trivial⟩
       ·skip
        refine AF1.loud (r := .agg [i64 g_0.N, .sl (List.map u64 g_0.Rows), .view 3 0 (List.map i64 made64).length, .view 0 0 (List.map i64 made65).length, .view 2 0 (List.map bl made66).length, i64 0, .ref 1 0 0, .ref 4 0 0, nilS]) _ rfl rfl rfl (aop_build rfl bd67 rfl rfl rfl) ?_
        refine AF.many 19 [] (by kernel_rfl) ⟨?_, trivial⟩
        ·skip
         refine AF1.loud (r := .ref 5 0 0) _ rfl rfl rfl (aop_box 9 [.agg [i64 g_0.N, .sl (List.map u64 g_0.Rows), .view 3 0 (List.map i64 made64).length, .view 0 0 (List.map i64 made65).length, .view 2 0 (List.map bl made66).length, i64 0, .ref 1 0 0, .ref 4 0 0, nilS]] rfl rfl rfl (.inl ⟨rfl, rfl⟩)) ?_
         refine AF.dry (r := .ref 5 0 0) 20 rfl (by kernel_rfl) rfl (fun _ => aop_move (.inr rfl) rfl) ?_
         refine AF.done (by kernel_rfl) ?_
         exact (fun w => hW5 _ _ w hC69) (Weak.re [(0, 5), (1, 3), (2, 0), (3, 2), (4, 1), (5, 4)] [] rfl rfl rfl (.cons rfl rfl (.one (.ag ⟨.sm, .sm, .view rfl, .view rfl, .view rfl, .sm, .ref rfl, .ref rfl, .sm, trivial⟩) rfl) dt (.cons rfl rfl (.same (by simp)) dt (.cons rfl rfl (.same (by simp)) dt (.cons rfl rfl (.same (by simp)) dt (.cons rfl rfl (.one (.sm) rfl) dt (.cons rfl rfl (.one (.sm) rfl) dt trivial)))))) ⟨.k, ⟨_, rfl, .ref rfl⟩, trivial⟩)
     ·skip
      refine AF1.loud (r := .ref 3 0 0) _ rfl rfl rfl (aop_newE (.func rfl rfl (stack_Ints_ok hT hr68).call) (stack_Ints_ok hT hr68) (by simp) (by simp [AV.flat])) ?_
      refine AF.many 3 [] (by kernel_rfl) ⟨?_, trivial⟩
      ·skip
       refine AF1.loud (r := .view 4 0 (List.map i64 made64).length) _ rfl rfl rfl (t_make i64 0 made64 hmade64 rfl rfl rfl el25 zv25 rfl rfl rfl) ?_
       refine AF.keep [1, 8, 14, 21, 17, 25, 11] rfl ?_
       refine AF.many 18 [] (by kernel_rfl) ⟨?_, trivial⟩
       ·skip
        refine AF1.loud (r := .agg [i64 g_0.N, .sl (List.map u64 g_0.Rows), .view 4 0 (List.map i64 made64).length, .view 0 0 (List.map i64 made65).length, .view 2 0 (List.map bl made66).length, i64 0, .ref 1 0 0, .ref 3 0 0, nilS]) _ rfl rfl rfl (aop_build rfl bd67 rfl rfl rfl) ?_
        refine AF.many 19 [] (by kernel_rfl) ⟨?_, trivial⟩
        ·skip
         refine AF1.loud (r := .ref 5 0 0) _ rfl rfl rfl (aop_box 9 [.agg [i64 g_0.N, .sl (List.map u64 g_0.Rows), .view 4 0 (List.map i64 made64).length, .view 0 0 (List.map i64 made65).length, .view 2 0 (List.map bl made66).length, i64 0, .ref 1 0 0, .ref 3 0 0, nilS]] rfl rfl rfl (.inl ⟨rfl, rfl⟩)) ?_
         refine AF.dry (r := .ref 5 0 0) 20 rfl (by kernel_rfl) rfl (fun _ => aop_move (.inr rfl) rfl) ?_
         refine AF.done (by kernel_rfl) ?_
         exact (fun w => hW5 _ _ w hC69) (Weak.re [(0, 5), (1, 4), (2, 0), (3, 2), (4, 1), (5, 3)] [] rfl rfl rfl (.cons rfl rfl (.one (.ag ⟨.sm, .sm, .view rfl, .view rfl, .view rfl, .sm, .ref rfl, .ref rfl, .sm, trivial⟩) rfl) dt (.cons rfl rfl (.same (by simp)) dt (.cons rfl rfl (.same (by simp)) dt (.cons rfl rfl (.same (by simp)) dt (.cons rfl rfl (.one (.sm) rfl) dt (.cons rfl rfl (.one (.sm) rfl) dt trivial)))))) ⟨.k, ⟨_, rfl, .ref rfl⟩, trivial⟩)
    ·skip
     refine AF1.loud (r := .ref 2 0 0) _ rfl rfl rfl (aop_newE (.func rfl rfl (stack_Ints_ok hT hr68).call) (stack_Ints_ok hT hr68) (by simp) (by simp [AV.flat])) ?_
     refine AF.many 3 [9] (by kernel_rfl) ⟨?_, ?_, trivial⟩
     ·skip
      refine AF1.loud (r := .view 3 0 (List.map i64 made64).length) _ rfl rfl rfl (t_make i64 0 made64 hmade64 rfl rfl rfl el25 zv25 rfl rfl rfl) ?_
      refine AF.many 9 [] (by kernel_rfl) ⟨?_, trivial⟩
      ·skip
       refine AF1.loud (r := .view 4 0 (List.map bl made66).length) _ rfl rfl rfl (t_make bl false made66 hmade66 rfl rfl rfl el59 zv59 rfl rfl rfl) ?_
       refine AF.keep [1, 8, 14, 21, 25, 11, 17] rfl ?_
       refine AF.many 18 [] (by kernel_rfl) ⟨?_, trivial⟩
       ·skip
        refine AF1.loud (r := .agg [i64 g_0.N, .sl (List.map u64 g_0.Rows), .view 3 0 (List.map i64 made64).length, .view 0 0 (List.map i64 made65).length, .view 4 0 (List.map bl made66).length, i64 0, .ref 1 0 0, .ref 2 0 0, nilS]) _ rfl rfl rfl (aop_build rfl bd67 rfl rfl rfl) ?_
        refine AF.many 19 [] (by kernel_rfl) ⟨?_, trivial⟩
        ·skip
         refine AF1.loud (r := .ref 5 0 0) _ rfl rfl rfl (aop_box 9 [.agg [i64 g_0.N, .sl (List.map u64 g_0.Rows), .view 3 0 (List.map i64 made64).length, .view 0 0 (List.map i64 made65).length, .view 4 0 (List.map bl made66).length, i64 0, .ref 1 0 0, .ref 2 0 0, nilS]] rfl rfl rfl (.inl ⟨rfl, rfl⟩)) ?_
         refine AF.dry (r := .ref 5 0 0) 20 rfl (by kernel_rfl) rfl (fun _ => aop_move (.inr rfl) rfl) ?_
         refine AF.done (by kernel_rfl) ?_
         exact (fun w => hW5 _ _ w hC69) (Weak.re [(0, 5), (1, 3), (2, 0), (3, 4), (4, 1), (5, 2)] [] rfl rfl rfl (.cons rfl rfl (.one (.ag ⟨.sm, .sm, .view rfl, .view rfl, .view rfl, .sm, .ref rfl, .ref rfl, .sm, trivial⟩) rfl) dt (.cons rfl rfl (.same (by simp)) dt (.cons rfl rfl (.same (by simp)) dt (.cons rfl rfl (.same (by simp)) dt (.cons rfl rfl (.one (.sm) rfl) dt (.cons rfl rfl (.one (.sm) rfl) dt trivial)))))) ⟨.k, ⟨_, rfl, .ref rfl⟩, trivial⟩)
     ·skip
      refine AF1.loud (r := .view 3 0 (List.map bl made66).length) _ rfl rfl rfl (t_make bl false made66 hmade66 rfl rfl rfl el59 zv59 rfl rfl rfl) ?_
      refine AF.many 3 [] (by kernel_rfl) ⟨?_, trivial⟩
      ·skip
       refine AF1.loud (r := .view 4 0 (List.map i64 made64).length) _ rfl rfl rfl (t_make i64 0 made64 hmade64 rfl rfl rfl el25 zv25 rfl rfl rfl) ?_
       refine AF.keep [1, 8, 14, 21, 25, 17, 11] rfl ?_
       refine AF.many 18 [] (by kernel_rfl) ⟨?_, trivial⟩
       ·skip
        refine AF1.loud (r := .agg [i64 g_0.N, .sl (List.map u64 g_0.Rows), .view 4 0 (List.map i64 made64).length, .view 0 0 (List.map i64 made65).length, .view 3 0 (List.map bl made66).length, i64 0, .ref 1 0 0, .ref 2 0 0, nilS]) _ rfl rfl rfl (aop_build rfl bd67 rfl rfl rfl) ?_
        refine AF.many 19 [] (by kernel_rfl) ⟨?_, trivial⟩
        ·skip
         refine AF1.loud (r := .ref 5 0 0) _ rfl rfl rfl (aop_box 9 [.agg [i64 g_0.N, .sl (List.map u64 g_0.Rows), .view 4 0 (List.map i64 made64).length, .view 0 0 (List.map i64 made65).length, .view 3 0 (List.map bl made66).length, i64 0, .ref 1 0 0, .ref 2 0 0, nilS]] rfl rfl rfl (.inl ⟨rfl, rfl⟩)) ?_
         refine AF.dry (r := .ref 5 0 0) 20 rfl (by kernel_rfl) rfl (fun _ => aop_move (.inr rfl) rfl) ?_
         refine AF.done (by kernel_rfl) ?_
         exact (fun w => hW5 _ _ w hC69) (Weak.re [(0, 5), (1, 4), (2, 0), (3, 3), (4, 1), (5, 2)] [] rfl rfl rfl (.cons rfl rfl (.one (.ag ⟨.sm, .sm, .view rfl, .view rfl, .view rfl, .sm, .ref rfl, .ref rfl, .sm, trivial⟩) rfl) dt (.cons rfl rfl (.same (by simp)) dt (.cons rfl rfl (.same (by simp)) dt (.cons rfl rfl (.same (by simp)) dt (.cons rfl rfl (.one (.sm) rfl) dt (.cons rfl rfl (.one (.sm) rfl) dt trivial)))))) ⟨.k, ⟨_, rfl, .ref rfl⟩, trivial⟩)
  ·skip
   refine AF1.loud (r := .view 0 0 (List.map bl made66).length) _ rfl rfl rfl (t_make bl false made66 hmade66 rfl rfl rfl el59 zv59 rfl rfl rfl) ?_
   refine AF.many 3 [6, 13] (by kernel_rfl) ⟨?_, ?_, ?_, trivial⟩
   ·skip
    refine AF1.loud (r := .view 1 0 (List.map i64 made64).length) _ rfl rfl rfl (t_make i64 0 made64 hmade64 rfl rfl rfl el25 zv25 rfl rfl rfl) ?_
    refine AF.keep [1, 8, 13, 20, 24, 17, 11] rfl ?_
    refine AF.many 6 [13] (by kernel_rfl) ⟨?_, ?_, trivial⟩
    ·skip
     refine AF1.loud (r := .view 2 0 (List.map i64 made65).length) _ rfl rfl rfl (t_make i64 0 made65 hmade65 rfl rfl rfl el25 zv25 rfl rfl rfl) ?_
     refine AF.many 13 [] (by kernel_rfl) ⟨?_, trivial⟩
     ·skip
      refine AF1.loud (r := .ref 3 0 0) _ rfl rfl rfl (aop_newE (.func rfl rfl (stack_New_scc_place_ok hT hr67).call) (stack_New_scc_place_ok hT hr67) (by simp) (by simp [AV.flat])) ?_
      refine AF.many 17 [] (by kernel_rfl) ⟨?_, trivial⟩
      ·skip
       refine AF1.loud (r := .ref 4 0 0) _ rfl rfl rfl (aop_newE (.func rfl rfl (stack_Ints_ok hT hr68).call) (stack_Ints_ok hT hr68) (by simp) (by simp [AV.flat])) ?_
       refine AF.keep [1, 8, 17, 11, 14, 21, 25] rfl ?_
       refine AF.many 18 [] (by kernel_rfl) ⟨?_, trivial⟩
       ·skip
        refine AF1.loud (r := .agg [i64 g_0.N, .sl (List.map u64 g_0.Rows), .view 1 0 (List.map i64 made64).length, .view 2 0 (List.map i64 made65).length, .view 0 0 (List.map bl made66).length, i64 0, .ref 3 0 0, .ref 4 0 0, nilS]) _ rfl rfl rfl (aop_build rfl bd67 rfl rfl rfl) ?_
        refine AF.many 19 [] (by kernel_rfl) ⟨?_, trivial⟩
        ·skip
         refine AF1.loud (r := .ref 5 0 0) _ rfl rfl rfl (aop_box 9 [.agg [i64 g_0.N, .sl (List.map u64 g_0.Rows), .view 1 0 (List.map i64 made64).length, .view 2 0 (List.map i64 made65).length, .view 0 0 (List.map bl made66).length, i64 0, .ref 3 0 0, .ref 4 0 0, nilS]] rfl rfl rfl (.inl ⟨rfl, rfl⟩)) ?_
         refine AF.dry (r := .ref 5 0 0) 20 rfl (by kernel_rfl) rfl (fun _ => aop_move (.inr rfl) rfl) ?_
         refine AF.done (by kernel_rfl) ?_
         exact (fun w => hW5 _ _ w hC69) (Weak.re [(0, 5), (1, 1), (2, 2), (3, 0), (4, 3), (5, 4)] [] rfl rfl rfl (.cons rfl rfl (.one (.ag ⟨.sm, .sm, .view rfl, .view rfl, .view rfl, .sm, .ref rfl, .ref rfl, .sm, trivial⟩) rfl) dt (.cons rfl rfl (.same (by simp)) dt (.cons rfl rfl (.same (by simp)) dt (.cons rfl rfl (.same (by simp)) dt (.cons rfl rfl (.one (.sm) rfl) dt (.cons rfl rfl (.one (.sm) rfl) dt trivial)))))) ⟨.k, ⟨_, rfl, .ref rfl⟩, trivial⟩)
    ·skip
     refine AF1.loud (r := .ref 2 0 0) _ rfl rfl rfl (aop_newE (.func rfl rfl (stack_New_scc_place_ok hT hr67).call) (stack_New_scc_place_ok hT hr67) (by simp) (by simp [AV.flat])) ?_
     refine AF.many 6 [17] (by kernel_rfl) ⟨?_, ?_, trivial⟩
     ·skip
      refine AF1.loud (r := .view 3 0 (List.map i64 made65).length) _ rfl rfl rfl (t_make i64 0 made65 hmade65 rfl rfl rfl el25 zv25 rfl rfl rfl) ?_
      refine AF.many 17 [] (by kernel_rfl) ⟨?_, trivial⟩
      ·skip
       refine AF1.loud (r := .ref 4 0 0) _ rfl rfl rfl (aop_newE (.func rfl rfl (stack_Ints_ok hT hr68).call) (stack_Ints_ok hT hr68) (by simp) (by simp [AV.flat])) ?_
       refine AF.keep [1, 8, 17, 11, 21, 14, 25] rfl ?_
       refine AF.many 18 [] (by kernel_rfl) ⟨?_, trivial⟩
       ·skip
        refine AF1.loud (r := .agg [i64 g_0.N, .sl (List.map u64 g_0.Rows), .view 1 0 (List.map i64 made64).length, .view 3 0 (List.map i64 made65).length, .view 0 0 (List.map bl made66).length, i64 0, .ref 2 0 0, .ref 4 0 0, nilS]) _ rfl rfl rfl (aop_build rfl bd67 rfl rfl rfl) ?_
        refine AF.many 19 [] (by kernel_rfl) ⟨?_, trivial⟩
        ·skip
         refine AF1.loud (r := .ref 5 0 0) _ rfl rfl rfl (aop_box 9 [.agg [i64 g_0.N, .sl (List.map u64 g_0.Rows), .view 1 0 (List.map i64 made64).length, .view 3 0 (List.map i64 made65).length, .view 0 0 (List.map bl made66).length, i64 0, .ref 2 0 0, .ref 4 0 0, nilS]] rfl rfl rfl (.inl ⟨rfl, rfl⟩)) ?_
         refine AF.dry (r := .ref 5 0 0) 20 rfl (by kernel_rfl) rfl (fun _ => aop_move (.inr rfl) rfl) ?_
         refine AF.done (by kernel_rfl) ?_
         exact (fun w => hW5 _ _ w hC69) (Weak.re [(0, 5), (1, 1), (2, 3), (3, 0), (4, 2), (5, 4)] [] rfl rfl rfl (.cons rfl rfl (.one (.ag ⟨.sm, .sm, .view rfl, .view rfl, .view rfl, .sm, .ref rfl, .ref rfl, .sm, trivial⟩) rfl) dt (.cons rfl rfl (.same (by simp)) dt (.cons rfl rfl (.same (by simp)) dt (.cons rfl rfl (.same (by simp)) dt (.cons rfl rfl (.one (.sm) rfl) dt (.cons rfl rfl (.one (.sm) rfl) dt trivial)))))) ⟨.k, ⟨_, rfl, .ref rfl⟩, trivial⟩)
     ·skip
      refine AF1.loud (r := .ref 3 0 0) _ rfl rfl rfl (aop_newE (.func rfl rfl (stack_Ints_ok hT hr68).call) (stack_Ints_ok hT hr68) (by simp) (by simp [AV.flat])) ?_
      refine AF.many 6 [] (by kernel_rfl) ⟨?_, trivial⟩
      ·skip
       refine AF1.loud (r := .view 4 0 (List.map i64 made65).length) _ rfl rfl rfl (t_make i64 0 made65 hmade65 rfl rfl rfl el25 zv25 rfl rfl rfl) ?_
       refine AF.keep [1, 8, 17, 11, 21, 25, 14] rfl ?_
       refine AF.many 18 [] (by kernel_rfl) ⟨?_, trivial⟩
       ·skip
        refine AF1.loud (r := .agg [i64 g_0.N, .sl (List.map u64 g_0.Rows), .view 1 0 (List.map i64 made64).length, .view 4 0 (List.map i64 made65).length, .view 0 0 (List.map bl made66).length, i64 0, .ref 2 0 0, .ref 3 0 0, nilS]) _ rfl rfl rfl (aop_build rfl bd67 rfl rfl rfl) ?_
        refine AF.many 19 [] (by kernel_rfl) ⟨?_, trivial⟩
        ·skip
         refine AF1.loud (r := .ref 5 0 0) _ rfl rfl rfl (aop_box 9 [.agg [i64 g_0.N, .sl (List.map u64 g_0.Rows), .view 1 0 (List.map i64 made64).length, .view 4 0 (List.map i64 made65).length, .view 0 0 (List.map bl made66).length, i64 0, .ref 2 0 0, .ref 3 0 0, nilS]] rfl rfl rfl (.inl ⟨rfl, rfl⟩)) ?_
         refine AF.dry (r := .ref 5 0 0) 20 rfl (by kernel_rfl) rfl (fun _ => aop_move (.inr rfl) rfl) ?_
         refine AF.done (by kernel_rfl) ?_
         exact (fun w => hW5 _ _ w hC69) (Weak.re [(0, 5), (1, 1), (2, 4), (3, 0), (4, 2), (5, 3)] [] rfl rfl rfl (.cons rfl rfl (.one (.ag ⟨.sm, .sm, .view rfl, .view rfl, .view rfl, .sm, .ref rfl, .ref rfl, .sm, trivial⟩) rfl) dt (.cons rfl rfl (.same (by simp)) dt (.cons rfl rfl (.same (by simp)) dt (.cons rfl rfl (.same (by simp)) dt (.cons rfl rfl (.one (.sm) rfl) dt (.cons rfl rfl (.one (.sm) rfl) dt trivial)))))) ⟨.k, ⟨_, rfl, .ref rfl⟩, trivial⟩)
   ·skip
    refine AF1.loud (r := .view 1 0 (List.map i64 made65).length) _ rfl rfl rfl (t_make i64 0 made65 hmade65 rfl rfl rfl el25 zv25 rfl rfl rfl) ?_
    refine AF.keep [1, 8, 10, 20, 24, 17, 14] rfl ?_
    refine AF.many 3 [13] (by kernel_rfl) ⟨?_, ?_, trivial⟩
    ·skip
     refine AF1.loud (r := .view 2 0 (List.map i64 made64).length) _ rfl rfl rfl (t_make i64 0 made64 hmade64 rfl rfl rfl el25 zv25 rfl rfl rfl) ?_
     refine AF.many 13 [] (by kernel_rfl) ⟨?_, trivial⟩
     ·skip
      refine AF1.loud (r := .ref 3 0 0) _ rfl rfl rfl (aop_newE (.func rfl rfl (stack_New_scc_place_ok hT hr67).call) (stack_New_scc_place_ok hT hr67) (by simp) (by simp [AV.flat])) ?_
      refine AF.many 17 [] (by kernel_rfl) ⟨?_, trivial⟩
      ·skip
       refine AF1.loud (r := .ref 4 0 0) _ rfl rfl rfl (aop_newE (.func rfl rfl (stack_Ints_ok hT hr68).call) (stack_Ints_ok hT hr68) (by simp) (by simp [AV.flat])) ?_
       refine AF.keep [1, 8, 17, 14, 11, 21, 25] rfl ?_
       refine AF.many 18 [] (by kernel_rfl) ⟨?_, trivial⟩
       ·skip
        refine AF1.loud (r := .agg [i64 g_0.N, .sl (List.map u64 g_0.Rows), .view 2 0 (List.map i64 made64).length, .view 1 0 (List.map i64 made65).length, .view 0 0 (List.map bl made66).length, i64 0, .ref 3 0 0, .ref 4 0 0, nilS]) _ rfl rfl rfl (aop_build rfl bd67 rfl rfl rfl) ?_
        refine AF.many 19 [] (by kernel_rfl) ⟨?_, trivial⟩
        ·skip
         refine AF1.loud (r := .ref 5 0 0) _ rfl rfl rfl (aop_box 9 [.agg [i64 g_0.N, .sl (List.map u64 g_0.Rows), .view 2 0 (List.map i64 made64).length, .view 1 0 (List.map i64 made65).length, .view 0 0 (List.map bl made66).length, i64 0, .ref 3 0 0, .ref 4 0 0, nilS]] rfl rfl rfl (.inl ⟨rfl, rfl⟩)) ?_
         refine AF.dry (r := .ref 5 0 0) 20 rfl (by kernel_rfl) rfl (fun _ => aop_move (.inr rfl) rfl) ?_
         refine AF.done (by kernel_rfl) ?_
         exact (fun w => hW5 _ _ w hC69) (Weak.re [(0, 5), (1, 2), (2, 1), (3, 0), (4, 3), (5, 4)] [] rfl rfl rfl (.cons rfl rfl (.one (.ag ⟨.sm, .sm, .view rfl, .view rfl, .view rfl, .sm, .ref rfl, .ref rfl, .sm, trivial⟩) rfl) dt (.cons rfl rfl (.same (by simp)) dt (.cons rfl rfl (.same (by simp)) dt (.cons rfl rfl (.same (by simp)) dt (.cons rfl rfl (.one (.sm) rfl) dt (.cons rfl rfl (.one (.sm) rfl) dt trivial)))))) ⟨.k, ⟨_, rfl, .ref rfl⟩, trivial⟩)
    ·skip
     refine AF1.loud (r := .ref 2 0 0) _ rfl rfl rfl (aop_newE (.func rfl rfl (stack_New_scc_place_ok hT hr67).call) (stack_New_scc_place_ok hT hr67) (by simp) (by simp [AV.flat])) ?_
     refine AF.many 3 [17] (by kernel_rfl) ⟨?_, ?_, trivial⟩
     ·skip
      refine AF1.loud (r := .view 3 0 (List.map i64 made64).length) _ rfl rfl rfl (t_make i64 0 made64 hmade64 rfl rfl rfl el25 zv25 rfl rfl rfl) ?_
      refine AF.many 17 [] (by kernel_rfl) ⟨?_, trivial⟩
      ·skip
       refine AF1.loud (r := .ref 4 0 0) _ rfl rfl rfl (aop_newE (.func rfl rfl (stack_Ints_ok hT hr68).call) (stack_Ints_ok hT hr68) (by simp) (by simp [AV.flat])) ?_
       refine AF.keep [1, 8, 17, 14, 21, 11, 25] rfl ?_
       refine AF.many 18 [] (by kernel_rfl) ⟨?_, trivial⟩
       ·skip
        refine AF1.loud (r := .agg [i64 g_0.N, .sl (List.map u64 g_0.Rows), .view 3 0 (List.map i64 made64).length, .view 1 0 (List.map i64 made65).length, .view 0 0 (List.map bl made66).length, i64 0, .ref 2 0 0, .ref 4 0 0, nilS]) _ rfl rfl rfl (aop_build rfl bd67 rfl rfl rfl) ?_
        refine AF.many 19 [] (by kernel_rfl) ⟨?_, trivial⟩
        ·skip
         refine AF1.loud (r := .ref 5 0 0) _ rfl rfl rfl (aop_box 9 [.agg [i64 g_0.N, .sl (List.map u64 g_0.Rows), .view 3 0 (List.map i64 made64).length, .view 1 0 (List.map i64 made65).length, .view 0 0 (List.map bl made66).length, i64 0, .ref 2 0 0, .ref 4 0 0, nilS]] rfl rfl rfl (.inl ⟨rfl, rfl⟩)) ?_
         refine AF.dry (r := .ref 5 0 0) 20 rfl (by kernel_rfl) rfl (fun _ => aop_move (.inr rfl) rfl) ?_
         refine AF.done (by kernel_rfl) ?_
         exact (fun w => hW5 _ _ w hC69) (Weak.re [(0, 5), (1, 3), (2, 1), (3, 0), (4, 2), (5, 4)] [] rfl rfl rfl (.cons rfl rfl (.one (.ag ⟨.sm, .sm, .view rfl, .view rfl, .view rfl, .sm, .ref rfl, .ref rfl, .sm, trivial⟩) rfl) dt (.cons rfl rfl (.same (by simp)) dt (.cons rfl rfl (.same (by simp)) dt (.cons rfl rfl (.same (by simp)) dt (.cons rfl rfl (.one (.sm) rfl) dt (.cons rfl rfl (.one (.sm) rfl) dt trivial)))))) ⟨.k, ⟨_, rfl, .ref rfl⟩, trivial⟩)
     ·skip
      refine AF1.loud (r := .ref 3 0 0) _ rfl rfl rfl (aop_newE (.func rfl rfl (stack_Ints_ok hT hr68).call) (stack_Ints_ok hT hr68) (by simp) (by simp [AV.flat])) ?_
      refine AF.many 3 [] (by kernel_rfl) ⟨?_, trivial⟩
      ·skip
       refine AF1.loud (r := .view 4 0 (List.map i64 made64).length) _ rfl rfl rfl (t_make i64 0 made64 hmade64 rfl rfl rfl el25 zv25 rfl rfl rfl) ?_
       refine AF.keep [1, 8, 17, 14, 21, 25, 11] rfl ?_
       refine AF.many 18 [] (by kernel_rfl) ⟨?_, trivial⟩
       ·skip
        refine AF1.loud (r := .agg [i64 g_0.N, .sl (List.map u64 g_0.Rows), .view 4 0 (List.map i64 made64).length, .view 1 0 (List.map i64 made65).length, .view 0 0 (List.map bl made66).length, i64 0, .ref 2 0 0, .ref 3 0 0, nilS]) _ rfl rfl rfl (aop_build rfl bd67 rfl rfl rfl) ?_
        refine AF.many 19 [] (by kernel_rfl) ⟨?_, trivial⟩
        ·skip
         refine AF1.loud (r := .ref 5 0 0) _ rfl rfl rfl (aop_box 9 [.agg [i64 g_0.N, .sl (List.map u64 g_0.Rows), .view 4 0 (List.map i64 made64).length, .view 1 0 (List.map i64 made65).length, .view 0 0 (List.map bl made66).length, i64 0, .ref 2 0 0, .ref 3 0 0, nilS]] rfl rfl rfl (.inl ⟨rfl, rfl⟩)) ?_
         refine AF.dry (r := .ref 5 0 0) 20 rfl (by kernel_rfl) rfl (fun _ => aop_move (.inr rfl) rfl) ?_
         refine AF.done (by kernel_rfl) ?_
         exact (fun w => hW5 _ _ w hC69) (Weak.re [(0, 5), (1, 4), (2, 1), (3, 0), (4, 2), (5, 3)] [] rfl rfl rfl (.cons rfl rfl (.one (.ag ⟨.sm, .sm, .view rfl, .view rfl, .view rfl, .sm, .ref rfl, .ref rfl, .sm, trivial⟩) rfl) dt (.cons rfl rfl (.same (by simp)) dt (.cons rfl rfl (.same (by simp)) dt (.cons rfl rfl (.same (by simp)) dt (.cons rfl rfl (.one (.sm) rfl) dt (.cons rfl rfl (.one (.sm) rfl) dt trivial)))))) ⟨.k, ⟨_, rfl, .ref rfl⟩, trivial⟩)
   ·skip
    refine AF1.loud (r := .ref 1 0 0) _ rfl rfl rfl (aop_newE (.func rfl rfl (stack_New_scc_place_ok hT hr67).call) (stack_New_scc_place_ok hT hr67) (by simp) (by simp [AV.flat])) ?_
    refine AF.keep [1, 8, 10, 13, 24, 17, 21] rfl ?_
    refine AF.many 3 [6, 17] (by kernel_rfl) ⟨?_, ?_, ?_, trivial⟩
    ·skip
     refine AF1.loud (r := .view 2 0 (List.map i64 made64).length) _ rfl rfl rfl (t_make i64 0 made64 hmade64 rfl rfl rfl el25 zv25 rfl rfl rfl) ?_
     refine AF.many 6 [17] (by kernel_rfl) ⟨?_, ?_, trivial⟩
     ·skip
      refine AF1.loud (r := .view 3 0 (List.map i64 made65).length) _ rfl rfl rfl (t_make i64 0 made65 hmade65 rfl rfl rfl el25 zv25 rfl rfl rfl) ?_
      refine AF.many 17 [] (by kernel_rfl) ⟨?_, trivial⟩
      ·skip
       refine AF1.loud (r := .ref 4 0 0) _ rfl rfl rfl (aop_newE (.func rfl rfl (stack_Ints_ok hT hr68).call) (stack_Ints_ok hT hr68) (by simp) (by simp [AV.flat])) ?_
       refine AF.keep [1, 8, 17, 21, 11, 14, 25] rfl ?_
       refine AF.many 18 [] (by kernel_rfl) ⟨?_, trivial⟩
       ·skip
        refine AF1.loud (r := .agg [i64 g_0.N, .sl (List.map u64 g_0.Rows), .view 2 0 (List.map i64 made64).length, .view 3 0 (List.map i64 made65).length, .view 0 0 (List.map bl made66).length, i64 0, .ref 1 0 0, .ref 4 0 0, nilS]) _ rfl rfl rfl (aop_build rfl bd67 rfl rfl rfl) ?_
        refine AF.many 19 [] (by kernel_rfl) ⟨?_, trivial⟩
        ·skip
         refine AF1.loud (r := .ref 5 0 0) _ rfl rfl rfl (aop_box 9 [.agg [i64 g_0.N, .sl (List.map u64 g_0.Rows), .view 2 0 (List.map i64 made64).length, .view 3 0 (List.map i64 made65).length, .view 0 0 (List.map bl made66).length, i64 0, .ref 1 0 0, .ref 4 0 0, nilS]] rfl rfl rfl (.inl ⟨rfl, rfl⟩)) ?_
         refine AF.dry (r := .ref 5 0 0) 20 rfl (by kernel_rfl) rfl (fun _ => aop_move (.inr rfl) rfl) ?_
         refine AF.done (by kernel_rfl) ?_
         exact (fun w => hW5 _ _ w hC69) (Weak.re [(0, 5), (1, 2), (2, 3), (3, 0), (4, 1), (5, 4)] [] rfl rfl rfl (.cons rfl rfl (.one (.ag ⟨.sm, .sm, .view rfl, .view rfl, .view rfl, .sm, .ref rfl, .ref rfl, .sm, trivial⟩) rfl) dt (.cons rfl rfl (.same (by simp)) dt (.cons rfl rfl (.same (by simp)) dt (.cons rfl rfl (.same (by simp)) dt (.cons rfl rfl (.one (.sm) rfl) dt (.cons rfl rfl (.one (.sm) rfl) dt trivial)))))) ⟨.k, ⟨_, rfl, .ref rfl⟩, trivial⟩)
     ·skip
      refine AF1.loud (r := .ref 3 0 0) _ rfl rfl rfl (aop_newE (.func rfl rfl (stack_Ints_ok hT hr68).call) (stack_Ints_ok hT hr68) (by simp) (by simp [AV.flat])) ?_
      refine AF.many 6 [] (by kernel_rfl) ⟨?_, trivial⟩
      ·skip
       refine AF1.loud (r := .view 4 0 (List.map i64 made65).length) _ rfl rfl rfl (t_make i64 0 made65 hmade65 rfl rfl rfl el25 zv25 rfl rfl rfl) ?_
       refine AF.keep [1, 8, 17, 21, 11, 25, 14] rfl ?_
       refine AF.many 18 [] (by kernel_rfl) ⟨?_, trivial⟩
       ·skip
        refine AF1.loud (r := .agg [i64 g_0.N, .sl (List.map u64 g_0.Rows), .view 2 0 (List.map i64 made64).length, .view 4 0 (List.map i64 made65).length, .view 0 0 (List.map bl made66).length, i64 0, .ref 1 0 0, .ref 3 0 0, nilS]) _ rfl rfl rfl (aop_build rfl bd67 rfl rfl rfl) ?_
        refine AF.many 19 [] (by kernel_rfl) ⟨?_, trivial⟩
        ·skip
         refine AF1.loud (r := .ref 5 0 0) _ rfl rfl rfl (aop_box 9 [.agg [i64 g_0.N, .sl (List.map u64 g_0.Rows), .view 2 0 (List.map i64 made64).length, .view 4 0 (List.map i64 made65).length, .view 0 0 (List.map bl made66).length, i64 0, .ref 1 0 0, .ref 3 0 0, nilS]] rfl rfl rfl (.inl ⟨rfl, rfl⟩)) ?_
         refine AF.dry (r := .ref 5 0 0) 20 rfl (by kernel_rfl) rfl (fun _ => aop_move (.inr rfl) rfl) ?_
         refine AF.done (by kernel_rfl) ?_
         exact (fun w => hW5 _ _ w hC69) (Weak.re [(0, 5), (1, 2), (2, 4), (3, 0), (4, 1), (5, 3)] [] rfl rfl rfl (.cons rfl rfl (.one (.ag ⟨.sm, .sm, .view rfl, .view rfl, .view rfl, .sm, .ref rfl, .ref rfl, .sm, trivial⟩) rfl) dt (.cons rfl rfl (.same (by simp)) dt (.cons rfl rfl (.same (by simp)) dt (.cons rfl rfl (.same (by simp)) dt (.cons rfl rfl (.one (.sm) rfl) dt (.cons rfl rfl (.one (.sm) rfl) dt trivial)))))) ⟨.k, ⟨_, rfl, .ref rfl⟩, trivial⟩)
    ·skip
     refine AF1.loud (r := .view 2 0 (List.map i64 made65).length) _ rfl rfl rfl (t_make i64 0 made65 hmade65 rfl rfl rfl el25 zv25 rfl rfl rfl) ?_
     refine AF.many 3 [17] (by kernel_rfl) ⟨?_, ?_, trivial⟩
     ·skip
      refine AF1.loud (r := .view 3 0 (List.map i64 made64).length) _ rfl rfl rfl (t_make i64 0 made64 hmade64 rfl rfl rfl el25 zv25 rfl rfl rfl) ?_
      refine AF.many 17 [] (by kernel_rfl) ⟨?_, trivial⟩
      ·skip
       refine AF1.loud (r := .ref 4 0 0) _ rfl rfl rfl (aop_newE (.func rfl rfl (stack_Ints_ok hT hr68).call) (stack_Ints_ok hT hr68) (by simp) (by simp [AV.flat])) ?_
       refine AF.keep [1, 8, 17, 21, 14, 11, 25] rfl ?_
       refine AF.many 18 [] (by kernel_rfl) ⟨?_, trivial⟩
       ·skip
        refine AF1.loud (r := .agg [i64 g_0.N, .sl (List.map u64 g_0.Rows), .view 3 0 (List.map i64 made64).length, .view 2 0 (List.map i64 made65).length, .view 0 0 (List.map bl made66).length, i64 0, .ref 1 0 0, .ref 4 0 0, nilS]) _ rfl rfl rfl (aop_build rfl bd67 rfl rfl rfl) ?_
        refine AF.many 19 [] (by kernel_rfl) ⟨?_, trivial⟩
        ·skip
         refine AF1.loud (r := .ref 5 0 0) _ rfl rfl rfl (aop_box 9 [.agg [i64 g_0.N, .sl (List.map u64 g_0.Rows), .view 3 0 (List.map i64 made64).length, .view 2 0 (List.map i64 made65).length, .view 0 0 (List.map bl made66).length, i64 0, .ref 1 0 0, .ref 4 0 0, nilS]] rfl rfl rfl (.inl ⟨rfl, rfl⟩)) ?_
         refine AF.dry (r := .ref 5 0 0) 20 rfl (by kernel_rfl) rfl (fun _ => aop_move (.inr rfl) rfl) ?_
         refine AF.done (by kernel_rfl) ?_
         exact (fun w => hW5 _ _ w hC69) (Weak.re [(0, 5), (1, 3), (2, 2), (3, 0), (4, 1), (5, 4)] [] rfl rfl rfl (.cons rfl rfl (.one (.ag ⟨.sm, .sm, .view rfl, .view rfl, .view rfl, .sm, .ref rfl, .ref rfl, .sm, trivial⟩) rfl) dt (.cons rfl rfl (.same (by simp)) dt (.cons rfl rfl (.same (by simp)) dt (.cons rfl rfl (.same (by simp)) dt (.cons rfl rfl (.one (.sm) rfl) dt (.cons rfl rfl (.one (.sm) rfl) dt trivial)))))) ⟨.k, ⟨_, rfl, .ref rfl⟩, trivial⟩)
     ·skip
      refine AF1.loud (r := .ref 3 0 0) _ rfl rfl rfl (aop_newE (.func rfl rfl (stack_Ints_ok hT hr68).call) (stack_Ints_ok hT hr68) (by simp) (by simp [AV.flat])) ?_
      refine AF.many 3 [] (by kernel_rfl) ⟨?_, trivial⟩
      ·skip
       refine AF1.loud (r := .view 4 0 (List.map i64 made64).length) _ rfl rfl rfl (t_make i64 0 made64 hmade64 rfl rfl rfl el25 zv25 rfl rfl rfl) ?_
       refine AF.keep [1, 8, 17, 21, 14, 25, 11] rfl ?_
       refine AF.many 18 [] (by kernel_rfl) ⟨?_, trivial⟩
       ·skip
        refine AF1.loud (r := .agg [i64 g_0.N, .sl (List.map u64 g_0.Rows), .view 4 0 (List.map i64 made64).length, .view 2 0 (List.map i64 made65).length, .view 0 0 (List.map bl made66).length, i64 0, .ref 1 0 0, .ref 3 0 0, nilS]) _ rfl rfl rfl (aop_build rfl bd67 rfl rfl rfl) ?_
        refine AF.many 19 [] (by kernel_rfl) ⟨?_, trivial⟩
        ·skip
         refine AF1.loud (r := .ref 5 0 0) _ rfl rfl rfl (aop_box 9 [.agg [i64 g_0.N, .sl (List.map u64 g_0.Rows), .view 4 0 (List.map i64 made64).length, .view 2 0 (List.map i64 made65).length, .view 0 0 (List.map bl made66).length, i64 0, .ref 1 0 0, .ref 3 0 0, nilS]] rfl rfl rfl (.inl ⟨rfl, rfl⟩)) ?_
         refine AF.dry (r := .ref 5 0 0) 20 rfl (by kernel_rfl) rfl (fun _ => aop_move (.inr rfl) rfl) ?_
         refine AF.done (by kernel_rfl) ?_
         exact (fun w => hW5 _ _ w hC69) (Weak.re [(0, 5), (1, 4), (2, 2), (3, 0), (4, 1), (5, 3)] [] rfl rfl rfl (.cons rfl rfl (.one (.ag ⟨.sm, .sm, .view rfl, .view rfl, .view rfl, .sm, .ref rfl, .ref rfl, .sm, trivial⟩) rfl) dt (.cons rfl rfl (.same (by simp)) dt (.cons rfl rfl (.same (by simp)) dt (.cons rfl rfl (.same (by simp)) dt (.cons rfl rfl (.one (.sm) rfl) dt (.cons rfl rfl (.one (.sm) rfl) dt trivial)))))) ⟨.k, ⟨_, rfl, .ref rfl⟩, trivial⟩)
    ·skip
     refine AF1.loud (r := .ref 2 0 0) _ rfl rfl rfl (aop_newE (.func rfl rfl (stack_Ints_ok hT hr68).call) (stack_Ints_ok hT hr68) (by simp) (by simp [AV.flat])) ?_
     refine AF.many 3 [6] (by kernel_rfl) ⟨?_, ?_, trivial⟩
     ·skip
      refine AF1.loud (r := .view 3 0 (List.map i64 made64).length) _ rfl rfl rfl (t_make i64 0 made64 hmade64 rfl rfl rfl el25 zv25 rfl rfl rfl) ?_
      refine AF.many 6 [] (by kernel_rfl) ⟨?_, trivial⟩
      ·skip
       refine AF1.loud (r := .view 4 0 (List.map i64 made65).length) _ rfl rfl rfl (t_make i64 0 made65 hmade65 rfl rfl rfl el25 zv25 rfl rfl rfl) ?_
       refine AF.keep [1, 8, 17, 21, 25, 11, 14] rfl ?_
       refine AF.many 18 [] (by kernel_rfl) ⟨?_, trivial⟩
       ·skip
        refine AF1.loud (r := .agg [i64 g_0.N, .sl (List.map u64 g_0.Rows), .view 3 0 (List.map i64 made64).length, .view 4 0 (List.map i64 made65).length, .view 0 0 (List.map bl made66).length, i64 0, .ref 1 0 0, .ref 2 0 0, nilS]) _ rfl rfl rfl (aop_build rfl bd67 rfl rfl rfl) ?_
        refine AF.many 19 [] (by kernel_rfl) ⟨?_, trivial⟩
        ·skip
         refine AF1.loud (r := .ref 5 0 0) _ rfl rfl rfl (aop_box 9 [.agg [i64 g_0.N, .sl (List.map u64 g_0.Rows), .view 3 0 (List.map i64 made64).length, .view 4 0 (List.map i64 made65).length, .view 0 0 (List.map bl made66).length, i64 0, .ref 1 0 0, .ref 2 0 0, nilS]] rfl rfl rfl (.inl ⟨rfl, rfl⟩)) ?_
         refine AF.dry (r := .ref 5 0 0) 20 rfl (by kernel_rfl) rfl (fun _ => aop_move (.inr rfl) rfl) ?_
         refine AF.done (by kernel_rfl) ?_
         exact (fun w => hW5 _ _ w hC69) (Weak.re [(0, 5), (1, 3), (2, 4), (3, 0), (4, 1), (5, 2)] [] rfl rfl rfl (.cons rfl rfl (.one (.ag ⟨.sm, .sm, .view rfl, .view rfl, .view rfl, .sm, .ref rfl, .ref rfl, .sm, trivial⟩) rfl) dt (.cons rfl rfl (.same (by simp)) dt (.cons rfl rfl (.same (by simp)) dt (.cons rfl rfl (.same (by simp)) dt (.cons rfl rfl (.one (.sm) rfl) dt (.cons rfl rfl (.one (.sm) rfl) dt trivial)))))) ⟨.k, ⟨_, rfl, .ref rfl⟩, trivial⟩)
     ·skip
      refine AF1.loud (r := .view 3 0 (List.map i64 made65).length) _ rfl rfl rfl (t_make i64 0 made65 hmade65 rfl rfl rfl el25 zv25 rfl rfl rfl) ?_
      refine AF.many 3 [] (by kernel_rfl) ⟨?_, trivial⟩
      ·skip
       refine AF1.loud (r := .view 4 0 (List.map i64 made64).length) _ rfl rfl rfl (t_make i64 0 made64 hmade64 rfl rfl rfl el25 zv25 rfl rfl rfl) ?_
       refine AF.keep [1, 8, 17, 21, 25, 14, 11] rfl ?_
       refine AF.many 18 [] (by kernel_rfl) ⟨?_, trivial⟩
       ·skip
        refine AF1.loud (r := .agg [i64 g_0.N, .sl (List.map u64 g_0.Rows), .view 4 0 (List.map i64 made64).length, .view 3 0 (List.map i64 made65).length, .view 0 0 (List.map bl made66).length, i64 0, .ref 1 0 0, .ref 2 0 0, nilS]) _ rfl rfl rfl (aop_build rfl bd67 rfl rfl rfl) ?_
        refine AF.many 19 [] (by kernel_rfl) ⟨?_, trivial⟩
        ·skip
         refine AF1.loud (r := .ref 5 0 0) _ rfl rfl rfl (aop_box 9 [.agg [i64 g_0.N, .sl (List.map u64 g_0.Rows), .view 4 0 (List.map i64 made64).length, .view 3 0 (List.map i64 made65).length, .view 0 0 (List.map bl made66).length, i64 0, .ref 1 0 0, .ref 2 0 0, nilS]] rfl rfl rfl (.inl ⟨rfl, rfl⟩)) ?_
         refine AF.dry (r := .ref 5 0 0) 20 rfl (by kernel_rfl) rfl (fun _ => aop_move (.inr rfl) rfl) ?_
         refine AF.done (by kernel_rfl) ?_
         exact (fun w => hW5 _ _ w hC69) (Weak.re [(0, 5), (1, 4), (2, 3), (3, 0), (4, 1), (5, 2)] [] rfl rfl rfl (.cons rfl rfl (.one (.ag ⟨.sm, .sm, .view rfl, .view rfl, .view rfl, .sm, .ref rfl, .ref rfl, .sm, trivial⟩) rfl) dt (.cons rfl rfl (.same (by simp)) dt (.cons rfl rfl (.same (by simp)) dt (.cons rfl rfl (.same (by simp)) dt (.cons rfl rfl (.one (.sm) rfl) dt (.cons rfl rfl (.one (.sm) rfl) dt trivial)))))) ⟨.k, ⟨_, rfl, .ref rfl⟩, trivial⟩)
  ·skip
   refine AF1.loud (r := .ref 0 0 0) _ rfl rfl rfl (aop_newE (.func rfl rfl (stack_New_scc_place_ok hT hr67).call) (stack_New_scc_place_ok hT hr67) (by simp) (by simp [AV.flat])) ?_
   refine AF.many 3 [6, 9, 17] (by kernel_rfl) ⟨?_, ?_, ?_, ?_, trivial⟩
   ·skip
    refine AF1.loud (r := .view 1 0 (List.map i64 made64).length) _ rfl rfl rfl (t_make i64 0 made64 hmade64 rfl rfl rfl el25 zv25 rfl rfl rfl) ?_
    refine AF.keep [1, 8, 13, 16, 24, 21, 11] rfl ?_
    refine AF.many 6 [9, 17] (by kernel_rfl) ⟨?_, ?_, ?_, trivial⟩
    ·skip
     refine AF1.loud (r := .view 2 0 (List.map i64 made65).length) _ rfl rfl rfl (t_make i64 0 made65 hmade65 rfl rfl rfl el25 zv25 rfl rfl rfl) ?_
     refine AF.many 9 [17] (by kernel_rfl) ⟨?_, ?_, trivial⟩
     ·skip
      refine AF1.loud (r := .view 3 0 (List.map bl made66).length) _ rfl rfl rfl (t_make bl false made66 hmade66 rfl rfl rfl el59 zv59 rfl rfl rfl) ?_
      refine AF.many 17 [] (by kernel_rfl) ⟨?_, trivial⟩
      ·skip
       refine AF1.loud (r := .ref 4 0 0) _ rfl rfl rfl (aop_newE (.func rfl rfl (stack_Ints_ok hT hr68).call) (stack_Ints_ok hT hr68) (by simp) (by simp [AV.flat])) ?_
       refine AF.keep [1, 8, 21, 11, 14, 17, 25] rfl ?_
       refine AF.many 18 [] (by kernel_rfl) ⟨?_, trivial⟩
       ·skip
        refine AF1.loud (r := .agg [i64 g_0.N, .sl (List.map u64 g_0.Rows), .view 1 0 (List.map i64 made64).length, .view 2 0 (List.map i64 made65).length, .view 3 0 (List.map bl made66).length, i64 0, .ref 0 0 0, .ref 4 0 0, nilS]) _ rfl rfl rfl (aop_build rfl bd67 rfl rfl rfl) ?_
        refine AF.many 19 [] (by kernel_rfl) ⟨?_, trivial⟩
        ·skip
         refine AF1.loud (r := .ref 5 0 0) _ rfl rfl rfl (aop_box 9 [.agg [i64 g_0.N, .sl (List.map u64 g_0.Rows), .view 1 0 (List.map i64 made64).length, .view 2 0 (List.map i64 made65).length, .view 3 0 (List.map bl made66).length, i64 0, .ref 0 0 0, .ref 4 0 0, nilS]] rfl rfl rfl (.inl ⟨rfl, rfl⟩)) ?_
         refine AF.dry (r := .ref 5 0 0) 20 rfl (by kernel_rfl) rfl (fun _ => aop_move (.inr rfl) rfl) ?_
         refine AF.done (by kernel_rfl) ?_
         exact (fun w => hW5 _ _ w hC69) (Weak.re [(0, 5), (1, 1), (2, 2), (3, 3), (4, 0), (5, 4)] [] rfl rfl rfl (.cons rfl rfl (.one (.ag ⟨.sm, .sm, .view rfl, .view rfl, .view rfl, .sm, .ref rfl, .ref rfl, .sm, trivial⟩) rfl) dt (.cons rfl rfl (.same (by simp)) dt (.cons rfl rfl (.same (by simp)) dt (.cons rfl rfl (.same (by simp)) dt (.cons rfl rfl (.one (.sm) rfl) dt (.cons rfl rfl (.one (.sm) rfl) dt trivial)))))) ⟨.k, ⟨_, rfl, .ref rfl⟩, trivial⟩)
     ·skip
      refine AF1.loud (r := .ref 3 0 0) _ rfl rfl rfl (aop_newE (.func rfl rfl (stack_Ints_ok hT hr68).call) (stack_Ints_ok hT hr68) (by simp) (by simp [AV.flat])) ?_
      refine AF.many 9 [] (by kernel_rfl) ⟨?_, trivial⟩
      ·skip
       refine AF1.loud (r := .view 4 0 (List.map bl made66).length) _ rfl rfl rfl (t_make bl false made66 hmade66 rfl rfl rfl el59 zv59 rfl rfl rfl) ?_
       refine AF.keep [1, 8, 21, 11, 14, 25, 17] rfl ?_
       refine AF.many 18 [] (by kernel_rfl) ⟨?_, trivial⟩
       ·skip
        refine AF1.loud (r := .agg [i64 g_0.N, .sl (List.map u64 g_0.Rows), .view 1 0 (List.map i64 made64).length, .view 2 0 (List.map i64 made65).length, .view 4 0 (List.map bl made66).length, i64 0, .ref 0 0 0, .ref 3 0 0, nilS]) _ rfl rfl rfl (aop_build rfl bd67 rfl rfl rfl) ?_
        refine AF.many 19 [] (by kernel_rfl) ⟨?_, trivial⟩
        ·skip
         refine AF1.loud (r := .ref 5 0 0) _ rfl rfl rfl (aop_box 9 [.agg [i64 g_0.N, .sl (List.map u64 g_0.Rows), .view 1 0 (List.map i64 made64).length, .view 2 0 (List.map i64 made65).length, .view 4 0 (List.map bl made66).length, i64 0, .ref 0 0 0, .ref 3 0 0, nilS]] rfl rfl rfl (.inl ⟨rfl, rfl⟩)) ?_
         refine AF.dry (r := .ref 5 0 0) 20 rfl (by kernel_rfl) rfl (fun _ => aop_move (.inr rfl) rfl) ?_
         refine AF.done (by kernel_rfl) ?_
         exact (fun w => hW5 _ _ w hC69) (Weak.re [(0, 5), (1, 1), (2, 2), (3, 4), (4, 0), (5, 3)] [] rfl rfl rfl (.cons rfl rfl (.one (.ag ⟨.sm, .sm, .view rfl, .view rfl, .view rfl, .sm, .ref rfl, .ref rfl, .sm, trivial⟩) rfl) dt (.cons rfl rfl (.same (by simp)) dt (.cons rfl rfl (.same (by simp)) dt (.cons rfl rfl (.same (by simp)) dt (.cons rfl rfl (.one (.sm) rfl) dt (.cons rfl rfl (.one (.sm) rfl) dt trivial)))))) ⟨.k, ⟨_, rfl, .ref rfl⟩, trivial⟩)
    ·skip
     refine AF1.loud (r := .view 2 0 (List.map bl made66).length) _ rfl rfl rfl (t_make bl false made66 hmade66 rfl rfl rfl el59 zv59 rfl rfl rfl) ?_
     refine AF.many 6 [17] (by kernel_rfl) ⟨?_, ?_, trivial⟩
     ·skip
      refine AF1.loud (r := .view 3 0 (List.map i64 made65).length) _ rfl rfl rfl (t_make i64 0 made65 hmade65 rfl rfl rfl el25 zv25 rfl rfl rfl) ?_
      refine AF.many 17 [] (by kernel_rfl) ⟨?_, trivial⟩
      ·skip
       refine AF1.loud (r := .ref 4 0 0) _ rfl rfl rfl (aop_newE (.func rfl rfl (stack_Ints_ok hT hr68).call) (stack_Ints_ok hT hr68) (by simp) (by simp [AV.flat])) ?_
       refine AF.keep [1, 8, 21, 11, 17, 14, 25] rfl ?_
       refine AF.many 18 [] (by kernel_rfl) ⟨?_, trivial⟩
       ·skip
        refine AF1.loud (r := .agg [i64 g_0.N, .sl (List.map u64 g_0.Rows), .view 1 0 (List.map i64 made64).length, .view 3 0 (List.map i64 made65).length, .view 2 0 (List.map bl made66).length, i64 0, .ref 0 0 0, .ref 4 0 0, nilS]) _ rfl rfl rfl (aop_build rfl bd67 rfl rfl rfl) ?_
        refine AF.many 19 [] (by kernel_rfl) ⟨?_, trivial⟩
        ·skip
         refine AF1.loud (r := .ref 5 0 0) _ rfl rfl rfl (aop_box 9 [.agg [i64 g_0.N, .sl (List.map u64 g_0.Rows), .view 1 0 (List.map i64 made64).length, .view 3 0 (List.map i64 made65).length, .view 2 0 (List.map bl made66).length, i64 0, .ref 0 0 0, .ref 4 0 0, nilS]] rfl rfl rfl (.inl ⟨rfl, rfl⟩)) ?_
         refine AF.dry (r := .ref 5 0 0) 20 rfl (by kernel_rfl) rfl (fun _ => aop_move (.inr rfl) rfl) ?_
         refine AF.done (by kernel_rfl) ?_
         exact (fun w => hW5 _ _ w hC69) (Weak.re [(0, 5), (1, 1), (2, 3), (3, 2), (4, 0), (5, 4)] [] rfl rfl rfl (.cons rfl rfl (.one (.ag ⟨.sm, .sm, .view rfl, .view rfl, .view rfl, .sm, .ref rfl, .ref rfl, .sm, trivial⟩) rfl) dt (.cons rfl rfl (.same (by simp)) dt (.cons rfl rfl (.same (by simp)) dt (.cons rfl rfl (.same (by simp)) dt (.cons rfl rfl (.one (.sm) rfl) dt (.cons rfl rfl (.one (.sm) rfl) dt trivial)))))) ⟨.k, ⟨_, rfl, .ref rfl⟩, trivial⟩)
     ·skip
      refine AF1.loud (r := .ref 3 0 0) _ rfl rfl rfl (aop_newE (.func rfl rfl (stack_Ints_ok hT hr68).call) (stack_Ints_ok hT hr68) (by simp) (by simp [AV.flat])) ?_
      refine AF.many 6 [] (by kernel_rfl) ⟨?_, trivial⟩
      ·skip
       refine AF1.loud (r := .view 4 0 (List.map i64 made65).length) _ rfl rfl rfl (t_make i64 0 made65 hmade65 rfl rfl rfl el25 zv25 rfl rfl rfl) ?_
       refine AF.keep [1, 8, 21, 11, 17, 25, 14] rfl ?_
       refine AF.many 18 [] (by kernel_rfl) ⟨?_, trivial⟩
       ·skip
        refine AF1.loud (r := .agg [i64 g_0.N, .sl (List.map u64 g_0.Rows), .view 1 0 (List.map i64 made64).length, .view 4 0 (List.map i64 made65).length, .view 2 0 (List.map bl made66).length, i64 0, .ref 0 0 0, .ref 3 0 0, nilS]) _ rfl rfl rfl (aop_build rfl bd67 rfl rfl rfl) ?_
        refine AF.many 19 [] (by kernel_rfl) ⟨?_, trivial⟩
        ·skip
         refine AF1.loud (r := .ref 5 0 0) _ rfl rfl rfl (aop_box 9 [.agg [i64 g_0.N, .sl (List.map u64 g_0.Rows), .view 1 0 (List.map i64 made64).length, .view 4 0 (List.map i64 made65).length, .view 2 0 (List.map bl made66).length, i64 0, .ref 0 0 0, .ref 3 0 0, nilS]] rfl rfl rfl (.inl ⟨rfl, rfl⟩)) ?_
         refine AF.dry (r := .ref 5 0 0) 20 rfl (by kernel_rfl) rfl (fun _ => aop_move (.inr rfl) rfl) ?_
         refine AF.done (by kernel_rfl) ?_
         exact (fun w => hW5 _ _ w hC69) (Weak.re [(0, 5), (1, 1), (2, 4), (3, 2), (4, 0), (5, 3)] [] rfl rfl rfl (.cons rfl rfl (.one (.ag ⟨.sm, .sm, .view rfl, .view rfl, .view rfl, .sm, .ref rfl, .ref rfl, .sm, trivial⟩) rfl) dt (.cons rfl rfl (.same (by simp)) dt (.cons rfl rfl (.same (by simp)) dt (.cons rfl rfl (.same (by simp)) dt (.cons rfl rfl (.one (.sm) rfl) dt (.cons rfl rfl (.one (.sm) rfl) dt trivial)))))) ⟨.k, ⟨_, rfl, .ref rfl⟩, trivial⟩)
    ·skip
     refine AF1.loud (r := .ref 2 0 0) _ rfl rfl rfl (aop_newE (.func rfl rfl (stack_Ints_ok hT hr68).call) (stack_Ints_ok hT hr68) (by simp) (by simp [AV.flat])) ?_
     refine AF.many 6 [9] (by kernel_rfl) ⟨?_, ?_, trivial⟩
     ·skip
      refine AF1.loud (r := .view 3 0 (List.map i64 made65).length) _ rfl rfl rfl (t_make i64 0 made65 hmade65 rfl rfl rfl el25 zv25 rfl rfl rfl) ?_
      refine AF.many 9 [] (by kernel_rfl) ⟨?_, trivial⟩
      ·skip
       refine AF1.loud (r := .view 4 0 (List.map bl made66).length) _ rfl rfl rfl (t_make bl false made66 hmade66 rfl rfl rfl el59 zv59 rfl rfl rfl) ?_
       refine AF.keep [1, 8, 21, 11, 25, 14, 17] rfl ?_
       refine AF.many 18 [] (by kernel_rfl) ⟨?_, trivial⟩
       ·skip
        refine AF1.loud (r := .agg [i64 g_0.N, .sl (List.map u64 g_0.Rows), .view 1 0 (List.map i64 made64).length, .view 3 0 (List.map i64 made65).length, .view 4 0 (List.map bl made66).length, i64 0, .ref 0 0 0, .ref 2 0 0, nilS]) _ rfl rfl rfl (aop_build rfl bd67 rfl rfl rfl) ?_
        refine AF.many 19 [] (by kernel_rfl) ⟨?_, trivial⟩
        ·skip
         refine AF1.loud (r := .ref 5 0 0) _ rfl rfl rfl (aop_box 9 [.agg [i64 g_0.N, .sl (List.map u64 g_0.Rows), .view 1 0 (List.map i64 made64).length, .view 3 0 (List.map i64 made65).length, .view 4 0 (List.map bl made66).length, i64 0, .ref 0 0 0, .ref 2 0 0, nilS]] rfl rfl rfl (.inl ⟨rfl, rfl⟩)) ?_
         refine AF.dry (r := .ref 5 0 0) 20 rfl (by kernel_rfl) rfl (fun _ => aop_move (.inr rfl) rfl) ?_
         refine AF.done (by kernel_rfl) ?_
         exact (fun w => hW5 _ _ w hC69) (Weak.re [(0, 5), (1, 1), (2, 3), (3, 4), (4, 0), (5, 2)] [] rfl rfl rfl (.cons rfl rfl (.one (.ag ⟨.sm, .sm, .view rfl, .view rfl, .view rfl, .sm, .ref rfl, .ref rfl, .sm, trivial⟩) rfl) dt (.cons rfl rfl (.same (by simp)) dt (.cons rfl rfl (.same (by simp)) dt (.cons rfl rfl (.same (by simp)) dt (.cons rfl rfl (.one (.sm) rfl) dt (.cons rfl rfl (.one (.sm) rfl) dt trivial)))))) ⟨.k, ⟨_, rfl, .ref rfl⟩, trivial⟩)
     ·skip
      refine AF1.loud (r := .view 3 0 (List.map bl made66).length) _ rfl rfl rfl (t_make bl false made66 hmade66 rfl rfl rfl el59 zv59 rfl rfl rfl) ?_
      refine AF.many 6 [] (by kernel_rfl) ⟨?_, trivial⟩
      ·skip
       refine AF1.loud (r := .view 4 0 (List.map i64 made65).length) _ rfl rfl rfl (t_make i64 0 made65 hmade65 rfl rfl rfl el25 zv25 rfl rfl rfl) ?_
       refine AF.keep [1, 8, 21, 11, 25, 17, 14] rfl ?_
       refine AF.many 18 [] (by kernel_rfl) ⟨?_, trivial⟩
       ·skip
        refine AF1.loud (r := .agg [i64 g_0.N, .sl (List.map u64 g_0.Rows), .view 1 0 (List.map i64 made64).length, .view 4 0 (List.map i64 made65).length, .view 3 0 (List.map bl made66).length, i64 0, .ref 0 0 0, .ref 2 0 0, nilS]) _ rfl rfl rfl (aop_build rfl bd67 rfl rfl rfl) ?_
        refine AF.many 19 [] (by kernel_rfl) ⟨?_, trivial⟩
        ·skip
         refine AF1.loud (r := .ref 5 0 0) _ rfl rfl rfl (aop_box 9 [.agg [i64 g_0.N, .sl (List.map u64 g_0.Rows), .view 1 0 (List.map i64 made64).length, .view 4 0 (List.map i64 made65).length, .view 3 0 (List.map bl made66).length, i64 0, .ref 0 0 0, .ref 2 0 0, nilS]] rfl rfl rfl (.inl ⟨rfl, rfl⟩)) ?_
         refine AF.dry (r := .ref 5 0 0) 20 rfl (by kernel_rfl) rfl (fun _ => aop_move (.inr rfl) rfl) ?_
         refine AF.done (by kernel_rfl) ?_
         exact (fun w => hW5 _ _ w hC69) (Weak.re [(0, 5), (1, 1), (2, 4), (3, 3), (4, 0), (5, 2)] [] rfl rfl rfl (.cons rfl rfl (.one (.ag ⟨.sm, .sm, .view rfl, .view rfl, .view rfl, .sm, .ref rfl, .ref rfl, .sm, trivial⟩) rfl) dt (.cons rfl rfl (.same (by simp)) dt (.cons rfl rfl (.same (by simp)) dt (.cons rfl rfl (.same (by simp)) dt (.cons rfl rfl (.one (.sm) rfl) dt (.cons rfl rfl (.one (.sm) rfl) dt trivial)))))) ⟨.k, ⟨_, rfl, .ref rfl⟩, trivial⟩)
   ·skip
    refine AF1.loud (r := .view 1 0 (List.map i64 made65).length) _ rfl rfl rfl (t_make i64 0 made65 hmade65 rfl rfl rfl el25 zv25 rfl rfl rfl) ?_
    refine AF.keep [1, 8, 10, 16, 24, 21, 14] rfl ?_
    refine AF.many 3 [9, 17] (by kernel_rfl) ⟨?_, ?_, ?_, trivial⟩
    ·skip
     refine AF1.loud (r := .view 2 0 (List.map i64 made64).length) _ rfl rfl rfl (t_make i64 0 made64 hmade64 rfl rfl rfl el25 zv25 rfl rfl rfl) ?_
     refine AF.many 9 [17] (by kernel_rfl) ⟨?_, ?_, trivial⟩
     ·skip
      refine AF1.loud (r := .view 3 0 (List.map bl made66).length) _ rfl rfl rfl (t_make bl false made66 hmade66 rfl rfl rfl el59 zv59 rfl rfl rfl) ?_
      refine AF.many 17 [] (by kernel_rfl) ⟨?_, trivial⟩
      ·skip
       refine AF1.loud (r := .ref 4 0 0) _ rfl rfl rfl (aop_newE (.func rfl rfl (stack_Ints_ok hT hr68).call) (stack_Ints_ok hT hr68) (by simp) (by simp [AV.flat])) ?_
       refine AF.keep [1, 8, 21, 14, 11, 17, 25] rfl ?_
       refine AF.many 18 [] (by kernel_rfl) ⟨?_, trivial⟩
       ·skip
        refine AF1.loud (r := .agg [i64 g_0.N, .sl (List.map u64 g_0.Rows), .view 2 0 (List.map i64 made64).length, .view 1 0 (List.map i64 made65).length, .view 3 0 (List.map bl made66).length, i64 0, .ref 0 0 0, .ref 4 0 0, nilS]) _ rfl rfl rfl (aop_build rfl bd67 rfl rfl rfl) ?_
        refine AF.many 19 [] (by kernel_rfl) ⟨?_, trivial⟩
        ·skip
         refine AF1.loud (r := .ref 5 0 0) _ rfl rfl rfl (aop_box 9 [.agg [i64 g_0.N, .sl (List.map u64 g_0.Rows), .view 2 0 (List.map i64 made64).length, .view 1 0 (List.map i64 made65).length, .view 3 0 (List.map bl made66).length, i64 0, .ref 0 0 0, .ref 4 0 0, nilS]] rfl rfl rfl (.inl ⟨rfl, rfl⟩)) ?_
         refine AF.dry (r := .ref 5 0 0) 20 rfl (by kernel_rfl) rfl (fun _ => aop_move (.inr rfl) rfl) ?_
         refine AF.done (by kernel_rfl) ?_
         exact (fun w => hW5 _ _ w hC69) (Weak.re [(0, 5), (1, 2), (2, 1), (3, 3), (4, 0), (5, 4)] [] rfl rfl rfl (.cons rfl rfl (.one (.ag ⟨.sm, .sm, .view rfl, .view rfl, .view rfl, .sm, .ref rfl, .ref rfl, .sm, trivial⟩) rfl) dt (.cons rfl rfl (.same (by simp)) dt (.cons rfl rfl (.same (by simp)) dt (.cons rfl rfl (.same (by simp)) dt (.cons rfl rfl (.one (.sm) rfl) dt (.cons rfl rfl (.one (.sm) rfl) dt trivial)))))) ⟨.k, ⟨_, rfl, .ref rfl⟩, trivial⟩)
     ·skip
      refine AF1.loud (r := .ref 3 0 0) _ rfl rfl rfl (aop_newE (.func rfl rfl (stack_Ints_ok hT hr68).call) (stack_Ints_ok hT hr68) (by simp) (by simp [AV.flat])) ?_
      refine AF.many 9 [] (by kernel_rfl) ⟨?_, trivial⟩
      ·skip
       refine AF1.loud (r := .view 4 0 (List.map bl made66).length) _ rfl rfl rfl (t_make bl false made66 hmade66 rfl rfl rfl el59 zv59 rfl rfl rfl) ?_
       refine AF.keep [1, 8, 21, 14, 11, 25, 17] rfl ?_
       refine AF.many 18 [] (by kernel_rfl) ⟨?_, trivial⟩
       ·skip
        refine AF1.loud (r := .agg [i64 g_0.N, .sl (List.map u64 g_0.Rows), .view 2 0 (List.map i64 made64).length, .view 1 0 (List.map i64 made65).length, .view 4 0 (List.map bl made66).length, i64 0, .ref 0 0 0, .ref 3 0 0, nilS]) _ rfl rfl rfl (aop_build rfl bd67 rfl rfl rfl) ?_
        refine AF.many 19 [] (by kernel_rfl) ⟨?_, trivial⟩
        ·skip
         refine AF1.loud (r := .ref 5 0 0) _ rfl rfl rfl (aop_box 9 [.agg [i64 g_0.N, .sl (List.map u64 g_0.Rows), .view 2 0 (List.map i64 made64).length, .view 1 0 (List.map i64 made65).length, .view 4 0 (List.map bl made66).length, i64 0, .ref 0 0 0, .ref 3 0 0, nilS]] rfl rfl rfl (.inl ⟨rfl, rfl⟩)) ?_
         refine AF.dry (r := .ref 5 0 0) 20 rfl (by kernel_rfl) rfl (fun _ => aop_move (.inr rfl) rfl) ?_
         refine AF.done (by kernel_rfl) ?_
         exact (fun w => hW5 _ _ w hC69) (Weak.re [(0, 5), (1, 2), (2, 1), (3, 4), (4, 0), (5, 3)] [] rfl rfl rfl (.cons rfl rfl (.one (.ag ⟨.sm, .sm, .view rfl, .view rfl, .view rfl, .sm, .ref rfl, .ref rfl, .sm, trivial⟩) rfl) dt (.cons rfl rfl (.same (by simp)) dt (.cons rfl rfl (.same (by simp)) dt (.cons rfl rfl (.same (by simp)) dt (.cons rfl rfl (.one (.sm) rfl) dt (.cons rfl rfl (.one (.sm) rfl) dt trivial)))))) ⟨.k, ⟨_, rfl, .ref rfl⟩, trivial⟩)
    ·skip
     refine AF1.loud (r := .view 2 0 (List.map bl made66).length) _ rfl rfl rfl (t_make bl false made66 hmade66 rfl rfl rfl el59 zv59 rfl rfl rfl) ?_
     refine AF.many 3 [17] (by kernel_rfl) ⟨?_, ?_, trivial⟩
     ·skip
      refine AF1.loud (r := .view 3 0 (List.map i64 made64).length) _ rfl rfl rfl (t_make i64 0 made64 hmade64 rfl rfl rfl el25 zv25 rfl rfl rfl) ?_
      refine AF.many 17 [] (by kernel_rfl) ⟨?_, trivial⟩
      ·skip
       refine AF1.loud (r := .ref 4 0 0) _ rfl rfl rfl (aop_newE (.func rfl rfl (stack_Ints_ok hT hr68).call) (stack_Ints_ok hT hr68) (by simp) (by simp [AV.flat])) ?_
       refine AF.keep [1, 8, 21, 14, 17, 11, 25] rfl ?_
       refine AF.many 18 [] (by kernel_rfl) ⟨?_, trivial⟩
       ·skip
        refine AF1.loud (r := .agg [i64 g_0.N, .sl (List.map u64 g_0.Rows), .view 3 0 (List.map i64 made64).length, .view 1 0 (List.map i64 made65).length, .view 2 0 (List.map bl made66).length, i64 0, .ref 0 0 0, .ref 4 0 0, nilS]) _ rfl rfl rfl (aop_build rfl bd67 rfl rfl rfl) ?_
        refine AF.many 19 [] (by kernel_rfl) ⟨?_, trivial⟩
        ·skip
         refine AF1.loud (r := .ref 5 0 0) _ rfl rfl rfl (aop_box 9 [.agg [i64 g_0.N, .sl (List.map u64 g_0.Rows), .view 3 0 (List.map i64 made64).length, .view 1 0 (List.map i64 made65).length, .view 2 0 (List.map bl made66).length, i64 0, .ref 0 0 0, .ref 4 0 0, nilS]] rfl rfl rfl (.inl ⟨rfl, rfl⟩)) ?_
         refine AF.dry (r := .ref 5 0 0) 20 rfl (by kernel_rfl) rfl (fun _ => aop_move (.inr rfl) rfl) ?_
         refine AF.done (by kernel_rfl) ?_
         exact (fun w => hW5 _ _ w hC69) (Weak.re [(0, 5), (1, 3), (2, 1), (3, 2), (4, 0), (5, 4)] [] rfl rfl rfl (.cons rfl rfl (.one (.ag ⟨.sm, .sm, .view rfl, .view rfl, .view rfl, .sm, .ref rfl, .ref rfl, .sm, trivial⟩) rfl) dt (.cons rfl rfl (.same (by simp)) dt (.cons rfl rfl (.same (by simp)) dt (.cons rfl rfl (.same (by simp)) dt (.cons rfl rfl (.one (.sm) rfl) dt (.cons rfl rfl (.one (.sm) rfl) dt trivial)))))) ⟨.k, ⟨_, rfl, .ref rfl⟩, trivial⟩)
     ·skip
      refine AF1.loud (r := .ref 3 0 0) _ rfl rfl rfl (aop_newE (.func rfl rfl (stack_Ints_ok hT hr68).call) (stack_Ints_ok hT hr68) (by simp) (by simp [AV.flat])) ?_
      refine AF.many 3 [] (by kernel_rfl) ⟨?_, trivial⟩
      ·skip
       refine AF1.loud (r := .view 4 0 (List.map i64 made64).length) _ rfl rfl rfl (t_make i64 0 made64 hmade64 rfl rfl rfl el25 zv25 rfl rfl rfl) ?_
       refine AF.keep [1, 8, 21, 14, 17, 25, 11] rfl ?_
       refine AF.many 18 [] (by kernel_rfl) ⟨?_, trivial⟩
       ·skip
        refine AF1.loud (r := .agg [i64 g_0.N, .sl (List.map u64 g_0.Rows), .view 4 0 (List.map i64 made64).length, .view 1 0 (List.map i64 made65).length, .view 2 0 (List.map bl made66).length, i64 0, .ref 0 0 0, .ref 3 0 0, nilS]) _ rfl rfl rfl (aop_build rfl bd67 rfl rfl rfl) ?_
        refine AF.many 19 [] (by kernel_rfl) ⟨?_, trivial⟩
        ·skip
         refine AF1.loud (r := .ref 5 0 0) _ rfl rfl rfl (aop_box 9 [.agg [i64 g_0.N, .sl (List.map u64 g_0.Rows), .view 4 0 (List.map i64 made64).length, .view 1 0 (List.map i64 made65).length, .view 2 0 (List.map bl made66).length, i64 0, .ref 0 0 0, .ref 3 0 0, nilS]] rfl rfl rfl (.inl ⟨rfl, rfl⟩)) ?_
         refine AF.dry (r := .ref 5 0 0) 20 rfl (by kernel_rfl) rfl (fun _ => aop_move (.inr rfl) rfl) ?_
         refine AF.done (by kernel_rfl) ?_
         exact (fun w => hW5 _ _ w hC69) (Weak.re [(0, 5), (1, 4), (2, 1), (3, 2), (4, 0), (5, 3)] [] rfl rfl rfl (.cons rfl rfl (.one (.ag ⟨.sm, .sm, .view rfl, .view rfl, .view rfl, .sm, .ref rfl, .ref rfl, .sm, trivial⟩) rfl) dt (.cons rfl rfl (.same (by simp)) dt (.cons rfl rfl (.same (by simp)) dt (.cons rfl rfl (.same (by simp)) dt (.cons rfl rfl (.one (.sm) rfl) dt (.cons rfl rfl (.one (.sm) rfl) dt trivial)))))) ⟨.k, ⟨_, rfl, .ref rfl⟩, trivial⟩)
    ·skip
     refine AF1.loud (r := .ref 2 0 0) _ rfl rfl rfl (aop_newE (.func rfl rfl (stack_Ints_ok hT hr68).call) (stack_Ints_ok hT hr68) (by simp) (by simp [AV.flat])) ?_
     refine AF.many 3 [9] (by kernel_rfl) ⟨?_, ?_, trivial⟩
     ·skip
      refine AF1.loud (r := .view 3 0 (List.map i64 made64).length) _ rfl rfl rfl (t_make i64 0 made64 hmade64 rfl rfl rfl el25 zv25 rfl rfl rfl) ?_
      refine AF.many 9 [] (by kernel_rfl) ⟨?_, trivial⟩
      ·skip
       refine AF1.loud (r := .view 4 0 (List.map bl made66).length) _ rfl rfl rfl (t_make bl false made66 hmade66 rfl rfl rfl el59 zv59 rfl rfl rfl) ?_
       refine AF.keep [1, 8, 21, 14, 25, 11, 17] rfl ?_
       refine AF.many 18 [] (by kernel_rfl) ⟨?_, trivial⟩
       ·skip
        refine AF1.loud (r := .agg [i64 g_0.N, .sl (List.map u64 g_0.Rows), .view 3 0 (List.map i64 made64).length, .view 1 0 (List.map i64 made65).length, .view 4 0 (List.map bl made66).length, i64 0, .ref 0 0 0, .ref 2 0 0, nilS]) _ rfl rfl rfl (aop_build rfl bd67 rfl rfl rfl) ?_
        refine AF.many 19 [] (by kernel_rfl) ⟨?_, trivial⟩
        ·skip
         refine AF1.loud (r := .ref 5 0 0) _ rfl rfl rfl (aop_box 9 [.agg [i64 g_0.N, .sl (List.map u64 g_0.Rows), .view 3 0 (List.map i64 made64).length, .view 1 0 (List.map i64 made65).length, .view 4 0 (List.map bl made66).length, i64 0, .ref 0 0 0, .ref 2 0 0, nilS]] rfl rfl rfl (.inl ⟨rfl, rfl⟩)) ?_
         refine AF.dry (r := .ref 5 0 0) 20 rfl (by kernel_rfl) rfl (fun _ => aop_move (.inr rfl) rfl) ?_
         refine AF.done (by kernel_rfl) ?_
         exact (fun w => hW5 _ _ w hC69) (Weak.re [(0, 5), (1, 3), (2, 1), (3, 4), (4, 0), (5, 2)] [] rfl rfl rfl (.cons rfl rfl (.one (.ag ⟨.sm, .sm, .view rfl, .view rfl, .view rfl, .sm, .ref rfl, .ref rfl, .sm, trivial⟩) rfl) dt (.cons rfl rfl (.same (by simp)) dt (.cons rfl rfl (.same (by simp)) dt (.cons rfl rfl (.same (by simp)) dt (.cons rfl rfl (.one (.sm) rfl) dt (.cons rfl rfl (.one (.sm) rfl) dt trivial)))))) ⟨.k, ⟨_, rfl, .ref rfl⟩, trivial⟩)
     ·skip
      refine AF1.loud (r := .view 3 0 (List.map bl made66).length) _ rfl rfl rfl (t_make bl false made66 hmade66 rfl rfl rfl el59 zv59 rfl rfl rfl) ?_
      refine AF.many 3 [] (by kernel_rfl) ⟨?_, trivial⟩
      ·skip
       refine AF1.loud (r := .view 4 0 (List.map i64 made64).length) _ rfl rfl rfl (t_make i64 0 made64 hmade64 rfl rfl rfl el25 zv25 rfl rfl rfl) ?_
       refine AF.keep [1, 8, 21, 14, 25, 17, 11] rfl ?_
       refine AF.many 18 [] (by kernel_rfl) ⟨?_, trivial⟩
       ·skip
        refine AF1.loud (r := .agg [i64 g_0.N, .sl (List.map u64 g_0.Rows), .view 4 0 (List.map i64 made64).length, .view 1 0 (List.map i64 made65).length, .view 3 0 (List.map bl made66).length, i64 0, .ref 0 0 0, .ref 2 0 0, nilS]) _ rfl rfl rfl (aop_build rfl bd67 rfl rfl rfl) ?_
        refine AF.many 19 [] (by kernel_rfl) ⟨?_, trivial⟩
        ·skip
         refine AF1.loud (r := .ref 5 0 0) _ rfl rfl rfl (aop_box 9 [.agg [i64 g_0.N, .sl (List.map u64 g_0.Rows), .view 4 0 (List.map i64 made64).length, .view 1 0 (List.map i64 made65).length, .view 3 0 (List.map bl made66).length, i64 0, .ref 0 0 0, .ref 2 0 0, nilS]] rfl rfl rfl (.inl ⟨rfl, rfl⟩)) ?_
         refine AF.dry (r := .ref 5 0 0) 20 rfl (by kernel_rfl) rfl (fun _ => aop_move (.inr rfl) rfl) ?_
         refine AF.done (by kernel_rfl) ?_
         exact (fun w => hW5 _ _ w hC69) (Weak.re [(0, 5), (1, 4), (2, 1), (3, 3), (4, 0), (5, 2)] [] rfl rfl rfl (.cons rfl rfl (.one (.ag ⟨.sm, .sm, .view rfl, .view rfl, .view rfl, .sm, .ref rfl, .ref rfl, .sm, trivial⟩) rfl) dt (.cons rfl rfl (.same (by simp)) dt (.cons rfl rfl (.same (by simp)) dt (.cons rfl rfl (.same (by simp)) dt (.cons rfl rfl (.one (.sm) rfl) dt (.cons rfl rfl (.one (.sm) rfl) dt trivial)))))) ⟨.k, ⟨_, rfl, .ref rfl⟩, trivial⟩)
   ·skip
    refine AF1.loud (r := .view 1 0 (List.map bl made66).length) _ rfl rfl rfl (t_make bl false made66 hmade66 rfl rfl rfl el59 zv59 rfl rfl rfl) ?_
    refine AF.keep [1, 8, 10, 13, 24, 21, 17] rfl ?_
    refine AF.many 3 [6, 17] (by kernel_rfl) ⟨?_, ?_, ?_, trivial⟩
    ·skip
     refine AF1.loud (r := .view 2 0 (List.map i64 made64).length) _ rfl rfl rfl (t_make i64 0 made64 hmade64 rfl rfl rfl el25 zv25 rfl rfl rfl) ?_
     refine AF.many 6 [17] (by kernel_rfl) ⟨?_, ?_, trivial⟩
     ·skip
      refine AF1.loud (r := .view 3 0 (List.map i64 made65).length) _ rfl rfl rfl (t_make i64 0 made65 hmade65 rfl rfl rfl el25 zv25 rfl rfl rfl) ?_
      refine AF.many 17 [] (by kernel_rfl) ⟨?_, trivial⟩
      ·skip
       refine AF1.loud (r := .ref 4 0 0) _ rfl rfl rfl (aop_newE (.func rfl rfl (stack_Ints_ok hT hr68).call) (stack_Ints_ok hT hr68) (by simp) (by simp [AV.flat])) ?_
       refine AF.keep [1, 8, 21, 17, 11, 14, 25] rfl ?_
       refine AF.many 18 [] (by kernel_rfl) ⟨?_, trivial⟩
       ·skip
        refine AF1.loud (r := .agg [i64 g_0.N, .sl (List.map u64 g_0.Rows), .view 2 0 (List.map i64 made64).length, .view 3 0 (List.map i64 made65).length, .view 1 0 (List.map bl made66).length, i64 0, .ref 0 0 0, .ref 4 0 0, nilS]) _ rfl rfl rfl (aop_build rfl bd67 rfl rfl rfl) ?_
        refine AF.many 19 [] (by kernel_rfl) ⟨?_, trivial⟩
        ·skip
         refine AF1.loud (r := .ref 5 0 0) _ rfl rfl rfl (aop_box 9 [.agg [i64 g_0.N, .sl (List.map u64 g_0.Rows), .view 2 0 (List.map i64 made64).length, .view 3 0 (List.map i64 made65).length, .view 1 0 (List.map bl made66).length, i64 0, .ref 0 0 0, .ref 4 0 0, nilS]] rfl rfl rfl (.inl ⟨rfl, rfl⟩)) ?_
         refine AF.dry (r := .ref 5 0 0) 20 rfl (by kernel_rfl) rfl (fun _ => aop_move (.inr rfl) rfl) ?_
         refine AF.done (by kernel_rfl) ?_
         exact (fun w => hW5 _ _ w hC69) (Weak.re [(0, 5), (1, 2), (2, 3), (3, 1), (4, 0), (5, 4)] [] rfl rfl rfl (.cons rfl rfl (.one (.ag ⟨.sm, .sm, .view rfl, .view rfl, .view rfl, .sm, .ref rfl, .ref rfl, .sm, trivial⟩) rfl) dt (.cons rfl rfl (.same (by simp)) dt (.cons rfl rfl (.same (by simp)) dt (.cons rfl rfl (.same (by simp)) dt (.cons rfl rfl (.one (.sm) rfl) dt (.cons rfl rfl (.one (.sm) rfl) dt trivial)))))) ⟨.k, ⟨_, rfl, .ref rfl⟩, trivial⟩)
     ·skip
      refine AF1.loud (r := .ref 3 0 0) _ rfl rfl rfl (aop_newE (.func rfl rfl (stack_Ints_ok hT hr68).call) (stack_Ints_ok hT hr68) (by simp) (by simp [AV.flat])) ?_
      refine AF.many 6 [] (by kernel_rfl) ⟨?_, trivial⟩
      ·skip
       refine AF1.loud (r := .view 4 0 (List.map i64 made65).length) _ rfl rfl rfl (t_make i64 0 made65 hmade65 rfl rfl rfl el25 zv25 rfl rfl rfl) ?_
       refine AF.keep [1, 8, 21, 17, 11, 25, 14] rfl ?_
       refine AF.many 18 [] (by kernel_rfl) ⟨?_, trivial⟩
       ·skip
        refine AF1.loud (r := .agg [i64 g_0.N, .sl (List.map u64 g_0.Rows), .view 2 0 (List.map i64 made64).length, .view 4 0 (List.map i64 made65).length, .view 1 0 (List.map bl made66).length, i64 0, .ref 0 0 0, .ref 3 0 0, nilS]) _ rfl rfl rfl (aop_build rfl bd67 rfl rfl rfl) ?_
        refine AF.many 19 [] (by kernel_rfl) ⟨?_, trivial⟩
        ·skip
         refine AF1.loud (r := .ref 5 0 0) _ rfl rfl rfl (aop_box 9 [.agg [i64 g_0.N, .sl (List.map u64 g_0.Rows), .view 2 0 (List.map i64 made64).length, .view 4 0 (List.map i64 made65).length, .view 1 0 (List.map bl made66).length, i64 0, .ref 0 0 0, .ref 3 0 0, nilS]] rfl rfl rfl (.inl ⟨rfl, rfl⟩)) ?_
         refine AF.dry (r := .ref 5 0 0) 20 rfl (by kernel_rfl) rfl (fun _ => aop_move (.inr rfl) rfl) ?_
         refine AF.done (by kernel_rfl) ?_
         exact (fun w => hW5 _ _ w hC69) (Weak.re [(0, 5), (1, 2), (2, 4), (3, 1), (4, 0), (5, 3)] [] rfl rfl rfl (.cons rfl rfl (.one (.ag ⟨.sm, .sm, .view rfl, .view rfl, .view rfl, .sm, .ref rfl, .ref rfl, .sm, trivial⟩) rfl) dt (.cons rfl rfl (.same (by simp)) dt (.cons rfl rfl (.same (by simp)) dt (.cons rfl rfl (.same (by simp)) dt (.cons rfl rfl (.one (.sm) rfl) dt (.cons rfl rfl (.one (.sm) rfl) dt trivial)))))) ⟨.k, ⟨_, rfl, .ref rfl⟩, trivial⟩)
    ·skip
     refine AF1.loud (r := .view 2 0 (List.map i64 made65).length) _ rfl rfl rfl (t_make i64 0 made65 hmade65 rfl rfl rfl el25 zv25 rfl rfl rfl) ?_
     refine AF.many 3 [17] (by kernel_rfl) ⟨?_, ?_, trivial⟩
     ·skip
      refine AF1.loud (r := .view 3 0 (List.map i64 made64).length) _ rfl rfl rfl (t_make i64 0 made64 hmade64 rfl rfl rfl el25 zv25 rfl rfl rfl) ?_
      refine AF.many 17 [] (by kernel_rfl) ⟨?_, trivial⟩
      ·skip
       refine AF1.loud (r := .ref 4 0 0) _ rfl rfl rfl (aop_newE (.func rfl rfl (stack_Ints_ok hT hr68).call) (stack_Ints_ok hT hr68) (by simp) (by simp [AV.flat])) ?_
       refine AF.keep [1, 8, 21, 17, 14, 11, 25] rfl ?_
       refine AF.many 18 [] (by kernel_rfl) ⟨?_, trivial⟩
       ·skip
        refine AF1.loud (r := .agg [i64 g_0.N, .sl (List.map u64 g_0.Rows), .view 3 0 (List.map i64 made64).length, .view 2 0 (List.map i64 made65).length, .view 1 0 (List.map bl made66).length, i64 0, .ref 0 0 0, .ref 4 0 0, nilS]) _ rfl rfl rfl (aop_build rfl bd67 rfl rfl rfl) ?_
        refine AF.many 19 [] (by kernel_rfl) ⟨?_, trivial⟩
        ·skip
         refine AF1.loud (r := .ref 5 0 0) _ rfl rfl rfl (aop_box 9 [.agg [i64 g_0.N, .sl (List.map u64 g_0.Rows), .view 3 0 (List.map i64 made64).length, .view 2 0 (List.map i64 made65).length, .view 1 0 (List.map bl made66).length, i64 0, .ref 0 0 0, .ref 4 0 0, nilS]] rfl rfl rfl (.inl ⟨rfl, rfl⟩)) ?_
         refine AF.dry (r := .ref 5 0 0) 20 rfl (by kernel_rfl) rfl (fun _ => aop_move (.inr rfl) rfl) ?_
         refine AF.done (by kernel_rfl) ?_
         exact (fun w => hW5 _ _ w hC69) (Weak.re [(0, 5), (1, 3), (2, 2), (3, 1), (4, 0), (5, 4)] [] rfl rfl rfl (.cons rfl rfl (.one (.ag ⟨.sm, .sm, .view rfl, .view rfl, .view rfl, .sm, .ref rfl, .ref rfl, .sm, trivial⟩) rfl) dt (.cons rfl rfl (.same (by simp)) dt (.cons rfl rfl (.same (by simp)) dt (.cons rfl rfl (.same (by simp)) dt (.cons rfl rfl (.one (.sm) rfl) dt (.cons rfl rfl (.one (.sm) rfl) dt trivial)))))) ⟨.k, ⟨_, rfl, .ref rfl⟩, trivial⟩)
     ·skip
      refine AF1.loud (r := .ref 3 0 0) _ rfl rfl rfl (aop_newE (.func rfl rfl (stack_Ints_ok hT hr68).call) (stack_Ints_ok hT hr68) (by simp) (by simp [AV.flat])) ?_
      refine AF.many 3 [] (by kernel_rfl) ⟨?_, trivial⟩
      ·skip
       refine AF1.loud (r := .view 4 0 (List.map i64 made64).length) _ rfl rfl rfl (t_make i64 0 made64 hmade64 rfl rfl rfl el25 zv25 rfl rfl rfl) ?_
       refine AF.keep [1, 8, 21, 17, 14, 25, 11] rfl ?_
       refine AF.many 18 [] (by kernel_rfl) ⟨?_, trivial⟩
       ·skip
        refine AF1.loud (r := .agg [i64 g_0.N, .sl (List.map u64 g_0.Rows), .view 4 0 (List.map i64 made64).length, .view 2 0 (List.map i64 made65).length, .view 1 0 (List.map bl made66).length, i64 0, .ref 0 0 0, .ref 3 0 0, nilS]) _ rfl rfl rfl (aop_build rfl bd67 rfl rfl rfl) ?_
        refine AF.many 19 [] (by kernel_rfl) ⟨?_, trivial⟩
        ·skip
         refine AF1.loud (r := .ref 5 0 0) _ rfl rfl rfl (aop_box 9 [.agg [i64 g_0.N, .sl (List.map u64 g_0.Rows), .view 4 0 (List.map i64 made64).length, .view 2 0 (List.map i64 made65).length, .view 1 0 (List.map bl made66).length, i64 0, .ref 0 0 0, .ref 3 0 0, nilS]] rfl rfl rfl (.inl ⟨rfl, rfl⟩)) ?_
         refine AF.dry (r := .ref 5 0 0) 20 rfl (by kernel_rfl) rfl (fun _ => aop_move (.inr rfl) rfl) ?_
         refine AF.done (by kernel_rfl) ?_
         exact (fun w => hW5 _ _ w hC69) (Weak.re [(0, 5), (1, 4), (2, 2), (3, 1), (4, 0), (5, 3)] [] rfl rfl rfl (.cons rfl rfl (.one (.ag ⟨.sm, .sm, .view rfl, .view rfl, .view rfl, .sm, .ref rfl, .ref rfl, .sm, trivial⟩) rfl) dt (.cons rfl rfl (.same (by simp)) dt (.cons rfl rfl (.same (by simp)) dt (.cons rfl rfl (.same (by simp)) dt (.cons rfl rfl (.one (.sm) rfl) dt (.cons rfl rfl (.one (.sm) rfl) dt trivial)))))) ⟨.k, ⟨_, rfl, .ref rfl⟩, trivial⟩)
    ·skip
     refine AF1.loud (r := .ref 2 0 0) _ rfl rfl rfl (aop_newE (.func rfl rfl (stack_Ints_ok hT hr68).call) (stack_Ints_ok hT hr68) (by simp) (by simp [AV.flat])) ?_
     refine AF.many 3 [6] (by kernel_rfl) ⟨?_, ?_, trivial⟩
     ·skip
      refine AF1.loud (r := .view 3 0 (List.map i64 made64).length) _ rfl rfl rfl (t_make i64 0 made64 hmade64 rfl rfl rfl el25 zv25 rfl rfl rfl) ?_
      refine AF.many 6 [] (by kernel_rfl) ⟨?_, trivial⟩
      ·skip
       refine AF1.loud (r := .view 4 0 (List.map i64 made65).length) _ rfl rfl rfl (t_make i64 0 made65 hmade65 rfl rfl rfl el25 zv25 rfl rfl rfl) ?_
       refine AF.keep [1, 8, 21, 17, 25, 11, 14] rfl ?_
       refine AF.many 18 [] (by kernel_rfl) ⟨?_, trivial⟩
       ·skip
        refine AF1.loud (r := .agg [i64 g_0.N, .sl (List.map u64 g_0.Rows), .view 3 0 (List.map i64 made64).length, .view 4 0 (List.map i64 made65).length, .view 1 0 (List.map bl made66).length, i64 0, .ref 0 0 0, .ref 2 0 0, nilS]) _ rfl rfl rfl (aop_build rfl bd67 rfl rfl rfl) ?_
        refine AF.many 19 [] (by kernel_rfl) ⟨?_, trivial⟩
        ·skip
         refine AF1.loud (r := .ref 5 0 0) _ rfl rfl rfl (aop_box 9 [.agg [i64 g_0.N, .sl (List.map u64 g_0.Rows), .view 3 0 (List.map i64 made64).length, .view 4 0 (List.map i64 made65).length, .view 1 0 (List.map bl made66).length, i64 0, .ref 0 0 0, .ref 2 0 0, nilS]] rfl rfl rfl (.inl ⟨rfl, rfl⟩)) ?_
         refine AF.dry (r := .ref 5 0 0) 20 rfl (by kernel_rfl) rfl (fun _ => aop_move (.inr rfl) rfl) ?_
         refine AF.done (by kernel_rfl) ?_
         exact (fun w => hW5 _ _ w hC69) (Weak.re [(0, 5), (1, 3), (2, 4), (3, 1), (4, 0), (5, 2)] [] rfl rfl rfl (.cons rfl rfl (.one (.ag ⟨.sm, .sm, .view rfl, .view rfl, .view rfl, .sm, .ref rfl, .ref rfl, .sm, trivial⟩) rfl) dt (.cons rfl rfl (.same (by simp)) dt (.cons rfl rfl (.same (by simp)) dt (.cons rfl rfl (.same (by simp)) dt (.cons rfl rfl (.one (.sm) rfl) dt (.cons rfl rfl (.one (.sm) rfl) dt trivial)))))) ⟨.k, ⟨_, rfl, .ref rfl⟩, trivial⟩)
     ·skip
      refine AF1.loud (r := .view 3 0 (List.map i64 made65).length) _ rfl rfl rfl (t_make i64 0 made65 hmade65 rfl rfl rfl el25 zv25 rfl rfl rfl) ?_
      refine AF.many 3 [] (by kernel_rfl) ⟨?_, trivial⟩
      ·skip
       refine AF1.loud (r := .view 4 0 (List.map i64 made64).length) _ rfl rfl rfl (t_make i64 0 made64 hmade64 rfl rfl rfl el25 zv25 rfl rfl rfl) ?_
       refine AF.keep [1, 8, 21, 17, 25, 14, 11] rfl ?_
       refine AF.many 18 [] (by kernel_rfl) ⟨?_, trivial⟩
       ·skip
        refine AF1.loud (r := .agg [i64 g_0.N, .sl (List.map u64 g_0.Rows), .view 4 0 (List.map i64 made64).length, .view 3 0 (List.map i64 made65).length, .view 1 0 (List.map bl made66).length, i64 0, .ref 0 0 0, .ref 2 0 0, nilS]) _ rfl rfl rfl (aop_build rfl bd67 rfl rfl rfl) ?_
        refine AF.many 19 [] (by kernel_rfl) ⟨?_, trivial⟩
        ·skip
         refine AF1.loud (r := .ref 5 0 0) _ rfl rfl rfl (aop_box 9 [.agg [i64 g_0.N, .sl (List.map u64 g_0.Rows), .view 4 0 (List.map i64 made64).length, .view 3 0 (List.map i64 made65).length, .view 1 0 (List.map bl made66).length, i64 0, .ref 0 0 0, .ref 2 0 0, nilS]] rfl rfl rfl (.inl ⟨rfl, rfl⟩)) ?_
         refine AF.dry (r := .ref 5 0 0) 20 rfl (by kernel_rfl) rfl (fun _ => aop_move (.inr rfl) rfl) ?_
         refine AF.done (by kernel_rfl) ?_
         exact (fun w => hW5 _ _ w hC69) (Weak.re [(0, 5), (1, 4), (2, 3), (3, 1), (4, 0), (5, 2)] [] rfl rfl rfl (.cons rfl rfl (.one (.ag ⟨.sm, .sm, .view rfl, .view rfl, .view rfl, .sm, .ref rfl, .ref rfl, .sm, trivial⟩) rfl) dt (.cons rfl rfl (.same (by simp)) dt (.cons rfl rfl (.same (by simp)) dt (.cons rfl rfl (.same (by simp)) dt (.cons rfl rfl (.one (.sm) rfl) dt (.cons rfl rfl (.one (.sm) rfl) dt trivial)))))) ⟨.k, ⟨_, rfl, .ref rfl⟩, trivial⟩)
   ·skip
    refine AF1.loud (r := .ref 1 0 0) _ rfl rfl rfl (aop_newE (.func rfl rfl (stack_Ints_ok hT hr68).call) (stack_Ints_ok hT hr68) (by simp) (by simp [AV.flat])) ?_
    refine AF.keep [1, 8, 10, 13, 16, 21, 25] rfl ?_
    refine AF.many 3 [6, 9] (by kernel_rfl) ⟨?_, ?_, ?_, trivial⟩
    ·skip
     refine AF1.loud (r := .view 2 0 (List.map i64 made64).length) _ rfl rfl rfl (t_make i64 0 made64 hmade64 rfl rfl rfl el25 zv25 rfl rfl rfl) ?_
     refine AF.many 6 [9] (by kernel_rfl) ⟨?_, ?_, trivial⟩
     ·skip
      refine AF1.loud (r := .view 3 0 (List.map i64 made65).length) _ rfl rfl rfl (t_make i64 0 made65 hmade65 rfl rfl rfl el25 zv25 rfl rfl rfl) ?_
      refine AF.many 9 [] (by kernel_rfl) ⟨?_, trivial⟩
      ·skip
       refine AF1.loud (r := .view 4 0 (List.map bl made66).length) _ rfl rfl rfl (t_make bl false made66 hmade66 rfl rfl rfl el59 zv59 rfl rfl rfl) ?_
       refine AF.keep [1, 8, 21, 25, 11, 14, 17] rfl ?_
       refine AF.many 18 [] (by kernel_rfl) ⟨?_, trivial⟩
       ·skip
        refine AF1.loud (r := .agg [i64 g_0.N, .sl (List.map u64 g_0.Rows), .view 2 0 (List.map i64 made64).length, .view 3 0 (List.map i64 made65).length, .view 4 0 (List.map bl made66).length, i64 0, .ref 0 0 0, .ref 1 0 0, nilS]) _ rfl rfl rfl (aop_build rfl bd67 rfl rfl rfl) ?_
        refine AF.many 19 [] (by kernel_rfl) ⟨?_, trivial⟩
        ·skip
         refine AF1.loud (r := .ref 5 0 0) _ rfl rfl rfl (aop_box 9 [.agg [i64 g_0.N, .sl (List.map u64 g_0.Rows), .view 2 0 (List.map i64 made64).length, .view 3 0 (List.map i64 made65).length, .view 4 0 (List.map bl made66).length, i64 0, .ref 0 0 0, .ref 1 0 0, nilS]] rfl rfl rfl (.inl ⟨rfl, rfl⟩)) ?_
         refine AF.dry (r := .ref 5 0 0) 20 rfl (by kernel_rfl) rfl (fun _ => aop_move (.inr rfl) rfl) ?_
         refine AF.done (by kernel_rfl) ?_
         exact (fun w => hW5 _ _ w hC69) (Weak.re [(0, 5), (1, 2), (2, 3), (3, 4), (4, 0), (5, 1)] [] rfl rfl rfl (.cons rfl rfl (.one (.ag ⟨.sm, .sm, .view rfl, .view rfl, .view rfl, .sm, .ref rfl, .ref rfl, .sm, trivial⟩) rfl) dt (.cons rfl rfl (.same (by simp)) dt (.cons rfl rfl (.same (by simp)) dt (.cons rfl rfl (.same (by simp)) dt (.cons rfl rfl (.one (.sm) rfl) dt (.cons rfl rfl (.one (.sm) rfl) dt trivial)))))) ⟨.k, ⟨_, rfl, .ref rfl⟩, trivial⟩)
     ·skip
      refine AF1.loud (r := .view 3 0 (List.map bl made66).length) _ rfl rfl rfl (t_make bl false made66 hmade66 rfl rfl rfl el59 zv59 rfl rfl rfl) ?_
      refine AF.many 6 [] (by kernel_rfl) ⟨?_, trivial⟩
      ·skip
       refine AF1.loud (r := .view 4 0 (List.map i64 made65).length) _ rfl rfl rfl (t_make i64 0 made65 hmade65 rfl rfl rfl el25 zv25 rfl rfl rfl) ?_
       refine AF.keep [1, 8, 21, 25, 11, 17, 14] rfl ?_
       refine AF.many 18 [] (by kernel_rfl) ⟨?_, trivial⟩
       ·skip
        refine AF1.loud (r := .agg [i64 g_0.N, .sl (List.map u64 g_0.Rows), .view 2 0 (List.map i64 made64).length, .view 4 0 (List.map i64 made65).length, .view 3 0 (List.map bl made66).length, i64 0, .ref 0 0 0, .ref 1 0 0, nilS]) _ rfl rfl rfl (aop_build rfl bd67 rfl rfl rfl) ?_
        refine AF.many 19 [] (by kernel_rfl) ⟨?_, trivial⟩
        ·skip
         refine AF1.loud (r := .ref 5 0 0) _ rfl rfl rfl (aop_box 9 [.agg [i64 g_0.N, .sl (List.map u64 g_0.Rows), .view 2 0 (List.map i64 made64).length, .view 4 0 (List.map i64 made65).length, .view 3 0 (List.map bl made66).length, i64 0, .ref 0 0 0, .ref 1 0 0, nilS]] rfl rfl rfl (.inl ⟨rfl, rfl⟩)) ?_
         refine AF.dry (r := .ref 5 0 0) 20 rfl (by kernel_rfl) rfl (fun _ => aop_move (.inr rfl) rfl) ?_
         refine AF.done (by kernel_rfl) ?_
         exact (fun w => hW5 _ _ w hC69) (Weak.re [(0, 5), (1, 2), (2, 4), (3, 3), (4, 0), (5, 1)] [] rfl rfl rfl (.cons rfl rfl (.one (.ag ⟨.sm, .sm, .view rfl, .view rfl, .view rfl, .sm, .ref rfl, .ref rfl, .sm, trivial⟩) rfl) dt (.cons rfl rfl (.same (by simp)) dt (.cons rfl rfl (.same (by simp)) dt (.cons rfl rfl (.same (by simp)) dt (.cons rfl rfl (.one (.sm) rfl) dt (.cons rfl rfl (.one (.sm) rfl) dt trivial)))))) ⟨.k, ⟨_, rfl, .ref rfl⟩, trivial⟩)
    ·skip
     refine AF1.loud (r := .view 2 0 (List.map i64 made65).length) _ rfl rfl rfl (t_make i64 0 made65 hmade65 rfl rfl rfl el25 zv25 rfl rfl rfl) ?_
     refine AF.many 3 [9] (by kernel_rfl) ⟨?_, ?_, trivial⟩
     ·skip
      refine AF1.loud (r := .view 3 0 (List.map i64 made64).length) _ rfl rfl rfl (t_make i64 0 made64 hmade64 rfl rfl rfl el25 zv25 rfl rfl rfl) ?_
      refine AF.many 9 [] (by kernel_rfl) ⟨?_, trivial⟩
      ·skip
       refine AF1.loud (r := .view 4 0 (List.map bl made66).length) _ rfl rfl rfl (t_make bl false made66 hmade66 rfl rfl rfl el59 zv59 rfl rfl rfl) ?_
       refine AF.keep [1, 8, 21, 25, 14, 11, 17] rfl ?_
       refine AF.many 18 [] (by kernel_rfl) ⟨?_, trivial⟩
       ·skip
        refine AF1.loud (r := .agg [i64 g_0.N, .sl (List.map u64 g_0.Rows), .view 3 0 (List.map i64 made64).length, .view 2 0 (List.map i64 made65).length, .view 4 0 (List.map bl made66).length, i64 0, .ref 0 0 0, .ref 1 0 0, nilS]) _ rfl rfl rfl (aop_build rfl bd67 rfl rfl rfl) ?_
        refine AF.many 19 [] (by kernel_rfl) ⟨?_, trivial⟩
        ·skip
         refine AF1.loud (r := .ref 5 0 0) _ rfl rfl rfl (aop_box 9 [.agg [i64 g_0.N, .sl (List.map u64 g_0.Rows), .view 3 0 (List.map i64 made64).length, .view 2 0 (List.map i64 made65).length, .view 4 0 (List.map bl made66).length, i64 0, .ref 0 0 0, .ref 1 0 0, nilS]] rfl rfl rfl (.inl ⟨rfl, rfl⟩)) ?_
         refine AF.dry (r := .ref 5 0 0) 20 rfl (by kernel_rfl) rfl (fun _ => aop_move (.inr rfl) rfl) ?_
         refine AF.done (by kernel_rfl) ?_
         exact (fun w => hW5 _ _ w hC69) (Weak.re [(0, 5), (1, 3), (2, 2), (3, 4), (4, 0), (5, 1)] [] rfl rfl rfl (.cons rfl rfl (.one (.ag ⟨.sm, .sm, .view rfl, .view rfl, .view rfl, .sm, .ref rfl, .ref rfl, .sm, trivial⟩) rfl) dt (.cons rfl rfl (.same (by simp)) dt (.cons rfl rfl (.same (by simp)) dt (.cons rfl rfl (.same (by simp)) dt (.cons rfl rfl (.one (.sm) rfl) dt (.cons rfl rfl (.one (.sm) rfl) dt trivial)))))) ⟨.k, ⟨_, rfl, .ref rfl⟩, trivial⟩)
     ·skip
      refine AF1.loud (r := .view 3 0 (List.map bl made66).length) _ rfl rfl rfl (t_make bl false made66 hmade66 rfl rfl rfl el59 zv59 rfl rfl rfl) ?_
      refine AF.many 3 [] (by kernel_rfl) ⟨?_, trivial⟩
      ·skip
       refine AF1.loud (r := .view 4 0 (List.map i64 made64).length) _ rfl rfl rfl (t_make i64 0 made64 hmade64 rfl rfl rfl el25 zv25 rfl rfl rfl) ?_
       refine AF.keep [1, 8, 21, 25, 14, 17, 11] rfl ?_
       refine AF.many 18 [] (by kernel_rfl) ⟨?_, trivial⟩
       ·skip
        refine AF1.loud (r := .agg [i64 g_0.N, .sl (List.map u64 g_0.Rows), .view 4 0 (List.map i64 made64).length, .view 2 0 (List.map i64 made65).length, .view 3 0 (List.map bl made66).length, i64 0, .ref 0 0 0, .ref 1 0 0, nilS]) _ rfl rfl rfl (aop_build rfl bd67 rfl rfl rfl) ?_
        refine AF.many 19 [] (by kernel_rfl) ⟨?_, trivial⟩
        ·skip
         refine AF1.loud (r := .ref 5 0 0) _ rfl rfl rfl (aop_box 9 [.agg [i64 g_0.N, .sl (List.map u64 g_0.Rows), .view 4 0 (List.map i64 made64).length, .view 2 0 (List.map i64 made65).length, .view 3 0 (List.map bl made66).length, i64 0, .ref 0 0 0, .ref 1 0 0, nilS]] rfl rfl rfl (.inl ⟨rfl, rfl⟩)) ?_
         refine AF.dry (r := .ref 5 0 0) 20 rfl (by kernel_rfl) rfl (fun _ => aop_move (.inr rfl) rfl) ?_
         refine AF.done (by kernel_rfl) ?_
         exact (fun w => hW5 _ _ w hC69) (Weak.re [(0, 5), (1, 4), (2, 2), (3, 3), (4, 0), (5, 1)] [] rfl rfl rfl (.cons rfl rfl (.one (.ag ⟨.sm, .sm, .view rfl, .view rfl, .view rfl, .sm, .ref rfl, .ref rfl, .sm, trivial⟩) rfl) dt (.cons rfl rfl (.same (by simp)) dt (.cons rfl rfl (.same (by simp)) dt (.cons rfl rfl (.same (by simp)) dt (.cons rfl rfl (.one (.sm) rfl) dt (.cons rfl rfl (.one (.sm) rfl) dt trivial)))))) ⟨.k, ⟨_, rfl, .ref rfl⟩, trivial⟩)
    ·skip
     refine AF1.loud (r := .view 2 0 (List.map bl made66).length) _ rfl rfl rfl (t_make bl false made66 hmade66 rfl rfl rfl el59 zv59 rfl rfl rfl) ?_
     refine AF.many 3 [6] (by kernel_rfl) ⟨?_, ?_, trivial⟩
     ·skip
      refine AF1.loud (r := .view 3 0 (List.map i64 made64).length) _ rfl rfl rfl (t_make i64 0 made64 hmade64 rfl rfl rfl el25 zv25 rfl rfl rfl) ?_
      refine AF.many 6 [] (by kernel_rfl) ⟨?_, trivial⟩
      ·skip
       refine AF1.loud (r := .view 4 0 (List.map i64 made65).length) _ rfl rfl rfl (t_make i64 0 made65 hmade65 rfl rfl rfl el25 zv25 rfl rfl rfl) ?_
       refine AF.keep [1, 8, 21, 25, 17, 11, 14] rfl ?_
       refine AF.many 18 [] (by kernel_rfl) ⟨?_, trivial⟩
       ·skip
        refine AF1.loud (r := .agg [i64 g_0.N, .sl (List.map u64 g_0.Rows), .view 3 0 (List.map i64 made64).length, .view 4 0 (List.map i64 made65).length, .view 2 0 (List.map bl made66).length, i64 0, .ref 0 0 0, .ref 1 0 0, nilS]) _ rfl rfl rfl (aop_build rfl bd67 rfl rfl rfl) ?_
        refine AF.many 19 [] (by kernel_rfl) ⟨?_, trivial⟩
        ·skip
         refine AF1.loud (r := .ref 5 0 0) _ rfl rfl rfl (aop_box 9 [.agg [i64 g_0.N, .sl (List.map u64 g_0.Rows), .view 3 0 (List.map i64 made64).length, .view 4 0 (List.map i64 made65).length, .view 2 0 (List.map bl made66).length, i64 0, .ref 0 0 0, .ref 1 0 0, nilS]] rfl rfl rfl (.inl ⟨rfl, rfl⟩)) ?_
         refine AF.dry (r := .ref 5 0 0) 20 rfl (by kernel_rfl) rfl (fun _ => aop_move (.inr rfl) rfl) ?_
         refine AF.done (by kernel_rfl) ?_
         exact (fun w => hW5 _ _ w hC69) (Weak.re [(0, 5), (1, 3), (2, 4), (3, 2), (4, 0), (5, 1)] [] rfl rfl rfl (.cons rfl rfl (.one (.ag ⟨.sm, .sm, .view rfl, .view rfl, .view rfl, .sm, .ref rfl, .ref rfl, .sm, trivial⟩) rfl) dt (.cons rfl rfl (.same (by simp)) dt (.cons rfl rfl (.same (by simp)) dt (.cons rfl rfl (.same (by simp)) dt (.cons rfl rfl (.one (.sm) rfl) dt (.cons rfl rfl (.one (.sm) rfl) dt trivial)))))) ⟨.k, ⟨_, rfl, .ref rfl⟩, trivial⟩)
     ·skip
      refine AF1.loud (r := .view 3 0 (List.map i64 made65).length) _ rfl rfl rfl (t_make i64 0 made65 hmade65 rfl rfl rfl el25 zv25 rfl rfl rfl) ?_
      refine AF.many 3 [] (by kernel_rfl) ⟨?_, trivial⟩
      ·skip
       refine AF1.loud (r := .view 4 0 (List.map i64 made64).length) _ rfl rfl rfl (t_make i64 0 made64 hmade64 rfl rfl rfl el25 zv25 rfl rfl rfl) ?_
       refine AF.keep [1, 8, 21, 25, 17, 14, 11] rfl ?_
       refine AF.many 18 [] (by kernel_rfl) ⟨?_, trivial⟩
       ·skip
        refine AF1.loud (r := .agg [i64 g_0.N, .sl (List.map u64 g_0.Rows), .view 4 0 (List.map i64 made64).length, .view 3 0 (List.map i64 made65).length, .view 2 0 (List.map bl made66).length, i64 0, .ref 0 0 0, .ref 1 0 0, nilS]) _ rfl rfl rfl (aop_build rfl bd67 rfl rfl rfl) ?_
        refine AF.many 19 [] (by kernel_rfl) ⟨?_, trivial⟩
        ·skip
         refine AF1.loud (r := .ref 5 0 0) _ rfl rfl rfl (aop_box 9 [.agg [i64 g_0.N, .sl (List.map u64 g_0.Rows), .view 4 0 (List.map i64 made64).length, .view 3 0 (List.map i64 made65).length, .view 2 0 (List.map bl made66).length, i64 0, .ref 0 0 0, .ref 1 0 0, nilS]] rfl rfl rfl (.inl ⟨rfl, rfl⟩)) ?_
         refine AF.dry (r := .ref 5 0 0) 20 rfl (by kernel_rfl) rfl (fun _ => aop_move (.inr rfl) rfl) ?_
         refine AF.done (by kernel_rfl) ?_
         exact (fun w => hW5 _ _ w hC69) (Weak.re [(0, 5), (1, 4), (2, 3), (3, 2), (4, 0), (5, 1)] [] rfl rfl rfl (.cons rfl rfl (.one (.ag ⟨.sm, .sm, .view rfl, .view rfl, .view rfl, .sm, .ref rfl, .ref rfl, .sm, trivial⟩) rfl) dt (.cons rfl rfl (.same (by simp)) dt (.cons rfl rfl (.same (by simp)) dt (.cons rfl rfl (.same (by simp)) dt (.cons rfl rfl (.one (.sm) rfl) dt (.cons rfl rfl (.one (.sm) rfl) dt trivial)))))) ⟨.k, ⟨_, rfl, .ref rfl⟩, trivial⟩)
theorem scc_Comps_ok {W0 : World} (hT : Tab W0) {g_0 : G.graph_Graph} {r : (List (List Int))} (h : G.scc_Comps g_0 = some r) : Fun1 Tryd.prog W0 23 [G.graph_Graph.av g_0] (.sl (List.map (slA i64) r)) :=
 (scc_Comps_own hT h).give (Weak.e ⟨⟨_, rfl, .lendAll rfl rfl (by simp)⟩, trivial⟩) (by simp)


theorem scc_Inner_own {W0 : World} (hT : Tab W0) {g_0 : G.graph_Graph} {r : (List Int)} (h : G.scc_Inner g_0 = some r) : Fun2 Tryd.prog W0 25 [G.graph_Graph.av g_0] (.view 0 0 (List.map i64 r).length) ⟨1, [(0, (1, List.map i64 r))], []⟩ := by
 refine fun2_of_awp Tryd.func25 rfl (by kernel_rfl) Tryd.ntmps25 (by simp) ?_
 unfold G.scc_Inner at h
 show AWP _ _ _ _ ⟨[(0, G.graph_Graph.av g_0)], .empty⟩ _
 refine awp_seqK fun K1 hK1 => awp_reg rfl <| AR.op (r := .ref 0 0 0) rfl (aop_box 2 [G.graph_Graph.av g_0] rfl rfl rfl (.inl ⟨rfl, rfl⟩)) <| AR.op rfl (aop_move (.inr rfl) rfl) <| AR.nil <| hK1 _ (AWP.weak (Weak.e (fr' := [(1, .pp [i64 g_0.N, .sl (List.map u64 g_0.Rows)] 0)]) (H' := .empty) ⟨⟨_, rfl, .frzA rfl rfl rfl rfl (by simp)⟩, trivial⟩) ?_)
 refine awp_seqK fun K2 hK2 => awp_reg rfl <| AR.op rfl (aop_move (.inr rfl) rfl) <| AR.nil <| hK2 _ ?_
 refine awp_seqJ (fun (p : (List Int)) => (⟨[(3, .view 0 0 (List.map i64 p).length)], ⟨1, [(0, (1, List.map i64 p))], []⟩⟩ : St)) (fun (p : (List Int)) => G.scc_Inner_j1 p = some r) ?_ ?_
 ·rintro out79 h
  replace h : G.scc_Inner_j1 out79 = some r := h
  unfold G.scc_Inner_j1 at h
  refine awp_seqK fun K3 hK3 => awp_reg rfl <| AR.op rfl (aop_move (.inl rfl) rfl) ?_
  obtain ⟨sort82, hsort82, h⟩ := Sh.bind_some' h
  have hlen83 := Sh.sort_len hsort82
  refine AR.op (r := .tuple []) rfl (aop_sort so51 out79 sort82 hsort82 rfl rfl rfl rfl rfl) <| AR.nil <| hK3 _ (AWP.weak (Weak.re (fr' := [(3, .view 0 0 (List.map i64 sort82).length)]) (H' := ⟨1, [(0, (1, List.map i64 sort82))], []⟩) [(0, 0)] [] rfl rfl rfl (.cons rfl rfl (.same (by simp)) dt trivial) ⟨⟨_, rfl, .viewL rfl (by simp [hlen83])⟩, trivial⟩) ?_)
  refine awp_seqK fun K4 hK4 => awp_reg rfl <| AR.op rfl (aop_move (.inl rfl) rfl) <| AR.op rfl (aop_move (.inr rfl) rfl) <| AR.nil <| hK4 _ (AWP.weak (Weak.kt [2] rfl) ?_)
  refine awp_ret ?_
  obtain rfl := Option.some.inj h
  refine ⟨.inr rfl, .view 0 0 (List.map i64 sort82).length, rfl, ?_⟩
  exact Weak.re [(0, 0)] [] rfl rfl rfl (.cons rfl rfl (.same (by simp)) dt trivial) ⟨⟨_, rfl, .view rfl⟩, trivial⟩
 ·intro K5 hK5
  refine awp_seqK fun K6 hK6 => awp_reg rfl <| AR.op (r := G.graph_Graph.av g_0) rfl (aop_load_pp rfl rfl sz24 rfl) ?_
  obtain ⟨r85, hr85, h⟩ := Sh.bind_some' h
  refine AR.op (r := .sl (List.map (slA i64) r85)) rfl (aop_call1 rfl rfl (by simp) (scc_Comps_ok hT hr85)) <| AR.op rfl (t_len_sl (slA i64) r85 rfl rfl el42) <| AR.keep [1, 3, 7, 8] rfl <| AR.op rfl (aop_move (.inl rfl) rfl) <| AR.nil <| hK6 _ ?_
  refine awp_block <| awp_iter (fun (p : (List Int) × Int) => G.scc_Inner_b1 g_0 r85 p.1 p.2) (fun (p : (List Int) × Int) => (⟨[(1, .pp [i64 g_0.N, .sl (List.map u64 g_0.Rows)] 0), (3, .view 0 0 (List.map i64 p.1).length), (7, .sl (List.map (slA i64) r85)), (8, i64 (Sh.len r85)), (9, i64 p.2)], ⟨1, [(0, (1, List.map i64 p.1))], []⟩⟩ : St)) h (Weak.re [] [0] rfl rfl rfl (.fresh (by simp) dt trivial) ⟨.k, ⟨_, rfl, .nil (by simp)⟩, ⟨.sl (List.map (slA i64) r85), rfl, .sm⟩, .k, .k, trivial⟩) ?_
  ·skip
   rintro ⟨out110, v111⟩ o1 h hx1
   replace h : G.scc_Inner_b1 g_0 r85 out110 v111 = some o1 := h
   unfold G.scc_Inner_b1 at h
   refine awp_seqK fun K7 hK7 => awp_reg rfl <| AR.op rfl (aop_lss rfl rfl rfl) <| AR.nil <| hK7 _ ?_
   refine awp_seqK fun K8 hK8 => awp_cond rfl (fun hb112 => ?_) (fun hb112 => ?_)
   ·replace h := Sh.if_t h hb112
    refine awp_skip <| hK8 _ (AWP.weak (Weak.kt [1, 3, 7, 8, 9] rfl) ?_)
    refine awp_seqJ (fun (p : (List Int)) => (⟨[(1, .pp [i64 g_0.N, .sl (List.map u64 g_0.Rows)] 0), (7, .sl (List.map (slA i64) r85)), (8, i64 (Sh.len r85)), (9, i64 v111), (3, .view 0 0 (List.map i64 p).length)], ⟨1, [(0, (1, List.map i64 p))], []⟩⟩ : St)) (fun (p : (List Int)) => G.scc_Inner_j2 v111 p = some o1) ?_ ?_
    ·rintro out123 h
     replace h : G.scc_Inner_j2 v111 out123 = some o1 := h
     unfold G.scc_Inner_j2 at h
     refine awp_reg rfl <| AR.op rfl (aop_add rfl rfl rfl rfl) <| AR.op rfl (aop_move (.inl rfl) rfl) <| AR.nil ?_
     replace h := Sh.next_eq h
     exact ⟨_, h, Weak.kt [1, 3, 7, 8, 9] rfl⟩
    ·intro K9 hK9
     refine awp_block <| awp_seqK fun K10 hK10 => awp_reg rfl ?_
     obtain ⟨x126, hx126, h⟩ := Sh.bind_some' h
     obtain ⟨k127, hi127, hl127⟩ := Sh.idx_some hx126
     refine AR.op rfl (t_index_sl (slA i64) r85 hi127 hl127 rfl rfl rfl el42 rfl) <| AR.op (r := .sl (List.map i64 x126)) rfl (aop_load_pp rfl rfl sz25 rfl) <| AR.op rfl (aop_move (.inr rfl) rfl) <| AR.nil <| hK10 _ (AWP.weak (Weak.kt [1, 3, 7, 8, 9, 5] rfl) ?_)
     refine awp_seqJ (fun (p : Bool) => (⟨[(1, .pp [i64 g_0.N, .sl (List.map u64 g_0.Rows)] 0), (3, .view 0 0 (List.map i64 out110).length), (7, .sl (List.map (slA i64) r85)), (8, i64 (Sh.len r85)), (9, i64 v111), (5, .sl (List.map i64 x126)), (25, bl p)], ⟨1, [(0, (1, List.map i64 out110))], []⟩⟩ : St)) (fun (p : Bool) => G.scc_Inner_j3 out110 v111 x126 p = some o1) ?_ ?_
     ·rintro v134 h
      replace h : G.scc_Inner_j3 out110 v111 x126 v134 = some o1 := h
      unfold G.scc_Inner_j3 at h
      refine awp_cond rfl (fun hb135 => ?_) (fun hb135 => ?_)
      ·replace h := Sh.if_t h hb135
       refine awp_reg rfl <| AR.op rfl (aop_move (.inl rfl) rfl) <| AR.op rfl (aop_move (.inl rfl) rfl) ?_
       obtain ⟨out136, hout136, h⟩ := Sh.bind_some' h
       refine AR.op (r := .view 1 0 (List.map i64 out136).length) rfl (t_app_view i64 out110 x126 out136 hout136 rfl et25 (fun _ => rfl) rfl rfl rfl rfl rfl rfl rfl) <| AR.keep [1, 7, 8, 9, 28] rfl <| AR.op rfl (aop_move (.inr rfl) rfl) <| AR.nil ?_
       exact hK9 out136 _ h (Weak.re [(0, 1)] [] rfl rfl rfl (.cons rfl rfl (.same (by simp)) dt trivial) ⟨.k, ⟨.sl (List.map (slA i64) r85), rfl, .sm⟩, .k, .k, ⟨_, rfl, .view rfl⟩, trivial⟩)
      ·replace h := Sh.if_f h hb135
       refine awp_skip ?_
       exact hK9 out110 _ h (Weak.kt [1, 7, 8, 9, 3] rfl)
     ·intro K11 hK11
      refine awp_any [(true, false), (true, false), (true, false), (true, false), (true, false), (true, false), (true, false), (true, false), (true, false), (true, false), (true, false), (true, false), (true, false)] (by kernel_rfl) (by kernel_rfl) rfl ?_
      refine ARH.dry rfl (fun _ => aop_move (.inl rfl) rfl) <| ARH.dry rfl (fun _ => t_len_sl i64 x126 rfl rfl el25) <| ARH.dry rfl (fun _ => aop_gtr rfl rfl rfl) <| ARH.keep [1, 3, 7, 8, 9, 5, 15] rfl <| ARH.dry rfl (fun _ => aop_move (.inl rfl) rfl) ?_
      rcases Bool.eq_false_or_eq_true (decide ((1 : Int) < (Sh.len x126))) with hb137 | hb137
      ·rw [hb137]
       replace h := Sh.if_t h hb137
       refine ARH.skip rfl <| ARH.skip rfl <| ARH.keep [1, 3, 7, 8, 9, 5, 16, 17, 18] rfl <| ARH.skip rfl <| ARH.skip rfl <| ARH.skip rfl <| ARH.keep [1, 3, 7, 8, 9, 5, 16, 17, 18, 19, 20, 21] rfl <| ARH.skip rfl ?_
       refine ARH.skip rfl <| ARH.skip rfl <| ARH.keep [1, 3, 7, 8, 9, 5, 16, 17, 18, 19, 20, 21, 22, 23, 24] rfl <| ARH.dry rfl (fun _ => aop_pick rfl rfl rfl) <| ARH.nil ?_
       exact hK11 true _ h (Weak.kt [1, 3, 7, 8, 9, 5, 25] rfl)
      ·rw [hb137]
       replace h := Sh.if_f h hb137
       refine ARH.dry (r := G.graph_Graph.av g_0) rfl (fun _ => aop_load_pp rfl rfl sz24 rfl) <| ARH.dry rfl (fun _ => aop_move (.inl rfl) rfl) <| ARH.keep [1, 3, 7, 8, 9, 5, 16, 17, 18] rfl ?_
       obtain ⟨x138, hx138, h⟩ := Sh.bind_some' h
       obtain ⟨k139, hi139, hl139⟩ := Sh.idx_some hx138
       refine ARH.dry rfl (fun _ => t_index_sl i64 x126 hi139 hl139 rfl rfl rfl el25 rfl) <| ARH.dry (r := i64 x138) rfl (fun _ => aop_load_pp rfl rfl sz3 rfl) <| ARH.dry rfl (fun _ => aop_move (.inl rfl) rfl) <| ARH.keep [1, 3, 7, 8, 9, 5, 16, 17, 18, 19, 20, 21] rfl ?_
       obtain ⟨x140, hx140, h⟩ := Sh.bind_some' h
       obtain ⟨k141, hi141, hl141⟩ := Sh.idx_some hx140
       refine ARH.dry rfl (fun _ => t_index_sl i64 x126 hi141 hl141 rfl rfl rfl el25 rfl) <| ARH.dry (r := i64 x140) rfl (fun _ => aop_load_pp rfl rfl sz3 rfl) ?_
       obtain ⟨r142, hr142, h⟩ := Sh.bind_some' h
       refine ARH.dry (r := bl r142) rfl (fun _ => aop_call1 rfl rfl (by simp) (graph_Has_ok hT hr142)) <| ARH.keep [1, 3, 7, 8, 9, 5, 16, 17, 18, 19, 20, 21, 22, 23, 24] rfl <| ARH.dry rfl (fun _ => aop_pick rfl rfl rfl) <| ARH.nil ?_
       exact hK11 r142 _ h (Weak.kt [1, 3, 7, 8, 9, 5, 25] rfl)
   ·replace h := Sh.if_f h hb112
    refine awp_exit ?_
    replace h := Sh.exit_eq h hx1
    exact hK5 out110 _ h (Weak.kt [3] rfl)
theorem scc_Inner_ok {W0 : World} (hT : Tab W0) {g_0 : G.graph_Graph} {r : (List Int)} (h : G.scc_Inner g_0 = some r) : Fun1 Tryd.prog W0 25 [G.graph_Graph.av g_0] (.sl (List.map i64 r)) :=
 (scc_Inner_own hT h).give (Weak.e ⟨⟨_, rfl, .lendAll rfl rfl (by simp)⟩, trivial⟩) (by simp)

end Wk
