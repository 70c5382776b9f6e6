/- That the functions of a package do what their plain functions say. -/
import Derived.Test.YtkiiigfefobdlaaDoorSh
import Derived.Test.YtkiiigfefobdlaaDoorWkCFacts
import Derived.Test.YtkiiigfefobdlaaDoorWkCcycle
import Derived.Test.YtkiiigfefobdlaaDoorWkCgraph
import Derived.Test.YtkiiigfefobdlaaDoorWkCinquestref07
import Derived.Test.YtkiiigfefobdlaaDoorWkCinquestref12
import Derived.Test.YtkiiigfefobdlaaDoorWkCinquestref15
import Derived.Test.YtkiiigfefobdlaaDoorWkCreach
import Derived.Test.YtkiiigfefobdlaaDoorWkCscc
open Go Go.Av Go.Proofs
set_option linter.unusedVariables false
set_option maxHeartbeats 8000000
set_option maxRecDepth 20000
namespace Wk
theorem inquestlaw15_awake_ok0 {W0 : World} (hT : Tab W0) {r : Bool} (h : G.inquestlaw15_awake = some r) : Fun2 Tryd.prog W0 11 [] (bl r) .empty := by
 refine fun2_of_awp Tryd.func11 rfl (by kernel_rfl) Tryd.ntmps11 (by simp) ?_
 unfold G.inquestlaw15_awake at h
 show AWP _ _ _ _ ⟨[], .empty⟩ _
 refine awp_seqK fun K1 hK1 => awp_reg rfl <| AR.op rfl (aop_move (.inr rfl) rfl) <| AR.nil <| hK1 _ (AWP.weak (Weak.kt [] rfl) ?_)
 refine awp_seqK fun K2 hK2 => awp_reg rfl <| AR.op (r := .clip (List.map u64 [2#64, 4#64, 3#64])) rfl (aop_buildSlice rfl (xo := [.const (.int .u64 2), .const (.int .u64 4), .const (.int .u64 3)]) rfl rfl rfl (by simp [AV.solid]) (by simp [AV.flat]) el22 ze22 (by decide)) <| AR.op (r := .agg [i64 3, .clip (List.map u64 [2#64, 4#64, 3#64])]) rfl (aop_build rfl bd24 rfl rfl rfl) <| AR.op (r := .ref 0 0 0) rfl (aop_alloc 2 [.agg [i64 0, nilS]] rfl zr24 (by kernel_rfl) (.inl ⟨rfl, rfl⟩)) <| AR.keep [3, 1] rfl <| AR.op rfl (aop_store (e' := .agg [i64 3, .clip (List.map u64 [2#64, 4#64, 3#64])]) rfl rfl rfl rfl rfl rfl sz24 rfl dt rfl) <| AR.nil ?_
 refine hK2 _ (AWP.weak (Weak.e (fr' := [(1, .pp [i64 3, .clip (List.map u64 [2#64, 4#64, 3#64])] 0)]) (H' := .empty) ⟨⟨_, rfl, .frzA rfl rfl rfl rfl (by simp)⟩, trivial⟩) ?_)
 refine awp_seqK fun K3 hK3 => awp_reg rfl <| AR.op (r := .agg [i64 3, .clip (List.map u64 [2#64, 4#64, 3#64])]) rfl (aop_load_pp rfl rfl sz24 rfl) ?_
 obtain ⟨r14, hr14, h⟩ := Sh.bind_some' h
 refine AR.op (r := .sl (List.map i64 r14)) rfl (aop_callN rfl (ys := [.agg [i64 3, .clip (List.map u64 [2#64, 4#64, 3#64])]]) (xs := [G.graph_Graph.av (G.graph_Graph.mk 3 [2#64, 4#64, 3#64])]) rfl (Weak.e (fr' := argsFr 0 [G.graph_Graph.av (G.graph_Graph.mk 3 [2#64, 4#64, 3#64])]) (H' := .empty) ⟨⟨.agg [i64 3, .clip (List.map u64 [2#64, 4#64, 3#64])], rfl, .ag ⟨.sm, .wide _ (by simp), trivial⟩⟩, trivial⟩) rfl (by simp) (cycle_Find_ok hT hr14)) <| AR.op (r := .clip (List.map i64 [0, 1, 2])) rfl (aop_buildSlice rfl (xo := [.const (.int .i64 0), .const (.int .i64 1), .const (.int .i64 2)]) rfl rfl rfl (by simp [AV.solid]) (by simp [AV.flat]) el25 ze25 (by decide)) <| AR.keep [1, 5, 6] rfl ?_
 obtain ⟨r15, hr15, h⟩ := Sh.bind_some' h
 refine AR.op (r := bl r15) rfl (aop_callN rfl (ys := [.sl (List.map i64 r14), .clip (List.map i64 [0, 1, 2])]) (xs := [.sl (List.map i64 r14), .sl (List.map i64 [0, 1, 2])]) rfl (Weak.e (fr' := argsFr 0 [.sl (List.map i64 r14), .sl (List.map i64 [0, 1, 2])]) (H' := .empty) ⟨⟨.sl (List.map i64 r14), rfl, .sm⟩, ⟨.clip (List.map i64 [0, 1, 2]), rfl, .wide _ (by simp)⟩, trivial⟩) rfl (by simp) (inquestref07_Ints_ok hT hr15)) <| AR.op rfl (aop_move (.inl rfl) rfl) ?_
 rcases Bool.eq_false_or_eq_true (r15) with hb16 | hb16
 ·rw [hb16]
  replace h := Sh.if_t h hb16
  refine AR.op (r := .agg [i64 3, .clip (List.map u64 [2#64, 4#64, 3#64])]) rfl (aop_load_pp rfl rfl sz24 rfl) <| AR.keep [1, 8, 9] rfl <| AR.op (r := .clip (List.map i64 [2, 1])) rfl (aop_buildSlice rfl (xo := [.const (.int .i64 2), .const (.int .i64 1)]) rfl rfl rfl (by simp [AV.solid]) (by simp [AV.flat]) el25 ze25 (by decide)) ?_
  obtain ⟨r17, hr17, h⟩ := Sh.bind_some' h
  refine AR.op (r := bl r17) rfl (aop_callN rfl (ys := [.agg [i64 3, .clip (List.map u64 [2#64, 4#64, 3#64])], .clip (List.map i64 [2, 1])]) (xs := [G.graph_Graph.av (G.graph_Graph.mk 3 [2#64, 4#64, 3#64]), .sl (List.map i64 [2, 1])]) rfl (Weak.e (fr' := argsFr 0 [G.graph_Graph.av (G.graph_Graph.mk 3 [2#64, 4#64, 3#64]), .sl (List.map i64 [2, 1])]) (H' := .empty) ⟨⟨.agg [i64 3, .clip (List.map u64 [2#64, 4#64, 3#64])], rfl, .ag ⟨.sm, .wide _ (by simp), trivial⟩⟩, ⟨.clip (List.map i64 [2, 1]), rfl, .wide _ (by simp)⟩, trivial⟩) rfl (by simp) (cycle_Is_ok hT hr17)) <| AR.op rfl (aop_pick rfl rfl rfl) <| AR.keep [1, 12] rfl <| AR.op rfl (aop_move (.inl rfl) rfl) ?_
  rcases Bool.eq_false_or_eq_true (r17) with hb18 | hb18
  ·rw [hb18]
   replace h := Sh.if_t h hb18
   refine AR.op (r := .agg [i64 3, .clip (List.map u64 [2#64, 4#64, 3#64])]) rfl (aop_load_pp rfl rfl sz24 rfl) <| AR.op (r := .clip (List.map i64 [0, 1])) rfl (aop_buildSlice rfl (xo := [.const (.int .i64 0), .const (.int .i64 1)]) rfl rfl rfl (by simp [AV.solid]) (by simp [AV.flat]) el25 ze25 (by decide)) <| AR.keep [13, 14, 15] rfl ?_
   obtain ⟨r19, hr19, h⟩ := Sh.bind_some' h
   refine AR.op (r := bl r19) rfl (aop_callN rfl (ys := [.agg [i64 3, .clip (List.map u64 [2#64, 4#64, 3#64])], .clip (List.map i64 [0, 1])]) (xs := [G.graph_Graph.av (G.graph_Graph.mk 3 [2#64, 4#64, 3#64]), .sl (List.map i64 [0, 1])]) rfl (Weak.e (fr' := argsFr 0 [G.graph_Graph.av (G.graph_Graph.mk 3 [2#64, 4#64, 3#64]), .sl (List.map i64 [0, 1])]) (H' := .empty) ⟨⟨.agg [i64 3, .clip (List.map u64 [2#64, 4#64, 3#64])], rfl, .ag ⟨.sm, .wide _ (by simp), trivial⟩⟩, ⟨.clip (List.map i64 [0, 1]), rfl, .wide _ (by simp)⟩, trivial⟩) rfl (by simp) (cycle_Is_ok hT hr19)) <| AR.op (r := bl (!r19)) rfl (aop_not rfl rfl) <| AR.op rfl (aop_pick rfl rfl rfl) <| AR.keep [18] rfl <| AR.op rfl (aop_move (.inr rfl) rfl) <| AR.nil <| hK3 _ (AWP.weak (Weak.kt [0] rfl) ?_)
   refine awp_ret ?_
   obtain rfl := Option.some.inj h
   refine ⟨.inr rfl, bl (!r19), rfl, ?_⟩
   exact Weak.e ⟨.k, trivial⟩
  ·rw [hb18]
   replace h := Sh.if_f h hb18
   refine AR.skip rfl <| AR.skip rfl <| AR.keep [13, 14, 15] rfl <| AR.skip rfl <| AR.skip rfl <| AR.op rfl (aop_pick rfl rfl rfl) <| AR.keep [18] rfl <| AR.op rfl (aop_move (.inr rfl) rfl) ?_
   refine AR.nil <| hK3 _ (AWP.weak (Weak.kt [0] rfl) ?_)
   refine awp_ret ?_
   obtain rfl := Option.some.inj h
   refine ⟨.inr rfl, bl false, rfl, ?_⟩
   exact Weak.e ⟨.k, trivial⟩
 ·rw [hb16]
  replace h := Sh.if_f h hb16
  refine AR.skip rfl <| AR.keep [1, 8, 9] rfl <| AR.skip rfl <| AR.skip rfl <| AR.op rfl (aop_pick rfl rfl rfl) <| AR.keep [1, 12] rfl <| AR.op rfl (aop_move (.inl rfl) rfl) <| AR.skip rfl ?_
  refine AR.skip rfl <| AR.keep [13, 14, 15] rfl <| AR.skip rfl <| AR.skip rfl <| AR.op rfl (aop_pick rfl rfl rfl) <| AR.keep [18] rfl <| AR.op rfl (aop_move (.inr rfl) rfl) <| AR.nil ?_
  refine hK3 _ (AWP.weak (Weak.kt [0] rfl) ?_)
  refine awp_ret ?_
  obtain rfl := Option.some.inj h
  refine ⟨.inr rfl, bl false, rfl, ?_⟩
  exact Weak.e ⟨.k, trivial⟩
theorem inquestlaw15_awake_ok {W0 : World} (hT : Tab W0) {r : Bool} (h : G.inquestlaw15_awake = some r) : Fun1 Tryd.prog W0 11 [] (bl r) := Fun1.two (inquestlaw15_awake_ok0 hT h) (by simp)


end Wk
