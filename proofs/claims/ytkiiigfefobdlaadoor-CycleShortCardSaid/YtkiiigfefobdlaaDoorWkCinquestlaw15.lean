/- That the functions of a package do what their plain functions say. -/
import Derived.Test.YtkiiigfefobdlaaDoorSh
import Derived.Test.YtkiiigfefobdlaaDoorWkCFacts
import Derived.Test.YtkiiigfefobdlaaDoorWkCcycle
import Derived.Test.YtkiiigfefobdlaaDoorWkCgraph
import Derived.Test.YtkiiigfefobdlaaDoorWkCinquestref07
import Derived.Test.YtkiiigfefobdlaaDoorWkCinquestref12
import Derived.Test.YtkiiigfefobdlaaDoorWkCinquestref15
open Go Go.Av Go.Proofs
set_option linter.unusedVariables false
namespace Wk
set_option maxHeartbeats 8000000 in
set_option maxRecDepth 20000 in
theorem inquestlaw15_awake_ok0 {W0 : World} (hT : Tab W0) {r : Bool} (h : G.inquestlaw15_awake = some r) : Fun2 Tryd.prog W0 11 [] (bl r) .empty := by
  refine fun2_of_awp Tryd.func11 rfl (by kernel_rfl) Tryd.ntmps11 (by simp) ?_
  unfold G.inquestlaw15_awake at h
  show AWP _ _ _ _ ⟨[], .empty⟩ _
  refine awp_seqK fun K1 hK1 => ?_
  refine awp_reg rfl ?_
  refine AR.op (r := bl false) rfl (aop_move (.inr rfl) rfl) ?_
  refine AR.nil ?_
  refine hK1 _ (AWP.weak (Weak.kp (fr' := []) trivial) ?_)
  clear hK1 K1
  refine awp_seqK fun K2 hK2 => ?_
  refine awp_reg rfl ?_
  refine AR.op (r := .clip (List.map u64 [2#64, 4#64, 3#64])) rfl (aop_buildSlice rfl (xo := [.const (.int .u64 2), .const (.int .u64 4), .const (.int .u64 3)]) rfl rfl rfl (by simp [AV.solid]) (by simp [AV.flat]) el22 ze22 (by decide)) ?_
  refine AR.op (r := .agg [i64 3, .clip (List.map u64 [2#64, 4#64, 3#64])]) rfl (aop_build rfl bd24 rfl rfl rfl) ?_
  refine AR.op (r := .ref 0 0 0) rfl (aop_alloc 2 [.agg [i64 0, nilS]] rfl zr24 (by kernel_rfl) (.inl ⟨rfl, rfl⟩)) ?_
  refine AR.drop (frx := [(3, _), (1, _)]) ⟨rfl, rfl, trivial⟩ ?_
  refine AR.op rfl (aop_store (e' := .agg [i64 3, .clip (List.map u64 [2#64, 4#64, 3#64])]) rfl rfl rfl rfl rfl rfl sz24 rfl (of_decide_eq_true rfl) rfl) ?_
  refine AR.nil ?_
  refine hK2 _ (AWP.weak (Weak.re (fr' := [(1, .ref 0 0 0)]) (H' := ⟨1, [(0, (2, [.agg [i64 3, .clip (List.map u64 [2#64, 4#64, 3#64])]]))]⟩) [(0, 0)] [] rfl rfl rfl (.cons rfl rfl (.one (.same _ (by simp)) rfl) (of_decide_eq_true rfl) (trivial)) ⟨⟨_, rfl, .ref rfl⟩, trivial⟩) ?_)
  clear hK2 K2
  refine awp_seqK fun K3 hK3 => ?_
  refine awp_reg rfl ?_
  refine AR.op (r := .agg [i64 3, .clip (List.map u64 [2#64, 4#64, 3#64])]) rfl (aop_load_ref rfl rfl rfl rfl sz24 rfl) ?_
  obtain ⟨r14, hr14, h⟩ := Sh.bind_some' h
  refine AR.op (r := .sl (List.map i64 r14)) rfl (aop_callN rfl (ys := [.agg [i64 3, .clip (List.map u64 [2#64, 4#64, 3#64])]]) (xs := [G.graph_Graph.av (G.graph_Graph.mk 3 [2#64, 4#64, 3#64])]) rfl (Weak.re (fr' := argsFr 0 [G.graph_Graph.av (G.graph_Graph.mk 3 [2#64, 4#64, 3#64])]) (H' := .empty) [] [] rfl rfl rfl trivial ⟨⟨.agg [i64 3, .clip (List.map u64 [2#64, 4#64, 3#64])], rfl, .ag ⟨.same _ (by simp), .wide _ (by simp), trivial⟩⟩, trivial⟩) rfl (by simp) (cycle_Find_ok hT hr14)) ?_
  refine AR.op (r := .clip (List.map i64 [0, 1, 2])) rfl (aop_buildSlice rfl (xo := [.const (.int .i64 0), .const (.int .i64 1), .const (.int .i64 2)]) rfl rfl rfl (by simp [AV.solid]) (by simp [AV.flat]) el25 ze25 (by decide)) ?_
  refine AR.drop (frx := [(1, _), (5, _), (6, _)]) ⟨rfl, rfl, rfl, trivial⟩ ?_
  obtain ⟨r15, hr15, h⟩ := Sh.bind_some' h
  refine AR.op (r := bl r15) rfl (aop_callN rfl (ys := [.sl (List.map i64 r14), .clip (List.map i64 [0, 1, 2])]) (xs := [.sl (List.map i64 r14), .sl (List.map i64 [0, 1, 2])]) rfl (Weak.re (fr' := argsFr 0 [.sl (List.map i64 r14), .sl (List.map i64 [0, 1, 2])]) (H' := .empty) [] [] rfl rfl rfl trivial ⟨⟨.sl (List.map i64 r14), rfl, .same _ (by simp)⟩, ⟨.clip (List.map i64 [0, 1, 2]), rfl, .wide _ (by simp)⟩, trivial⟩) rfl (by simp) (inquestref07_Ints_ok hT hr15)) ?_
  refine AR.op (r := bl r15) rfl (aop_move (.inl rfl) rfl) ?_
  rcases Bool.eq_false_or_eq_true (r15) with hb16 | hb16
  · rw [hb16]
    replace h := Sh.if_t h hb16
    refine AR.op (r := .agg [i64 3, .clip (List.map u64 [2#64, 4#64, 3#64])]) rfl (aop_load_ref rfl rfl rfl rfl sz24 rfl) ?_
    refine AR.drop (frx := [(1, _), (8, _), (9, _)]) ⟨rfl, rfl, rfl, trivial⟩ ?_
    refine AR.op (r := .clip (List.map i64 [2, 1])) rfl (aop_buildSlice rfl (xo := [.const (.int .i64 2), .const (.int .i64 1)]) rfl rfl rfl (by simp [AV.solid]) (by simp [AV.flat]) el25 ze25 (by decide)) ?_
    obtain ⟨r17, hr17, h⟩ := Sh.bind_some' h
    refine AR.op (r := bl r17) rfl (aop_callN rfl (ys := [.agg [i64 3, .clip (List.map u64 [2#64, 4#64, 3#64])], .clip (List.map i64 [2, 1])]) (xs := [G.graph_Graph.av (G.graph_Graph.mk 3 [2#64, 4#64, 3#64]), .sl (List.map i64 [2, 1])]) rfl (Weak.re (fr' := argsFr 0 [G.graph_Graph.av (G.graph_Graph.mk 3 [2#64, 4#64, 3#64]), .sl (List.map i64 [2, 1])]) (H' := .empty) [] [] rfl rfl rfl trivial ⟨⟨.agg [i64 3, .clip (List.map u64 [2#64, 4#64, 3#64])], rfl, .ag ⟨.same _ (by simp), .wide _ (by simp), trivial⟩⟩, ⟨.clip (List.map i64 [2, 1]), rfl, .wide _ (by simp)⟩, trivial⟩) rfl (by simp) (cycle_Is_ok hT hr17)) ?_
    refine AR.op (r := bl r17) rfl (aop_pick rfl rfl rfl) ?_
    refine AR.drop (frx := [(1, _), (12, _)]) ⟨rfl, rfl, trivial⟩ ?_
    refine AR.op (r := bl r17) rfl (aop_move (.inl rfl) rfl) ?_
    rcases Bool.eq_false_or_eq_true (r17) with hb18 | hb18
    · rw [hb18]
      replace h := Sh.if_t h hb18
      refine AR.op (r := .agg [i64 3, .clip (List.map u64 [2#64, 4#64, 3#64])]) rfl (aop_load_ref rfl rfl rfl rfl sz24 rfl) ?_
      refine AR.op (r := .clip (List.map i64 [0, 1])) rfl (aop_buildSlice rfl (xo := [.const (.int .i64 0), .const (.int .i64 1)]) rfl rfl rfl (by simp [AV.solid]) (by simp [AV.flat]) el25 ze25 (by decide)) ?_
      refine AR.drop (frx := [(13, _), (14, _), (15, _)]) ⟨rfl, rfl, rfl, trivial⟩ ?_
      obtain ⟨r19, hr19, h⟩ := Sh.bind_some' h
      refine AR.op (r := bl r19) rfl (aop_callN rfl (ys := [.agg [i64 3, .clip (List.map u64 [2#64, 4#64, 3#64])], .clip (List.map i64 [0, 1])]) (xs := [G.graph_Graph.av (G.graph_Graph.mk 3 [2#64, 4#64, 3#64]), .sl (List.map i64 [0, 1])]) rfl (Weak.re (fr' := argsFr 0 [G.graph_Graph.av (G.graph_Graph.mk 3 [2#64, 4#64, 3#64]), .sl (List.map i64 [0, 1])]) (H' := .empty) [] [] rfl rfl rfl trivial ⟨⟨.agg [i64 3, .clip (List.map u64 [2#64, 4#64, 3#64])], rfl, .ag ⟨.same _ (by simp), .wide _ (by simp), trivial⟩⟩, ⟨.clip (List.map i64 [0, 1]), rfl, .wide _ (by simp)⟩, trivial⟩) rfl (by simp) (cycle_Is_ok hT hr19)) ?_
      refine AR.op (r := bl (!r19)) rfl (aop_not rfl rfl) ?_
      refine AR.op (r := bl (!r19)) rfl (aop_pick rfl rfl rfl) ?_
      refine AR.drop (frx := [(18, _)]) ⟨rfl, trivial⟩ ?_
      refine AR.op (r := bl (!r19)) rfl (aop_move (.inr rfl) rfl) ?_
      refine AR.nil ?_
      refine hK3 _ (AWP.weak (Weak.re (fr' := [(0, bl (!r19))]) (H' := .empty) [] [] rfl rfl rfl (trivial) ⟨⟨_, rfl, .same _ (by simp)⟩, trivial⟩) ?_)
      clear hK3 K3
      refine awp_ret ?_
      obtain rfl := Option.some.inj h
      refine ⟨.inr rfl, bl (!r19), rfl, ?_⟩
      exact Weak.re [] [] rfl rfl rfl (trivial) ⟨⟨_, rfl, .same _ (by simp)⟩, trivial⟩
    · rw [hb18]
      replace h := Sh.if_f h hb18
      refine AR.skip rfl ?_
      refine AR.skip rfl ?_
      refine AR.drop (frx := [(13, _), (14, _), (15, _)]) ⟨rfl, rfl, rfl, trivial⟩ ?_
      refine AR.skip rfl ?_
      refine AR.skip rfl ?_
      refine AR.op (r := bl false) rfl (aop_pick rfl rfl rfl) ?_
      refine AR.drop (frx := [(18, _)]) ⟨rfl, trivial⟩ ?_
      refine AR.op (r := bl false) rfl (aop_move (.inr rfl) rfl) ?_
      refine AR.nil ?_
      refine hK3 _ (AWP.weak (Weak.re (fr' := [(0, bl false)]) (H' := .empty) [] [] rfl rfl rfl (trivial) ⟨⟨_, rfl, .same _ (by simp)⟩, trivial⟩) ?_)
      clear hK3 K3
      refine awp_ret ?_
      obtain rfl := Option.some.inj h
      refine ⟨.inr rfl, bl false, rfl, ?_⟩
      exact Weak.re [] [] rfl rfl rfl (trivial) ⟨⟨_, rfl, .same _ (by simp)⟩, trivial⟩
  · rw [hb16]
    replace h := Sh.if_f h hb16
    refine AR.skip rfl ?_
    refine AR.drop (frx := [(1, _), (8, _), (9, _)]) ⟨rfl, rfl, rfl, trivial⟩ ?_
    refine AR.skip rfl ?_
    refine AR.skip rfl ?_
    refine AR.op (r := bl false) rfl (aop_pick rfl rfl rfl) ?_
    refine AR.drop (frx := [(1, _), (12, _)]) ⟨rfl, rfl, trivial⟩ ?_
    refine AR.op (r := bl false) rfl (aop_move (.inl rfl) rfl) ?_
    refine AR.skip rfl ?_
    refine AR.skip rfl ?_
    refine AR.drop (frx := [(13, _), (14, _), (15, _)]) ⟨rfl, rfl, rfl, trivial⟩ ?_
    refine AR.skip rfl ?_
    refine AR.skip rfl ?_
    refine AR.op (r := bl false) rfl (aop_pick rfl rfl rfl) ?_
    refine AR.drop (frx := [(18, _)]) ⟨rfl, trivial⟩ ?_
    refine AR.op (r := bl false) rfl (aop_move (.inr rfl) rfl) ?_
    refine AR.nil ?_
    refine hK3 _ (AWP.weak (Weak.re (fr' := [(0, bl false)]) (H' := .empty) [] [] rfl rfl rfl (trivial) ⟨⟨_, rfl, .same _ (by simp)⟩, trivial⟩) ?_)
    clear hK3 K3
    refine awp_ret ?_
    obtain rfl := Option.some.inj h
    refine ⟨.inr rfl, bl false, rfl, ?_⟩
    exact Weak.re [] [] rfl rfl rfl (trivial) ⟨⟨_, rfl, .same _ (by simp)⟩, trivial⟩
theorem inquestlaw15_awake_ok {W0 : World} (hT : Tab W0) {r : Bool} (h : G.inquestlaw15_awake = some r) : Fun1 Tryd.prog W0 11 [] (bl r) := Fun1.two (inquestlaw15_awake_ok0 hT h) (by simp)


set_option maxHeartbeats 8000000 in
set_option maxRecDepth 20000 in
theorem inquestlaw15_plain_ok0 {W0 : World} (hT : Tab W0) {g_0 : G.graph_Graph} {r : G.inquestref12_G} (h : G.inquestlaw15_plain g_0 = some r) : Fun2 Tryd.prog W0 12 [G.graph_Graph.av g_0] (G.inquestref12_G.av r) .empty := by
  refine fun2_of_awp Tryd.func12 rfl (by kernel_rfl) Tryd.ntmps12 (by simp) ?_
  unfold G.inquestlaw15_plain at h
  show AWP _ _ _ _ ⟨[(0, G.graph_Graph.av g_0)], .empty⟩ _
  refine awp_seqK fun K1 hK1 => ?_
  refine awp_reg rfl ?_
  refine AR.op (r := .ref 0 0 0) rfl (aop_box 2 [G.graph_Graph.av g_0] rfl rfl rfl (.inl ⟨rfl, rfl⟩)) ?_
  refine AR.op (r := .ref 1 0 0) rfl (aop_alloc 2 [.agg [i64 0, nilS]] rfl zr27 (by kernel_rfl) (.inl ⟨rfl, rfl⟩)) ?_
  refine AR.nil ?_
  refine hK1 _ (AWP.weak (Weak.re (fr' := [(1, .ref 0 0 0), (2, .ref 1 0 0)]) (H' := ⟨2, [(0, (2, [G.graph_Graph.av g_0])), (1, (2, [.agg [i64 0, nilS]]))]⟩) [(0, 0), (1, 1)] [] rfl rfl rfl (.cons rfl rfl (.one (.same _ (by simp)) rfl) (of_decide_eq_true rfl) (.cons rfl rfl (.one (.same _ (by simp)) rfl) (of_decide_eq_true rfl) (trivial))) ⟨⟨_, rfl, .ref rfl⟩, ⟨_, rfl, .ref rfl⟩, trivial⟩) ?_)
  clear hK1 K1
  refine awp_seqK fun K2 hK2 => ?_
  refine awp_reg rfl ?_
  refine AR.op rfl (aop_field_ref rfl rfl rfl fd24_0 (by decide)) ?_
  refine AR.op (r := i64 g_0.N) rfl (aop_load_ref rfl rfl rfl rfl sz3 rfl) ?_
  refine AR.op rfl (aop_field_ref rfl rfl rfl fd24_1 (by decide)) ?_
  refine AR.drop (frx := [(2, _), (4, _), (5, _)]) ⟨rfl, rfl, rfl, trivial⟩ ?_
  refine AR.op (r := .sl (List.map u64 g_0.Rows)) rfl (aop_load_ref rfl rfl rfl rfl sz22 rfl) ?_
  refine AR.op (r := .agg [i64 g_0.N, .sl (List.map u64 g_0.Rows)]) rfl (aop_build rfl bd27 rfl rfl rfl) ?_
  refine AR.op rfl (aop_store (e' := .agg [i64 g_0.N, .sl (List.map u64 g_0.Rows)]) rfl rfl rfl rfl rfl rfl sz27 rfl (of_decide_eq_true rfl) rfl) ?_
  refine AR.nil ?_
  refine hK2 _ (AWP.weak (Weak.re (fr' := [(2, .ref 0 0 0)]) (H' := ⟨1, [(0, (2, [.agg [i64 g_0.N, .sl (List.map u64 g_0.Rows)]]))]⟩) [(0, 1)] [] rfl rfl rfl (.cons rfl rfl (.one (.same _ (by simp)) rfl) (of_decide_eq_true rfl) (trivial)) ⟨⟨_, rfl, .ref rfl⟩, trivial⟩) ?_)
  clear hK2 K2
  refine awp_ret ?_
  obtain rfl := Option.some.inj h
  refine ⟨.inr rfl, .agg [i64 g_0.N, .sl (List.map u64 g_0.Rows)], rfl, ?_⟩
  exact Weak.re [] [] rfl rfl rfl (trivial) ⟨⟨.agg [i64 g_0.N, .sl (List.map u64 g_0.Rows)], rfl, .same _ (by simp)⟩, trivial⟩
theorem inquestlaw15_plain_ok {W0 : World} (hT : Tab W0) {g_0 : G.graph_Graph} {r : G.inquestref12_G} (h : G.inquestlaw15_plain g_0 = some r) : Fun1 Tryd.prog W0 12 [G.graph_Graph.av g_0] (G.inquestref12_G.av r) := Fun1.two (inquestlaw15_plain_ok0 hT h) (by simp)

end Wk
