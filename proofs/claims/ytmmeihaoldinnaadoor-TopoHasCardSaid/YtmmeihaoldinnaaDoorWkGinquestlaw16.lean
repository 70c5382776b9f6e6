/- That the functions of a package do what their plain functions say. -/
import Derived.Test.YtmmeihaoldinnaaDoorSh
import Derived.Test.YtmmeihaoldinnaaDoorWkGFacts
import Derived.Test.YtmmeihaoldinnaaDoorWkGgraph
import Derived.Test.YtmmeihaoldinnaaDoorWkGinquestref07
import Derived.Test.YtmmeihaoldinnaaDoorWkGinquestref12
import Derived.Test.YtmmeihaoldinnaaDoorWkGinquestref16
import Derived.Test.YtmmeihaoldinnaaDoorWkGreach
import Derived.Test.YtmmeihaoldinnaaDoorWkGtopo
open Go Go.Av Go.Proofs
set_option linter.unusedVariables false
namespace Wk
set_option maxHeartbeats 8000000 in
theorem inquestlaw16_awake_ok0 {W0 : World} (hT : Tab W0) {r : Bool} (h : G.inquestlaw16_awake = some r) : Fun2 Tryd.prog W0 42 [] (bl r) .empty := by
  refine fun2_of_awp Tryd.func42 rfl (by kernel_rfl) Tryd.ntmps42 (by simp) ?_
  unfold G.inquestlaw16_awake at h
  show AWP _ _ _ _ ⟨[], .empty⟩ _
  refine awp_seqK fun K1 hK1 => ?_
  refine awp_reg rfl ?_
  refine AR.op (r := bl false) rfl (aop_move (.inr rfl) rfl) ?_
  refine AR.nil ?_
  refine hK1 _ (AWP.weak (Weak.kp (fr' := []) trivial) ?_)
  clear hK1 K1
  refine awp_seqK fun K2 hK2 => ?_
  refine awp_reg rfl ?_
  refine AR.op (r := .clip (List.map u64 [0#64, 0#64, 1#64])) rfl (aop_buildSlice rfl (xo := [.const (.int .u64 0), .const (.int .u64 0), .const (.int .u64 1)]) rfl rfl rfl (by simp [AV.solid]) (by simp [AV.flat]) el22 ze22 (by decide)) ?_
  refine AR.op (r := .agg [i64 3, .clip (List.map u64 [0#64, 0#64, 1#64])]) rfl (aop_build rfl bd24 rfl rfl rfl) ?_
  refine AR.op (r := .ref 0 0 0) rfl (aop_alloc 2 [.agg [i64 0, nilS]] rfl zr24 (by kernel_rfl) (.inl ⟨rfl, rfl⟩)) ?_
  refine AR.drop (frx := [(7, _), (1, _)]) ⟨rfl, rfl, trivial⟩ ?_
  refine AR.op rfl (aop_store (e' := .agg [i64 3, .clip (List.map u64 [0#64, 0#64, 1#64])]) rfl rfl rfl rfl rfl rfl sz24 rfl (of_decide_eq_true rfl) rfl) ?_
  refine AR.nil ?_
  refine hK2 _ (AWP.weak (Weak.re (fr' := [(1, .ref 0 0 0)]) (H' := ⟨1, [(0, (2, [.agg [i64 3, .clip (List.map u64 [0#64, 0#64, 1#64])]]))]⟩) [(0, 0)] [] rfl rfl rfl (.cons rfl rfl (.one (.same _ (by simp)) rfl) (of_decide_eq_true rfl) (trivial)) ⟨⟨_, rfl, .ref rfl⟩, trivial⟩) ?_)
  clear hK2 K2
  refine awp_seqK fun K3 hK3 => ?_
  refine awp_reg rfl ?_
  refine AR.op (r := .agg [i64 3, .clip (List.map u64 [0#64, 0#64, 1#64])]) rfl (aop_load_ref rfl rfl rfl rfl sz24 rfl) ?_
  obtain ⟨r12, hr12, h⟩ := Sh.bind_some' h
  refine AR.op (r := .tuple [.sl (List.map i64 r12.1), bl r12.2]) rfl (aop_callN rfl (ys := [.agg [i64 3, .clip (List.map u64 [0#64, 0#64, 1#64])]]) (xs := [G.graph_Graph.av (G.graph_Graph.mk 3 [0#64, 0#64, 1#64])]) rfl (Weak.re (fr' := argsFr 0 [G.graph_Graph.av (G.graph_Graph.mk 3 [0#64, 0#64, 1#64])]) (H' := .empty) [] [] rfl rfl rfl trivial ⟨⟨.agg [i64 3, .clip (List.map u64 [0#64, 0#64, 1#64])], rfl, .ag ⟨.same _ (by simp), .wide _ (by simp), trivial⟩⟩, trivial⟩) rfl (by simp) (topo_Order_ok hT hr12)) ?_
  refine AR.op (r := .tuple [.sl (List.map i64 r12.1), bl r12.2]) rfl (aop_move (.inl rfl) rfl) ?_
  refine AR.drop (frx := [(1, _), (8, _)]) ⟨rfl, rfl, trivial⟩ ?_
  refine AR.op (r := .sl (List.map i64 r12.1)) rfl (aop_extract rfl rfl rfl) ?_
  refine AR.op (r := bl r12.2) rfl (aop_extract rfl rfl rfl) ?_
  refine AR.op (r := .sl (List.map i64 r12.1)) rfl (aop_move (.inr rfl) rfl) ?_
  refine AR.drop (frx := [(1, _), (12, _), (2, _)]) ⟨rfl, rfl, rfl, trivial⟩ ?_
  refine AR.op (r := bl r12.2) rfl (aop_move (.inr rfl) rfl) ?_
  refine AR.nil ?_
  refine hK3 _ (AWP.weak (Weak.re (fr' := [(1, .ref 0 0 0), (2, .sl (List.map i64 r12.1)), (3, bl r12.2)]) (H' := ⟨1, [(0, (2, [.agg [i64 3, .clip (List.map u64 [0#64, 0#64, 1#64])]]))]⟩) [(0, 0)] [] rfl rfl rfl (.cons rfl rfl (.one (.same _ (by simp)) rfl) (of_decide_eq_true rfl) (trivial)) ⟨⟨_, rfl, .ref rfl⟩, ⟨.sl (List.map i64 r12.1), rfl, .same _ (by simp)⟩, ⟨_, rfl, .same _ (by simp)⟩, trivial⟩) ?_)
  clear hK3 K3
  refine awp_seqK fun K4 hK4 => ?_
  refine awp_reg rfl ?_
  refine AR.op (r := .clip (List.map u64 [1#64])) rfl (aop_buildSlice rfl (xo := [.const (.int .u64 1)]) rfl rfl rfl (by simp [AV.solid]) (by simp [AV.flat]) el22 ze22 (by decide)) ?_
  refine AR.op (r := .agg [i64 1, .clip (List.map u64 [1#64])]) rfl (aop_build rfl bd24 rfl rfl rfl) ?_
  obtain ⟨r14, hr14, h⟩ := Sh.bind_some' h
  refine AR.op (r := .tuple [.sl (List.map i64 r14.1), bl r14.2]) rfl (aop_callN rfl (ys := [.agg [i64 1, .clip (List.map u64 [1#64])]]) (xs := [G.graph_Graph.av (G.graph_Graph.mk 1 [1#64])]) rfl (Weak.re (fr' := argsFr 0 [G.graph_Graph.av (G.graph_Graph.mk 1 [1#64])]) (H' := .empty) [] [] rfl rfl rfl trivial ⟨⟨.agg [i64 1, .clip (List.map u64 [1#64])], rfl, .ag ⟨.same _ (by simp), .wide _ (by simp), trivial⟩⟩, trivial⟩) rfl (by simp) (topo_Order_ok hT hr14)) ?_
  refine AR.drop (frx := [(1, _), (2, _), (3, _), (16, _)]) ⟨rfl, rfl, rfl, rfl, trivial⟩ ?_
  refine AR.op (r := .tuple [.sl (List.map i64 r14.1), bl r14.2]) rfl (aop_move (.inl rfl) rfl) ?_
  refine AR.op (r := .sl (List.map i64 r14.1)) rfl (aop_extract rfl rfl rfl) ?_
  refine AR.op (r := bl r14.2) rfl (aop_extract rfl rfl rfl) ?_
  refine AR.drop (frx := [(1, _), (2, _), (3, _), (17, _), (18, _)]) ⟨rfl, rfl, rfl, rfl, rfl, trivial⟩ ?_
  refine AR.op (r := .sl (List.map i64 r14.1)) rfl (aop_move (.inr rfl) rfl) ?_
  refine AR.op (r := bl r14.2) rfl (aop_move (.inr rfl) rfl) ?_
  refine AR.nil ?_
  refine hK4 _ (AWP.weak (Weak.re (fr' := [(1, .ref 0 0 0), (2, .sl (List.map i64 r12.1)), (3, bl r12.2), (5, bl r14.2)]) (H' := ⟨1, [(0, (2, [.agg [i64 3, .clip (List.map u64 [0#64, 0#64, 1#64])]]))]⟩) [(0, 0)] [] rfl rfl rfl (.cons rfl rfl (.one (.same _ (by simp)) rfl) (of_decide_eq_true rfl) (trivial)) ⟨⟨_, rfl, .ref rfl⟩, ⟨.sl (List.map i64 r12.1), rfl, .same _ (by simp)⟩, ⟨_, rfl, .same _ (by simp)⟩, ⟨_, rfl, .same _ (by simp)⟩, trivial⟩) ?_)
  clear hK4 K4
  refine awp_seqK fun K5 hK5 => ?_
  refine awp_reg rfl ?_
  refine AR.op (r := bl r12.2) rfl (aop_move (.inl rfl) rfl) ?_
  refine AR.op (r := bl r12.2) rfl (aop_move (.inl rfl) rfl) ?_
  rcases Bool.eq_false_or_eq_true (r12.2) with hb22 | hb22
  · rw [hb22]
    replace h := Sh.if_t h hb22
    refine AR.op (r := .sl (List.map i64 r12.1)) rfl (aop_move (.inl rfl) rfl) ?_
    refine AR.drop (frx := [(1, _), (5, _), (20, _), (21, _)]) ⟨rfl, rfl, rfl, rfl, trivial⟩ ?_
    refine AR.op (r := .clip (List.map i64 [1, 2, 0])) rfl (aop_buildSlice rfl (xo := [.const (.int .i64 1), .const (.int .i64 2), .const (.int .i64 0)]) rfl rfl rfl (by simp [AV.solid]) (by simp [AV.flat]) el50 ze50 (by decide)) ?_
    obtain ⟨r23, hr23, h⟩ := Sh.bind_some' h
    refine AR.op (r := bl r23) rfl (aop_callN rfl (ys := [.sl (List.map i64 r12.1), .clip (List.map i64 [1, 2, 0])]) (xs := [.sl (List.map i64 r12.1), .sl (List.map i64 [1, 2, 0])]) rfl (Weak.re (fr' := argsFr 0 [.sl (List.map i64 r12.1), .sl (List.map i64 [1, 2, 0])]) (H' := .empty) [] [] rfl rfl rfl trivial ⟨⟨.sl (List.map i64 r12.1), rfl, .same _ (by simp)⟩, ⟨.clip (List.map i64 [1, 2, 0]), rfl, .wide _ (by simp)⟩, trivial⟩) rfl (by simp) (inquestref07_Ints_ok hT hr23)) ?_
    refine AR.op (r := bl r23) rfl (aop_pick rfl rfl rfl) ?_
    refine AR.drop (frx := [(1, _), (5, _), (24, _)]) ⟨rfl, rfl, rfl, trivial⟩ ?_
    refine AR.op (r := bl r23) rfl (aop_move (.inl rfl) rfl) ?_
    rcases Bool.eq_false_or_eq_true (r23) with hb24 | hb24
    · rw [hb24]
      replace h := Sh.if_t h hb24
      refine AR.op (r := bl r14.2) rfl (aop_move (.inl rfl) rfl) ?_
      refine AR.op (r := bl (!r14.2)) rfl (aop_not rfl rfl) ?_
      refine AR.drop (frx := [(1, _), (25, _), (27, _)]) ⟨rfl, rfl, rfl, trivial⟩ ?_
      refine AR.op (r := bl (!r14.2)) rfl (aop_pick rfl rfl rfl) ?_
      refine AR.op (r := bl (!r14.2)) rfl (aop_move (.inl rfl) rfl) ?_
      rcases Bool.eq_false_or_eq_true (!r14.2) with hb25 | hb25
      · rw [hb25]
        replace h := Sh.if_t h hb25
        refine AR.op (r := .agg [i64 3, .clip (List.map u64 [0#64, 0#64, 1#64])]) rfl (aop_load_ref rfl rfl rfl rfl sz24 rfl) ?_
        refine AR.drop (frx := [(1, _), (29, _), (30, _)]) ⟨rfl, rfl, rfl, trivial⟩ ?_
        refine AR.op (r := .clip (List.map i64 [2, 0, 1])) rfl (aop_buildSlice rfl (xo := [.const (.int .i64 2), .const (.int .i64 0), .const (.int .i64 1)]) rfl rfl rfl (by simp [AV.solid]) (by simp [AV.flat]) el50 ze50 (by decide)) ?_
        obtain ⟨r26, hr26, h⟩ := Sh.bind_some' h
        refine AR.op (r := bl r26) rfl (aop_callN rfl (ys := [.agg [i64 3, .clip (List.map u64 [0#64, 0#64, 1#64])], .clip (List.map i64 [2, 0, 1])]) (xs := [G.graph_Graph.av (G.graph_Graph.mk 3 [0#64, 0#64, 1#64]), .sl (List.map i64 [2, 0, 1])]) rfl (Weak.re (fr' := argsFr 0 [G.graph_Graph.av (G.graph_Graph.mk 3 [0#64, 0#64, 1#64]), .sl (List.map i64 [2, 0, 1])]) (H' := .empty) [] [] rfl rfl rfl trivial ⟨⟨.agg [i64 3, .clip (List.map u64 [0#64, 0#64, 1#64])], rfl, .ag ⟨.same _ (by simp), .wide _ (by simp), trivial⟩⟩, ⟨.clip (List.map i64 [2, 0, 1]), rfl, .wide _ (by simp)⟩, trivial⟩) rfl (by simp) (topo_Is_ok hT hr26)) ?_
        refine AR.op (r := bl r26) rfl (aop_pick rfl rfl rfl) ?_
        refine AR.drop (frx := [(1, _), (33, _)]) ⟨rfl, rfl, trivial⟩ ?_
        refine AR.op (r := bl r26) rfl (aop_move (.inl rfl) rfl) ?_
        rcases Bool.eq_false_or_eq_true (r26) with hb27 | hb27
        · rw [hb27]
          replace h := Sh.if_t h hb27
          refine AR.op (r := .agg [i64 3, .clip (List.map u64 [0#64, 0#64, 1#64])]) rfl (aop_load_ref rfl rfl rfl rfl sz24 rfl) ?_
          refine AR.op (r := .clip (List.map i64 [0, 1, 2])) rfl (aop_buildSlice rfl (xo := [.const (.int .i64 0), .const (.int .i64 1), .const (.int .i64 2)]) rfl rfl rfl (by simp [AV.solid]) (by simp [AV.flat]) el50 ze50 (by decide)) ?_
          refine AR.drop (frx := [(34, _), (35, _), (36, _)]) ⟨rfl, rfl, rfl, trivial⟩ ?_
          obtain ⟨r28, hr28, h⟩ := Sh.bind_some' h
          refine AR.op (r := bl r28) rfl (aop_callN rfl (ys := [.agg [i64 3, .clip (List.map u64 [0#64, 0#64, 1#64])], .clip (List.map i64 [0, 1, 2])]) (xs := [G.graph_Graph.av (G.graph_Graph.mk 3 [0#64, 0#64, 1#64]), .sl (List.map i64 [0, 1, 2])]) rfl (Weak.re (fr' := argsFr 0 [G.graph_Graph.av (G.graph_Graph.mk 3 [0#64, 0#64, 1#64]), .sl (List.map i64 [0, 1, 2])]) (H' := .empty) [] [] rfl rfl rfl trivial ⟨⟨.agg [i64 3, .clip (List.map u64 [0#64, 0#64, 1#64])], rfl, .ag ⟨.same _ (by simp), .wide _ (by simp), trivial⟩⟩, ⟨.clip (List.map i64 [0, 1, 2]), rfl, .wide _ (by simp)⟩, trivial⟩) rfl (by simp) (topo_Is_ok hT hr28)) ?_
          refine AR.op (r := bl (!r28)) rfl (aop_not rfl rfl) ?_
          refine AR.op (r := bl (!r28)) rfl (aop_pick rfl rfl rfl) ?_
          refine AR.drop (frx := [(39, _)]) ⟨rfl, trivial⟩ ?_
          refine AR.op (r := bl (!r28)) rfl (aop_move (.inr rfl) rfl) ?_
          refine AR.nil ?_
          refine hK5 _ (AWP.weak (Weak.re (fr' := [(0, bl (!r28))]) (H' := .empty) [] [] rfl rfl rfl (trivial) ⟨⟨_, rfl, .same _ (by simp)⟩, trivial⟩) ?_)
          clear hK5 K5
          refine awp_ret ?_
          obtain rfl := Option.some.inj h
          refine ⟨.inr rfl, bl (!r28), rfl, ?_⟩
          exact Weak.re [] [] rfl rfl rfl (trivial) ⟨⟨_, rfl, .same _ (by simp)⟩, trivial⟩
        · rw [hb27]
          replace h := Sh.if_f h hb27
          refine AR.skip rfl ?_
          refine AR.skip rfl ?_
          refine AR.drop (frx := [(34, _), (35, _), (36, _)]) ⟨rfl, rfl, rfl, trivial⟩ ?_
          refine AR.skip rfl ?_
          refine AR.skip rfl ?_
          refine AR.op (r := bl false) rfl (aop_pick rfl rfl rfl) ?_
          refine AR.drop (frx := [(39, _)]) ⟨rfl, trivial⟩ ?_
          refine AR.op (r := bl false) rfl (aop_move (.inr rfl) rfl) ?_
          refine AR.nil ?_
          refine hK5 _ (AWP.weak (Weak.re (fr' := [(0, bl false)]) (H' := .empty) [] [] rfl rfl rfl (trivial) ⟨⟨_, rfl, .same _ (by simp)⟩, trivial⟩) ?_)
          clear hK5 K5
          refine awp_ret ?_
          obtain rfl := Option.some.inj h
          refine ⟨.inr rfl, bl false, rfl, ?_⟩
          exact Weak.re [] [] rfl rfl rfl (trivial) ⟨⟨_, rfl, .same _ (by simp)⟩, trivial⟩
      · rw [hb25]
        replace h := Sh.if_f h hb25
        refine AR.skip rfl ?_
        refine AR.drop (frx := [(1, _), (29, _), (30, _)]) ⟨rfl, rfl, rfl, trivial⟩ ?_
        refine AR.skip rfl ?_
        refine AR.skip rfl ?_
        refine AR.op (r := bl false) rfl (aop_pick rfl rfl rfl) ?_
        refine AR.drop (frx := [(1, _), (33, _)]) ⟨rfl, rfl, trivial⟩ ?_
        refine AR.op (r := bl false) rfl (aop_move (.inl rfl) rfl) ?_
        refine AR.skip rfl ?_
        refine AR.skip rfl ?_
        refine AR.drop (frx := [(34, _), (35, _), (36, _)]) ⟨rfl, rfl, rfl, trivial⟩ ?_
        refine AR.skip rfl ?_
        refine AR.skip rfl ?_
        refine AR.op (r := bl false) rfl (aop_pick rfl rfl rfl) ?_
        refine AR.drop (frx := [(39, _)]) ⟨rfl, trivial⟩ ?_
        refine AR.op (r := bl false) rfl (aop_move (.inr rfl) rfl) ?_
        refine AR.nil ?_
        refine hK5 _ (AWP.weak (Weak.re (fr' := [(0, bl false)]) (H' := .empty) [] [] rfl rfl rfl (trivial) ⟨⟨_, rfl, .same _ (by simp)⟩, trivial⟩) ?_)
        clear hK5 K5
        refine awp_ret ?_
        obtain rfl := Option.some.inj h
        refine ⟨.inr rfl, bl false, rfl, ?_⟩
        exact Weak.re [] [] rfl rfl rfl (trivial) ⟨⟨_, rfl, .same _ (by simp)⟩, trivial⟩
    · rw [hb24]
      replace h := Sh.if_f h hb24
      refine AR.skip rfl ?_
      refine AR.skip rfl ?_
      refine AR.drop (frx := [(1, _), (25, _), (27, _)]) ⟨rfl, rfl, rfl, trivial⟩ ?_
      refine AR.op (r := bl false) rfl (aop_pick rfl rfl rfl) ?_
      refine AR.op (r := bl false) rfl (aop_move (.inl rfl) rfl) ?_
      refine AR.skip rfl ?_
      refine AR.drop (frx := [(1, _), (29, _), (30, _)]) ⟨rfl, rfl, rfl, trivial⟩ ?_
      refine AR.skip rfl ?_
      refine AR.skip rfl ?_
      refine AR.op (r := bl false) rfl (aop_pick rfl rfl rfl) ?_
      refine AR.drop (frx := [(1, _), (33, _)]) ⟨rfl, rfl, trivial⟩ ?_
      refine AR.op (r := bl false) rfl (aop_move (.inl rfl) rfl) ?_
      refine AR.skip rfl ?_
      refine AR.skip rfl ?_
      refine AR.drop (frx := [(34, _), (35, _), (36, _)]) ⟨rfl, rfl, rfl, trivial⟩ ?_
      refine AR.skip rfl ?_
      refine AR.skip rfl ?_
      refine AR.op (r := bl false) rfl (aop_pick rfl rfl rfl) ?_
      refine AR.drop (frx := [(39, _)]) ⟨rfl, trivial⟩ ?_
      refine AR.op (r := bl false) rfl (aop_move (.inr rfl) rfl) ?_
      refine AR.nil ?_
      refine hK5 _ (AWP.weak (Weak.re (fr' := [(0, bl false)]) (H' := .empty) [] [] rfl rfl rfl (trivial) ⟨⟨_, rfl, .same _ (by simp)⟩, trivial⟩) ?_)
      clear hK5 K5
      refine awp_ret ?_
      obtain rfl := Option.some.inj h
      refine ⟨.inr rfl, bl false, rfl, ?_⟩
      exact Weak.re [] [] rfl rfl rfl (trivial) ⟨⟨_, rfl, .same _ (by simp)⟩, trivial⟩
  · rw [hb22]
    replace h := Sh.if_f h hb22
    refine AR.skip rfl ?_
    refine AR.drop (frx := [(1, _), (5, _), (20, _), (21, _)]) ⟨rfl, rfl, rfl, rfl, trivial⟩ ?_
    refine AR.skip rfl ?_
    refine AR.skip rfl ?_
    refine AR.op (r := bl false) rfl (aop_pick rfl rfl rfl) ?_
    refine AR.drop (frx := [(1, _), (5, _), (24, _)]) ⟨rfl, rfl, rfl, trivial⟩ ?_
    refine AR.op (r := bl false) rfl (aop_move (.inl rfl) rfl) ?_
    refine AR.skip rfl ?_
    refine AR.skip rfl ?_
    refine AR.drop (frx := [(1, _), (25, _), (27, _)]) ⟨rfl, rfl, rfl, trivial⟩ ?_
    refine AR.op (r := bl false) rfl (aop_pick rfl rfl rfl) ?_
    refine AR.op (r := bl false) rfl (aop_move (.inl rfl) rfl) ?_
    refine AR.skip rfl ?_
    refine AR.drop (frx := [(1, _), (29, _), (30, _)]) ⟨rfl, rfl, rfl, trivial⟩ ?_
    refine AR.skip rfl ?_
    refine AR.skip rfl ?_
    refine AR.op (r := bl false) rfl (aop_pick rfl rfl rfl) ?_
    refine AR.drop (frx := [(1, _), (33, _)]) ⟨rfl, rfl, trivial⟩ ?_
    refine AR.op (r := bl false) rfl (aop_move (.inl rfl) rfl) ?_
    refine AR.skip rfl ?_
    refine AR.skip rfl ?_
    refine AR.drop (frx := [(34, _), (35, _), (36, _)]) ⟨rfl, rfl, rfl, trivial⟩ ?_
    refine AR.skip rfl ?_
    refine AR.skip rfl ?_
    refine AR.op (r := bl false) rfl (aop_pick rfl rfl rfl) ?_
    refine AR.drop (frx := [(39, _)]) ⟨rfl, trivial⟩ ?_
    refine AR.op (r := bl false) rfl (aop_move (.inr rfl) rfl) ?_
    refine AR.nil ?_
    refine hK5 _ (AWP.weak (Weak.re (fr' := [(0, bl false)]) (H' := .empty) [] [] rfl rfl rfl (trivial) ⟨⟨_, rfl, .same _ (by simp)⟩, trivial⟩) ?_)
    clear hK5 K5
    refine awp_ret ?_
    obtain rfl := Option.some.inj h
    refine ⟨.inr rfl, bl false, rfl, ?_⟩
    exact Weak.re [] [] rfl rfl rfl (trivial) ⟨⟨_, rfl, .same _ (by simp)⟩, trivial⟩
theorem inquestlaw16_awake_ok {W0 : World} (hT : Tab W0) {r : Bool} (h : G.inquestlaw16_awake = some r) : Fun1 Tryd.prog W0 42 [] (bl r) := Fun1.two (inquestlaw16_awake_ok0 hT h) (by simp)


set_option maxHeartbeats 8000000 in
theorem inquestlaw16_plain_ok0 {W0 : World} (hT : Tab W0) {g_0 : G.graph_Graph} {r : G.inquestref12_G} (h : G.inquestlaw16_plain g_0 = some r) : Fun2 Tryd.prog W0 43 [G.graph_Graph.av g_0] (G.inquestref12_G.av r) .empty := by
  refine fun2_of_awp Tryd.func43 rfl (by kernel_rfl) Tryd.ntmps43 (by simp) ?_
  unfold G.inquestlaw16_plain at h
  show AWP _ _ _ _ ⟨[(0, G.graph_Graph.av g_0)], .empty⟩ _
  refine awp_seqK fun K1 hK1 => ?_
  refine awp_reg rfl ?_
  refine AR.op (r := .ref 0 0 0) rfl (aop_box 2 [G.graph_Graph.av g_0] rfl rfl rfl (.inl ⟨rfl, rfl⟩)) ?_
  refine AR.op (r := .ref 1 0 0) rfl (aop_alloc 2 [.agg [i64 0, nilS]] rfl zr26 (by kernel_rfl) (.inl ⟨rfl, rfl⟩)) ?_
  refine AR.nil ?_
  refine hK1 _ (AWP.weak (Weak.re (fr' := [(1, .ref 0 0 0), (2, .ref 1 0 0)]) (H' := ⟨2, [(0, (2, [G.graph_Graph.av g_0])), (1, (2, [.agg [i64 0, nilS]]))]⟩) [(0, 0), (1, 1)] [] rfl rfl rfl (.cons rfl rfl (.one (.same _ (by simp)) rfl) (of_decide_eq_true rfl) (.cons rfl rfl (.one (.same _ (by simp)) rfl) (of_decide_eq_true rfl) (trivial))) ⟨⟨_, rfl, .ref rfl⟩, ⟨_, rfl, .ref rfl⟩, trivial⟩) ?_)
  clear hK1 K1
  refine awp_seqK fun K2 hK2 => ?_
  refine awp_reg rfl ?_
  refine AR.op rfl (aop_field_ref rfl rfl rfl fd24_0 (by decide)) ?_
  refine AR.op (r := i64 g_0.N) rfl (aop_load_ref rfl rfl rfl rfl sz3 rfl) ?_
  refine AR.op rfl (aop_field_ref rfl rfl rfl fd24_1 (by decide)) ?_
  refine AR.drop (frx := [(2, _), (4, _), (5, _)]) ⟨rfl, rfl, rfl, trivial⟩ ?_
  refine AR.op (r := .sl (List.map u64 g_0.Rows)) rfl (aop_load_ref rfl rfl rfl rfl sz22 rfl) ?_
  refine AR.op (r := .agg [i64 g_0.N, .sl (List.map u64 g_0.Rows)]) rfl (aop_build rfl bd26 rfl rfl rfl) ?_
  refine AR.op rfl (aop_store (e' := .agg [i64 g_0.N, .sl (List.map u64 g_0.Rows)]) rfl rfl rfl rfl rfl rfl sz26 rfl (of_decide_eq_true rfl) rfl) ?_
  refine AR.nil ?_
  refine hK2 _ (AWP.weak (Weak.re (fr' := [(2, .ref 0 0 0)]) (H' := ⟨1, [(0, (2, [.agg [i64 g_0.N, .sl (List.map u64 g_0.Rows)]]))]⟩) [(0, 1)] [] rfl rfl rfl (.cons rfl rfl (.one (.same _ (by simp)) rfl) (of_decide_eq_true rfl) (trivial)) ⟨⟨_, rfl, .ref rfl⟩, trivial⟩) ?_)
  clear hK2 K2
  refine awp_ret ?_
  obtain rfl := Option.some.inj h
  refine ⟨.inr rfl, .agg [i64 g_0.N, .sl (List.map u64 g_0.Rows)], rfl, ?_⟩
  exact Weak.re [] [] rfl rfl rfl (trivial) ⟨⟨.agg [i64 g_0.N, .sl (List.map u64 g_0.Rows)], rfl, .same _ (by simp)⟩, trivial⟩
theorem inquestlaw16_plain_ok {W0 : World} (hT : Tab W0) {g_0 : G.graph_Graph} {r : G.inquestref12_G} (h : G.inquestlaw16_plain g_0 = some r) : Fun1 Tryd.prog W0 43 [G.graph_Graph.av g_0] (G.inquestref12_G.av r) := Fun1.two (inquestlaw16_plain_ok0 hT h) (by simp)

end Wk
