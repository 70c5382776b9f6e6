/- That the functions of a package do what their plain functions say. -/
import Derived.Test.YtmmeihaoldinnaaDoorSh
import Derived.Test.YtmmeihaoldinnaaDoorWkGFacts
import Derived.Test.YtmmeihaoldinnaaDoorWkGgraph
import Derived.Test.YtmmeihaoldinnaaDoorWkGinquestref10
import Derived.Test.YtmmeihaoldinnaaDoorWkGinquestref12
import Derived.Test.YtmmeihaoldinnaaDoorWkGinquestref13
import Derived.Test.YtmmeihaoldinnaaDoorWkGreach
open Go Go.Av Go.Proofs
set_option linter.unusedVariables false
namespace Wk
set_option maxHeartbeats 8000000 in
theorem inquestlaw13_plain_ok0 {W0 : World} (hT : Tab W0) {g_0 : G.graph_Graph} {r : G.inquestref12_G} (h : G.inquestlaw13_plain g_0 = some r) : Fun2 Tryd.prog W0 30 [G.graph_Graph.av g_0] (G.inquestref12_G.av r) .empty := by
  refine fun2_of_awp Tryd.func30 rfl (by kernel_rfl) Tryd.ntmps30 (by simp) ?_
  unfold G.inquestlaw13_plain at h
  show AWP _ _ _ _ ⟨[(0, G.graph_Graph.av g_0)], .empty⟩ _
  refine awp_seqK fun K1 hK1 => ?_
  refine awp_reg rfl ?_
  refine AR.op (r := .ref 0 0 0) rfl (aop_box 2 [G.graph_Graph.av g_0] rfl rfl rfl (.inl ⟨rfl, rfl⟩)) ?_
  refine AR.op (r := .ref 1 0 0) rfl (aop_alloc 2 [.agg [i64 0, nilS]] rfl zr26 (by kernel_rfl) (.inl ⟨rfl, rfl⟩)) ?_
  refine AR.nil ?_
  refine hK1 _ (AWP.weak (Weak.re (fr' := [(1, .ref 0 0 0), (2, .ref 1 0 0)]) (H' := ⟨2, [(0, (2, [G.graph_Graph.av g_0])), (1, (2, [.agg [i64 0, nilS]]))]⟩) [(0, 0), (1, 1)] [] rfl rfl rfl (.cons rfl rfl (.one (.same _ (by simp)) rfl) (of_decide_eq_true rfl) (.cons rfl rfl (.one (.same _ (by simp)) rfl) (of_decide_eq_true rfl) (trivial))) ⟨⟨_, rfl, .ref rfl⟩, ⟨_, rfl, .ref rfl⟩, trivial⟩) ?_)
  clear hK1 K1
  refine awp_seqK fun K2 hK2 => ?_
  refine awp_reg rfl ?_
  refine AR.op rfl (aop_field_ref rfl rfl rfl fd24_0 (by decide)) ?_
  refine AR.op (r := i64 g_0.N) rfl (aop_load_ref rfl rfl rfl rfl sz3 rfl) ?_
  refine AR.op rfl (aop_field_ref rfl rfl rfl fd24_1 (by decide)) ?_
  refine AR.drop (frx := [(2, _), (4, _), (5, _)]) ⟨rfl, rfl, rfl, trivial⟩ ?_
  refine AR.op (r := .sl (List.map u64 g_0.Rows)) rfl (aop_load_ref rfl rfl rfl rfl sz22 rfl) ?_
  refine AR.op (r := .agg [i64 g_0.N, .sl (List.map u64 g_0.Rows)]) rfl (aop_build rfl bd26 rfl rfl rfl) ?_
  refine AR.op rfl (aop_store (e' := .agg [i64 g_0.N, .sl (List.map u64 g_0.Rows)]) rfl rfl rfl rfl rfl rfl sz26 rfl (of_decide_eq_true rfl) rfl) ?_
  refine AR.nil ?_
  refine hK2 _ (AWP.weak (Weak.re (fr' := [(2, .ref 0 0 0)]) (H' := ⟨1, [(0, (2, [.agg [i64 g_0.N, .sl (List.map u64 g_0.Rows)]]))]⟩) [(0, 1)] [] rfl rfl rfl (.cons rfl rfl (.one (.same _ (by simp)) rfl) (of_decide_eq_true rfl) (trivial)) ⟨⟨_, rfl, .ref rfl⟩, trivial⟩) ?_)
  clear hK2 K2
  refine awp_ret ?_
  obtain rfl := Option.some.inj h
  refine ⟨.inr rfl, .agg [i64 g_0.N, .sl (List.map u64 g_0.Rows)], rfl, ?_⟩
  exact Weak.re [] [] rfl rfl rfl (trivial) ⟨⟨.agg [i64 g_0.N, .sl (List.map u64 g_0.Rows)], rfl, .same _ (by simp)⟩, trivial⟩
theorem inquestlaw13_plain_ok {W0 : World} (hT : Tab W0) {g_0 : G.graph_Graph} {r : G.inquestref12_G} (h : G.inquestlaw13_plain g_0 = some r) : Fun1 Tryd.prog W0 30 [G.graph_Graph.av g_0] (G.inquestref12_G.av r) := Fun1.two (inquestlaw13_plain_ok0 hT h) (by simp)


set_option maxHeartbeats 8000000 in
theorem inquestlaw13_awake_ok0 {W0 : World} (hT : Tab W0) {r : Bool} (h : G.inquestlaw13_awake = some r) : Fun2 Tryd.prog W0 29 [] (bl r) .empty := by
  refine fun2_of_awp Tryd.func29 rfl (by kernel_rfl) Tryd.ntmps29 (by simp) ?_
  unfold G.inquestlaw13_awake at h
  show AWP _ _ _ _ ⟨[], .empty⟩ _
  refine awp_seqK fun K1 hK1 => ?_
  refine awp_reg rfl ?_
  refine AR.op (r := bl false) rfl (aop_move (.inr rfl) rfl) ?_
  refine AR.nil ?_
  refine hK1 _ (AWP.weak (Weak.kp (fr' := []) trivial) ?_)
  clear hK1 K1
  refine awp_seqK fun K2 hK2 => ?_
  refine awp_reg rfl ?_
  refine AR.op (r := .clip (List.map u64 [2#64, 4#64, 0#64])) rfl (aop_buildSlice rfl (xo := [.const (.int .u64 2), .const (.int .u64 4), .const (.int .u64 0)]) rfl rfl rfl (by simp [AV.solid]) (by simp [AV.flat]) el22 ze22 (by decide)) ?_
  refine AR.op (r := .agg [i64 3, .clip (List.map u64 [2#64, 4#64, 0#64])]) rfl (aop_build rfl bd24 rfl rfl rfl) ?_
  obtain ⟨r18, hr18, h⟩ := Sh.bind_some' h
  refine AR.op (r := .tuple [G.graph_Graph.av r18.1, i64 r18.2]) rfl (aop_callN rfl (ys := [.agg [i64 3, .clip (List.map u64 [2#64, 4#64, 0#64])]]) (xs := [G.graph_Graph.av (G.graph_Graph.mk 3 [2#64, 4#64, 0#64])]) rfl (Weak.re (fr' := argsFr 0 [G.graph_Graph.av (G.graph_Graph.mk 3 [2#64, 4#64, 0#64])]) (H' := .empty) [] [] rfl rfl rfl trivial ⟨⟨.agg [i64 3, .clip (List.map u64 [2#64, 4#64, 0#64])], rfl, .ag ⟨.same _ (by simp), .wide _ (by simp), trivial⟩⟩, trivial⟩) rfl (by simp) (reach_Close_ok hT hr18)) ?_
  refine AR.drop (frx := [(8, _)]) ⟨rfl, trivial⟩ ?_
  refine AR.op (r := .tuple [G.graph_Graph.av r18.1, i64 r18.2]) rfl (aop_move (.inl rfl) rfl) ?_
  refine AR.op (r := G.graph_Graph.av r18.1) rfl (aop_extract rfl rfl rfl) ?_
  refine AR.op (r := i64 r18.2) rfl (aop_extract rfl rfl rfl) ?_
  refine AR.drop (frx := [(9, _), (10, _)]) ⟨rfl, rfl, trivial⟩ ?_
  refine AR.op (r := .ref 0 0 0) rfl (aop_alloc 2 [.agg [i64 0, nilS]] rfl zr24 (by kernel_rfl) (.inl ⟨rfl, rfl⟩)) ?_
  refine AR.op rfl (aop_store (e' := G.graph_Graph.av r18.1) rfl rfl rfl rfl rfl rfl sz24 rfl (of_decide_eq_true rfl) rfl) ?_
  refine AR.op (r := i64 r18.2) rfl (aop_move (.inr rfl) rfl) ?_
  refine AR.nil ?_
  refine hK2 _ (AWP.weak (Weak.re (fr' := [(1, .ref 0 0 0), (2, i64 r18.2)]) (H' := ⟨1, [(0, (2, [G.graph_Graph.av r18.1]))]⟩) [(0, 0)] [] rfl rfl rfl (.cons rfl rfl (.one (.same _ (by simp)) rfl) (of_decide_eq_true rfl) (trivial)) ⟨⟨_, rfl, .ref rfl⟩, ⟨_, rfl, .same _ (by simp)⟩, trivial⟩) ?_)
  clear hK2 K2
  refine awp_seqK fun K3 hK3 => ?_
  refine awp_reg rfl ?_
  refine AR.op (r := G.graph_Graph.av r18.1) rfl (aop_load_ref rfl rfl rfl rfl sz24 rfl) ?_
  obtain ⟨r20, hr20, h⟩ := Sh.bind_some' h
  refine AR.op (r := .tuple [G.graph_Graph.av r20.1, i64 r20.2]) rfl (aop_call1 rfl rfl (by simp) (reach_More_ok hT hr20)) ?_
  refine AR.op (r := .tuple [G.graph_Graph.av r20.1, i64 r20.2]) rfl (aop_move (.inl rfl) rfl) ?_
  refine AR.drop (frx := [(1, _), (2, _), (11, _)]) ⟨rfl, rfl, rfl, trivial⟩ ?_
  refine AR.op (r := G.graph_Graph.av r20.1) rfl (aop_extract rfl rfl rfl) ?_
  refine AR.op (r := i64 r20.2) rfl (aop_extract rfl rfl rfl) ?_
  refine AR.op (r := .ref 1 0 0) rfl (aop_alloc 2 [.agg [i64 0, nilS]] rfl zr24 (by kernel_rfl) (.inl ⟨rfl, rfl⟩)) ?_
  refine AR.drop (frx := [(1, _), (2, _), (14, _), (15, _), (3, _)]) ⟨rfl, rfl, rfl, rfl, rfl, trivial⟩ ?_
  refine AR.op rfl (aop_store (e' := G.graph_Graph.av r20.1) rfl rfl rfl rfl rfl rfl sz24 rfl (of_decide_eq_true rfl) rfl) ?_
  refine AR.op (r := i64 r20.2) rfl (aop_move (.inr rfl) rfl) ?_
  refine AR.nil ?_
  refine hK3 _ (AWP.weak (Weak.re (fr' := [(1, .ref 0 0 0), (2, i64 r18.2), (3, .ref 1 0 0), (4, i64 r20.2)]) (H' := ⟨2, [(0, (2, [G.graph_Graph.av r18.1])), (1, (2, [G.graph_Graph.av r20.1]))]⟩) [(0, 0), (1, 1)] [] rfl rfl rfl (.cons rfl rfl (.one (.same _ (by simp)) rfl) (of_decide_eq_true rfl) (.cons rfl rfl (.one (.same _ (by simp)) rfl) (of_decide_eq_true rfl) (trivial))) ⟨⟨_, rfl, .ref rfl⟩, ⟨_, rfl, .same _ (by simp)⟩, ⟨_, rfl, .ref rfl⟩, ⟨_, rfl, .same _ (by simp)⟩, trivial⟩) ?_)
  clear hK3 K3
  refine awp_seqK fun K4 hK4 => ?_
  refine awp_reg rfl ?_
  refine AR.op (r := i64 r18.2) rfl (aop_move (.inl rfl) rfl) ?_
  refine AR.op (r := bl (decide (r18.2 = 0))) rfl (aop_eql rfl rfl rfl) ?_
  refine AR.op (r := bl (decide (r18.2 = 0))) rfl (aop_move (.inl rfl) rfl) ?_
  refine AR.drop (frx := [(1, _), (3, _), (4, _), (18, _)]) ⟨rfl, rfl, rfl, rfl, trivial⟩ ?_
  rcases Bool.eq_false_or_eq_true (decide (r18.2 = 0)) with hb34 | hb34
  · rw [hb34]
    replace h := Sh.if_t h hb34
    refine AR.op (r := G.graph_Graph.av r18.1) rfl (aop_load_ref rfl rfl rfl rfl sz24 rfl) ?_
    obtain ⟨r35, hr35, h⟩ := Sh.bind_some' h
    refine AR.op (r := G.inquestref12_G.av r35) rfl (aop_call1 rfl rfl (by simp) (inquestlaw13_plain_ok hT hr35)) ?_
    refine AR.op (r := .clip (List.map u64 [6#64, 4#64, 0#64])) rfl (aop_buildSlice rfl (xo := [.const (.int .u64 6), .const (.int .u64 4), .const (.int .u64 0)]) rfl rfl rfl (by simp [AV.solid]) (by simp [AV.flat]) el22 ze22 (by decide)) ?_
    refine AR.drop (frx := [(1, _), (3, _), (4, _), (18, _), (20, _), (21, _)]) ⟨rfl, rfl, rfl, rfl, rfl, rfl, trivial⟩ ?_
    refine AR.op (r := .agg [i64 3, .clip (List.map u64 [6#64, 4#64, 0#64])]) rfl (aop_build rfl bd26 rfl rfl rfl) ?_
    obtain ⟨r36, hr36, h⟩ := Sh.bind_some' h
    refine AR.op (r := bl r36) rfl (aop_callN rfl (ys := [G.inquestref12_G.av r35, .agg [i64 3, .clip (List.map u64 [6#64, 4#64, 0#64])]]) (xs := [G.inquestref12_G.av r35, G.inquestref12_G.av (G.inquestref12_G.mk 3 [6#64, 4#64, 0#64])]) rfl (Weak.re (fr' := argsFr 0 [G.inquestref12_G.av r35, G.inquestref12_G.av (G.inquestref12_G.mk 3 [6#64, 4#64, 0#64])]) (H' := .empty) [] [] rfl rfl rfl trivial ⟨⟨G.inquestref12_G.av r35, rfl, .same _ (by simp)⟩, ⟨.agg [i64 3, .clip (List.map u64 [6#64, 4#64, 0#64])], rfl, .ag ⟨.same _ (by simp), .wide _ (by simp), trivial⟩⟩, trivial⟩) rfl (by simp) (inquestref12_Same_ok hT hr36)) ?_
    refine AR.op (r := bl r36) rfl (aop_pick rfl rfl rfl) ?_
    refine AR.drop (frx := [(1, _), (3, _), (4, _), (24, _)]) ⟨rfl, rfl, rfl, rfl, trivial⟩ ?_
    refine AR.op (r := bl r36) rfl (aop_move (.inl rfl) rfl) ?_
    rcases Bool.eq_false_or_eq_true (r36) with hb37 | hb37
    · rw [hb37]
      replace h := Sh.if_t h hb37
      refine AR.op (r := i64 r20.2) rfl (aop_move (.inl rfl) rfl) ?_
      refine AR.op (r := bl (decide (r20.2 = 0))) rfl (aop_eql rfl rfl rfl) ?_
      refine AR.drop (frx := [(1, _), (3, _), (25, _), (27, _)]) ⟨rfl, rfl, rfl, rfl, trivial⟩ ?_
      refine AR.op (r := bl (decide (r20.2 = 0))) rfl (aop_pick rfl rfl rfl) ?_
      refine AR.op (r := bl (decide (r20.2 = 0))) rfl (aop_move (.inl rfl) rfl) ?_
      rcases Bool.eq_false_or_eq_true (decide (r20.2 = 0)) with hb38 | hb38
      · rw [hb38]
        replace h := Sh.if_t h hb38
        refine AR.op (r := G.graph_Graph.av r20.1) rfl (aop_load_ref rfl rfl rfl rfl sz24 rfl) ?_
        refine AR.drop (frx := [(1, _), (3, _), (29, _), (30, _)]) ⟨rfl, rfl, rfl, rfl, trivial⟩ ?_
        obtain ⟨r39, hr39, h⟩ := Sh.bind_some' h
        refine AR.op (r := G.inquestref12_G.av r39) rfl (aop_call1 rfl rfl (by simp) (inquestlaw13_plain_ok hT hr39)) ?_
        refine AR.op (r := .clip (List.map u64 [6#64, 4#64, 4#64])) rfl (aop_buildSlice rfl (xo := [.const (.int .u64 6), .const (.int .u64 4), .const (.int .u64 4)]) rfl rfl rfl (by simp [AV.solid]) (by simp [AV.flat]) el22 ze22 (by decide)) ?_
        refine AR.op (r := .agg [i64 3, .clip (List.map u64 [6#64, 4#64, 4#64])]) rfl (aop_build rfl bd26 rfl rfl rfl) ?_
        refine AR.drop (frx := [(1, _), (3, _), (29, _), (31, _), (33, _)]) ⟨rfl, rfl, rfl, rfl, rfl, trivial⟩ ?_
        obtain ⟨r40, hr40, h⟩ := Sh.bind_some' h
        refine AR.op (r := bl r40) rfl (aop_callN rfl (ys := [G.inquestref12_G.av r39, .agg [i64 3, .clip (List.map u64 [6#64, 4#64, 4#64])]]) (xs := [G.inquestref12_G.av r39, G.inquestref12_G.av (G.inquestref12_G.mk 3 [6#64, 4#64, 4#64])]) rfl (Weak.re (fr' := argsFr 0 [G.inquestref12_G.av r39, G.inquestref12_G.av (G.inquestref12_G.mk 3 [6#64, 4#64, 4#64])]) (H' := .empty) [] [] rfl rfl rfl trivial ⟨⟨G.inquestref12_G.av r39, rfl, .same _ (by simp)⟩, ⟨.agg [i64 3, .clip (List.map u64 [6#64, 4#64, 4#64])], rfl, .ag ⟨.same _ (by simp), .wide _ (by simp), trivial⟩⟩, trivial⟩) rfl (by simp) (inquestref12_Same_ok hT hr40)) ?_
        refine AR.op (r := bl r40) rfl (aop_pick rfl rfl rfl) ?_
        refine AR.op (r := bl r40) rfl (aop_move (.inl rfl) rfl) ?_
        refine AR.drop (frx := [(1, _), (3, _), (36, _)]) ⟨rfl, rfl, rfl, trivial⟩ ?_
        rcases Bool.eq_false_or_eq_true (r40) with hb41 | hb41
        · rw [hb41]
          replace h := Sh.if_t h hb41
          refine AR.op (r := G.graph_Graph.av r20.1) rfl (aop_load_ref rfl rfl rfl rfl sz24 rfl) ?_
          obtain ⟨r42, hr42, h⟩ := Sh.bind_some' h
          refine AR.op (r := bl r42) rfl (aop_call1 rfl rfl (by simp) (reach_Cyclic_ok hT hr42)) ?_
          refine AR.op (r := bl r42) rfl (aop_pick rfl rfl rfl) ?_
          refine AR.drop (frx := [(1, _), (39, _)]) ⟨rfl, rfl, trivial⟩ ?_
          refine AR.op (r := bl r42) rfl (aop_move (.inl rfl) rfl) ?_
          rcases Bool.eq_false_or_eq_true (r42) with hb43 | hb43
          · rw [hb43]
            replace h := Sh.if_t h hb43
            refine AR.op (r := G.graph_Graph.av r18.1) rfl (aop_load_ref rfl rfl rfl rfl sz24 rfl) ?_
            obtain ⟨r44, hr44, h⟩ := Sh.bind_some' h
            refine AR.op (r := bl r44) rfl (aop_call1 rfl rfl (by simp) (reach_Cyclic_ok hT hr44)) ?_
            refine AR.drop (frx := [(1, _), (40, _), (42, _)]) ⟨rfl, rfl, rfl, trivial⟩ ?_
            refine AR.op (r := bl (!r44)) rfl (aop_not rfl rfl) ?_
            refine AR.op (r := bl (!r44)) rfl (aop_pick rfl rfl rfl) ?_
            refine AR.op (r := bl (!r44)) rfl (aop_move (.inl rfl) rfl) ?_
            refine AR.drop (frx := [(1, _), (45, _)]) ⟨rfl, rfl, trivial⟩ ?_
            rcases Bool.eq_false_or_eq_true (!r44) with hb45 | hb45
            · rw [hb45]
              replace h := Sh.if_t h hb45
              refine AR.op (r := G.graph_Graph.av r18.1) rfl (aop_load_ref rfl rfl rfl rfl sz24 rfl) ?_
              obtain ⟨r46, hr46, h⟩ := Sh.bind_some' h
              refine AR.op (r := u64 r46) rfl (aop_call1 rfl rfl (by simp) (reach_From_ok hT hr46)) ?_
              refine AR.op (r := bl (decide (r46 = 6#64))) rfl (aop_eql64 (a := r46) (b := 6#64) rfl rfl rfl) ?_
              refine AR.drop (frx := [(45, _), (48, _)]) ⟨rfl, rfl, trivial⟩ ?_
              refine AR.op (r := bl (decide (r46 = 6#64))) rfl (aop_pick rfl rfl rfl) ?_
              refine AR.op (r := bl (decide (r46 = 6#64))) rfl (aop_move (.inr rfl) rfl) ?_
              refine AR.nil ?_
              refine hK4 _ (AWP.weak (Weak.re (fr' := [(0, bl (decide (r46 = 6#64)))]) (H' := .empty) [] [] rfl rfl rfl (trivial) ⟨⟨_, rfl, .same _ (by simp)⟩, trivial⟩) ?_)
              clear hK4 K4
              refine awp_ret ?_
              obtain rfl := Option.some.inj h
              refine ⟨.inr rfl, bl (decide (r46 = 6#64)), rfl, ?_⟩
              exact Weak.re [] [] rfl rfl rfl (trivial) ⟨⟨_, rfl, .same _ (by simp)⟩, trivial⟩
            · rw [hb45]
              replace h := Sh.if_f h hb45
              refine AR.skip rfl ?_
              refine AR.skip rfl ?_
              refine AR.skip rfl ?_
              refine AR.drop (frx := [(45, _), (48, _)]) ⟨rfl, rfl, trivial⟩ ?_
              refine AR.op (r := bl false) rfl (aop_pick rfl rfl rfl) ?_
              refine AR.op (r := bl false) rfl (aop_move (.inr rfl) rfl) ?_
              refine AR.nil ?_
              refine hK4 _ (AWP.weak (Weak.re (fr' := [(0, bl false)]) (H' := .empty) [] [] rfl rfl rfl (trivial) ⟨⟨_, rfl, .same _ (by simp)⟩, trivial⟩) ?_)
              clear hK4 K4
              refine awp_ret ?_
              obtain rfl := Option.some.inj h
              refine ⟨.inr rfl, bl false, rfl, ?_⟩
              exact Weak.re [] [] rfl rfl rfl (trivial) ⟨⟨_, rfl, .same _ (by simp)⟩, trivial⟩
          · rw [hb43]
            replace h := Sh.if_f h hb43
            refine AR.skip rfl ?_
            refine AR.skip rfl ?_
            refine AR.drop (frx := [(1, _), (40, _), (42, _)]) ⟨rfl, rfl, rfl, trivial⟩ ?_
            refine AR.skip rfl ?_
            refine AR.op (r := bl false) rfl (aop_pick rfl rfl rfl) ?_
            refine AR.op (r := bl false) rfl (aop_move (.inl rfl) rfl) ?_
            refine AR.drop (frx := [(1, _), (45, _)]) ⟨rfl, rfl, trivial⟩ ?_
            refine AR.skip rfl ?_
            refine AR.skip rfl ?_
            refine AR.skip rfl ?_
            refine AR.drop (frx := [(45, _), (48, _)]) ⟨rfl, rfl, trivial⟩ ?_
            refine AR.op (r := bl false) rfl (aop_pick rfl rfl rfl) ?_
            refine AR.op (r := bl false) rfl (aop_move (.inr rfl) rfl) ?_
            refine AR.nil ?_
            refine hK4 _ (AWP.weak (Weak.re (fr' := [(0, bl false)]) (H' := .empty) [] [] rfl rfl rfl (trivial) ⟨⟨_, rfl, .same _ (by simp)⟩, trivial⟩) ?_)
            clear hK4 K4
            refine awp_ret ?_
            obtain rfl := Option.some.inj h
            refine ⟨.inr rfl, bl false, rfl, ?_⟩
            exact Weak.re [] [] rfl rfl rfl (trivial) ⟨⟨_, rfl, .same _ (by simp)⟩, trivial⟩
        · rw [hb41]
          replace h := Sh.if_f h hb41
          refine AR.skip rfl ?_
          refine AR.skip rfl ?_
          refine AR.op (r := bl false) rfl (aop_pick rfl rfl rfl) ?_
          refine AR.drop (frx := [(1, _), (39, _)]) ⟨rfl, rfl, trivial⟩ ?_
          refine AR.op (r := bl false) rfl (aop_move (.inl rfl) rfl) ?_
          refine AR.skip rfl ?_
          refine AR.skip rfl ?_
          refine AR.drop (frx := [(1, _), (40, _), (42, _)]) ⟨rfl, rfl, rfl, trivial⟩ ?_
          refine AR.skip rfl ?_
          refine AR.op (r := bl false) rfl (aop_pick rfl rfl rfl) ?_
          refine AR.op (r := bl false) rfl (aop_move (.inl rfl) rfl) ?_
          refine AR.drop (frx := [(1, _), (45, _)]) ⟨rfl, rfl, trivial⟩ ?_
          refine AR.skip rfl ?_
          refine AR.skip rfl ?_
          refine AR.skip rfl ?_
          refine AR.drop (frx := [(45, _), (48, _)]) ⟨rfl, rfl, trivial⟩ ?_
          refine AR.op (r := bl false) rfl (aop_pick rfl rfl rfl) ?_
          refine AR.op (r := bl false) rfl (aop_move (.inr rfl) rfl) ?_
          refine AR.nil ?_
          refine hK4 _ (AWP.weak (Weak.re (fr' := [(0, bl false)]) (H' := .empty) [] [] rfl rfl rfl (trivial) ⟨⟨_, rfl, .same _ (by simp)⟩, trivial⟩) ?_)
          clear hK4 K4
          refine awp_ret ?_
          obtain rfl := Option.some.inj h
          refine ⟨.inr rfl, bl false, rfl, ?_⟩
          exact Weak.re [] [] rfl rfl rfl (trivial) ⟨⟨_, rfl, .same _ (by simp)⟩, trivial⟩
      · rw [hb38]
        replace h := Sh.if_f h hb38
        refine AR.skip rfl ?_
        refine AR.drop (frx := [(1, _), (3, _), (29, _), (30, _)]) ⟨rfl, rfl, rfl, rfl, trivial⟩ ?_
        refine AR.skip rfl ?_
        refine AR.skip rfl ?_
        refine AR.skip rfl ?_
        refine AR.drop (frx := [(1, _), (3, _), (29, _), (31, _), (33, _)]) ⟨rfl, rfl, rfl, rfl, rfl, trivial⟩ ?_
        refine AR.skip rfl ?_
        refine AR.op (r := bl false) rfl (aop_pick rfl rfl rfl) ?_
        refine AR.op (r := bl false) rfl (aop_move (.inl rfl) rfl) ?_
        refine AR.drop (frx := [(1, _), (3, _), (36, _)]) ⟨rfl, rfl, rfl, trivial⟩ ?_
        refine AR.skip rfl ?_
        refine AR.skip rfl ?_
        refine AR.op (r := bl false) rfl (aop_pick rfl rfl rfl) ?_
        refine AR.drop (frx := [(1, _), (39, _)]) ⟨rfl, rfl, trivial⟩ ?_
        refine AR.op (r := bl false) rfl (aop_move (.inl rfl) rfl) ?_
        refine AR.skip rfl ?_
        refine AR.skip rfl ?_
        refine AR.drop (frx := [(1, _), (40, _), (42, _)]) ⟨rfl, rfl, rfl, trivial⟩ ?_
        refine AR.skip rfl ?_
        refine AR.op (r := bl false) rfl (aop_pick rfl rfl rfl) ?_
        refine AR.op (r := bl false) rfl (aop_move (.inl rfl) rfl) ?_
        refine AR.drop (frx := [(1, _), (45, _)]) ⟨rfl, rfl, trivial⟩ ?_
        refine AR.skip rfl ?_
        refine AR.skip rfl ?_
        refine AR.skip rfl ?_
        refine AR.drop (frx := [(45, _), (48, _)]) ⟨rfl, rfl, trivial⟩ ?_
        refine AR.op (r := bl false) rfl (aop_pick rfl rfl rfl) ?_
        refine AR.op (r := bl false) rfl (aop_move (.inr rfl) rfl) ?_
        refine AR.nil ?_
        refine hK4 _ (AWP.weak (Weak.re (fr' := [(0, bl false)]) (H' := .empty) [] [] rfl rfl rfl (trivial) ⟨⟨_, rfl, .same _ (by simp)⟩, trivial⟩) ?_)
        clear hK4 K4
        refine awp_ret ?_
        obtain rfl := Option.some.inj h
        refine ⟨.inr rfl, bl false, rfl, ?_⟩
        exact Weak.re [] [] rfl rfl rfl (trivial) ⟨⟨_, rfl, .same _ (by simp)⟩, trivial⟩
    · rw [hb37]
      replace h := Sh.if_f h hb37
      refine AR.skip rfl ?_
      refine AR.skip rfl ?_
      refine AR.drop (frx := [(1, _), (3, _), (25, _), (27, _)]) ⟨rfl, rfl, rfl, rfl, trivial⟩ ?_
      refine AR.op (r := bl false) rfl (aop_pick rfl rfl rfl) ?_
      refine AR.op (r := bl false) rfl (aop_move (.inl rfl) rfl) ?_
      refine AR.skip rfl ?_
      refine AR.drop (frx := [(1, _), (3, _), (29, _), (30, _)]) ⟨rfl, rfl, rfl, rfl, trivial⟩ ?_
      refine AR.skip rfl ?_
      refine AR.skip rfl ?_
      refine AR.skip rfl ?_
      refine AR.drop (frx := [(1, _), (3, _), (29, _), (31, _), (33, _)]) ⟨rfl, rfl, rfl, rfl, rfl, trivial⟩ ?_
      refine AR.skip rfl ?_
      refine AR.op (r := bl false) rfl (aop_pick rfl rfl rfl) ?_
      refine AR.op (r := bl false) rfl (aop_move (.inl rfl) rfl) ?_
      refine AR.drop (frx := [(1, _), (3, _), (36, _)]) ⟨rfl, rfl, rfl, trivial⟩ ?_
      refine AR.skip rfl ?_
      refine AR.skip rfl ?_
      refine AR.op (r := bl false) rfl (aop_pick rfl rfl rfl) ?_
      refine AR.drop (frx := [(1, _), (39, _)]) ⟨rfl, rfl, trivial⟩ ?_
      refine AR.op (r := bl false) rfl (aop_move (.inl rfl) rfl) ?_
      refine AR.skip rfl ?_
      refine AR.skip rfl ?_
      refine AR.drop (frx := [(1, _), (40, _), (42, _)]) ⟨rfl, rfl, rfl, trivial⟩ ?_
      refine AR.skip rfl ?_
      refine AR.op (r := bl false) rfl (aop_pick rfl rfl rfl) ?_
      refine AR.op (r := bl false) rfl (aop_move (.inl rfl) rfl) ?_
      refine AR.drop (frx := [(1, _), (45, _)]) ⟨rfl, rfl, trivial⟩ ?_
      refine AR.skip rfl ?_
      refine AR.skip rfl ?_
      refine AR.skip rfl ?_
      refine AR.drop (frx := [(45, _), (48, _)]) ⟨rfl, rfl, trivial⟩ ?_
      refine AR.op (r := bl false) rfl (aop_pick rfl rfl rfl) ?_
      refine AR.op (r := bl false) rfl (aop_move (.inr rfl) rfl) ?_
      refine AR.nil ?_
      refine hK4 _ (AWP.weak (Weak.re (fr' := [(0, bl false)]) (H' := .empty) [] [] rfl rfl rfl (trivial) ⟨⟨_, rfl, .same _ (by simp)⟩, trivial⟩) ?_)
      clear hK4 K4
      refine awp_ret ?_
      obtain rfl := Option.some.inj h
      refine ⟨.inr rfl, bl false, rfl, ?_⟩
      exact Weak.re [] [] rfl rfl rfl (trivial) ⟨⟨_, rfl, .same _ (by simp)⟩, trivial⟩
  · rw [hb34]
    replace h := Sh.if_f h hb34
    refine AR.skip rfl ?_
    refine AR.skip rfl ?_
    refine AR.skip rfl ?_
    refine AR.drop (frx := [(1, _), (3, _), (4, _), (18, _), (20, _), (21, _)]) ⟨rfl, rfl, rfl, rfl, rfl, rfl, trivial⟩ ?_
    refine AR.skip rfl ?_
    refine AR.skip rfl ?_
    refine AR.op (r := bl false) rfl (aop_pick rfl rfl rfl) ?_
    refine AR.drop (frx := [(1, _), (3, _), (4, _), (24, _)]) ⟨rfl, rfl, rfl, rfl, trivial⟩ ?_
    refine AR.op (r := bl false) rfl (aop_move (.inl rfl) rfl) ?_
    refine AR.skip rfl ?_
    refine AR.skip rfl ?_
    refine AR.drop (frx := [(1, _), (3, _), (25, _), (27, _)]) ⟨rfl, rfl, rfl, rfl, trivial⟩ ?_
    refine AR.op (r := bl false) rfl (aop_pick rfl rfl rfl) ?_
    refine AR.op (r := bl false) rfl (aop_move (.inl rfl) rfl) ?_
    refine AR.skip rfl ?_
    refine AR.drop (frx := [(1, _), (3, _), (29, _), (30, _)]) ⟨rfl, rfl, rfl, rfl, trivial⟩ ?_
    refine AR.skip rfl ?_
    refine AR.skip rfl ?_
    refine AR.skip rfl ?_
    refine AR.drop (frx := [(1, _), (3, _), (29, _), (31, _), (33, _)]) ⟨rfl, rfl, rfl, rfl, rfl, trivial⟩ ?_
    refine AR.skip rfl ?_
    refine AR.op (r := bl false) rfl (aop_pick rfl rfl rfl) ?_
    refine AR.op (r := bl false) rfl (aop_move (.inl rfl) rfl) ?_
    refine AR.drop (frx := [(1, _), (3, _), (36, _)]) ⟨rfl, rfl, rfl, trivial⟩ ?_
    refine AR.skip rfl ?_
    refine AR.skip rfl ?_
    refine AR.op (r := bl false) rfl (aop_pick rfl rfl rfl) ?_
    refine AR.drop (frx := [(1, _), (39, _)]) ⟨rfl, rfl, trivial⟩ ?_
    refine AR.op (r := bl false) rfl (aop_move (.inl rfl) rfl) ?_
    refine AR.skip rfl ?_
    refine AR.skip rfl ?_
    refine AR.drop (frx := [(1, _), (40, _), (42, _)]) ⟨rfl, rfl, rfl, trivial⟩ ?_
    refine AR.skip rfl ?_
    refine AR.op (r := bl false) rfl (aop_pick rfl rfl rfl) ?_
    refine AR.op (r := bl false) rfl (aop_move (.inl rfl) rfl) ?_
    refine AR.drop (frx := [(1, _), (45, _)]) ⟨rfl, rfl, trivial⟩ ?_
    refine AR.skip rfl ?_
    refine AR.skip rfl ?_
    refine AR.skip rfl ?_
    refine AR.drop (frx := [(45, _), (48, _)]) ⟨rfl, rfl, trivial⟩ ?_
    refine AR.op (r := bl false) rfl (aop_pick rfl rfl rfl) ?_
    refine AR.op (r := bl false) rfl (aop_move (.inr rfl) rfl) ?_
    refine AR.nil ?_
    refine hK4 _ (AWP.weak (Weak.re (fr' := [(0, bl false)]) (H' := .empty) [] [] rfl rfl rfl (trivial) ⟨⟨_, rfl, .same _ (by simp)⟩, trivial⟩) ?_)
    clear hK4 K4
    refine awp_ret ?_
    obtain rfl := Option.some.inj h
    refine ⟨.inr rfl, bl false, rfl, ?_⟩
    exact Weak.re [] [] rfl rfl rfl (trivial) ⟨⟨_, rfl, .same _ (by simp)⟩, trivial⟩
theorem inquestlaw13_awake_ok {W0 : World} (hT : Tab W0) {r : Bool} (h : G.inquestlaw13_awake = some r) : Fun1 Tryd.prog W0 29 [] (bl r) := Fun1.two (inquestlaw13_awake_ok0 hT h) (by simp)

end Wk
