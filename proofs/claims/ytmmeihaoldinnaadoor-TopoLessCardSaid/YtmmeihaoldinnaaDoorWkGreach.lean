/- That the functions of a package do what their plain functions say. -/
import Derived.Test.YtmmeihaoldinnaaDoorSh
import Derived.Test.YtmmeihaoldinnaaDoorWkGFacts
import Derived.Test.YtmmeihaoldinnaaDoorWkGbits
import Derived.Test.YtmmeihaoldinnaaDoorWkGgraph
open Go Go.Av Go.Proofs
set_option linter.unusedVariables false
namespace Wk
set_option maxHeartbeats 8000000 in
theorem reach_From_ok0 {W0 : World} (hT : Tab W0) {g_0 : G.graph_Graph} {a_1 : Int} {r : (BitVec 64)} (h : G.reach_From g_0 a_1 = some r) : Fun2 Tryd.prog W0 34 [G.graph_Graph.av g_0, i64 a_1] (u64 r) .empty := by
  refine fun2_of_awp Tryd.func34 rfl (by kernel_rfl) Tryd.ntmps34 (by simp) ?_
  unfold G.reach_From at h
  show AWP _ _ _ _ ⟨[(0, G.graph_Graph.av g_0), (1, i64 a_1)], .empty⟩ _
  refine awp_seqK fun K1 hK1 => ?_
  refine awp_reg rfl ?_
  refine AR.op (r := .ref 0 0 0) rfl (aop_box 2 [G.graph_Graph.av g_0] rfl rfl rfl (.inl ⟨rfl, rfl⟩)) ?_
  refine AR.op (r := u64 0#64) rfl (aop_move (.inr rfl) rfl) ?_
  refine AR.nil ?_
  refine hK1 _ (AWP.weak (Weak.re (fr' := [(1, i64 a_1), (2, .ref 0 0 0)]) (H' := ⟨1, [(0, (2, [G.graph_Graph.av g_0]))]⟩) [(0, 0)] [] rfl rfl rfl (.cons rfl rfl (.one (.same _ (by simp)) rfl) (of_decide_eq_true rfl) (trivial)) ⟨⟨_, rfl, .same _ (by simp)⟩, ⟨_, rfl, .ref rfl⟩, trivial⟩) ?_)
  clear hK1 K1
  refine awp_scope 0 (fun (p : (BitVec 64) × (BitVec 64)) => G.reach_From_b1 g_0 p.1 p.2) (fun (p : (BitVec 64) × (BitVec 64)) => (⟨[(2, .ref 0 0 0), (5, u64 p.1), (6, u64 p.2)], ⟨1, [(0, (2, [G.graph_Graph.av g_0]))]⟩⟩ : St)) r rfl ?_ ?_
  · skip
    refine awp_seqK fun K9 hK9 => ?_
    refine awp_seqJ (fun (p : Bool) => (⟨[(1, i64 a_1), (2, .ref 0 0 0), (20, bl p)], ⟨1, [(0, (2, [G.graph_Graph.av g_0]))]⟩⟩ : St)) (fun (p : Bool) => G.reach_From_j1 g_0 a_1 p = some r) ?_ ?_
    · rintro v85 h
      replace h : G.reach_From_j1 g_0 a_1 v85 = some r := h
      unfold G.reach_From_j1 at h
      show AWP _ _ _ _ ⟨[(1, i64 a_1), (2, .ref 0 0 0), (20, bl v85)], ⟨1, [(0, (2, [G.graph_Graph.av g_0]))]⟩⟩ _
      refine awp_cond rfl (fun hb86 => ?_) (fun hb86 => ?_)
      · replace h := Sh.if_t h hb86
        refine awp_seqK fun K10 hK10 => ?_
        refine awp_reg rfl ?_
        refine AR.op (r := u64 0#64) rfl (aop_move (.inr rfl) rfl) ?_
        refine AR.nil ?_
        refine hK10 _ (AWP.weak (Weak.re (fr' := [(4, u64 0#64)]) (H' := .empty) [] [] rfl rfl rfl (trivial) ⟨⟨_, rfl, .same _ (by simp)⟩, trivial⟩) ?_)
        clear hK10 K10
        refine awp_ret ?_
        obtain rfl := Option.some.inj h
        refine ⟨.inr rfl, u64 0#64, rfl, ?_⟩
        exact Weak.re [] [] rfl rfl rfl (trivial) ⟨⟨_, rfl, .same _ (by simp)⟩, trivial⟩
      · replace h := Sh.if_f h hb86
        refine awp_skip ?_
        refine hK9 _ (AWP.weak (Weak.re (fr' := [(1, i64 a_1), (2, .ref 0 0 0)]) (H' := ⟨1, [(0, (2, [G.graph_Graph.av g_0]))]⟩) [(0, 0)] [] rfl rfl rfl (.cons rfl rfl (.one (.same _ (by simp)) rfl) (of_decide_eq_true rfl) (trivial)) ⟨⟨_, rfl, .same _ (by simp)⟩, ⟨_, rfl, .ref rfl⟩, trivial⟩) ?_)
        clear hK9 K9
        refine awp_seqK fun K11 hK11 => ?_
        refine awp_any (by kernel_rfl) (by kernel_rfl) rfl ?_
        refine ARH.op rfl rfl (aop_field_ref rfl rfl rfl fd24_1 (by decide)) ?_
        refine ARH.op (r := .sl (List.map u64 g_0.Rows)) rfl rfl (aop_load_ref rfl rfl rfl rfl sz22 rfl) ?_
        refine ARH.dry (r := i64 a_1) rfl (fun _ => aop_move (.inl rfl) rfl) ?_
        refine ARH.drop (frx := [(2, _), (22, _), (23, _)]) ⟨rfl, rfl, rfl, trivial⟩ ?_
        obtain ⟨x89, hx89, h⟩ := Sh.bind_some' h
        obtain ⟨k90, hi90, hl90⟩ := Sh.idx_some hx89
        refine ARH.op rfl rfl (t_index_sl u64 g_0.Rows hi90 hl90 rfl rfl rfl el22 rfl) ?_
        refine ARH.op (r := u64 x89) rfl rfl (aop_load_pp rfl rfl sz45 rfl) ?_
        refine ARH.dry (r := u64 0#64) rfl (fun _ => aop_move (.inr rfl) rfl) ?_
        refine ARH.drop (frx := [(2, _), (25, _), (5, _)]) ⟨rfl, rfl, rfl, trivial⟩ ?_
        refine ARH.dry (r := u64 x89) rfl (fun _ => aop_move (.inr rfl) rfl) ?_
        refine ARH.nil ?_
        refine hK11 _ (AWP.weak (Weak.re (fr' := [(2, .ref 0 0 0), (5, u64 0#64), (6, u64 x89)]) (H' := ⟨1, [(0, (2, [G.graph_Graph.av g_0]))]⟩) [(0, 0)] [] rfl rfl rfl (.cons rfl rfl (.one (.same _ (by simp)) rfl) (of_decide_eq_true rfl) (trivial)) ⟨⟨_, rfl, .ref rfl⟩, ⟨_, rfl, .same _ (by simp)⟩, ⟨_, rfl, .same _ (by simp)⟩, trivial⟩) ?_)
        clear hK11 K11
        refine awp_seqK fun K12 hK12 => ?_
        refine awp_label ?_
        refine hK12 _ ?_
        clear hK12 K12
        refine awp_seqK fun K13 hK13 => ?_
        refine awp_reg rfl ?_
        refine AR.op (r := u64 x89) rfl (aop_move (.inl rfl) rfl) ?_
        obtain ⟨r92, hr92, h⟩ := Sh.bind_some' h
        refine AR.op (r := i64 r92) rfl (aop_call1 rfl rfl (by simp) (bits_Least_ok hT hr92)) ?_
        refine AR.op (r := i64 r92) rfl (aop_move (.inr rfl) rfl) ?_
        refine AR.nil ?_
        refine hK13 _ (AWP.weak (Weak.re (fr' := [(2, .ref 0 0 0), (5, u64 0#64), (6, u64 x89), (7, i64 r92)]) (H' := ⟨1, [(0, (2, [G.graph_Graph.av g_0]))]⟩) [(0, 0)] [] rfl rfl rfl (.cons rfl rfl (.one (.same _ (by simp)) rfl) (of_decide_eq_true rfl) (trivial)) ⟨⟨_, rfl, .ref rfl⟩, ⟨_, rfl, .same _ (by simp)⟩, ⟨_, rfl, .same _ (by simp)⟩, ⟨_, rfl, .same _ (by simp)⟩, trivial⟩) ?_)
        clear hK13 K13
        refine awp_seqK fun K14 hK14 => ?_
        refine awp_seqK fun K15 hK15 => ?_
        refine awp_reg rfl ?_
        refine AR.op (r := i64 r92) rfl (aop_move (.inl rfl) rfl) ?_
        refine AR.op (r := bl (decide (r92 < 0))) rfl (aop_lss rfl rfl rfl) ?_
        refine AR.nil ?_
        refine hK15 _ (AWP.weak (Weak.re (fr' := [(2, .ref 0 0 0), (5, u64 0#64), (6, u64 x89), (7, i64 r92), (29, bl (decide (r92 < 0)))]) (H' := ⟨1, [(0, (2, [G.graph_Graph.av g_0]))]⟩) [(0, 0)] [] rfl rfl rfl (.cons rfl rfl (.one (.same _ (by simp)) rfl) (of_decide_eq_true rfl) (trivial)) ⟨⟨_, rfl, .ref rfl⟩, ⟨_, rfl, .same _ (by simp)⟩, ⟨_, rfl, .same _ (by simp)⟩, ⟨_, rfl, .same _ (by simp)⟩, ⟨_, rfl, .same _ (by simp)⟩, trivial⟩) ?_)
        clear hK15 K15
        refine awp_cond rfl (fun hb93 => ?_) (fun hb93 => ?_)
        · replace h := Sh.if_t h hb93
          refine awp_seqK fun K16 hK16 => ?_
          refine awp_reg rfl ?_
          refine AR.op (r := u64 0#64) rfl (aop_move (.inl rfl) rfl) ?_
          refine AR.op (r := u64 0#64) rfl (aop_move (.inr rfl) rfl) ?_
          refine AR.nil ?_
          refine hK16 _ (AWP.weak (Weak.re (fr' := [(4, u64 0#64)]) (H' := .empty) [] [] rfl rfl rfl (trivial) ⟨⟨_, rfl, .same _ (by simp)⟩, trivial⟩) ?_)
          clear hK16 K16
          refine awp_ret ?_
          obtain rfl := Option.some.inj h
          refine ⟨.inr rfl, u64 0#64, rfl, ?_⟩
          exact Weak.re [] [] rfl rfl rfl (trivial) ⟨⟨_, rfl, .same _ (by simp)⟩, trivial⟩
        · replace h := Sh.if_f h hb93
          refine awp_skip ?_
          refine hK14 _ (AWP.weak (Weak.re (fr' := [(2, .ref 0 0 0), (5, u64 0#64), (6, u64 x89), (7, i64 r92)]) (H' := ⟨1, [(0, (2, [G.graph_Graph.av g_0]))]⟩) [(0, 0)] [] rfl rfl rfl (.cons rfl rfl (.one (.same _ (by simp)) rfl) (of_decide_eq_true rfl) (trivial)) ⟨⟨_, rfl, .ref rfl⟩, ⟨_, rfl, .same _ (by simp)⟩, ⟨_, rfl, .same _ (by simp)⟩, ⟨_, rfl, .same _ (by simp)⟩, trivial⟩) ?_)
          clear hK14 K14
          refine awp_seqK fun K17 hK17 => ?_
          refine awp_reg rfl ?_
          refine AR.op (r := u64 0#64) rfl (aop_move (.inl rfl) rfl) ?_
          refine AR.op (r := i64 r92) rfl (aop_move (.inl rfl) rfl) ?_
          obtain ⟨r95, hr95, h⟩ := Sh.bind_some' h
          refine AR.op (r := u64 r95) rfl (aop_call1 rfl rfl (by simp) (bits_With_ok hT hr95)) ?_
          refine AR.drop (frx := [(2, _), (6, _), (7, _), (33, _)]) ⟨rfl, rfl, rfl, rfl, trivial⟩ ?_
          refine AR.op (r := u64 r95) rfl (aop_move (.inr rfl) rfl) ?_
          refine AR.nil ?_
          refine hK17 _ (AWP.weak (Weak.re (fr' := [(2, .ref 0 0 0), (6, u64 x89), (7, i64 r92), (5, u64 r95)]) (H' := ⟨1, [(0, (2, [G.graph_Graph.av g_0]))]⟩) [(0, 0)] [] rfl rfl rfl (.cons rfl rfl (.one (.same _ (by simp)) rfl) (of_decide_eq_true rfl) (trivial)) ⟨⟨_, rfl, .ref rfl⟩, ⟨_, rfl, .same _ (by simp)⟩, ⟨_, rfl, .same _ (by simp)⟩, ⟨_, rfl, .same _ (by simp)⟩, trivial⟩) ?_)
          clear hK17 K17
          refine awp_seqK fun K18 hK18 => ?_
          refine awp_reg rfl ?_
          refine AR.op (r := u64 x89) rfl (aop_move (.inl rfl) rfl) ?_
          refine AR.op rfl (aop_field_ref rfl rfl rfl fd24_1 (by decide)) ?_
          refine AR.op (r := .sl (List.map u64 g_0.Rows)) rfl (aop_load_ref rfl rfl rfl rfl sz22 rfl) ?_
          refine AR.drop (frx := [(2, _), (7, _), (5, _), (34, _), (36, _)]) ⟨rfl, rfl, rfl, rfl, rfl, trivial⟩ ?_
          refine AR.op (r := i64 r92) rfl (aop_move (.inl rfl) rfl) ?_
          obtain ⟨x99, hx99, h⟩ := Sh.bind_some' h
          obtain ⟨k100, hi100, hl100⟩ := Sh.idx_some hx99
          refine AR.op rfl (t_index_sl u64 g_0.Rows hi100 hl100 rfl rfl rfl el22 rfl) ?_
          refine AR.op (r := u64 x99) rfl (aop_load_pp rfl rfl sz45 rfl) ?_
          refine AR.drop (frx := [(2, _), (5, _), (34, _), (39, _)]) ⟨rfl, rfl, rfl, rfl, trivial⟩ ?_
          refine AR.op (r := .clip (List.map u64 [x89, x99])) rfl (aop_buildSlice rfl (xo := [.tmp 34, .tmp 39]) rfl rfl rfl (by simp [AV.solid]) (by simp [AV.flat]) el22 ze22 (by decide)) ?_
          obtain ⟨r101, hr101, h⟩ := Sh.bind_some' h
          refine AR.op (r := u64 r101) rfl (aop_callN rfl (ys := [.clip (List.map u64 [x89, x99])]) (xs := [.sl (List.map u64 [x89, x99])]) rfl (Weak.re (fr' := argsFr 0 [.sl (List.map u64 [x89, x99])]) (H' := .empty) [] [] rfl rfl rfl trivial ⟨⟨.clip (List.map u64 [x89, x99]), rfl, .wide _ (by simp)⟩, trivial⟩) rfl (by simp) (bits_Join_ok hT hr101)) ?_
          refine AR.op (r := u64 r95) rfl (aop_move (.inl rfl) rfl) ?_
          refine AR.drop (frx := [(2, _), (5, _), (41, _), (42, _)]) ⟨rfl, rfl, rfl, rfl, trivial⟩ ?_
          refine AR.op (r := u64 (r101 &&& ~~~r95)) rfl (aop_andNot (a := r101) (b := r95) rfl rfl rfl) ?_
          refine AR.op (r := u64 (r101 &&& ~~~r95)) rfl (aop_move (.inr rfl) rfl) ?_
          refine AR.nil ?_
          refine hK18 _ (AWP.weak (Weak.re (fr' := [(2, .ref 0 0 0), (5, u64 r95), (6, u64 (r101 &&& ~~~r95))]) (H' := ⟨1, [(0, (2, [G.graph_Graph.av g_0]))]⟩) [(0, 0)] [] rfl rfl rfl (.cons rfl rfl (.one (.same _ (by simp)) rfl) (of_decide_eq_true rfl) (trivial)) ⟨⟨_, rfl, .ref rfl⟩, ⟨_, rfl, .same _ (by simp)⟩, ⟨_, rfl, .same _ (by simp)⟩, trivial⟩) ?_)
          clear hK18 K18
          refine awp_goto ?_
          exact ⟨rfl, (r95, r101 &&& ~~~r95), h, Weak.re (fr' := [(2, .ref 0 0 0), (5, u64 r95), (6, u64 (r101 &&& ~~~r95))]) (H' := ⟨1, [(0, (2, [G.graph_Graph.av g_0]))]⟩) [(0, 0)] [] rfl rfl rfl (.cons rfl rfl (.one (.same _ (by simp)) rfl) (of_decide_eq_true rfl) (trivial)) ⟨⟨_, rfl, .ref rfl⟩, ⟨_, rfl, .same _ (by simp)⟩, ⟨_, rfl, .same _ (by simp)⟩, trivial⟩⟩
    · intro K19 hK19
      refine awp_reg rfl ?_
      refine AR.op (r := G.graph_Graph.av g_0) rfl (aop_load_ref rfl rfl rfl rfl sz24 rfl) ?_
      obtain ⟨r102, hr102, h⟩ := Sh.bind_some' h
      refine AR.op (r := bl r102) rfl (aop_call1 rfl rfl (by simp) (graph_Right_ok hT hr102)) ?_
      refine AR.op (r := bl (!r102)) rfl (aop_not rfl rfl) ?_
      refine AR.drop (frx := [(1, _), (2, _), (10, _)]) ⟨rfl, rfl, rfl, trivial⟩ ?_
      refine AR.op (r := bl (!r102)) rfl (aop_move (.inl rfl) rfl) ?_
      rcases Bool.eq_false_or_eq_true (!r102) with hb103 | hb103
      · rw [hb103]
        replace h := Sh.if_t h hb103
        refine AR.skip rfl ?_
        refine AR.skip rfl ?_
        refine AR.drop (frx := [(1, _), (2, _), (11, _), (13, _)]) ⟨rfl, rfl, rfl, rfl, trivial⟩ ?_
        refine AR.op (r := bl true) rfl (aop_pick rfl rfl rfl) ?_
        refine AR.op (r := bl true) rfl (aop_move (.inl rfl) rfl) ?_
        refine AR.skip rfl ?_
        refine AR.drop (frx := [(1, _), (2, _), (15, _), (16, _)]) ⟨rfl, rfl, rfl, rfl, trivial⟩ ?_
        refine AR.skip rfl ?_
        refine AR.skip rfl ?_
        refine AR.skip rfl ?_
        refine AR.drop (frx := [(1, _), (2, _), (15, _), (19, _)]) ⟨rfl, rfl, rfl, rfl, trivial⟩ ?_
        refine AR.op (r := bl true) rfl (aop_pick rfl rfl rfl) ?_
        refine AR.nil ?_
        exact hK19 true _ h (Weak.re (fr' := [(1, i64 a_1), (2, .ref 0 0 0), (20, bl true)]) (H' := ⟨1, [(0, (2, [G.graph_Graph.av g_0]))]⟩) [(0, 0)] [] rfl rfl rfl (.cons rfl rfl (.one (.same _ (by simp)) rfl) (of_decide_eq_true rfl) (trivial)) ⟨⟨_, rfl, .same _ (by simp)⟩, ⟨_, rfl, .ref rfl⟩, ⟨_, rfl, .same _ (by simp)⟩, trivial⟩)
      · rw [hb103]
        replace h := Sh.if_f h hb103
        refine AR.op (r := i64 a_1) rfl (aop_move (.inl rfl) rfl) ?_
        refine AR.op (r := bl (decide (a_1 < 0))) rfl (aop_lss rfl rfl rfl) ?_
        refine AR.drop (frx := [(1, _), (2, _), (11, _), (13, _)]) ⟨rfl, rfl, rfl, rfl, trivial⟩ ?_
        refine AR.op (r := bl (decide (a_1 < 0))) rfl (aop_pick rfl rfl rfl) ?_
        refine AR.op (r := bl (decide (a_1 < 0))) rfl (aop_move (.inl rfl) rfl) ?_
        rcases Bool.eq_false_or_eq_true (decide (a_1 < 0)) with hb104 | hb104
        · rw [hb104]
          replace h := Sh.if_t h hb104
          refine AR.skip rfl ?_
          refine AR.drop (frx := [(1, _), (2, _), (15, _), (16, _)]) ⟨rfl, rfl, rfl, rfl, trivial⟩ ?_
          refine AR.skip rfl ?_
          refine AR.skip rfl ?_
          refine AR.skip rfl ?_
          refine AR.drop (frx := [(1, _), (2, _), (15, _), (19, _)]) ⟨rfl, rfl, rfl, rfl, trivial⟩ ?_
          refine AR.op (r := bl true) rfl (aop_pick rfl rfl rfl) ?_
          refine AR.nil ?_
          exact hK19 true _ h (Weak.re (fr' := [(1, i64 a_1), (2, .ref 0 0 0), (20, bl true)]) (H' := ⟨1, [(0, (2, [G.graph_Graph.av g_0]))]⟩) [(0, 0)] [] rfl rfl rfl (.cons rfl rfl (.one (.same _ (by simp)) rfl) (of_decide_eq_true rfl) (trivial)) ⟨⟨_, rfl, .same _ (by simp)⟩, ⟨_, rfl, .ref rfl⟩, ⟨_, rfl, .same _ (by simp)⟩, trivial⟩)
        · rw [hb104]
          replace h := Sh.if_f h hb104
          refine AR.op (r := i64 a_1) rfl (aop_move (.inl rfl) rfl) ?_
          refine AR.drop (frx := [(1, _), (2, _), (15, _), (16, _)]) ⟨rfl, rfl, rfl, rfl, trivial⟩ ?_
          refine AR.op rfl (aop_field_ref rfl rfl rfl fd24_0 (by decide)) ?_
          refine AR.op (r := i64 g_0.N) rfl (aop_load_ref rfl rfl rfl rfl sz3 rfl) ?_
          refine AR.op (r := bl (decide (g_0.N ≤ a_1))) rfl (aop_geq rfl rfl rfl) ?_
          refine AR.drop (frx := [(1, _), (2, _), (15, _), (19, _)]) ⟨rfl, rfl, rfl, rfl, trivial⟩ ?_
          refine AR.op (r := bl (decide (g_0.N ≤ a_1))) rfl (aop_pick rfl rfl rfl) ?_
          refine AR.nil ?_
          exact hK19 (decide (g_0.N ≤ a_1)) _ h (Weak.re (fr' := [(1, i64 a_1), (2, .ref 0 0 0), (20, bl (decide (g_0.N ≤ a_1)))]) (H' := ⟨1, [(0, (2, [G.graph_Graph.av g_0]))]⟩) [(0, 0)] [] rfl rfl rfl (.cons rfl rfl (.one (.same _ (by simp)) rfl) (of_decide_eq_true rfl) (trivial)) ⟨⟨_, rfl, .same _ (by simp)⟩, ⟨_, rfl, .ref rfl⟩, ⟨_, rfl, .same _ (by simp)⟩, trivial⟩)
  · skip
    rintro ⟨seen65, left66⟩ o1 h hx1
    replace h : G.reach_From_b1 g_0 seen65 left66 = some o1 := h
    unfold G.reach_From_b1 at h
    show AWP _ _ _ _ ⟨[(2, .ref 0 0 0), (5, u64 seen65), (6, u64 left66)], ⟨1, [(0, (2, [G.graph_Graph.av g_0]))]⟩⟩ _
    refine awp_seqK fun K2 hK2 => ?_
    refine awp_skip ?_
    refine hK2 _ ?_
    clear hK2 K2
    refine awp_seqK fun K3 hK3 => ?_
    refine awp_reg rfl ?_
    refine AR.op (r := u64 left66) rfl (aop_move (.inl rfl) rfl) ?_
    obtain ⟨r68, hr68, h⟩ := Sh.bind_some' h
    refine AR.op (r := i64 r68) rfl (aop_call1 rfl rfl (by simp) (bits_Least_ok hT hr68)) ?_
    refine AR.op (r := i64 r68) rfl (aop_move (.inr rfl) rfl) ?_
    refine AR.nil ?_
    refine hK3 _ (AWP.weak (Weak.re (fr' := [(2, .ref 0 0 0), (5, u64 seen65), (6, u64 left66), (7, i64 r68)]) (H' := ⟨1, [(0, (2, [G.graph_Graph.av g_0]))]⟩) [(0, 0)] [] rfl rfl rfl (.cons rfl rfl (.one (.same _ (by simp)) rfl) (of_decide_eq_true rfl) (trivial)) ⟨⟨_, rfl, .ref rfl⟩, ⟨_, rfl, .same _ (by simp)⟩, ⟨_, rfl, .same _ (by simp)⟩, ⟨_, rfl, .same _ (by simp)⟩, trivial⟩) ?_)
    clear hK3 K3
    refine awp_seqK fun K4 hK4 => ?_
    refine awp_seqK fun K5 hK5 => ?_
    refine awp_reg rfl ?_
    refine AR.op (r := i64 r68) rfl (aop_move (.inl rfl) rfl) ?_
    refine AR.op (r := bl (decide (r68 < 0))) rfl (aop_lss rfl rfl rfl) ?_
    refine AR.nil ?_
    refine hK5 _ (AWP.weak (Weak.re (fr' := [(2, .ref 0 0 0), (5, u64 seen65), (6, u64 left66), (7, i64 r68), (29, bl (decide (r68 < 0)))]) (H' := ⟨1, [(0, (2, [G.graph_Graph.av g_0]))]⟩) [(0, 0)] [] rfl rfl rfl (.cons rfl rfl (.one (.same _ (by simp)) rfl) (of_decide_eq_true rfl) (trivial)) ⟨⟨_, rfl, .ref rfl⟩, ⟨_, rfl, .same _ (by simp)⟩, ⟨_, rfl, .same _ (by simp)⟩, ⟨_, rfl, .same _ (by simp)⟩, ⟨_, rfl, .same _ (by simp)⟩, trivial⟩) ?_)
    clear hK5 K5
    refine awp_cond rfl (fun hb69 => ?_) (fun hb69 => ?_)
    · replace h := Sh.if_t h hb69
      refine awp_seqK fun K6 hK6 => ?_
      refine awp_reg rfl ?_
      refine AR.op (r := u64 seen65) rfl (aop_move (.inl rfl) rfl) ?_
      refine AR.op (r := u64 seen65) rfl (aop_move (.inr rfl) rfl) ?_
      refine AR.nil ?_
      refine hK6 _ (AWP.weak (Weak.re (fr' := [(4, u64 seen65)]) (H' := .empty) [] [] rfl rfl rfl (trivial) ⟨⟨_, rfl, .same _ (by simp)⟩, trivial⟩) ?_)
      clear hK6 K6
      refine awp_ret ?_
      replace h := Sh.exit_eq h hx1
      obtain rfl := Option.some.inj h
      refine ⟨.inr rfl, u64 seen65, rfl, ?_⟩
      exact Weak.re [] [] rfl rfl rfl (trivial) ⟨⟨_, rfl, .same _ (by simp)⟩, trivial⟩
    · replace h := Sh.if_f h hb69
      refine awp_skip ?_
      refine hK4 _ (AWP.weak (Weak.re (fr' := [(2, .ref 0 0 0), (5, u64 seen65), (6, u64 left66), (7, i64 r68)]) (H' := ⟨1, [(0, (2, [G.graph_Graph.av g_0]))]⟩) [(0, 0)] [] rfl rfl rfl (.cons rfl rfl (.one (.same _ (by simp)) rfl) (of_decide_eq_true rfl) (trivial)) ⟨⟨_, rfl, .ref rfl⟩, ⟨_, rfl, .same _ (by simp)⟩, ⟨_, rfl, .same _ (by simp)⟩, ⟨_, rfl, .same _ (by simp)⟩, trivial⟩) ?_)
      clear hK4 K4
      refine awp_seqK fun K7 hK7 => ?_
      refine awp_reg rfl ?_
      refine AR.op (r := u64 seen65) rfl (aop_move (.inl rfl) rfl) ?_
      refine AR.op (r := i64 r68) rfl (aop_move (.inl rfl) rfl) ?_
      obtain ⟨r71, hr71, h⟩ := Sh.bind_some' h
      refine AR.op (r := u64 r71) rfl (aop_call1 rfl rfl (by simp) (bits_With_ok hT hr71)) ?_
      refine AR.drop (frx := [(2, _), (6, _), (7, _), (33, _)]) ⟨rfl, rfl, rfl, rfl, trivial⟩ ?_
      refine AR.op (r := u64 r71) rfl (aop_move (.inr rfl) rfl) ?_
      refine AR.nil ?_
      refine hK7 _ (AWP.weak (Weak.re (fr' := [(2, .ref 0 0 0), (6, u64 left66), (7, i64 r68), (5, u64 r71)]) (H' := ⟨1, [(0, (2, [G.graph_Graph.av g_0]))]⟩) [(0, 0)] [] rfl rfl rfl (.cons rfl rfl (.one (.same _ (by simp)) rfl) (of_decide_eq_true rfl) (trivial)) ⟨⟨_, rfl, .ref rfl⟩, ⟨_, rfl, .same _ (by simp)⟩, ⟨_, rfl, .same _ (by simp)⟩, ⟨_, rfl, .same _ (by simp)⟩, trivial⟩) ?_)
      clear hK7 K7
      refine awp_seqK fun K8 hK8 => ?_
      refine awp_reg rfl ?_
      refine AR.op (r := u64 left66) rfl (aop_move (.inl rfl) rfl) ?_
      refine AR.op rfl (aop_field_ref rfl rfl rfl fd24_1 (by decide)) ?_
      refine AR.op (r := .sl (List.map u64 g_0.Rows)) rfl (aop_load_ref rfl rfl rfl rfl sz22 rfl) ?_
      refine AR.drop (frx := [(2, _), (7, _), (5, _), (34, _), (36, _)]) ⟨rfl, rfl, rfl, rfl, rfl, trivial⟩ ?_
      refine AR.op (r := i64 r68) rfl (aop_move (.inl rfl) rfl) ?_
      obtain ⟨x75, hx75, h⟩ := Sh.bind_some' h
      obtain ⟨k76, hi76, hl76⟩ := Sh.idx_some hx75
      refine AR.op rfl (t_index_sl u64 g_0.Rows hi76 hl76 rfl rfl rfl el22 rfl) ?_
      refine AR.op (r := u64 x75) rfl (aop_load_pp rfl rfl sz45 rfl) ?_
      refine AR.drop (frx := [(2, _), (5, _), (34, _), (39, _)]) ⟨rfl, rfl, rfl, rfl, trivial⟩ ?_
      refine AR.op (r := .clip (List.map u64 [left66, x75])) rfl (aop_buildSlice rfl (xo := [.tmp 34, .tmp 39]) rfl rfl rfl (by simp [AV.solid]) (by simp [AV.flat]) el22 ze22 (by decide)) ?_
      obtain ⟨r77, hr77, h⟩ := Sh.bind_some' h
      refine AR.op (r := u64 r77) rfl (aop_callN rfl (ys := [.clip (List.map u64 [left66, x75])]) (xs := [.sl (List.map u64 [left66, x75])]) rfl (Weak.re (fr' := argsFr 0 [.sl (List.map u64 [left66, x75])]) (H' := .empty) [] [] rfl rfl rfl trivial ⟨⟨.clip (List.map u64 [left66, x75]), rfl, .wide _ (by simp)⟩, trivial⟩) rfl (by simp) (bits_Join_ok hT hr77)) ?_
      refine AR.op (r := u64 r71) rfl (aop_move (.inl rfl) rfl) ?_
      refine AR.drop (frx := [(2, _), (5, _), (41, _), (42, _)]) ⟨rfl, rfl, rfl, rfl, trivial⟩ ?_
      refine AR.op (r := u64 (r77 &&& ~~~r71)) rfl (aop_andNot (a := r77) (b := r71) rfl rfl rfl) ?_
      refine AR.op (r := u64 (r77 &&& ~~~r71)) rfl (aop_move (.inr rfl) rfl) ?_
      refine AR.nil ?_
      refine hK8 _ (AWP.weak (Weak.re (fr' := [(2, .ref 0 0 0), (5, u64 r71), (6, u64 (r77 &&& ~~~r71))]) (H' := ⟨1, [(0, (2, [G.graph_Graph.av g_0]))]⟩) [(0, 0)] [] rfl rfl rfl (.cons rfl rfl (.one (.same _ (by simp)) rfl) (of_decide_eq_true rfl) (trivial)) ⟨⟨_, rfl, .ref rfl⟩, ⟨_, rfl, .same _ (by simp)⟩, ⟨_, rfl, .same _ (by simp)⟩, trivial⟩) ?_)
      clear hK8 K8
      refine awp_goto ?_
      replace h := Sh.next_eq h
      exact ⟨rfl, _, h, Weak.re (fr' := [(2, .ref 0 0 0), (5, u64 r71), (6, u64 (r77 &&& ~~~r71))]) (H' := ⟨1, [(0, (2, [G.graph_Graph.av g_0]))]⟩) [(0, 0)] [] rfl rfl rfl (.cons rfl rfl (.one (.same _ (by simp)) rfl) (of_decide_eq_true rfl) (trivial)) ⟨⟨_, rfl, .ref rfl⟩, ⟨_, rfl, .same _ (by simp)⟩, ⟨_, rfl, .same _ (by simp)⟩, trivial⟩⟩
theorem reach_From_ok {W0 : World} (hT : Tab W0) {g_0 : G.graph_Graph} {a_1 : Int} {r : (BitVec 64)} (h : G.reach_From g_0 a_1 = some r) : Fun1 Tryd.prog W0 34 [G.graph_Graph.av g_0, i64 a_1] (u64 r) := Fun1.two (reach_From_ok0 hT h) (by simp)


set_option maxHeartbeats 8000000 in
theorem reach_Close_own {W0 : World} (hT : Tab W0) {g_0 : G.graph_Graph} {r : G.graph_Graph × Int} (h : G.reach_Close g_0 = some r) : Fun2 Tryd.prog W0 31 [G.graph_Graph.av g_0] (.tuple [.agg [i64 r.1.N, .view 0 0 (List.map u64 r.1.Rows).length], i64 r.2]) ⟨1, [(0, (1, List.map u64 r.1.Rows))]⟩ := by
  refine fun2_of_awp Tryd.func31 rfl (by kernel_rfl) Tryd.ntmps31 (by simp) ?_
  unfold G.reach_Close at h
  show AWP _ _ _ _ ⟨[(0, G.graph_Graph.av g_0)], .empty⟩ _
  refine awp_seqK fun K1 hK1 => ?_
  refine awp_reg rfl ?_
  refine AR.op (r := .ref 0 0 0) rfl (aop_box 2 [G.graph_Graph.av g_0] rfl rfl rfl (.inl ⟨rfl, rfl⟩)) ?_
  refine AR.op (r := .ref 1 0 0) rfl (aop_alloc 2 [.agg [i64 0, nilS]] rfl zr24 (by kernel_rfl) (.inl ⟨rfl, rfl⟩)) ?_
  refine AR.op (r := i64 0) rfl (aop_move (.inr rfl) rfl) ?_
  refine AR.nil ?_
  refine hK1 _ (AWP.weak (Weak.re (fr' := [(1, .ref 0 0 0), (2, .ref 1 0 0)]) (H' := ⟨2, [(0, (2, [G.graph_Graph.av g_0])), (1, (2, [.agg [i64 0, nilS]]))]⟩) [(0, 0), (1, 1)] [] rfl rfl rfl (.cons rfl rfl (.one (.same _ (by simp)) rfl) (of_decide_eq_true rfl) (.cons rfl rfl (.one (.same _ (by simp)) rfl) (of_decide_eq_true rfl) (trivial))) ⟨⟨_, rfl, .ref rfl⟩, ⟨_, rfl, .ref rfl⟩, trivial⟩) ?_)
  clear hK1 K1
  refine awp_seqK fun K2 hK2 => ?_
  refine awp_reg rfl ?_
  refine AR.op rfl (aop_field_ref rfl rfl rfl fd24_0 (by decide)) ?_
  refine AR.op (r := i64 g_0.N) rfl (aop_load_ref rfl rfl rfl rfl sz3 rfl) ?_
  obtain ⟨r19, hr19, h⟩ := Sh.bind_some' h
  refine AR.op (r := .tuple [.agg [i64 r19.1.N, .view 2 0 (List.map u64 r19.1.Rows).length], i64 r19.2]) rfl (aop_call2N (.tuple [.agg [i64 r19.1.N, .view 2 0 (List.map u64 r19.1.Rows).length], i64 r19.2]) [(2, (1, List.map u64 r19.1.Rows))] rfl (ys := [i64 g_0.N]) (xs := [i64 g_0.N]) rfl (Weak.refl _) rfl (by simp) (graph_New_own hT hr19) (.tp ⟨.ag ⟨.same _ (by simp), .view _ _ _, trivial⟩, .same _ (by simp), trivial⟩) ⟨rfl, rfl, .same (by simp [AV.flat]), trivial⟩) ?_
  refine AR.drop (frx := [(1, _), (2, _), (10, _)]) ⟨rfl, rfl, rfl, trivial⟩ ?_
  refine AR.op (r := .tuple [.agg [i64 r19.1.N, .view 2 0 (List.map u64 r19.1.Rows).length], i64 r19.2]) rfl (aop_move (.inl rfl) rfl) ?_
  refine AR.op (r := .agg [i64 r19.1.N, .view 2 0 (List.map u64 r19.1.Rows).length]) rfl (aop_extract rfl rfl rfl) ?_
  refine AR.op (r := i64 r19.2) rfl (aop_extract rfl rfl rfl) ?_
  refine AR.drop (frx := [(1, _), (2, _), (11, _), (12, _)]) ⟨rfl, rfl, rfl, rfl, trivial⟩ ?_
  refine AR.op (r := .ref 3 0 0) rfl (aop_alloc 2 [.agg [i64 0, nilS]] rfl zr24 (by kernel_rfl) (.inl ⟨rfl, rfl⟩)) ?_
  refine AR.op rfl (aop_store (e' := .agg [i64 r19.1.N, .view 2 0 (List.map u64 r19.1.Rows).length]) rfl rfl rfl rfl rfl rfl sz24 rfl (of_decide_eq_true rfl) rfl) ?_
  refine AR.op (r := i64 r19.2) rfl (aop_move (.inr rfl) rfl) ?_
  refine AR.nil ?_
  refine hK2 _ (AWP.weak (Weak.re (fr' := [(1, .ref 0 0 0), (2, .ref 1 0 0), (4, .ref 2 0 0), (5, i64 r19.2)]) (H' := ⟨4, [(0, (2, [G.graph_Graph.av g_0])), (1, (2, [.agg [i64 0, nilS]])), (2, (2, [.agg [i64 r19.1.N, .view 3 0 (List.map u64 r19.1.Rows).length]])), (3, (1, List.map u64 r19.1.Rows))]⟩) [(0, 0), (1, 1), (2, 3), (3, 2)] [] rfl rfl rfl (.cons rfl rfl (.one (.same _ (by simp)) rfl) (of_decide_eq_true rfl) (.cons rfl rfl (.one (.same _ (by simp)) rfl) (of_decide_eq_true rfl) (.cons rfl rfl (.one (.ag ⟨.same _ (by simp), .view rfl, trivial⟩) rfl) (of_decide_eq_true rfl) (.cons rfl rfl (.same (by simp)) (of_decide_eq_true rfl) (trivial))))) ⟨⟨_, rfl, .ref rfl⟩, ⟨_, rfl, .ref rfl⟩, ⟨_, rfl, .ref rfl⟩, ⟨_, rfl, .same _ (by simp)⟩, trivial⟩) ?_)
  clear hK2 K2
  refine awp_seqK fun K3 hK3 => ?_
  refine awp_seqJ (fun (p : Bool) => (⟨[(1, .ref 0 0 0), (2, .ref 1 0 0), (4, .ref 2 0 0), (19, bl p)], ⟨4, [(0, (2, [G.graph_Graph.av g_0])), (1, (2, [.agg [i64 0, nilS]])), (2, (2, [.agg [i64 r19.1.N, .view 3 0 (List.map u64 r19.1.Rows).length]])), (3, (1, List.map u64 r19.1.Rows))]⟩⟩ : St)) (fun (p : Bool) => G.reach_Close_j1 g_0 r19 p = some r) ?_ ?_
  · rintro v25 h
    replace h : G.reach_Close_j1 g_0 r19 v25 = some r := h
    unfold G.reach_Close_j1 at h
    show AWP _ _ _ _ ⟨[(1, .ref 0 0 0), (2, .ref 1 0 0), (4, .ref 2 0 0), (19, bl v25)], ⟨4, [(0, (2, [G.graph_Graph.av g_0])), (1, (2, [.agg [i64 0, nilS]])), (2, (2, [.agg [i64 r19.1.N, .view 3 0 (List.map u64 r19.1.Rows).length]])), (3, (1, List.map u64 r19.1.Rows))]⟩⟩ _
    refine awp_cond rfl (fun hb26 => ?_) (fun hb26 => ?_)
    · replace h := Sh.if_t h hb26
      refine awp_seqK fun K4 hK4 => ?_
      refine awp_reg rfl ?_
      refine AR.op (r := .agg [i64 0, nilS]) rfl (aop_build rfl bd24 rfl rfl rfl) ?_
      refine AR.op rfl (aop_store (e' := .agg [i64 0, nilS]) rfl rfl rfl rfl rfl rfl sz24 rfl (of_decide_eq_true rfl) rfl) ?_
      refine AR.op (r := i64 1) rfl (aop_move (.inr rfl) rfl) ?_
      refine AR.nil ?_
      refine hK4 _ (AWP.weak (Weak.re (fr' := [(2, .ref 0 0 0), (3, i64 1)]) (H' := ⟨1, [(0, (2, [.agg [i64 0, nilS]]))]⟩) [(0, 1)] [] rfl rfl rfl (.cons rfl rfl (.one (.same _ (by simp)) rfl) (of_decide_eq_true rfl) (trivial)) ⟨⟨_, rfl, .ref rfl⟩, ⟨_, rfl, .same _ (by simp)⟩, trivial⟩) ?_)
      clear hK4 K4
      refine awp_ret ?_
      obtain rfl := Option.some.inj h
      refine ⟨.inr rfl, .tuple [.agg [i64 0, nilS], i64 1], rfl, ?_⟩
      exact Weak.re [] [0] rfl rfl rfl (.fresh (by simp) (of_decide_eq_true rfl) (trivial)) ⟨⟨.tuple [.agg [i64 0, nilS], i64 1], rfl, .tp ⟨.ag ⟨.same _ (by simp), .nil (by simp), trivial⟩, .same _ (by simp), trivial⟩⟩, trivial⟩
    · replace h := Sh.if_f h hb26
      refine awp_skip ?_
      refine hK3 _ (AWP.weak (Weak.re (fr' := [(1, .ref 0 0 0), (2, .ref 1 0 0), (4, .ref 2 0 0)]) (H' := ⟨4, [(0, (2, [G.graph_Graph.av g_0])), (1, (2, [.agg [i64 0, nilS]])), (2, (2, [.agg [i64 r19.1.N, .view 3 0 (List.map u64 r19.1.Rows).length]])), (3, (1, List.map u64 r19.1.Rows))]⟩) [(0, 0), (1, 1), (2, 2), (3, 3)] [] rfl rfl rfl (.cons rfl rfl (.one (.same _ (by simp)) rfl) (of_decide_eq_true rfl) (.cons rfl rfl (.one (.same _ (by simp)) rfl) (of_decide_eq_true rfl) (.cons rfl rfl (.one (.ag ⟨.same _ (by simp), .view rfl, trivial⟩) rfl) (of_decide_eq_true rfl) (.cons rfl rfl (.same (by simp)) (of_decide_eq_true rfl) (trivial))))) ⟨⟨_, rfl, .ref rfl⟩, ⟨_, rfl, .ref rfl⟩, ⟨_, rfl, .ref rfl⟩, trivial⟩) ?_)
      clear hK3 K3
      refine awp_seqJ (fun (p : (List (BitVec 64))) => (⟨[(2, .ref 0 0 0), (4, .ref 1 0 0)], ⟨3, [(0, (2, [.agg [i64 0, nilS]])), (1, (2, [.agg [i64 r19.1.N, .view 2 0 (List.map u64 p).length]])), (2, (1, List.map u64 p))]⟩⟩ : St)) (fun (p : (List (BitVec 64))) => G.reach_Close_j2 r19 p = some r) ?_ ?_
      · rintro v40 h
        replace h : G.reach_Close_j2 r19 v40 = some r := h
        unfold G.reach_Close_j2 at h
        show AWP _ _ _ _ ⟨[(2, .ref 0 0 0), (4, .ref 1 0 0)], ⟨3, [(0, (2, [.agg [i64 0, nilS]])), (1, (2, [.agg [i64 r19.1.N, .view 2 0 (List.map u64 v40).length]])), (2, (1, List.map u64 v40))]⟩⟩ _
        refine awp_seqK fun K5 hK5 => ?_
        refine awp_reg rfl ?_
        refine AR.op (r := .agg [i64 r19.1.N, .view 2 0 (List.map u64 v40).length]) rfl (aop_load_ref rfl rfl rfl rfl sz24 rfl) ?_
        refine AR.op rfl (aop_store (e' := .agg [i64 r19.1.N, .view 2 0 (List.map u64 v40).length]) rfl rfl rfl rfl rfl rfl sz24 rfl (of_decide_eq_true rfl) rfl) ?_
        refine AR.op (r := i64 0) rfl (aop_move (.inr rfl) rfl) ?_
        refine AR.nil ?_
        refine hK5 _ (AWP.weak (Weak.re (fr' := [(2, .ref 0 0 0), (3, i64 0)]) (H' := ⟨2, [(0, (2, [.agg [i64 r19.1.N, .view 1 0 (List.map u64 v40).length]])), (1, (1, List.map u64 v40))]⟩) [(0, 0), (1, 2)] [] rfl rfl rfl (.cons rfl rfl (.one (.ag ⟨.same _ (by simp), .view rfl, trivial⟩) rfl) (of_decide_eq_true rfl) (.cons rfl rfl (.same (by simp)) (of_decide_eq_true rfl) (trivial))) ⟨⟨_, rfl, .ref rfl⟩, ⟨_, rfl, .same _ (by simp)⟩, trivial⟩) ?_)
        clear hK5 K5
        refine awp_ret ?_
        obtain rfl := Option.some.inj h
        refine ⟨.inr rfl, .tuple [.agg [i64 r19.1.N, .view 1 0 (List.map u64 v40).length], i64 0], rfl, ?_⟩
        exact Weak.re [(0, 1)] [] rfl rfl rfl (.cons rfl rfl (.same (by simp)) (of_decide_eq_true rfl) (trivial)) ⟨⟨.tuple [.agg [i64 r19.1.N, .view 1 0 (List.map u64 v40).length], i64 0], rfl, .tp ⟨.ag ⟨.same _ (by simp), .view rfl, trivial⟩, .same _ (by simp), trivial⟩⟩, trivial⟩
      · intro K6 hK6
        refine awp_seqK fun K7 hK7 => ?_
        refine awp_reg rfl ?_
        refine AR.op rfl (aop_field_ref rfl rfl rfl fd24_0 (by decide)) ?_
        refine AR.op (r := i64 g_0.N) rfl (aop_load_ref rfl rfl rfl rfl sz3 rfl) ?_
        refine AR.op (r := i64 0) rfl (aop_move (.inl rfl) rfl) ?_
        refine AR.nil ?_
        refine hK7 _ (AWP.weak (Weak.re (fr' := [(1, .ref 0 0 0), (2, .ref 1 0 0), (4, .ref 2 0 0), (22, i64 g_0.N), (23, i64 0)]) (H' := ⟨4, [(0, (2, [G.graph_Graph.av g_0])), (1, (2, [.agg [i64 0, nilS]])), (2, (2, [.agg [i64 r19.1.N, .view 3 0 (List.map u64 r19.1.Rows).length]])), (3, (1, List.map u64 r19.1.Rows))]⟩) [(0, 0), (1, 1), (2, 2), (3, 3)] [] rfl rfl rfl (.cons rfl rfl (.one (.same _ (by simp)) rfl) (of_decide_eq_true rfl) (.cons rfl rfl (.one (.same _ (by simp)) rfl) (of_decide_eq_true rfl) (.cons rfl rfl (.one (.ag ⟨.same _ (by simp), .view rfl, trivial⟩) rfl) (of_decide_eq_true rfl) (.cons rfl rfl (.same (by simp)) (of_decide_eq_true rfl) (trivial))))) ⟨⟨_, rfl, .ref rfl⟩, ⟨_, rfl, .ref rfl⟩, ⟨_, rfl, .ref rfl⟩, ⟨_, rfl, .same _ (by simp)⟩, ⟨_, rfl, .same _ (by simp)⟩, trivial⟩) ?_)
        clear hK7 K7
        refine awp_block ?_
        refine awp_iter (fun (p : (List (BitVec 64)) × Int) => G.reach_Close_b1 g_0 r19 p.1 p.2) (fun (p : (List (BitVec 64)) × Int) => (⟨[(1, .ref 0 0 0), (2, .ref 1 0 0), (4, .ref 2 0 0), (22, i64 g_0.N), (23, i64 p.2)], ⟨4, [(0, (2, [G.graph_Graph.av g_0])), (1, (2, [.agg [i64 0, nilS]])), (2, (2, [.agg [i64 r19.1.N, .view 3 0 (List.map u64 p.1).length]])), (3, (1, List.map u64 p.1))]⟩⟩ : St)) h (Weak.re (fr' := [(1, .ref 0 0 0), (2, .ref 1 0 0), (4, .ref 2 0 0), (22, i64 g_0.N), (23, i64 0)]) (H' := ⟨4, [(0, (2, [G.graph_Graph.av g_0])), (1, (2, [.agg [i64 0, nilS]])), (2, (2, [.agg [i64 r19.1.N, .view 3 0 (List.map u64 r19.1.Rows).length]])), (3, (1, List.map u64 r19.1.Rows))]⟩) [(0, 0), (1, 1), (2, 2), (3, 3)] [] rfl rfl rfl (.cons rfl rfl (.one (.same _ (by simp)) rfl) (of_decide_eq_true rfl) (.cons rfl rfl (.one (.same _ (by simp)) rfl) (of_decide_eq_true rfl) (.cons rfl rfl (.one (.ag ⟨.same _ (by simp), .view rfl, trivial⟩) rfl) (of_decide_eq_true rfl) (.cons rfl rfl (.same (by simp)) (of_decide_eq_true rfl) (trivial))))) ⟨⟨_, rfl, .ref rfl⟩, ⟨_, rfl, .ref rfl⟩, ⟨_, rfl, .ref rfl⟩, ⟨_, rfl, .same _ (by simp)⟩, ⟨_, rfl, .same _ (by simp)⟩, trivial⟩) ?_
        · skip
          rintro ⟨cRows49, v50⟩ o1 h hx1
          replace h : G.reach_Close_b1 g_0 r19 cRows49 v50 = some o1 := h
          unfold G.reach_Close_b1 at h
          show AWP _ _ _ _ ⟨[(1, .ref 0 0 0), (2, .ref 1 0 0), (4, .ref 2 0 0), (22, i64 g_0.N), (23, i64 v50)], ⟨4, [(0, (2, [G.graph_Graph.av g_0])), (1, (2, [.agg [i64 0, nilS]])), (2, (2, [.agg [i64 r19.1.N, .view 3 0 (List.map u64 cRows49).length]])), (3, (1, List.map u64 cRows49))]⟩⟩ _
          refine awp_seqK fun K8 hK8 => ?_
          refine awp_reg rfl ?_
          refine AR.op (r := bl (decide (v50 < g_0.N))) rfl (aop_lss rfl rfl rfl) ?_
          refine AR.nil ?_
          refine hK8 _ ?_
          clear hK8 K8
          refine awp_seqK fun K9 hK9 => ?_
          refine awp_cond rfl (fun hb51 => ?_) (fun hb51 => ?_)
          · replace h := Sh.if_t h hb51
            refine awp_skip ?_
            refine hK9 _ (AWP.weak (Weak.re (fr' := [(1, .ref 0 0 0), (2, .ref 1 0 0), (4, .ref 2 0 0), (22, i64 g_0.N), (23, i64 v50)]) (H' := ⟨4, [(0, (2, [G.graph_Graph.av g_0])), (1, (2, [.agg [i64 0, nilS]])), (2, (2, [.agg [i64 r19.1.N, .view 3 0 (List.map u64 cRows49).length]])), (3, (1, List.map u64 cRows49))]⟩) [(0, 0), (1, 1), (2, 2), (3, 3)] [] rfl rfl rfl (.cons rfl rfl (.one (.same _ (by simp)) rfl) (of_decide_eq_true rfl) (.cons rfl rfl (.one (.same _ (by simp)) rfl) (of_decide_eq_true rfl) (.cons rfl rfl (.one (.ag ⟨.same _ (by simp), .view rfl, trivial⟩) rfl) (of_decide_eq_true rfl) (.cons rfl rfl (.same (by simp)) (of_decide_eq_true rfl) (trivial))))) ⟨⟨_, rfl, .ref rfl⟩, ⟨_, rfl, .ref rfl⟩, ⟨_, rfl, .ref rfl⟩, ⟨_, rfl, .same _ (by simp)⟩, ⟨_, rfl, .same _ (by simp)⟩, trivial⟩) ?_)
            clear hK9 K9
            refine awp_seqK fun K10 hK10 => ?_
            refine awp_block ?_
            refine awp_seqK fun K11 hK11 => ?_
            refine awp_reg rfl ?_
            refine AR.op (r := i64 v50) rfl (aop_move (.inl rfl) rfl) ?_
            refine AR.op (r := i64 v50) rfl (aop_move (.inr rfl) rfl) ?_
            refine AR.nil ?_
            refine hK11 _ (AWP.weak (Weak.re (fr' := [(1, .ref 0 0 0), (2, .ref 1 0 0), (4, .ref 2 0 0), (22, i64 g_0.N), (23, i64 v50), (6, i64 v50)]) (H' := ⟨4, [(0, (2, [G.graph_Graph.av g_0])), (1, (2, [.agg [i64 0, nilS]])), (2, (2, [.agg [i64 r19.1.N, .view 3 0 (List.map u64 cRows49).length]])), (3, (1, List.map u64 cRows49))]⟩) [(0, 0), (1, 1), (2, 2), (3, 3)] [] rfl rfl rfl (.cons rfl rfl (.one (.same _ (by simp)) rfl) (of_decide_eq_true rfl) (.cons rfl rfl (.one (.same _ (by simp)) rfl) (of_decide_eq_true rfl) (.cons rfl rfl (.one (.ag ⟨.same _ (by simp), .view rfl, trivial⟩) rfl) (of_decide_eq_true rfl) (.cons rfl rfl (.same (by simp)) (of_decide_eq_true rfl) (trivial))))) ⟨⟨_, rfl, .ref rfl⟩, ⟨_, rfl, .ref rfl⟩, ⟨_, rfl, .ref rfl⟩, ⟨_, rfl, .same _ (by simp)⟩, ⟨_, rfl, .same _ (by simp)⟩, ⟨_, rfl, .same _ (by simp)⟩, trivial⟩) ?_)
            clear hK11 K11
            refine awp_any (by kernel_rfl) (by kernel_rfl) rfl ?_
            refine ARH.op rfl rfl (aop_field_ref rfl rfl rfl fd24_1 (by decide)) ?_
            refine ARH.op (r := .view 3 0 (List.map u64 cRows49).length) rfl rfl (aop_load_ref rfl rfl rfl rfl sz22 rfl) ?_
            refine ARH.dry (r := i64 v50) rfl (fun _ => aop_move (.inl rfl) rfl) ?_
            refine ARH.drop (frx := [(1, _), (2, _), (4, _), (22, _), (23, _), (6, _), (27, _), (28, _)]) ⟨rfl, rfl, rfl, rfl, rfl, rfl, rfl, rfl, trivial⟩ ?_
            refine ARH.op (r := G.graph_Graph.av g_0) rfl rfl (aop_load_ref rfl rfl rfl rfl sz24 rfl) ?_
            refine ARH.dry (r := i64 v50) rfl (fun _ => aop_move (.inl rfl) rfl) ?_
            obtain ⟨r55, hr55, h⟩ := Sh.bind_some' h
            refine ARH.op (r := u64 r55) rfl rfl (aop_call1 rfl rfl (by simp) (reach_From_ok hT hr55)) ?_
            refine ARH.drop (frx := [(1, _), (2, _), (4, _), (22, _), (23, _), (27, _), (28, _), (31, _)]) ⟨rfl, rfl, rfl, rfl, rfl, rfl, rfl, rfl, trivial⟩ ?_
            obtain ⟨x56, hx56, h⟩ := Sh.bind_some' h
            obtain ⟨k57, hi57, hl57⟩ := Sh.idx_some hx56
            refine ARH.op (r := .ref 3 k57 0) rfl rfl (t_index_view u64 cRows49 hi57 hl57 rfl rfl rfl rfl rfl el22 rfl) ?_
            refine ARH.loud rfl rfl rfl (t_store_el u64 cRows49 r55 hi57 hl57 rfl rfl rfl rfl rfl sz45 rfl (of_decide_eq_true rfl) rfl) ?_
            refine ARH.nil ?_
            refine hK10 _ (AWP.weak (Weak.re (fr' := [(1, .ref 0 0 0), (2, .ref 1 0 0), (4, .ref 2 0 0), (22, i64 g_0.N), (23, i64 v50)]) (H' := ⟨4, [(0, (2, [G.graph_Graph.av g_0])), (1, (2, [.agg [i64 0, nilS]])), (2, (2, [.agg [i64 r19.1.N, .view 3 0 (List.map u64 (Sh.set cRows49 v50 r55)).length]])), (3, (1, List.map u64 (Sh.set cRows49 v50 r55)))]⟩) [(0, 0), (1, 1), (2, 2), (3, 3)] [] rfl rfl rfl (.cons rfl rfl (.one (.same _ (by simp)) rfl) (of_decide_eq_true rfl) (.cons rfl rfl (.one (.same _ (by simp)) rfl) (of_decide_eq_true rfl) (.cons rfl rfl (.one (.ag ⟨.same _ (by simp), .viewL rfl (by simp []), trivial⟩) rfl) (of_decide_eq_true rfl) (.cons rfl rfl (.same (by simp)) (of_decide_eq_true rfl) (trivial))))) ⟨⟨_, rfl, .ref rfl⟩, ⟨_, rfl, .ref rfl⟩, ⟨_, rfl, .ref rfl⟩, ⟨_, rfl, .same _ (by simp)⟩, ⟨_, rfl, .same _ (by simp)⟩, trivial⟩) ?_)
            clear hK10 K10
            refine awp_reg rfl ?_
            refine AR.op (r := i64 (w64 (v50 + 1))) rfl (aop_add rfl rfl rfl rfl) ?_
            refine AR.op (r := i64 (w64 (v50 + 1))) rfl (aop_move (.inl rfl) rfl) ?_
            refine AR.nil ?_
            replace h := Sh.next_eq h
            exact ⟨_, h, Weak.re (fr' := [(1, .ref 0 0 0), (2, .ref 1 0 0), (4, .ref 2 0 0), (22, i64 g_0.N), (23, i64 (w64 (v50 + 1)))]) (H' := ⟨4, [(0, (2, [G.graph_Graph.av g_0])), (1, (2, [.agg [i64 0, nilS]])), (2, (2, [.agg [i64 r19.1.N, .view 3 0 (List.map u64 (Sh.set cRows49 v50 r55)).length]])), (3, (1, List.map u64 (Sh.set cRows49 v50 r55)))]⟩) [(0, 0), (1, 1), (2, 2), (3, 3)] [] rfl rfl rfl (.cons rfl rfl (.one (.same _ (by simp)) rfl) (of_decide_eq_true rfl) (.cons rfl rfl (.one (.same _ (by simp)) rfl) (of_decide_eq_true rfl) (.cons rfl rfl (.one (.ag ⟨.same _ (by simp), .view rfl, trivial⟩) rfl) (of_decide_eq_true rfl) (.cons rfl rfl (.same (by simp)) (of_decide_eq_true rfl) (trivial))))) ⟨⟨_, rfl, .ref rfl⟩, ⟨_, rfl, .ref rfl⟩, ⟨_, rfl, .ref rfl⟩, ⟨_, rfl, .same _ (by simp)⟩, ⟨_, rfl, .same _ (by simp)⟩, trivial⟩⟩
          · replace h := Sh.if_f h hb51
            refine awp_exit ?_
            replace h := Sh.exit_eq h hx1
            exact hK6 cRows49 _ h (Weak.re (fr' := [(2, .ref 0 0 0), (4, .ref 1 0 0)]) (H' := ⟨3, [(0, (2, [.agg [i64 0, nilS]])), (1, (2, [.agg [i64 r19.1.N, .view 2 0 (List.map u64 cRows49).length]])), (2, (1, List.map u64 cRows49))]⟩) [(0, 1), (1, 2), (2, 3)] [] rfl rfl rfl (.cons rfl rfl (.one (.same _ (by simp)) rfl) (of_decide_eq_true rfl) (.cons rfl rfl (.one (.ag ⟨.same _ (by simp), .view rfl, trivial⟩) rfl) (of_decide_eq_true rfl) (.cons rfl rfl (.same (by simp)) (of_decide_eq_true rfl) (trivial)))) ⟨⟨_, rfl, .ref rfl⟩, ⟨_, rfl, .ref rfl⟩, trivial⟩)
  · intro K12 hK12
    refine awp_reg rfl ?_
    refine AR.op (r := i64 r19.2) rfl (aop_move (.inl rfl) rfl) ?_
    refine AR.op (r := bl (decide (r19.2 ≠ 0))) rfl (aop_neq rfl rfl rfl) ?_
    refine AR.op (r := bl (decide (r19.2 ≠ 0))) rfl (aop_move (.inl rfl) rfl) ?_
    refine AR.drop (frx := [(1, _), (2, _), (4, _), (15, _)]) ⟨rfl, rfl, rfl, rfl, trivial⟩ ?_
    rcases Bool.eq_false_or_eq_true (decide (r19.2 ≠ 0)) with hb58 | hb58
    · rw [hb58]
      replace h := Sh.if_t h hb58
      refine AR.skip rfl ?_
      refine AR.skip rfl ?_
      refine AR.skip rfl ?_
      refine AR.drop (frx := [(1, _), (2, _), (4, _), (15, _), (18, _)]) ⟨rfl, rfl, rfl, rfl, rfl, trivial⟩ ?_
      refine AR.op (r := bl true) rfl (aop_pick rfl rfl rfl) ?_
      refine AR.nil ?_
      exact hK12 true _ h (Weak.re (fr' := [(1, .ref 0 0 0), (2, .ref 1 0 0), (4, .ref 2 0 0), (19, bl true)]) (H' := ⟨4, [(0, (2, [G.graph_Graph.av g_0])), (1, (2, [.agg [i64 0, nilS]])), (2, (2, [.agg [i64 r19.1.N, .view 3 0 (List.map u64 r19.1.Rows).length]])), (3, (1, List.map u64 r19.1.Rows))]⟩) [(0, 0), (1, 1), (2, 2), (3, 3)] [] rfl rfl rfl (.cons rfl rfl (.one (.same _ (by simp)) rfl) (of_decide_eq_true rfl) (.cons rfl rfl (.one (.same _ (by simp)) rfl) (of_decide_eq_true rfl) (.cons rfl rfl (.one (.ag ⟨.same _ (by simp), .view rfl, trivial⟩) rfl) (of_decide_eq_true rfl) (.cons rfl rfl (.same (by simp)) (of_decide_eq_true rfl) (trivial))))) ⟨⟨_, rfl, .ref rfl⟩, ⟨_, rfl, .ref rfl⟩, ⟨_, rfl, .ref rfl⟩, ⟨_, rfl, .same _ (by simp)⟩, trivial⟩)
    · rw [hb58]
      replace h := Sh.if_f h hb58
      refine AR.op (r := G.graph_Graph.av g_0) rfl (aop_load_ref rfl rfl rfl rfl sz24 rfl) ?_
      obtain ⟨r59, hr59, h⟩ := Sh.bind_some' h
      refine AR.op (r := bl r59) rfl (aop_call1 rfl rfl (by simp) (graph_Right_ok hT hr59)) ?_
      refine AR.op (r := bl (!r59)) rfl (aop_not rfl rfl) ?_
      refine AR.drop (frx := [(1, _), (2, _), (4, _), (15, _), (18, _)]) ⟨rfl, rfl, rfl, rfl, rfl, trivial⟩ ?_
      refine AR.op (r := bl (!r59)) rfl (aop_pick rfl rfl rfl) ?_
      refine AR.nil ?_
      exact hK12 (!r59) _ h (Weak.re (fr' := [(1, .ref 0 0 0), (2, .ref 1 0 0), (4, .ref 2 0 0), (19, bl (!r59))]) (H' := ⟨4, [(0, (2, [G.graph_Graph.av g_0])), (1, (2, [.agg [i64 0, nilS]])), (2, (2, [.agg [i64 r19.1.N, .view 3 0 (List.map u64 r19.1.Rows).length]])), (3, (1, List.map u64 r19.1.Rows))]⟩) [(0, 0), (1, 1), (2, 2), (3, 3)] [] rfl rfl rfl (.cons rfl rfl (.one (.same _ (by simp)) rfl) (of_decide_eq_true rfl) (.cons rfl rfl (.one (.same _ (by simp)) rfl) (of_decide_eq_true rfl) (.cons rfl rfl (.one (.ag ⟨.same _ (by simp), .view rfl, trivial⟩) rfl) (of_decide_eq_true rfl) (.cons rfl rfl (.same (by simp)) (of_decide_eq_true rfl) (trivial))))) ⟨⟨_, rfl, .ref rfl⟩, ⟨_, rfl, .ref rfl⟩, ⟨_, rfl, .ref rfl⟩, ⟨_, rfl, .same _ (by simp)⟩, trivial⟩)
theorem reach_Close_ok {W0 : World} (hT : Tab W0) {g_0 : G.graph_Graph} {r : G.graph_Graph × Int} (h : G.reach_Close g_0 = some r) : Fun1 Tryd.prog W0 31 [G.graph_Graph.av g_0] (.tuple [G.graph_Graph.av r.1, i64 r.2]) :=
  (reach_Close_own hT h).give (Weak.re [] [] rfl rfl rfl trivial ⟨⟨_, rfl, .tp ⟨.ag ⟨.same _ (by simp), .lendAll rfl rfl (by simp), trivial⟩, .same _ (by simp), trivial⟩⟩, trivial⟩) (by simp)


set_option maxHeartbeats 8000000 in
theorem reach_More_own {W0 : World} (hT : Tab W0) {c_0 : G.graph_Graph} {a_1 : Int} {b_2 : Int} {r : G.graph_Graph × Int} (h : G.reach_More c_0 a_1 b_2 = some r) : Fun2 Tryd.prog W0 32 [G.graph_Graph.av c_0, i64 a_1, i64 b_2] (.tuple [.agg [i64 r.1.N, .view 0 0 (List.map u64 r.1.Rows).length], i64 r.2]) ⟨1, [(0, (1, List.map u64 r.1.Rows))]⟩ := by
  refine fun2_of_awp Tryd.func32 rfl (by kernel_rfl) Tryd.ntmps32 (by simp) ?_
  unfold G.reach_More at h
  show AWP _ _ _ _ ⟨[(0, G.graph_Graph.av c_0), (1, i64 a_1), (2, i64 b_2)], .empty⟩ _
  refine awp_seqK fun K1 hK1 => ?_
  refine awp_reg rfl ?_
  refine AR.op (r := .ref 0 0 0) rfl (aop_box 2 [G.graph_Graph.av c_0] rfl rfl rfl (.inl ⟨rfl, rfl⟩)) ?_
  refine AR.op (r := .ref 1 0 0) rfl (aop_alloc 2 [.agg [i64 0, nilS]] rfl zr24 (by kernel_rfl) (.inl ⟨rfl, rfl⟩)) ?_
  refine AR.op (r := i64 0) rfl (aop_move (.inr rfl) rfl) ?_
  refine AR.nil ?_
  refine hK1 _ (AWP.weak (Weak.re (fr' := [(1, i64 a_1), (2, i64 b_2), (3, .ref 0 0 0), (6, .ref 1 0 0)]) (H' := ⟨2, [(0, (2, [G.graph_Graph.av c_0])), (1, (2, [.agg [i64 0, nilS]]))]⟩) [(0, 0), (1, 1)] [] rfl rfl rfl (.cons rfl rfl (.one (.same _ (by simp)) rfl) (of_decide_eq_true rfl) (.cons rfl rfl (.one (.same _ (by simp)) rfl) (of_decide_eq_true rfl) (trivial))) ⟨⟨_, rfl, .same _ (by simp)⟩, ⟨_, rfl, .same _ (by simp)⟩, ⟨_, rfl, .ref rfl⟩, ⟨_, rfl, .ref rfl⟩, trivial⟩) ?_)
  clear hK1 K1
  refine awp_seqK fun K2 hK2 => ?_
  refine awp_reg rfl ?_
  refine AR.op (r := G.graph_Graph.av c_0) rfl (aop_load_ref rfl rfl rfl rfl sz24 rfl) ?_
  refine AR.op (r := i64 a_1) rfl (aop_move (.inl rfl) rfl) ?_
  refine AR.op (r := i64 b_2) rfl (aop_move (.inl rfl) rfl) ?_
  refine AR.drop (frx := [(1, _), (2, _), (3, _), (6, _), (13, _), (14, _), (15, _)]) ⟨rfl, rfl, rfl, rfl, rfl, rfl, rfl, trivial⟩ ?_
  obtain ⟨r43, hr43, h⟩ := Sh.bind_some' h
  refine AR.op (r := .tuple [.agg [i64 r43.1.N, .view 2 0 (List.map u64 r43.1.Rows).length], i64 r43.2]) rfl (aop_call2N (.tuple [.agg [i64 r43.1.N, .view 2 0 (List.map u64 r43.1.Rows).length], i64 r43.2]) [(2, (1, List.map u64 r43.1.Rows))] rfl (ys := [G.graph_Graph.av c_0, i64 a_1, i64 b_2]) (xs := [G.graph_Graph.av c_0, i64 a_1, i64 b_2]) rfl (Weak.refl _) rfl (by simp) (graph_Add_own hT hr43) (.tp ⟨.ag ⟨.same _ (by simp), .view _ _ _, trivial⟩, .same _ (by simp), trivial⟩) ⟨rfl, rfl, .same (by simp [AV.flat]), trivial⟩) ?_
  refine AR.op (r := .tuple [.agg [i64 r43.1.N, .view 2 0 (List.map u64 r43.1.Rows).length], i64 r43.2]) rfl (aop_move (.inl rfl) rfl) ?_
  refine AR.op (r := .agg [i64 r43.1.N, .view 2 0 (List.map u64 r43.1.Rows).length]) rfl (aop_extract rfl rfl rfl) ?_
  refine AR.drop (frx := [(1, _), (2, _), (3, _), (6, _), (12, _), (17, _)]) ⟨rfl, rfl, rfl, rfl, rfl, rfl, trivial⟩ ?_
  refine AR.op (r := i64 r43.2) rfl (aop_extract rfl rfl rfl) ?_
  refine AR.op (r := .ref 3 0 0) rfl (aop_alloc 2 [.agg [i64 0, nilS]] rfl zr24 (by kernel_rfl) (.inl ⟨rfl, rfl⟩)) ?_
  refine AR.op rfl (aop_store (e' := .agg [i64 r43.1.N, .view 2 0 (List.map u64 r43.1.Rows).length]) rfl rfl rfl rfl rfl rfl sz24 rfl (of_decide_eq_true rfl) rfl) ?_
  refine AR.drop (frx := [(1, _), (2, _), (3, _), (6, _), (18, _), (8, _)]) ⟨rfl, rfl, rfl, rfl, rfl, rfl, trivial⟩ ?_
  refine AR.op (r := i64 r43.2) rfl (aop_move (.inr rfl) rfl) ?_
  refine AR.nil ?_
  refine hK2 _ (AWP.weak (Weak.re (fr' := [(1, i64 a_1), (2, i64 b_2), (3, .ref 0 0 0), (6, .ref 1 0 0), (8, .ref 2 0 0), (9, i64 r43.2)]) (H' := ⟨4, [(0, (2, [G.graph_Graph.av c_0])), (1, (2, [.agg [i64 0, nilS]])), (2, (2, [.agg [i64 r43.1.N, .view 3 0 (List.map u64 r43.1.Rows).length]])), (3, (1, List.map u64 r43.1.Rows))]⟩) [(0, 0), (1, 1), (2, 3), (3, 2)] [] rfl rfl rfl (.cons rfl rfl (.one (.same _ (by simp)) rfl) (of_decide_eq_true rfl) (.cons rfl rfl (.one (.same _ (by simp)) rfl) (of_decide_eq_true rfl) (.cons rfl rfl (.one (.ag ⟨.same _ (by simp), .view rfl, trivial⟩) rfl) (of_decide_eq_true rfl) (.cons rfl rfl (.same (by simp)) (of_decide_eq_true rfl) (trivial))))) ⟨⟨_, rfl, .same _ (by simp)⟩, ⟨_, rfl, .same _ (by simp)⟩, ⟨_, rfl, .ref rfl⟩, ⟨_, rfl, .ref rfl⟩, ⟨_, rfl, .ref rfl⟩, ⟨_, rfl, .same _ (by simp)⟩, trivial⟩) ?_)
  clear hK2 K2
  refine awp_seqK fun K3 hK3 => ?_
  refine awp_seqK fun K4 hK4 => ?_
  refine awp_reg rfl ?_
  refine AR.op (r := i64 r43.2) rfl (aop_move (.inl rfl) rfl) ?_
  refine AR.op (r := bl (decide (r43.2 ≠ 0))) rfl (aop_neq rfl rfl rfl) ?_
  refine AR.nil ?_
  refine hK4 _ (AWP.weak (Weak.re (fr' := [(1, i64 a_1), (2, i64 b_2), (3, .ref 0 0 0), (6, .ref 1 0 0), (8, .ref 2 0 0), (9, i64 r43.2), (20, bl (decide (r43.2 ≠ 0)))]) (H' := ⟨4, [(0, (2, [G.graph_Graph.av c_0])), (1, (2, [.agg [i64 0, nilS]])), (2, (2, [.agg [i64 r43.1.N, .view 3 0 (List.map u64 r43.1.Rows).length]])), (3, (1, List.map u64 r43.1.Rows))]⟩) [(0, 0), (1, 1), (2, 2), (3, 3)] [] rfl rfl rfl (.cons rfl rfl (.one (.same _ (by simp)) rfl) (of_decide_eq_true rfl) (.cons rfl rfl (.one (.same _ (by simp)) rfl) (of_decide_eq_true rfl) (.cons rfl rfl (.one (.ag ⟨.same _ (by simp), .view rfl, trivial⟩) rfl) (of_decide_eq_true rfl) (.cons rfl rfl (.same (by simp)) (of_decide_eq_true rfl) (trivial))))) ⟨⟨_, rfl, .same _ (by simp)⟩, ⟨_, rfl, .same _ (by simp)⟩, ⟨_, rfl, .ref rfl⟩, ⟨_, rfl, .ref rfl⟩, ⟨_, rfl, .ref rfl⟩, ⟨_, rfl, .same _ (by simp)⟩, ⟨_, rfl, .same _ (by simp)⟩, trivial⟩) ?_)
  clear hK4 K4
  refine awp_cond rfl (fun hb44 => ?_) (fun hb44 => ?_)
  · replace h := Sh.if_t h hb44
    refine awp_seqK fun K5 hK5 => ?_
    refine awp_reg rfl ?_
    refine AR.op (r := .agg [i64 0, nilS]) rfl (aop_build rfl bd24 rfl rfl rfl) ?_
    refine AR.op (r := i64 r43.2) rfl (aop_move (.inl rfl) rfl) ?_
    refine AR.op rfl (aop_store (e' := .agg [i64 0, nilS]) rfl rfl rfl rfl rfl rfl sz24 rfl (of_decide_eq_true rfl) rfl) ?_
    refine AR.drop (frx := [(6, _), (22, _)]) ⟨rfl, rfl, trivial⟩ ?_
    refine AR.op (r := i64 r43.2) rfl (aop_move (.inr rfl) rfl) ?_
    refine AR.nil ?_
    refine hK5 _ (AWP.weak (Weak.re (fr' := [(6, .ref 0 0 0), (7, i64 r43.2)]) (H' := ⟨1, [(0, (2, [.agg [i64 0, nilS]]))]⟩) [(0, 1)] [] rfl rfl rfl (.cons rfl rfl (.one (.same _ (by simp)) rfl) (of_decide_eq_true rfl) (trivial)) ⟨⟨_, rfl, .ref rfl⟩, ⟨_, rfl, .same _ (by simp)⟩, trivial⟩) ?_)
    clear hK5 K5
    refine awp_ret ?_
    obtain rfl := Option.some.inj h
    refine ⟨.inr rfl, .tuple [.agg [i64 0, nilS], i64 r43.2], rfl, ?_⟩
    exact Weak.re [] [0] rfl rfl rfl (.fresh (by simp) (of_decide_eq_true rfl) (trivial)) ⟨⟨.tuple [.agg [i64 0, nilS], i64 r43.2], rfl, .tp ⟨.ag ⟨.same _ (by simp), .nil (by simp), trivial⟩, .same _ (by simp), trivial⟩⟩, trivial⟩
  · replace h := Sh.if_f h hb44
    refine awp_skip ?_
    refine hK3 _ (AWP.weak (Weak.re (fr' := [(1, i64 a_1), (2, i64 b_2), (3, .ref 0 0 0), (6, .ref 1 0 0), (8, .ref 2 0 0)]) (H' := ⟨4, [(0, (2, [G.graph_Graph.av c_0])), (1, (2, [.agg [i64 0, nilS]])), (2, (2, [.agg [i64 r43.1.N, .view 3 0 (List.map u64 r43.1.Rows).length]])), (3, (1, List.map u64 r43.1.Rows))]⟩) [(0, 0), (1, 1), (2, 2), (3, 3)] [] rfl rfl rfl (.cons rfl rfl (.one (.same _ (by simp)) rfl) (of_decide_eq_true rfl) (.cons rfl rfl (.one (.same _ (by simp)) rfl) (of_decide_eq_true rfl) (.cons rfl rfl (.one (.ag ⟨.same _ (by simp), .view rfl, trivial⟩) rfl) (of_decide_eq_true rfl) (.cons rfl rfl (.same (by simp)) (of_decide_eq_true rfl) (trivial))))) ⟨⟨_, rfl, .same _ (by simp)⟩, ⟨_, rfl, .same _ (by simp)⟩, ⟨_, rfl, .ref rfl⟩, ⟨_, rfl, .ref rfl⟩, ⟨_, rfl, .ref rfl⟩, trivial⟩) ?_)
    clear hK3 K3
    refine awp_seqK fun K6 hK6 => ?_
    refine awp_reg rfl ?_
    refine AR.op rfl (aop_field_ref rfl rfl rfl fd24_1 (by decide)) ?_
    refine AR.op (r := .sl (List.map u64 c_0.Rows)) rfl (aop_load_ref rfl rfl rfl rfl sz22 rfl) ?_
    refine AR.op (r := i64 b_2) rfl (aop_move (.inl rfl) rfl) ?_
    refine AR.drop (frx := [(1, _), (2, _), (3, _), (6, _), (8, _), (24, _), (25, _)]) ⟨rfl, rfl, rfl, rfl, rfl, rfl, rfl, trivial⟩ ?_
    obtain ⟨x48, hx48, h⟩ := Sh.bind_some' h
    obtain ⟨k49, hi49, hl49⟩ := Sh.idx_some hx48
    refine AR.op rfl (t_index_sl u64 c_0.Rows hi49 hl49 rfl rfl rfl el22 rfl) ?_
    refine AR.op (r := u64 x48) rfl (aop_load_pp rfl rfl sz45 rfl) ?_
    refine AR.op (r := i64 b_2) rfl (aop_move (.inl rfl) rfl) ?_
    refine AR.drop (frx := [(1, _), (3, _), (6, _), (8, _), (27, _), (28, _)]) ⟨rfl, rfl, rfl, rfl, rfl, rfl, trivial⟩ ?_
    obtain ⟨r50, hr50, h⟩ := Sh.bind_some' h
    refine AR.op (r := u64 r50) rfl (aop_call1 rfl rfl (by simp) (bits_With_ok hT hr50)) ?_
    refine AR.op (r := u64 r50) rfl (aop_move (.inr rfl) rfl) ?_
    refine AR.nil ?_
    refine hK6 _ (AWP.weak (Weak.re (fr' := [(1, i64 a_1), (3, .ref 0 0 0), (6, .ref 1 0 0), (8, .ref 2 0 0), (10, u64 r50)]) (H' := ⟨4, [(0, (2, [G.graph_Graph.av c_0])), (1, (2, [.agg [i64 0, nilS]])), (2, (2, [.agg [i64 r43.1.N, .view 3 0 (List.map u64 r43.1.Rows).length]])), (3, (1, List.map u64 r43.1.Rows))]⟩) [(0, 0), (1, 1), (2, 2), (3, 3)] [] rfl rfl rfl (.cons rfl rfl (.one (.same _ (by simp)) rfl) (of_decide_eq_true rfl) (.cons rfl rfl (.one (.same _ (by simp)) rfl) (of_decide_eq_true rfl) (.cons rfl rfl (.one (.ag ⟨.same _ (by simp), .view rfl, trivial⟩) rfl) (of_decide_eq_true rfl) (.cons rfl rfl (.same (by simp)) (of_decide_eq_true rfl) (trivial))))) ⟨⟨_, rfl, .same _ (by simp)⟩, ⟨_, rfl, .ref rfl⟩, ⟨_, rfl, .ref rfl⟩, ⟨_, rfl, .ref rfl⟩, ⟨_, rfl, .same _ (by simp)⟩, trivial⟩) ?_)
    clear hK6 K6
    refine awp_seqJ (fun (p : (List (BitVec 64))) => (⟨[(6, .ref 0 0 0), (8, .ref 1 0 0)], ⟨3, [(0, (2, [.agg [i64 0, nilS]])), (1, (2, [.agg [i64 r43.1.N, .view 2 0 (List.map u64 p).length]])), (2, (1, List.map u64 p))]⟩⟩ : St)) (fun (p : (List (BitVec 64))) => G.reach_More_j1 r43 p = some r) ?_ ?_
    · rintro v88 h
      replace h : G.reach_More_j1 r43 v88 = some r := h
      unfold G.reach_More_j1 at h
      show AWP _ _ _ _ ⟨[(6, .ref 0 0 0), (8, .ref 1 0 0)], ⟨3, [(0, (2, [.agg [i64 0, nilS]])), (1, (2, [.agg [i64 r43.1.N, .view 2 0 (List.map u64 v88).length]])), (2, (1, List.map u64 v88))]⟩⟩ _
      refine awp_seqK fun K7 hK7 => ?_
      refine awp_reg rfl ?_
      refine AR.op (r := .agg [i64 r43.1.N, .view 2 0 (List.map u64 v88).length]) rfl (aop_load_ref rfl rfl rfl rfl sz24 rfl) ?_
      refine AR.op rfl (aop_store (e' := .agg [i64 r43.1.N, .view 2 0 (List.map u64 v88).length]) rfl rfl rfl rfl rfl rfl sz24 rfl (of_decide_eq_true rfl) rfl) ?_
      refine AR.op (r := i64 0) rfl (aop_move (.inr rfl) rfl) ?_
      refine AR.nil ?_
      refine hK7 _ (AWP.weak (Weak.re (fr' := [(6, .ref 0 0 0), (7, i64 0)]) (H' := ⟨2, [(0, (2, [.agg [i64 r43.1.N, .view 1 0 (List.map u64 v88).length]])), (1, (1, List.map u64 v88))]⟩) [(0, 0), (1, 2)] [] rfl rfl rfl (.cons rfl rfl (.one (.ag ⟨.same _ (by simp), .view rfl, trivial⟩) rfl) (of_decide_eq_true rfl) (.cons rfl rfl (.same (by simp)) (of_decide_eq_true rfl) (trivial))) ⟨⟨_, rfl, .ref rfl⟩, ⟨_, rfl, .same _ (by simp)⟩, trivial⟩) ?_)
      clear hK7 K7
      refine awp_ret ?_
      obtain rfl := Option.some.inj h
      refine ⟨.inr rfl, .tuple [.agg [i64 r43.1.N, .view 1 0 (List.map u64 v88).length], i64 0], rfl, ?_⟩
      exact Weak.re [(0, 1)] [] rfl rfl rfl (.cons rfl rfl (.same (by simp)) (of_decide_eq_true rfl) (trivial)) ⟨⟨.tuple [.agg [i64 r43.1.N, .view 1 0 (List.map u64 v88).length], i64 0], rfl, .tp ⟨.ag ⟨.same _ (by simp), .view rfl, trivial⟩, .same _ (by simp), trivial⟩⟩, trivial⟩
    · intro K8 hK8
      refine awp_seqK fun K9 hK9 => ?_
      refine awp_reg rfl ?_
      refine AR.op rfl (aop_field_ref rfl rfl rfl fd24_1 (by decide)) ?_
      refine AR.op (r := .view 3 0 (List.map u64 r43.1.Rows).length) rfl (aop_load_ref rfl rfl rfl rfl sz22 rfl) ?_
      refine AR.op (r := i64 (Sh.len r43.1.Rows)) rfl (t_len_view u64 r43.1.Rows rfl rfl rfl rfl el22) ?_
      refine AR.drop (frx := [(1, _), (3, _), (6, _), (8, _), (10, _), (32, _)]) ⟨rfl, rfl, rfl, rfl, rfl, rfl, trivial⟩ ?_
      refine AR.op (r := i64 0) rfl (aop_move (.inl rfl) rfl) ?_
      refine AR.nil ?_
      refine hK9 _ ?_
      clear hK9 K9
      refine awp_block ?_
      refine awp_iter (fun (p : (List (BitVec 64)) × Int) => G.reach_More_b1 c_0 a_1 r43 r50 p.1 p.2) (fun (p : (List (BitVec 64)) × Int) => (⟨[(1, i64 a_1), (3, .ref 0 0 0), (6, .ref 1 0 0), (8, .ref 2 0 0), (10, u64 r50), (32, i64 (Sh.len r43.1.Rows)), (33, i64 p.2)], ⟨4, [(0, (2, [G.graph_Graph.av c_0])), (1, (2, [.agg [i64 0, nilS]])), (2, (2, [.agg [i64 r43.1.N, .view 3 0 (List.map u64 p.1).length]])), (3, (1, List.map u64 p.1))]⟩⟩ : St)) h (Weak.re (fr' := [(1, i64 a_1), (3, .ref 0 0 0), (6, .ref 1 0 0), (8, .ref 2 0 0), (10, u64 r50), (32, i64 (Sh.len r43.1.Rows)), (33, i64 0)]) (H' := ⟨4, [(0, (2, [G.graph_Graph.av c_0])), (1, (2, [.agg [i64 0, nilS]])), (2, (2, [.agg [i64 r43.1.N, .view 3 0 (List.map u64 r43.1.Rows).length]])), (3, (1, List.map u64 r43.1.Rows))]⟩) [(0, 0), (1, 1), (2, 2), (3, 3)] [] rfl rfl rfl (.cons rfl rfl (.one (.same _ (by simp)) rfl) (of_decide_eq_true rfl) (.cons rfl rfl (.one (.same _ (by simp)) rfl) (of_decide_eq_true rfl) (.cons rfl rfl (.one (.ag ⟨.same _ (by simp), .view rfl, trivial⟩) rfl) (of_decide_eq_true rfl) (.cons rfl rfl (.same (by simp)) (of_decide_eq_true rfl) (trivial))))) ⟨⟨_, rfl, .same _ (by simp)⟩, ⟨_, rfl, .ref rfl⟩, ⟨_, rfl, .ref rfl⟩, ⟨_, rfl, .ref rfl⟩, ⟨_, rfl, .same _ (by simp)⟩, ⟨_, rfl, .same _ (by simp)⟩, ⟨_, rfl, .same _ (by simp)⟩, trivial⟩) ?_
      · skip
        rintro ⟨outRows113, v114⟩ o1 h hx1
        replace h : G.reach_More_b1 c_0 a_1 r43 r50 outRows113 v114 = some o1 := h
        unfold G.reach_More_b1 at h
        show AWP _ _ _ _ ⟨[(1, i64 a_1), (3, .ref 0 0 0), (6, .ref 1 0 0), (8, .ref 2 0 0), (10, u64 r50), (32, i64 (Sh.len r43.1.Rows)), (33, i64 v114)], ⟨4, [(0, (2, [G.graph_Graph.av c_0])), (1, (2, [.agg [i64 0, nilS]])), (2, (2, [.agg [i64 r43.1.N, .view 3 0 (List.map u64 outRows113).length]])), (3, (1, List.map u64 outRows113))]⟩⟩ _
        refine awp_seqK fun K10 hK10 => ?_
        refine awp_reg rfl ?_
        refine AR.op (r := bl (decide (v114 < (Sh.len r43.1.Rows)))) rfl (aop_lss rfl rfl rfl) ?_
        refine AR.nil ?_
        refine hK10 _ ?_
        clear hK10 K10
        refine awp_seqK fun K11 hK11 => ?_
        refine awp_cond rfl (fun hb115 => ?_) (fun hb115 => ?_)
        · replace h := Sh.if_t h hb115
          refine awp_skip ?_
          refine hK11 _ (AWP.weak (Weak.re (fr' := [(1, i64 a_1), (3, .ref 0 0 0), (6, .ref 1 0 0), (8, .ref 2 0 0), (10, u64 r50), (32, i64 (Sh.len r43.1.Rows)), (33, i64 v114)]) (H' := ⟨4, [(0, (2, [G.graph_Graph.av c_0])), (1, (2, [.agg [i64 0, nilS]])), (2, (2, [.agg [i64 r43.1.N, .view 3 0 (List.map u64 outRows113).length]])), (3, (1, List.map u64 outRows113))]⟩) [(0, 0), (1, 1), (2, 2), (3, 3)] [] rfl rfl rfl (.cons rfl rfl (.one (.same _ (by simp)) rfl) (of_decide_eq_true rfl) (.cons rfl rfl (.one (.same _ (by simp)) rfl) (of_decide_eq_true rfl) (.cons rfl rfl (.one (.ag ⟨.same _ (by simp), .view rfl, trivial⟩) rfl) (of_decide_eq_true rfl) (.cons rfl rfl (.same (by simp)) (of_decide_eq_true rfl) (trivial))))) ⟨⟨_, rfl, .same _ (by simp)⟩, ⟨_, rfl, .ref rfl⟩, ⟨_, rfl, .ref rfl⟩, ⟨_, rfl, .ref rfl⟩, ⟨_, rfl, .same _ (by simp)⟩, ⟨_, rfl, .same _ (by simp)⟩, ⟨_, rfl, .same _ (by simp)⟩, trivial⟩) ?_)
          clear hK11 K11
          refine awp_seqJ (fun (p : (List (BitVec 64))) => (⟨[(1, i64 a_1), (3, .ref 0 0 0), (6, .ref 1 0 0), (8, .ref 2 0 0), (10, u64 r50), (32, i64 (Sh.len r43.1.Rows)), (33, i64 v114), (40, .any), (41, .any), (42, .any), (43, .any), (44, .any), (45, .any), (46, .any)], ⟨4, [(0, (2, [G.graph_Graph.av c_0])), (1, (2, [.agg [i64 0, nilS]])), (2, (2, [.agg [i64 r43.1.N, .view 3 0 (List.map u64 p).length]])), (3, (1, List.map u64 p))]⟩⟩ : St)) (fun (p : (List (BitVec 64))) => G.reach_More_j2 v114 p = some o1) ?_ ?_
          · rintro outRows126 h
            replace h : G.reach_More_j2 v114 outRows126 = some o1 := h
            unfold G.reach_More_j2 at h
            show AWP _ _ _ _ ⟨[(1, i64 a_1), (3, .ref 0 0 0), (6, .ref 1 0 0), (8, .ref 2 0 0), (10, u64 r50), (32, i64 (Sh.len r43.1.Rows)), (33, i64 v114), (40, .any), (41, .any), (42, .any), (43, .any), (44, .any), (45, .any), (46, .any)], ⟨4, [(0, (2, [G.graph_Graph.av c_0])), (1, (2, [.agg [i64 0, nilS]])), (2, (2, [.agg [i64 r43.1.N, .view 3 0 (List.map u64 outRows126).length]])), (3, (1, List.map u64 outRows126))]⟩⟩ _
            refine awp_reg rfl ?_
            refine AR.op (r := i64 (w64 (v114 + 1))) rfl (aop_add rfl rfl rfl rfl) ?_
            refine AR.op (r := i64 (w64 (v114 + 1))) rfl (aop_move (.inl rfl) rfl) ?_
            refine AR.nil ?_
            replace h := Sh.next_eq h
            exact ⟨_, h, Weak.re (fr' := [(1, i64 a_1), (3, .ref 0 0 0), (6, .ref 1 0 0), (8, .ref 2 0 0), (10, u64 r50), (32, i64 (Sh.len r43.1.Rows)), (33, i64 (w64 (v114 + 1)))]) (H' := ⟨4, [(0, (2, [G.graph_Graph.av c_0])), (1, (2, [.agg [i64 0, nilS]])), (2, (2, [.agg [i64 r43.1.N, .view 3 0 (List.map u64 outRows126).length]])), (3, (1, List.map u64 outRows126))]⟩) [(0, 0), (1, 1), (2, 2), (3, 3)] [] rfl rfl rfl (.cons rfl rfl (.one (.same _ (by simp)) rfl) (of_decide_eq_true rfl) (.cons rfl rfl (.one (.same _ (by simp)) rfl) (of_decide_eq_true rfl) (.cons rfl rfl (.one (.ag ⟨.same _ (by simp), .view rfl, trivial⟩) rfl) (of_decide_eq_true rfl) (.cons rfl rfl (.same (by simp)) (of_decide_eq_true rfl) (trivial))))) ⟨⟨_, rfl, .same _ (by simp)⟩, ⟨_, rfl, .ref rfl⟩, ⟨_, rfl, .ref rfl⟩, ⟨_, rfl, .ref rfl⟩, ⟨_, rfl, .same _ (by simp)⟩, ⟨_, rfl, .same _ (by simp)⟩, ⟨_, rfl, .same _ (by simp)⟩, trivial⟩⟩
          · intro K12 hK12
            refine awp_block ?_
            refine awp_seqK fun K13 hK13 => ?_
            refine awp_reg rfl ?_
            refine AR.op (r := i64 v114) rfl (aop_move (.inl rfl) rfl) ?_
            refine AR.op (r := i64 v114) rfl (aop_move (.inr rfl) rfl) ?_
            refine AR.nil ?_
            refine hK13 _ (AWP.weak (Weak.re (fr' := [(1, i64 a_1), (3, .ref 0 0 0), (6, .ref 1 0 0), (8, .ref 2 0 0), (10, u64 r50), (32, i64 (Sh.len r43.1.Rows)), (33, i64 v114), (11, i64 v114)]) (H' := ⟨4, [(0, (2, [G.graph_Graph.av c_0])), (1, (2, [.agg [i64 0, nilS]])), (2, (2, [.agg [i64 r43.1.N, .view 3 0 (List.map u64 outRows113).length]])), (3, (1, List.map u64 outRows113))]⟩) [(0, 0), (1, 1), (2, 2), (3, 3)] [] rfl rfl rfl (.cons rfl rfl (.one (.same _ (by simp)) rfl) (of_decide_eq_true rfl) (.cons rfl rfl (.one (.same _ (by simp)) rfl) (of_decide_eq_true rfl) (.cons rfl rfl (.one (.ag ⟨.same _ (by simp), .view rfl, trivial⟩) rfl) (of_decide_eq_true rfl) (.cons rfl rfl (.same (by simp)) (of_decide_eq_true rfl) (trivial))))) ⟨⟨_, rfl, .same _ (by simp)⟩, ⟨_, rfl, .ref rfl⟩, ⟨_, rfl, .ref rfl⟩, ⟨_, rfl, .ref rfl⟩, ⟨_, rfl, .same _ (by simp)⟩, ⟨_, rfl, .same _ (by simp)⟩, ⟨_, rfl, .same _ (by simp)⟩, ⟨_, rfl, .same _ (by simp)⟩, trivial⟩) ?_)
            clear hK13 K13
            refine awp_seqJ (fun (p : Bool) => (⟨[(1, i64 a_1), (3, .ref 0 0 0), (6, .ref 1 0 0), (8, .ref 2 0 0), (10, u64 r50), (32, i64 (Sh.len r43.1.Rows)), (33, i64 v114), (11, i64 v114), (40, .any), (41, .any), (42, .any), (43, .any), (44, .any), (45, .any), (46, .any), (47, bl p)], ⟨4, [(0, (2, [G.graph_Graph.av c_0])), (1, (2, [.agg [i64 0, nilS]])), (2, (2, [.agg [i64 r43.1.N, .view 3 0 (List.map u64 outRows113).length]])), (3, (1, List.map u64 outRows113))]⟩⟩ : St)) (fun (p : Bool) => G.reach_More_j3 r50 outRows113 v114 p = some o1) ?_ ?_
            · rintro v131 h
              replace h : G.reach_More_j3 r50 outRows113 v114 v131 = some o1 := h
              unfold G.reach_More_j3 at h
              show AWP _ _ _ _ ⟨[(1, i64 a_1), (3, .ref 0 0 0), (6, .ref 1 0 0), (8, .ref 2 0 0), (10, u64 r50), (32, i64 (Sh.len r43.1.Rows)), (33, i64 v114), (11, i64 v114), (40, .any), (41, .any), (42, .any), (43, .any), (44, .any), (45, .any), (46, .any), (47, bl v131)], ⟨4, [(0, (2, [G.graph_Graph.av c_0])), (1, (2, [.agg [i64 0, nilS]])), (2, (2, [.agg [i64 r43.1.N, .view 3 0 (List.map u64 outRows113).length]])), (3, (1, List.map u64 outRows113))]⟩⟩ _
              refine awp_cond rfl (fun hb132 => ?_) (fun hb132 => ?_)
              · replace h := Sh.if_t h hb132
                refine awp_any (by kernel_rfl) (by kernel_rfl) rfl ?_
                refine ARH.op rfl rfl (aop_field_ref rfl rfl rfl fd24_1 (by decide)) ?_
                refine ARH.op (r := .view 3 0 (List.map u64 outRows113).length) rfl rfl (aop_load_ref rfl rfl rfl rfl sz22 rfl) ?_
                refine ARH.dry (r := i64 v114) rfl (fun _ => aop_move (.inl rfl) rfl) ?_
                refine ARH.drop (frx := [(1, _), (3, _), (6, _), (8, _), (10, _), (32, _), (33, _), (11, _), (40, _), (41, _), (42, _), (43, _), (44, _), (45, _), (46, _), (49, _), (50, _)]) ⟨rfl, rfl, rfl, rfl, rfl, rfl, rfl, rfl, rfl, rfl, rfl, rfl, rfl, rfl, rfl, rfl, rfl, trivial⟩ ?_
                refine ARH.op rfl rfl (aop_field_ref rfl rfl rfl fd24_1 (by decide)) ?_
                refine ARH.op (r := .view 3 0 (List.map u64 outRows113).length) rfl rfl (aop_load_ref rfl rfl rfl rfl sz22 rfl) ?_
                refine ARH.dry (r := i64 v114) rfl (fun _ => aop_move (.inl rfl) rfl) ?_
                refine ARH.drop (frx := [(1, _), (3, _), (6, _), (8, _), (10, _), (32, _), (33, _), (40, _), (41, _), (42, _), (43, _), (44, _), (45, _), (46, _), (49, _), (50, _), (52, _), (53, _)]) ⟨rfl, rfl, rfl, rfl, rfl, rfl, rfl, rfl, rfl, rfl, rfl, rfl, rfl, rfl, rfl, rfl, rfl, rfl, trivial⟩ ?_
                obtain ⟨x133, hx133, h⟩ := Sh.bind_some' h
                obtain ⟨k134, hi134, hl134⟩ := Sh.idx_some hx133
                refine ARH.op (r := .ref 3 k134 0) rfl rfl (t_index_view u64 outRows113 hi134 hl134 rfl rfl rfl rfl rfl el22 rfl) ?_
                refine ARH.op (r := u64 x133) rfl rfl (t_load_el u64 outRows113 hl134 rfl rfl rfl sz45 rfl) ?_
                refine ARH.dry (r := u64 r50) rfl (fun _ => aop_move (.inl rfl) rfl) ?_
                refine ARH.drop (frx := [(1, _), (3, _), (6, _), (8, _), (10, _), (32, _), (33, _), (40, _), (41, _), (42, _), (43, _), (44, _), (45, _), (46, _), (49, _), (50, _), (55, _), (56, _)]) ⟨rfl, rfl, rfl, rfl, rfl, rfl, rfl, rfl, rfl, rfl, rfl, rfl, rfl, rfl, rfl, rfl, rfl, rfl, trivial⟩ ?_
                refine ARH.op (r := .clip (List.map u64 [x133, r50])) rfl rfl (aop_buildSlice rfl (xo := [.tmp 55, .tmp 56]) rfl rfl rfl (by simp [AV.solid]) (by simp [AV.flat]) el22 ze22 (by decide)) ?_
                obtain ⟨r135, hr135, h⟩ := Sh.bind_some' h
                refine ARH.op (r := u64 r135) rfl rfl (aop_callN rfl (ys := [.clip (List.map u64 [x133, r50])]) (xs := [.sl (List.map u64 [x133, r50])]) rfl (Weak.re (fr' := argsFr 0 [.sl (List.map u64 [x133, r50])]) (H' := .empty) [] [] rfl rfl rfl trivial ⟨⟨.clip (List.map u64 [x133, r50]), rfl, .wide _ (by simp)⟩, trivial⟩) rfl (by simp) (bits_Join_ok hT hr135)) ?_
                obtain ⟨x136, hx136, h⟩ := Sh.bind_some' h
                obtain ⟨k137, hi137, hl137⟩ := Sh.idx_some hx136
                refine ARH.op (r := .ref 3 k137 0) rfl rfl (t_index_view u64 outRows113 hi137 hl137 rfl rfl rfl rfl rfl el22 rfl) ?_
                refine ARH.drop (frx := [(1, _), (3, _), (6, _), (8, _), (10, _), (32, _), (33, _), (40, _), (41, _), (42, _), (43, _), (44, _), (45, _), (46, _), (58, _), (59, _)]) ⟨rfl, rfl, rfl, rfl, rfl, rfl, rfl, rfl, rfl, rfl, rfl, rfl, rfl, rfl, rfl, rfl, trivial⟩ ?_
                refine ARH.loud rfl rfl rfl (t_store_el u64 outRows113 r135 hi137 hl137 rfl rfl rfl rfl rfl sz45 rfl (of_decide_eq_true rfl) rfl) ?_
                refine ARH.nil ?_
                exact hK12 (Sh.set outRows113 v114 r135) _ h (Weak.re (fr' := [(1, i64 a_1), (3, .ref 0 0 0), (6, .ref 1 0 0), (8, .ref 2 0 0), (10, u64 r50), (32, i64 (Sh.len r43.1.Rows)), (33, i64 v114), (40, .any), (41, .any), (42, .any), (43, .any), (44, .any), (45, .any), (46, .any)]) (H' := ⟨4, [(0, (2, [G.graph_Graph.av c_0])), (1, (2, [.agg [i64 0, nilS]])), (2, (2, [.agg [i64 r43.1.N, .view 3 0 (List.map u64 (Sh.set outRows113 v114 r135)).length]])), (3, (1, List.map u64 (Sh.set outRows113 v114 r135)))]⟩) [(0, 0), (1, 1), (2, 2), (3, 3)] [] rfl rfl rfl (.cons rfl rfl (.one (.same _ (by simp)) rfl) (of_decide_eq_true rfl) (.cons rfl rfl (.one (.same _ (by simp)) rfl) (of_decide_eq_true rfl) (.cons rfl rfl (.one (.ag ⟨.same _ (by simp), .viewL rfl (by simp []), trivial⟩) rfl) (of_decide_eq_true rfl) (.cons rfl rfl (.same (by simp)) (of_decide_eq_true rfl) (trivial))))) ⟨⟨_, rfl, .same _ (by simp)⟩, ⟨_, rfl, .ref rfl⟩, ⟨_, rfl, .ref rfl⟩, ⟨_, rfl, .ref rfl⟩, ⟨_, rfl, .same _ (by simp)⟩, ⟨_, rfl, .same _ (by simp)⟩, ⟨_, rfl, .same _ (by simp)⟩, ⟨_, rfl, .any _⟩, ⟨_, rfl, .any _⟩, ⟨_, rfl, .any _⟩, ⟨_, rfl, .any _⟩, ⟨_, rfl, .any _⟩, ⟨_, rfl, .any _⟩, ⟨_, rfl, .any _⟩, trivial⟩)
              · replace h := Sh.if_f h hb132
                refine awp_skip ?_
                exact hK12 outRows113 _ h (Weak.re (fr' := [(1, i64 a_1), (3, .ref 0 0 0), (6, .ref 1 0 0), (8, .ref 2 0 0), (10, u64 r50), (32, i64 (Sh.len r43.1.Rows)), (33, i64 v114), (40, .any), (41, .any), (42, .any), (43, .any), (44, .any), (45, .any), (46, .any)]) (H' := ⟨4, [(0, (2, [G.graph_Graph.av c_0])), (1, (2, [.agg [i64 0, nilS]])), (2, (2, [.agg [i64 r43.1.N, .view 3 0 (List.map u64 outRows113).length]])), (3, (1, List.map u64 outRows113))]⟩) [(0, 0), (1, 1), (2, 2), (3, 3)] [] rfl rfl rfl (.cons rfl rfl (.one (.same _ (by simp)) rfl) (of_decide_eq_true rfl) (.cons rfl rfl (.one (.same _ (by simp)) rfl) (of_decide_eq_true rfl) (.cons rfl rfl (.one (.ag ⟨.same _ (by simp), .view rfl, trivial⟩) rfl) (of_decide_eq_true rfl) (.cons rfl rfl (.same (by simp)) (of_decide_eq_true rfl) (trivial))))) ⟨⟨_, rfl, .same _ (by simp)⟩, ⟨_, rfl, .ref rfl⟩, ⟨_, rfl, .ref rfl⟩, ⟨_, rfl, .ref rfl⟩, ⟨_, rfl, .same _ (by simp)⟩, ⟨_, rfl, .same _ (by simp)⟩, ⟨_, rfl, .same _ (by simp)⟩, ⟨_, rfl, .any _⟩, ⟨_, rfl, .any _⟩, ⟨_, rfl, .any _⟩, ⟨_, rfl, .any _⟩, ⟨_, rfl, .any _⟩, ⟨_, rfl, .any _⟩, ⟨_, rfl, .any _⟩, trivial⟩)
            · intro K14 hK14
              refine awp_reg rfl ?_
              refine AR.op (r := i64 v114) rfl (aop_move (.inl rfl) rfl) ?_
              refine AR.op (r := i64 a_1) rfl (aop_move (.inl rfl) rfl) ?_
              refine AR.op (r := bl (decide (v114 = a_1))) rfl (aop_eql rfl rfl rfl) ?_
              refine AR.drop (frx := [(1, _), (3, _), (6, _), (8, _), (10, _), (32, _), (33, _), (11, _), (38, _)]) ⟨rfl, rfl, rfl, rfl, rfl, rfl, rfl, rfl, rfl, trivial⟩ ?_
              refine AR.op (r := bl (decide (v114 = a_1))) rfl (aop_move (.inl rfl) rfl) ?_
              rcases Bool.eq_false_or_eq_true (decide (v114 = a_1)) with hb138 | hb138
              · rw [hb138]
                replace h := Sh.if_t h hb138
                refine AR.skip rfl ?_
                refine AR.skip rfl ?_
                refine AR.drop (frx := [(1, _), (3, _), (6, _), (8, _), (10, _), (32, _), (33, _), (11, _), (39, _), (40, _), (41, _)]) ⟨rfl, rfl, rfl, rfl, rfl, rfl, rfl, rfl, rfl, rfl, rfl, trivial⟩ ?_
                refine AR.skip rfl ?_
                refine AR.skip rfl ?_
                refine AR.skip rfl ?_
                refine AR.drop (frx := [(1, _), (3, _), (6, _), (8, _), (10, _), (32, _), (33, _), (11, _), (39, _), (40, _), (41, _), (42, _), (43, _), (44, _)]) ⟨rfl, rfl, rfl, rfl, rfl, rfl, rfl, rfl, rfl, rfl, rfl, rfl, rfl, rfl, trivial⟩ ?_
                refine AR.skip rfl ?_
                refine AR.skip rfl ?_
                refine AR.op (r := bl true) rfl (aop_pick rfl rfl rfl) ?_
                refine AR.nil ?_
                exact hK14 true _ h (Weak.re (fr' := [(1, i64 a_1), (3, .ref 0 0 0), (6, .ref 1 0 0), (8, .ref 2 0 0), (10, u64 r50), (32, i64 (Sh.len r43.1.Rows)), (33, i64 v114), (11, i64 v114), (40, .any), (41, .any), (42, .any), (43, .any), (44, .any), (45, .any), (46, .any), (47, bl true)]) (H' := ⟨4, [(0, (2, [G.graph_Graph.av c_0])), (1, (2, [.agg [i64 0, nilS]])), (2, (2, [.agg [i64 r43.1.N, .view 3 0 (List.map u64 outRows113).length]])), (3, (1, List.map u64 outRows113))]⟩) [(0, 0), (1, 1), (2, 2), (3, 3)] [] rfl rfl rfl (.cons rfl rfl (.one (.same _ (by simp)) rfl) (of_decide_eq_true rfl) (.cons rfl rfl (.one (.same _ (by simp)) rfl) (of_decide_eq_true rfl) (.cons rfl rfl (.one (.ag ⟨.same _ (by simp), .view rfl, trivial⟩) rfl) (of_decide_eq_true rfl) (.cons rfl rfl (.same (by simp)) (of_decide_eq_true rfl) (trivial))))) ⟨⟨_, rfl, .same _ (by simp)⟩, ⟨_, rfl, .ref rfl⟩, ⟨_, rfl, .ref rfl⟩, ⟨_, rfl, .ref rfl⟩, ⟨_, rfl, .same _ (by simp)⟩, ⟨_, rfl, .same _ (by simp)⟩, ⟨_, rfl, .same _ (by simp)⟩, ⟨_, rfl, .same _ (by simp)⟩, ⟨_, rfl, .any _⟩, ⟨_, rfl, .any _⟩, ⟨_, rfl, .any _⟩, ⟨_, rfl, .any _⟩, ⟨_, rfl, .any _⟩, ⟨_, rfl, .any _⟩, ⟨_, rfl, .any _⟩, ⟨_, rfl, .same _ (by simp)⟩, trivial⟩)
              · rw [hb138]
                replace h := Sh.if_f h hb138
                refine AR.op rfl (aop_field_ref rfl rfl rfl fd24_1 (by decide)) ?_
                refine AR.op (r := .sl (List.map u64 c_0.Rows)) rfl (aop_load_ref rfl rfl rfl rfl sz22 rfl) ?_
                refine AR.drop (frx := [(1, _), (3, _), (6, _), (8, _), (10, _), (32, _), (33, _), (11, _), (39, _), (40, _), (41, _)]) ⟨rfl, rfl, rfl, rfl, rfl, rfl, rfl, rfl, rfl, rfl, rfl, trivial⟩ ?_
                refine AR.op (r := i64 v114) rfl (aop_move (.inl rfl) rfl) ?_
                obtain ⟨x139, hx139, h⟩ := Sh.bind_some' h
                obtain ⟨k140, hi140, hl140⟩ := Sh.idx_some hx139
                refine AR.op rfl (t_index_sl u64 c_0.Rows hi140 hl140 rfl rfl rfl el22 rfl) ?_
                refine AR.op (r := u64 x139) rfl (aop_load_pp rfl rfl sz45 rfl) ?_
                refine AR.drop (frx := [(1, _), (3, _), (6, _), (8, _), (10, _), (32, _), (33, _), (11, _), (39, _), (40, _), (41, _), (42, _), (43, _), (44, _)]) ⟨rfl, rfl, rfl, rfl, rfl, rfl, rfl, rfl, rfl, rfl, rfl, rfl, rfl, rfl, trivial⟩ ?_
                refine AR.op (r := i64 a_1) rfl (aop_move (.inl rfl) rfl) ?_
                obtain ⟨r141, hr141, h⟩ := Sh.bind_some' h
                refine AR.op (r := bl r141) rfl (aop_call1 rfl rfl (by simp) (bits_Has_ok hT hr141)) ?_
                refine AR.op (r := bl r141) rfl (aop_pick rfl rfl rfl) ?_
                refine AR.nil ?_
                exact hK14 r141 _ h (Weak.re (fr' := [(1, i64 a_1), (3, .ref 0 0 0), (6, .ref 1 0 0), (8, .ref 2 0 0), (10, u64 r50), (32, i64 (Sh.len r43.1.Rows)), (33, i64 v114), (11, i64 v114), (40, .any), (41, .any), (42, .any), (43, .any), (44, .any), (45, .any), (46, .any), (47, bl r141)]) (H' := ⟨4, [(0, (2, [G.graph_Graph.av c_0])), (1, (2, [.agg [i64 0, nilS]])), (2, (2, [.agg [i64 r43.1.N, .view 3 0 (List.map u64 outRows113).length]])), (3, (1, List.map u64 outRows113))]⟩) [(0, 0), (1, 1), (2, 2), (3, 3)] [] rfl rfl rfl (.cons rfl rfl (.one (.same _ (by simp)) rfl) (of_decide_eq_true rfl) (.cons rfl rfl (.one (.same _ (by simp)) rfl) (of_decide_eq_true rfl) (.cons rfl rfl (.one (.ag ⟨.same _ (by simp), .view rfl, trivial⟩) rfl) (of_decide_eq_true rfl) (.cons rfl rfl (.same (by simp)) (of_decide_eq_true rfl) (trivial))))) ⟨⟨_, rfl, .same _ (by simp)⟩, ⟨_, rfl, .ref rfl⟩, ⟨_, rfl, .ref rfl⟩, ⟨_, rfl, .ref rfl⟩, ⟨_, rfl, .same _ (by simp)⟩, ⟨_, rfl, .same _ (by simp)⟩, ⟨_, rfl, .same _ (by simp)⟩, ⟨_, rfl, .same _ (by simp)⟩, ⟨_, rfl, .any _⟩, ⟨.sl (List.map u64 c_0.Rows), rfl, .any _⟩, ⟨_, rfl, .any _⟩, ⟨_, rfl, .any _⟩, ⟨_, rfl, .any _⟩, ⟨_, rfl, .any _⟩, ⟨_, rfl, .any _⟩, ⟨_, rfl, .same _ (by simp)⟩, trivial⟩)
        · replace h := Sh.if_f h hb115
          refine awp_exit ?_
          replace h := Sh.exit_eq h hx1
          exact hK8 outRows113 _ h (Weak.re (fr' := [(6, .ref 0 0 0), (8, .ref 1 0 0)]) (H' := ⟨3, [(0, (2, [.agg [i64 0, nilS]])), (1, (2, [.agg [i64 r43.1.N, .view 2 0 (List.map u64 outRows113).length]])), (2, (1, List.map u64 outRows113))]⟩) [(0, 1), (1, 2), (2, 3)] [] rfl rfl rfl (.cons rfl rfl (.one (.same _ (by simp)) rfl) (of_decide_eq_true rfl) (.cons rfl rfl (.one (.ag ⟨.same _ (by simp), .view rfl, trivial⟩) rfl) (of_decide_eq_true rfl) (.cons rfl rfl (.same (by simp)) (of_decide_eq_true rfl) (trivial)))) ⟨⟨_, rfl, .ref rfl⟩, ⟨_, rfl, .ref rfl⟩, trivial⟩)
theorem reach_More_ok {W0 : World} (hT : Tab W0) {c_0 : G.graph_Graph} {a_1 : Int} {b_2 : Int} {r : G.graph_Graph × Int} (h : G.reach_More c_0 a_1 b_2 = some r) : Fun1 Tryd.prog W0 32 [G.graph_Graph.av c_0, i64 a_1, i64 b_2] (.tuple [G.graph_Graph.av r.1, i64 r.2]) :=
  (reach_More_own hT h).give (Weak.re [] [] rfl rfl rfl trivial ⟨⟨_, rfl, .tp ⟨.ag ⟨.same _ (by simp), .lendAll rfl rfl (by simp), trivial⟩, .same _ (by simp), trivial⟩⟩, trivial⟩) (by simp)


set_option maxHeartbeats 8000000 in
theorem reach_Cyclic_ok0 {W0 : World} (hT : Tab W0) {g_0 : G.graph_Graph} {r : Bool} (h : G.reach_Cyclic g_0 = some r) : Fun2 Tryd.prog W0 33 [G.graph_Graph.av g_0] (bl r) .empty := by
  refine fun2_of_awp Tryd.func33 rfl (by kernel_rfl) Tryd.ntmps33 (by simp) ?_
  unfold G.reach_Cyclic at h
  show AWP _ _ _ _ ⟨[(0, G.graph_Graph.av g_0)], .empty⟩ _
  refine awp_seqK fun K1 hK1 => ?_
  refine awp_reg rfl ?_
  refine AR.op (r := .ref 0 0 0) rfl (aop_box 2 [G.graph_Graph.av g_0] rfl rfl rfl (.inl ⟨rfl, rfl⟩)) ?_
  refine AR.op (r := bl false) rfl (aop_move (.inr rfl) rfl) ?_
  refine AR.nil ?_
  refine hK1 _ (AWP.weak (Weak.re (fr' := [(1, .ref 0 0 0)]) (H' := ⟨1, [(0, (2, [G.graph_Graph.av g_0]))]⟩) [(0, 0)] [] rfl rfl rfl (.cons rfl rfl (.one (.same _ (by simp)) rfl) (of_decide_eq_true rfl) (trivial)) ⟨⟨_, rfl, .ref rfl⟩, trivial⟩) ?_)
  clear hK1 K1
  refine awp_seqJ (fun (p : Unit) => (⟨[], .empty⟩ : St)) (fun (p : Unit) => G.reach_Cyclic_j1 = some r) ?_ ?_
  · rintro ⟨⟩ h
    replace h : G.reach_Cyclic_j1 = some r := h
    unfold G.reach_Cyclic_j1 at h
    show AWP _ _ _ _ ⟨[], .empty⟩ _
    refine awp_seqK fun K2 hK2 => ?_
    refine awp_reg rfl ?_
    refine AR.op (r := bl false) rfl (aop_move (.inr rfl) rfl) ?_
    refine AR.nil ?_
    refine hK2 _ ?_
    clear hK2 K2
    refine awp_ret ?_
    obtain rfl := Option.some.inj h
    refine ⟨.inr rfl, bl false, rfl, ?_⟩
    exact Weak.re [] [] rfl rfl rfl (trivial) ⟨⟨_, rfl, .same _ (by simp)⟩, trivial⟩
  · intro K3 hK3
    refine awp_seqK fun K4 hK4 => ?_
    refine awp_reg rfl ?_
    refine AR.op (r := i64 0) rfl (aop_move (.inr rfl) rfl) ?_
    refine AR.nil ?_
    refine hK4 _ ?_
    clear hK4 K4
    refine awp_block ?_
    refine awp_iter (fun (p : Int) => G.reach_Cyclic_b1 g_0 p) (fun (p : Int) => (⟨[(1, .ref 0 0 0), (3, i64 p)], ⟨1, [(0, (2, [G.graph_Graph.av g_0]))]⟩⟩ : St)) h (Weak.re (fr' := [(1, .ref 0 0 0), (3, i64 0)]) (H' := ⟨1, [(0, (2, [G.graph_Graph.av g_0]))]⟩) [(0, 0)] [] rfl rfl rfl (.cons rfl rfl (.one (.same _ (by simp)) rfl) (of_decide_eq_true rfl) (trivial)) ⟨⟨_, rfl, .ref rfl⟩, ⟨_, rfl, .same _ (by simp)⟩, trivial⟩) ?_
    · skip
      rintro a46 o1 h hx1
      replace h : G.reach_Cyclic_b1 g_0 a46 = some o1 := h
      unfold G.reach_Cyclic_b1 at h
      show AWP _ _ _ _ ⟨[(1, .ref 0 0 0), (3, i64 a46)], ⟨1, [(0, (2, [G.graph_Graph.av g_0]))]⟩⟩ _
      refine awp_seqK fun K5 hK5 => ?_
      refine awp_seqJ (fun (p : Bool) => (⟨[(1, .ref 0 0 0), (3, i64 a46), (7, .any), (8, .any), (9, .any), (10, .any), (11, bl p)], ⟨1, [(0, (2, [G.graph_Graph.av g_0]))]⟩⟩ : St)) (fun (p : Bool) => G.reach_Cyclic_j2 g_0 a46 p = some o1) ?_ ?_
      · rintro v52 h
        replace h : G.reach_Cyclic_j2 g_0 a46 v52 = some o1 := h
        unfold G.reach_Cyclic_j2 at h
        show AWP _ _ _ _ ⟨[(1, .ref 0 0 0), (3, i64 a46), (7, .any), (8, .any), (9, .any), (10, .any), (11, bl v52)], ⟨1, [(0, (2, [G.graph_Graph.av g_0]))]⟩⟩ _
        refine awp_cond rfl (fun hb53 => ?_) (fun hb53 => ?_)
        · replace h := Sh.if_t h hb53
          refine awp_skip ?_
          refine hK5 _ (AWP.weak (Weak.re (fr' := [(1, .ref 0 0 0), (3, i64 a46), (7, .any), (8, .any), (9, .any), (10, .any)]) (H' := ⟨1, [(0, (2, [G.graph_Graph.av g_0]))]⟩) [(0, 0)] [] rfl rfl rfl (.cons rfl rfl (.one (.same _ (by simp)) rfl) (of_decide_eq_true rfl) (trivial)) ⟨⟨_, rfl, .ref rfl⟩, ⟨_, rfl, .same _ (by simp)⟩, ⟨_, rfl, .any _⟩, ⟨_, rfl, .any _⟩, ⟨_, rfl, .any _⟩, ⟨_, rfl, .any _⟩, trivial⟩) ?_)
          clear hK5 K5
          refine awp_seqK fun K6 hK6 => ?_
          refine awp_block ?_
          refine awp_seqK fun K7 hK7 => ?_
          refine awp_reg rfl ?_
          refine AR.op (r := G.graph_Graph.av g_0) rfl (aop_load_ref rfl rfl rfl rfl sz24 rfl) ?_
          refine AR.op (r := i64 a46) rfl (aop_move (.inl rfl) rfl) ?_
          obtain ⟨r58, hr58, h⟩ := Sh.bind_some' h
          refine AR.op (r := u64 r58) rfl (aop_call1 rfl rfl (by simp) (reach_From_ok hT hr58)) ?_
          refine AR.drop (frx := [(1, _), (3, _), (7, _), (8, _), (9, _), (10, _), (16, _)]) ⟨rfl, rfl, rfl, rfl, rfl, rfl, rfl, trivial⟩ ?_
          refine AR.op (r := i64 a46) rfl (aop_move (.inl rfl) rfl) ?_
          obtain ⟨r59, hr59, h⟩ := Sh.bind_some' h
          refine AR.op (r := bl r59) rfl (aop_call1 rfl rfl (by simp) (bits_Has_ok hT hr59)) ?_
          refine AR.nil ?_
          refine hK7 _ (AWP.weak (Weak.re (fr' := [(1, .ref 0 0 0), (3, i64 a46), (7, .any), (8, .any), (9, .any), (10, .any), (18, bl r59)]) (H' := ⟨1, [(0, (2, [G.graph_Graph.av g_0]))]⟩) [(0, 0)] [] rfl rfl rfl (.cons rfl rfl (.one (.same _ (by simp)) rfl) (of_decide_eq_true rfl) (trivial)) ⟨⟨_, rfl, .ref rfl⟩, ⟨_, rfl, .same _ (by simp)⟩, ⟨_, rfl, .any _⟩, ⟨_, rfl, .any _⟩, ⟨_, rfl, .any _⟩, ⟨_, rfl, .any _⟩, ⟨_, rfl, .same _ (by simp)⟩, trivial⟩) ?_)
          clear hK7 K7
          refine awp_cond rfl (fun hb60 => ?_) (fun hb60 => ?_)
          · replace h := Sh.if_t h hb60
            refine awp_seqK fun K8 hK8 => ?_
            refine awp_reg rfl ?_
            refine AR.op (r := bl true) rfl (aop_move (.inr rfl) rfl) ?_
            refine AR.nil ?_
            refine hK8 _ (AWP.weak (Weak.re (fr' := [(2, bl true)]) (H' := .empty) [] [] rfl rfl rfl (trivial) ⟨⟨_, rfl, .same _ (by simp)⟩, trivial⟩) ?_)
            clear hK8 K8
            refine awp_ret ?_
            replace h := Sh.exit_eq h hx1
            obtain rfl := Option.some.inj h
            refine ⟨.inr rfl, bl true, rfl, ?_⟩
            exact Weak.re [] [] rfl rfl rfl (trivial) ⟨⟨_, rfl, .same _ (by simp)⟩, trivial⟩
          · replace h := Sh.if_f h hb60
            refine awp_skip ?_
            refine hK6 _ (AWP.weak (Weak.re (fr' := [(1, .ref 0 0 0), (3, i64 a46), (7, .any), (8, .any), (9, .any), (10, .any)]) (H' := ⟨1, [(0, (2, [G.graph_Graph.av g_0]))]⟩) [(0, 0)] [] rfl rfl rfl (.cons rfl rfl (.one (.same _ (by simp)) rfl) (of_decide_eq_true rfl) (trivial)) ⟨⟨_, rfl, .ref rfl⟩, ⟨_, rfl, .same _ (by simp)⟩, ⟨_, rfl, .any _⟩, ⟨_, rfl, .any _⟩, ⟨_, rfl, .any _⟩, ⟨_, rfl, .any _⟩, trivial⟩) ?_)
            clear hK6 K6
            refine awp_reg rfl ?_
            refine AR.op (r := i64 a46) rfl (aop_move (.inl rfl) rfl) ?_
            refine AR.op (r := i64 (w64 (a46 + 1))) rfl (aop_add rfl rfl rfl rfl) ?_
            refine AR.op (r := i64 (w64 (a46 + 1))) rfl (aop_move (.inr rfl) rfl) ?_
            refine AR.nil ?_
            replace h := Sh.next_eq h
            exact ⟨_, h, Weak.re (fr' := [(1, .ref 0 0 0), (3, i64 (w64 (a46 + 1)))]) (H' := ⟨1, [(0, (2, [G.graph_Graph.av g_0]))]⟩) [(0, 0)] [] rfl rfl rfl (.cons rfl rfl (.one (.same _ (by simp)) rfl) (of_decide_eq_true rfl) (trivial)) ⟨⟨_, rfl, .ref rfl⟩, ⟨_, rfl, .same _ (by simp)⟩, trivial⟩⟩
        · replace h := Sh.if_f h hb53
          refine awp_exit ?_
          replace h := Sh.exit_eq h hx1
          exact hK3 () _ h (Weak.re (fr' := []) (H' := .empty) [] [] rfl rfl rfl (trivial) trivial)
      · intro K9 hK9
        refine awp_reg rfl ?_
        refine AR.op (r := G.graph_Graph.av g_0) rfl (aop_load_ref rfl rfl rfl rfl sz24 rfl) ?_
        obtain ⟨r61, hr61, h⟩ := Sh.bind_some' h
        refine AR.op (r := bl r61) rfl (aop_call1 rfl rfl (by simp) (graph_Right_ok hT hr61)) ?_
        refine AR.op (r := bl r61) rfl (aop_move (.inl rfl) rfl) ?_
        refine AR.drop (frx := [(1, _), (3, _), (6, _)]) ⟨rfl, rfl, rfl, trivial⟩ ?_
        rcases Bool.eq_false_or_eq_true (r61) with hb62 | hb62
        · rw [hb62]
          replace h := Sh.if_t h hb62
          refine AR.op (r := i64 a46) rfl (aop_move (.inl rfl) rfl) ?_
          refine AR.op rfl (aop_field_ref rfl rfl rfl fd24_0 (by decide)) ?_
          refine AR.op (r := i64 g_0.N) rfl (aop_load_ref rfl rfl rfl rfl sz3 rfl) ?_
          refine AR.drop (frx := [(1, _), (3, _), (6, _), (7, _), (8, _), (9, _)]) ⟨rfl, rfl, rfl, rfl, rfl, rfl, trivial⟩ ?_
          refine AR.op (r := bl (decide (a46 < g_0.N))) rfl (aop_lss rfl rfl rfl) ?_
          refine AR.op (r := bl (decide (a46 < g_0.N))) rfl (aop_pick rfl rfl rfl) ?_
          refine AR.nil ?_
          exact hK9 (decide (a46 < g_0.N)) _ h (Weak.re (fr' := [(1, .ref 0 0 0), (3, i64 a46), (7, .any), (8, .any), (9, .any), (10, .any), (11, bl (decide (a46 < g_0.N)))]) (H' := ⟨1, [(0, (2, [G.graph_Graph.av g_0]))]⟩) [(0, 0)] [] rfl rfl rfl (.cons rfl rfl (.one (.same _ (by simp)) rfl) (of_decide_eq_true rfl) (trivial)) ⟨⟨_, rfl, .ref rfl⟩, ⟨_, rfl, .same _ (by simp)⟩, ⟨_, rfl, .any _⟩, ⟨_, rfl, .any _⟩, ⟨_, rfl, .any _⟩, ⟨_, rfl, .any _⟩, ⟨_, rfl, .same _ (by simp)⟩, trivial⟩)
        · rw [hb62]
          replace h := Sh.if_f h hb62
          refine AR.skip rfl ?_
          refine AR.skip rfl ?_
          refine AR.skip rfl ?_
          refine AR.drop (frx := [(1, _), (3, _), (6, _), (7, _), (8, _), (9, _)]) ⟨rfl, rfl, rfl, rfl, rfl, rfl, trivial⟩ ?_
          refine AR.skip rfl ?_
          refine AR.op (r := bl false) rfl (aop_pick rfl rfl rfl) ?_
          refine AR.nil ?_
          exact hK9 false _ h (Weak.re (fr' := [(1, .ref 0 0 0), (3, i64 a46), (7, .any), (8, .any), (9, .any), (10, .any), (11, bl false)]) (H' := ⟨1, [(0, (2, [G.graph_Graph.av g_0]))]⟩) [(0, 0)] [] rfl rfl rfl (.cons rfl rfl (.one (.same _ (by simp)) rfl) (of_decide_eq_true rfl) (trivial)) ⟨⟨_, rfl, .ref rfl⟩, ⟨_, rfl, .same _ (by simp)⟩, ⟨_, rfl, .any _⟩, ⟨_, rfl, .any _⟩, ⟨_, rfl, .any _⟩, ⟨_, rfl, .any _⟩, ⟨_, rfl, .same _ (by simp)⟩, trivial⟩)
theorem reach_Cyclic_ok {W0 : World} (hT : Tab W0) {g_0 : G.graph_Graph} {r : Bool} (h : G.reach_Cyclic g_0 = some r) : Fun1 Tryd.prog W0 33 [G.graph_Graph.av g_0] (bl r) := Fun1.two (reach_Cyclic_ok0 hT h) (by simp)

end Wk
