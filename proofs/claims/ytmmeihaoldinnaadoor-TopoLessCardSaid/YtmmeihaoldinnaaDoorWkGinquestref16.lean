/- That the functions of a package do what their plain functions say. -/
import Derived.Test.YtmmeihaoldinnaaDoorSh
import Derived.Test.YtmmeihaoldinnaaDoorWkGFacts
import Derived.Test.YtmmeihaoldinnaaDoorWkGinquestref12
open Go Go.Av Go.Proofs
set_option linter.unusedVariables false
namespace Wk
set_option maxHeartbeats 8000000 in
theorem inquestref16_in_ok0 {W0 : World} (hT : Tab W0) {l_0 : List Int} {n_1 : Int} {r : Bool} (h : G.inquestref16_in l_0 n_1 = some r) : Fun2 Tryd.prog W0 63 [.sl (List.map i64 l_0), i64 n_1] (bl r) .empty := by
  refine fun2_of_awp Tryd.func63 rfl (by kernel_rfl) Tryd.ntmps63 (by simp) ?_
  unfold G.inquestref16_in at h
  show AWP _ _ _ _ ⟨[(0, .sl (List.map i64 l_0)), (1, i64 n_1)], .empty⟩ _
  refine awp_seqK fun K1 hK1 => ?_
  refine awp_reg rfl ?_
  refine AR.op (r := bl false) rfl (aop_move (.inr rfl) rfl) ?_
  refine AR.nil ?_
  refine hK1 _ (AWP.weak (Weak.kp (fr' := [(0, .sl (List.map i64 l_0)), (1, i64 n_1)]) ⟨rfl, rfl, trivial⟩) ?_)
  clear hK1 K1
  refine awp_seqJ (fun (p : Unit) => (⟨[], .empty⟩ : St)) (fun (p : Unit) => G.inquestref16_in_j1 = some r) ?_ ?_
  · rintro ⟨⟩ h
    replace h : G.inquestref16_in_j1 = some r := h
    unfold G.inquestref16_in_j1 at h
    show AWP _ _ _ _ ⟨[], .empty⟩ _
    refine awp_seqK fun K2 hK2 => ?_
    refine awp_reg rfl ?_
    refine AR.op (r := bl false) rfl (aop_move (.inr rfl) rfl) ?_
    refine AR.nil ?_
    refine hK2 _ ?_
    clear hK2 K2
    refine awp_ret ?_
    obtain rfl := Option.some.inj h
    refine ⟨.inr rfl, bl false, rfl, ?_⟩
    exact Weak.re [] [] rfl rfl rfl (trivial) ⟨⟨_, rfl, .same _ (by simp)⟩, trivial⟩
  · intro K3 hK3
    refine awp_seqK fun K4 hK4 => ?_
    refine awp_reg rfl ?_
    refine AR.op (r := i64 0) rfl (aop_move (.inr rfl) rfl) ?_
    refine AR.nil ?_
    refine hK4 _ ?_
    clear hK4 K4
    refine awp_block ?_
    refine awp_iter (fun (p : Int) => G.inquestref16_in_b1 l_0 n_1 p) (fun (p : Int) => (⟨[(0, .sl (List.map i64 l_0)), (1, i64 n_1), (5, i64 p)], .empty⟩ : St)) h (Weak.kp (fr' := [(0, .sl (List.map i64 l_0)), (1, i64 n_1), (5, i64 0)]) ⟨rfl, rfl, rfl, trivial⟩) ?_
    · skip
      rintro i22 o1 h hx1
      replace h : G.inquestref16_in_b1 l_0 n_1 i22 = some o1 := h
      unfold G.inquestref16_in_b1 at h
      show AWP _ _ _ _ ⟨[(0, .sl (List.map i64 l_0)), (1, i64 n_1), (5, i64 i22)], .empty⟩ _
      refine awp_seqK fun K5 hK5 => ?_
      refine awp_seqK fun K6 hK6 => ?_
      refine awp_reg rfl ?_
      refine AR.op (r := i64 i22) rfl (aop_move (.inl rfl) rfl) ?_
      refine AR.op (r := .sl (List.map i64 l_0)) rfl (aop_move (.inl rfl) rfl) ?_
      refine AR.op (r := i64 (Sh.len l_0)) rfl (t_len_sl i64 l_0 rfl rfl el50) ?_
      refine AR.drop (frx := [(0, _), (1, _), (5, _), (6, _), (8, _)]) ⟨rfl, rfl, rfl, rfl, rfl, trivial⟩ ?_
      refine AR.op (r := bl (decide (i22 < (Sh.len l_0)))) rfl (aop_lss rfl rfl rfl) ?_
      refine AR.nil ?_
      refine hK6 _ (AWP.weak (Weak.kp (fr' := [(0, .sl (List.map i64 l_0)), (1, i64 n_1), (5, i64 i22), (9, bl (decide (i22 < (Sh.len l_0))))]) ⟨rfl, rfl, rfl, rfl, trivial⟩) ?_)
      clear hK6 K6
      refine awp_cond rfl (fun hb23 => ?_) (fun hb23 => ?_)
      · replace h := Sh.if_t h hb23
        refine awp_skip ?_
        refine hK5 _ (AWP.weak (Weak.kp (fr' := [(0, .sl (List.map i64 l_0)), (1, i64 n_1), (5, i64 i22)]) ⟨rfl, rfl, rfl, trivial⟩) ?_)
        clear hK5 K5
        refine awp_seqK fun K7 hK7 => ?_
        refine awp_block ?_
        refine awp_seqK fun K8 hK8 => ?_
        refine awp_reg rfl ?_
        refine AR.op (r := .sl (List.map i64 l_0)) rfl (aop_move (.inl rfl) rfl) ?_
        refine AR.op (r := i64 i22) rfl (aop_move (.inl rfl) rfl) ?_
        obtain ⟨x28, hx28, h⟩ := Sh.bind_some' h
        obtain ⟨k29, hi29, hl29⟩ := Sh.idx_some hx28
        refine AR.op rfl (t_index_sl i64 l_0 hi29 hl29 rfl rfl rfl el50 rfl) ?_
        refine AR.drop (frx := [(0, _), (1, _), (5, _), (14, _)]) ⟨rfl, rfl, rfl, rfl, trivial⟩ ?_
        refine AR.op (r := i64 x28) rfl (aop_load_pp rfl rfl sz3 rfl) ?_
        refine AR.op (r := i64 n_1) rfl (aop_move (.inl rfl) rfl) ?_
        refine AR.op (r := bl (decide (x28 = n_1))) rfl (aop_eql rfl rfl rfl) ?_
        refine AR.nil ?_
        refine hK8 _ (AWP.weak (Weak.kp (fr' := [(0, .sl (List.map i64 l_0)), (1, i64 n_1), (5, i64 i22), (17, bl (decide (x28 = n_1)))]) ⟨rfl, rfl, rfl, rfl, trivial⟩) ?_)
        clear hK8 K8
        refine awp_cond rfl (fun hb30 => ?_) (fun hb30 => ?_)
        · replace h := Sh.if_t h hb30
          refine awp_seqK fun K9 hK9 => ?_
          refine awp_reg rfl ?_
          refine AR.op (r := bl true) rfl (aop_move (.inr rfl) rfl) ?_
          refine AR.nil ?_
          refine hK9 _ (AWP.weak (Weak.kp (fr' := [(4, bl true)]) ⟨rfl, trivial⟩) ?_)
          clear hK9 K9
          refine awp_ret ?_
          replace h := Sh.exit_eq h hx1
          obtain rfl := Option.some.inj h
          refine ⟨.inr rfl, bl true, rfl, ?_⟩
          exact Weak.re [] [] rfl rfl rfl (trivial) ⟨⟨_, rfl, .same _ (by simp)⟩, trivial⟩
        · replace h := Sh.if_f h hb30
          refine awp_skip ?_
          refine hK7 _ (AWP.weak (Weak.kp (fr' := [(0, .sl (List.map i64 l_0)), (1, i64 n_1), (5, i64 i22)]) ⟨rfl, rfl, rfl, trivial⟩) ?_)
          clear hK7 K7
          refine awp_reg rfl ?_
          refine AR.op (r := i64 i22) rfl (aop_move (.inl rfl) rfl) ?_
          refine AR.op (r := i64 (w64 (i22 + 1))) rfl (aop_add rfl rfl rfl rfl) ?_
          refine AR.op (r := i64 (w64 (i22 + 1))) rfl (aop_move (.inr rfl) rfl) ?_
          refine AR.nil ?_
          replace h := Sh.next_eq h
          exact ⟨_, h, Weak.re (fr' := [(0, .sl (List.map i64 l_0)), (1, i64 n_1), (5, i64 (w64 (i22 + 1)))]) (H' := .empty) [] [] rfl rfl rfl (trivial) ⟨⟨.sl (List.map i64 l_0), rfl, .same _ (by simp)⟩, ⟨_, rfl, .same _ (by simp)⟩, ⟨_, rfl, .same _ (by simp)⟩, trivial⟩⟩
      · replace h := Sh.if_f h hb23
        refine awp_exit ?_
        replace h := Sh.exit_eq h hx1
        exact hK3 () _ h (Weak.kp (fr' := []) trivial)
theorem inquestref16_in_ok {W0 : World} (hT : Tab W0) {l_0 : List Int} {n_1 : Int} {r : Bool} (h : G.inquestref16_in l_0 n_1 = some r) : Fun1 Tryd.prog W0 63 [.sl (List.map i64 l_0), i64 n_1] (bl r) := Fun1.two (inquestref16_in_ok0 hT h) (by simp)


set_option maxHeartbeats 8000000 in
theorem inquestref16_free_ok0 {W0 : World} (hT : Tab W0) {g_0 : G.inquestref12_G} {l_1 : List Int} {r : Int} (h : G.inquestref16_free g_0 l_1 = some r) : Fun2 Tryd.prog W0 62 [G.inquestref12_G.av g_0, .sl (List.map i64 l_1)] (i64 r) .empty := by
  refine fun2_of_awp Tryd.func62 rfl (by kernel_rfl) Tryd.ntmps62 (by simp) ?_
  unfold G.inquestref16_free at h
  show AWP _ _ _ _ ⟨[(0, G.inquestref12_G.av g_0), (1, .sl (List.map i64 l_1))], .empty⟩ _
  refine awp_seqK fun K1 hK1 => ?_
  refine awp_reg rfl ?_
  refine AR.op (r := .ref 0 0 0) rfl (aop_box 2 [G.inquestref12_G.av g_0] rfl rfl rfl (.inl ⟨rfl, rfl⟩)) ?_
  refine AR.op (r := i64 0) rfl (aop_move (.inr rfl) rfl) ?_
  refine AR.nil ?_
  refine hK1 _ (AWP.weak (Weak.re (fr' := [(1, .sl (List.map i64 l_1)), (2, .ref 0 0 0)]) (H' := ⟨1, [(0, (2, [G.inquestref12_G.av g_0]))]⟩) [(0, 0)] [] rfl rfl rfl (.cons rfl rfl (.one (.same _ (by simp)) rfl) (of_decide_eq_true rfl) (trivial)) ⟨⟨.sl (List.map i64 l_1), rfl, .same _ (by simp)⟩, ⟨_, rfl, .ref rfl⟩, trivial⟩) ?_)
  clear hK1 K1
  refine awp_seqJ (fun (p : Unit) => (⟨[], .empty⟩ : St)) (fun (p : Unit) => G.inquestref16_free_j1 = some r) ?_ ?_
  · rintro ⟨⟩ h
    replace h : G.inquestref16_free_j1 = some r := h
    unfold G.inquestref16_free_j1 at h
    show AWP _ _ _ _ ⟨[], .empty⟩ _
    refine awp_seqK fun K2 hK2 => ?_
    refine awp_reg rfl ?_
    refine AR.op (r := i64 (-1)) rfl (aop_move (.inr rfl) rfl) ?_
    refine AR.nil ?_
    refine hK2 _ ?_
    clear hK2 K2
    refine awp_ret ?_
    obtain rfl := Option.some.inj h
    refine ⟨.inr rfl, i64 (-1), rfl, ?_⟩
    exact Weak.re [] [] rfl rfl rfl (trivial) ⟨⟨_, rfl, .same _ (by simp)⟩, trivial⟩
  · intro K3 hK3
    refine awp_seqK fun K4 hK4 => ?_
    refine awp_reg rfl ?_
    refine AR.op (r := i64 0) rfl (aop_move (.inr rfl) rfl) ?_
    refine AR.nil ?_
    refine hK4 _ ?_
    clear hK4 K4
    refine awp_block ?_
    refine awp_iter (fun (p : Int) => G.inquestref16_free_b1 g_0 l_1 p) (fun (p : Int) => (⟨[(1, .sl (List.map i64 l_1)), (2, .ref 0 0 0), (5, i64 p)], ⟨1, [(0, (2, [G.inquestref12_G.av g_0]))]⟩⟩ : St)) h (Weak.re (fr' := [(1, .sl (List.map i64 l_1)), (2, .ref 0 0 0), (5, i64 0)]) (H' := ⟨1, [(0, (2, [G.inquestref12_G.av g_0]))]⟩) [(0, 0)] [] rfl rfl rfl (.cons rfl rfl (.one (.same _ (by simp)) rfl) (of_decide_eq_true rfl) (trivial)) ⟨⟨.sl (List.map i64 l_1), rfl, .same _ (by simp)⟩, ⟨_, rfl, .ref rfl⟩, ⟨_, rfl, .same _ (by simp)⟩, trivial⟩) ?_
    · skip
      rintro n166 o1 h hx1
      replace h : G.inquestref16_free_b1 g_0 l_1 n166 = some o1 := h
      unfold G.inquestref16_free_b1 at h
      show AWP _ _ _ _ ⟨[(1, .sl (List.map i64 l_1)), (2, .ref 0 0 0), (5, i64 n166)], ⟨1, [(0, (2, [G.inquestref12_G.av g_0]))]⟩⟩ _
      refine awp_seqK fun K5 hK5 => ?_
      refine awp_seqK fun K6 hK6 => ?_
      refine awp_reg rfl ?_
      refine AR.op (r := i64 n166) rfl (aop_move (.inl rfl) rfl) ?_
      refine AR.op rfl (aop_field_ref rfl rfl rfl fd26_0 (by decide)) ?_
      refine AR.op (r := i64 g_0.N) rfl (aop_load_ref rfl rfl rfl rfl sz3 rfl) ?_
      refine AR.drop (frx := [(1, _), (2, _), (5, _), (11, _), (13, _)]) ⟨rfl, rfl, rfl, rfl, rfl, trivial⟩ ?_
      refine AR.op (r := bl (decide (n166 < g_0.N))) rfl (aop_lss rfl rfl rfl) ?_
      refine AR.nil ?_
      refine hK6 _ (AWP.weak (Weak.re (fr' := [(1, .sl (List.map i64 l_1)), (2, .ref 0 0 0), (5, i64 n166), (14, bl (decide (n166 < g_0.N)))]) (H' := ⟨1, [(0, (2, [G.inquestref12_G.av g_0]))]⟩) [(0, 0)] [] rfl rfl rfl (.cons rfl rfl (.one (.same _ (by simp)) rfl) (of_decide_eq_true rfl) (trivial)) ⟨⟨.sl (List.map i64 l_1), rfl, .same _ (by simp)⟩, ⟨_, rfl, .ref rfl⟩, ⟨_, rfl, .same _ (by simp)⟩, ⟨_, rfl, .same _ (by simp)⟩, trivial⟩) ?_)
      clear hK6 K6
      refine awp_cond rfl (fun hb167 => ?_) (fun hb167 => ?_)
      · replace h := Sh.if_t h hb167
        refine awp_skip ?_
        refine hK5 _ (AWP.weak (Weak.re (fr' := [(1, .sl (List.map i64 l_1)), (2, .ref 0 0 0), (5, i64 n166)]) (H' := ⟨1, [(0, (2, [G.inquestref12_G.av g_0]))]⟩) [(0, 0)] [] rfl rfl rfl (.cons rfl rfl (.one (.same _ (by simp)) rfl) (of_decide_eq_true rfl) (trivial)) ⟨⟨.sl (List.map i64 l_1), rfl, .same _ (by simp)⟩, ⟨_, rfl, .ref rfl⟩, ⟨_, rfl, .same _ (by simp)⟩, trivial⟩) ?_)
        clear hK5 K5
        refine awp_seqJ (fun (p : Unit) => (⟨[(1, .sl (List.map i64 l_1)), (2, .ref 0 0 0), (5, i64 n166)], ⟨1, [(0, (2, [G.inquestref12_G.av g_0]))]⟩⟩ : St)) (fun (p : Unit) => G.inquestref16_free_j2 n166 = some o1) ?_ ?_
        · rintro ⟨⟩ h
          replace h : G.inquestref16_free_j2 n166 = some o1 := h
          unfold G.inquestref16_free_j2 at h
          show AWP _ _ _ _ ⟨[(1, .sl (List.map i64 l_1)), (2, .ref 0 0 0), (5, i64 n166)], ⟨1, [(0, (2, [G.inquestref12_G.av g_0]))]⟩⟩ _
          refine awp_reg rfl ?_
          refine AR.op (r := i64 n166) rfl (aop_move (.inl rfl) rfl) ?_
          refine AR.op (r := i64 (w64 (n166 + 1))) rfl (aop_add rfl rfl rfl rfl) ?_
          refine AR.op (r := i64 (w64 (n166 + 1))) rfl (aop_move (.inr rfl) rfl) ?_
          refine AR.nil ?_
          replace h := Sh.next_eq h
          exact ⟨_, h, Weak.re (fr' := [(1, .sl (List.map i64 l_1)), (2, .ref 0 0 0), (5, i64 (w64 (n166 + 1)))]) (H' := ⟨1, [(0, (2, [G.inquestref12_G.av g_0]))]⟩) [(0, 0)] [] rfl rfl rfl (.cons rfl rfl (.one (.same _ (by simp)) rfl) (of_decide_eq_true rfl) (trivial)) ⟨⟨.sl (List.map i64 l_1), rfl, .same _ (by simp)⟩, ⟨_, rfl, .ref rfl⟩, ⟨_, rfl, .same _ (by simp)⟩, trivial⟩⟩
        · intro K7 hK7
          refine awp_block ?_
          refine awp_seqK fun K8 hK8 => ?_
          refine awp_reg rfl ?_
          refine AR.op (r := .sl (List.map i64 l_1)) rfl (aop_move (.inl rfl) rfl) ?_
          refine AR.op (r := i64 n166) rfl (aop_move (.inl rfl) rfl) ?_
          obtain ⟨r189, hr189, h⟩ := Sh.bind_some' h
          refine AR.op (r := bl r189) rfl (aop_call1 rfl rfl (by simp) (inquestref16_in_ok hT hr189)) ?_
          refine AR.drop (frx := [(1, _), (2, _), (5, _), (19, _)]) ⟨rfl, rfl, rfl, rfl, trivial⟩ ?_
          refine AR.op (r := bl r189) rfl (aop_move (.inr rfl) rfl) ?_
          refine AR.nil ?_
          refine hK8 _ (AWP.weak (Weak.re (fr' := [(1, .sl (List.map i64 l_1)), (2, .ref 0 0 0), (5, i64 n166), (6, bl r189)]) (H' := ⟨1, [(0, (2, [G.inquestref12_G.av g_0]))]⟩) [(0, 0)] [] rfl rfl rfl (.cons rfl rfl (.one (.same _ (by simp)) rfl) (of_decide_eq_true rfl) (trivial)) ⟨⟨.sl (List.map i64 l_1), rfl, .same _ (by simp)⟩, ⟨_, rfl, .ref rfl⟩, ⟨_, rfl, .same _ (by simp)⟩, ⟨_, rfl, .same _ (by simp)⟩, trivial⟩) ?_)
          clear hK8 K8
          refine awp_seqK fun K9 hK9 => ?_
          refine awp_seqK fun K10 hK10 => ?_
          refine awp_reg rfl ?_
          refine AR.op (r := bl r189) rfl (aop_move (.inl rfl) rfl) ?_
          refine AR.nil ?_
          refine hK10 _ (AWP.weak (Weak.re (fr' := [(1, .sl (List.map i64 l_1)), (2, .ref 0 0 0), (5, i64 n166), (20, bl r189)]) (H' := ⟨1, [(0, (2, [G.inquestref12_G.av g_0]))]⟩) [(0, 0)] [] rfl rfl rfl (.cons rfl rfl (.one (.same _ (by simp)) rfl) (of_decide_eq_true rfl) (trivial)) ⟨⟨.sl (List.map i64 l_1), rfl, .same _ (by simp)⟩, ⟨_, rfl, .ref rfl⟩, ⟨_, rfl, .same _ (by simp)⟩, ⟨_, rfl, .same _ (by simp)⟩, trivial⟩) ?_)
          clear hK10 K10
          refine awp_cond rfl (fun hb190 => ?_) (fun hb190 => ?_)
          · replace h := Sh.if_t h hb190
            refine awp_exit ?_
            exact hK7 () _ h (Weak.re (fr' := [(1, .sl (List.map i64 l_1)), (2, .ref 0 0 0), (5, i64 n166)]) (H' := ⟨1, [(0, (2, [G.inquestref12_G.av g_0]))]⟩) [(0, 0)] [] rfl rfl rfl (.cons rfl rfl (.one (.same _ (by simp)) rfl) (of_decide_eq_true rfl) (trivial)) ⟨⟨.sl (List.map i64 l_1), rfl, .same _ (by simp)⟩, ⟨_, rfl, .ref rfl⟩, ⟨_, rfl, .same _ (by simp)⟩, trivial⟩)
          · replace h := Sh.if_f h hb190
            refine awp_skip ?_
            refine hK9 _ (AWP.weak (Weak.re (fr' := [(1, .sl (List.map i64 l_1)), (2, .ref 0 0 0), (5, i64 n166)]) (H' := ⟨1, [(0, (2, [G.inquestref12_G.av g_0]))]⟩) [(0, 0)] [] rfl rfl rfl (.cons rfl rfl (.one (.same _ (by simp)) rfl) (of_decide_eq_true rfl) (trivial)) ⟨⟨.sl (List.map i64 l_1), rfl, .same _ (by simp)⟩, ⟨_, rfl, .ref rfl⟩, ⟨_, rfl, .same _ (by simp)⟩, trivial⟩) ?_)
            clear hK9 K9
            refine awp_seqK fun K11 hK11 => ?_
            refine awp_reg rfl ?_
            refine AR.op (r := bl false) rfl (aop_move (.inr rfl) rfl) ?_
            refine AR.nil ?_
            refine hK11 _ ?_
            clear hK11 K11
            refine awp_seqJ (fun (p : Bool) => (⟨[(1, .sl (List.map i64 l_1)), (2, .ref 0 0 0), (5, i64 n166), (7, bl p)], ⟨1, [(0, (2, [G.inquestref12_G.av g_0]))]⟩⟩ : St)) (fun (p : Bool) => G.inquestref16_free_j3 n166 p = some o1) ?_ ?_
            · rintro led210 h
              replace h : G.inquestref16_free_j3 n166 led210 = some o1 := h
              unfold G.inquestref16_free_j3 at h
              show AWP _ _ _ _ ⟨[(1, .sl (List.map i64 l_1)), (2, .ref 0 0 0), (5, i64 n166), (7, bl led210)], ⟨1, [(0, (2, [G.inquestref12_G.av g_0]))]⟩⟩ _
              refine awp_seqK fun K12 hK12 => ?_
              refine awp_reg rfl ?_
              refine AR.op (r := bl led210) rfl (aop_move (.inl rfl) rfl) ?_
              refine AR.op (r := bl (!led210)) rfl (aop_not rfl rfl) ?_
              refine AR.nil ?_
              refine hK12 _ (AWP.weak (Weak.re (fr' := [(1, .sl (List.map i64 l_1)), (2, .ref 0 0 0), (5, i64 n166), (43, bl (!led210))]) (H' := ⟨1, [(0, (2, [G.inquestref12_G.av g_0]))]⟩) [(0, 0)] [] rfl rfl rfl (.cons rfl rfl (.one (.same _ (by simp)) rfl) (of_decide_eq_true rfl) (trivial)) ⟨⟨.sl (List.map i64 l_1), rfl, .same _ (by simp)⟩, ⟨_, rfl, .ref rfl⟩, ⟨_, rfl, .same _ (by simp)⟩, ⟨_, rfl, .same _ (by simp)⟩, trivial⟩) ?_)
              clear hK12 K12
              refine awp_cond rfl (fun hb211 => ?_) (fun hb211 => ?_)
              · replace h := Sh.if_t h hb211
                refine awp_seqK fun K13 hK13 => ?_
                refine awp_reg rfl ?_
                refine AR.op (r := i64 n166) rfl (aop_move (.inl rfl) rfl) ?_
                refine AR.op (r := i64 n166) rfl (aop_move (.inr rfl) rfl) ?_
                refine AR.nil ?_
                refine hK13 _ (AWP.weak (Weak.re (fr' := [(4, i64 n166)]) (H' := .empty) [] [] rfl rfl rfl (trivial) ⟨⟨_, rfl, .same _ (by simp)⟩, trivial⟩) ?_)
                clear hK13 K13
                refine awp_ret ?_
                replace h := Sh.exit_eq h hx1
                obtain rfl := Option.some.inj h
                refine ⟨.inr rfl, i64 n166, rfl, ?_⟩
                exact Weak.re [] [] rfl rfl rfl (trivial) ⟨⟨_, rfl, .same _ (by simp)⟩, trivial⟩
              · replace h := Sh.if_f h hb211
                refine awp_skip ?_
                exact hK7 () _ h (Weak.re (fr' := [(1, .sl (List.map i64 l_1)), (2, .ref 0 0 0), (5, i64 n166)]) (H' := ⟨1, [(0, (2, [G.inquestref12_G.av g_0]))]⟩) [(0, 0)] [] rfl rfl rfl (.cons rfl rfl (.one (.same _ (by simp)) rfl) (of_decide_eq_true rfl) (trivial)) ⟨⟨.sl (List.map i64 l_1), rfl, .same _ (by simp)⟩, ⟨_, rfl, .ref rfl⟩, ⟨_, rfl, .same _ (by simp)⟩, trivial⟩)
            · intro K14 hK14
              refine awp_seqK fun K15 hK15 => ?_
              refine awp_reg rfl ?_
              refine AR.op (r := i64 0) rfl (aop_move (.inr rfl) rfl) ?_
              refine AR.nil ?_
              refine hK15 _ ?_
              clear hK15 K15
              refine awp_block ?_
              refine awp_iter (fun (p : Bool × Int) => G.inquestref16_free_b2 g_0 l_1 n166 p.1 p.2) (fun (p : Bool × Int) => (⟨[(1, .sl (List.map i64 l_1)), (2, .ref 0 0 0), (5, i64 n166), (7, bl p.1), (8, i64 p.2)], ⟨1, [(0, (2, [G.inquestref12_G.av g_0]))]⟩⟩ : St)) h (Weak.re (fr' := [(1, .sl (List.map i64 l_1)), (2, .ref 0 0 0), (5, i64 n166), (7, bl false), (8, i64 0)]) (H' := ⟨1, [(0, (2, [G.inquestref12_G.av g_0]))]⟩) [(0, 0)] [] rfl rfl rfl (.cons rfl rfl (.one (.same _ (by simp)) rfl) (of_decide_eq_true rfl) (trivial)) ⟨⟨.sl (List.map i64 l_1), rfl, .same _ (by simp)⟩, ⟨_, rfl, .ref rfl⟩, ⟨_, rfl, .same _ (by simp)⟩, ⟨_, rfl, .same _ (by simp)⟩, ⟨_, rfl, .same _ (by simp)⟩, trivial⟩) ?_
              · skip
                rintro ⟨led224, x225⟩ o2 h hx2
                replace h : G.inquestref16_free_b2 g_0 l_1 n166 led224 x225 = some o2 := h
                unfold G.inquestref16_free_b2 at h
                show AWP _ _ _ _ ⟨[(1, .sl (List.map i64 l_1)), (2, .ref 0 0 0), (5, i64 n166), (7, bl led224), (8, i64 x225)], ⟨1, [(0, (2, [G.inquestref12_G.av g_0]))]⟩⟩ _
                refine awp_seqK fun K16 hK16 => ?_
                refine awp_seqK fun K17 hK17 => ?_
                refine awp_reg rfl ?_
                refine AR.op (r := i64 x225) rfl (aop_move (.inl rfl) rfl) ?_
                refine AR.op rfl (aop_field_ref rfl rfl rfl fd26_0 (by decide)) ?_
                refine AR.op (r := i64 g_0.N) rfl (aop_load_ref rfl rfl rfl rfl sz3 rfl) ?_
                refine AR.drop (frx := [(1, _), (2, _), (5, _), (7, _), (8, _), (21, _), (23, _)]) ⟨rfl, rfl, rfl, rfl, rfl, rfl, rfl, trivial⟩ ?_
                refine AR.op (r := bl (decide (x225 < g_0.N))) rfl (aop_lss rfl rfl rfl) ?_
                refine AR.nil ?_
                refine hK17 _ (AWP.weak (Weak.re (fr' := [(1, .sl (List.map i64 l_1)), (2, .ref 0 0 0), (5, i64 n166), (7, bl led224), (8, i64 x225), (24, bl (decide (x225 < g_0.N)))]) (H' := ⟨1, [(0, (2, [G.inquestref12_G.av g_0]))]⟩) [(0, 0)] [] rfl rfl rfl (.cons rfl rfl (.one (.same _ (by simp)) rfl) (of_decide_eq_true rfl) (trivial)) ⟨⟨.sl (List.map i64 l_1), rfl, .same _ (by simp)⟩, ⟨_, rfl, .ref rfl⟩, ⟨_, rfl, .same _ (by simp)⟩, ⟨_, rfl, .same _ (by simp)⟩, ⟨_, rfl, .same _ (by simp)⟩, ⟨_, rfl, .same _ (by simp)⟩, trivial⟩) ?_)
                clear hK17 K17
                refine awp_cond rfl (fun hb226 => ?_) (fun hb226 => ?_)
                · replace h := Sh.if_t h hb226
                  refine awp_skip ?_
                  refine hK16 _ (AWP.weak (Weak.re (fr' := [(1, .sl (List.map i64 l_1)), (2, .ref 0 0 0), (5, i64 n166), (7, bl led224), (8, i64 x225)]) (H' := ⟨1, [(0, (2, [G.inquestref12_G.av g_0]))]⟩) [(0, 0)] [] rfl rfl rfl (.cons rfl rfl (.one (.same _ (by simp)) rfl) (of_decide_eq_true rfl) (trivial)) ⟨⟨.sl (List.map i64 l_1), rfl, .same _ (by simp)⟩, ⟨_, rfl, .ref rfl⟩, ⟨_, rfl, .same _ (by simp)⟩, ⟨_, rfl, .same _ (by simp)⟩, ⟨_, rfl, .same _ (by simp)⟩, trivial⟩) ?_)
                  clear hK16 K16
                  refine awp_seqJ (fun (p : Bool) => (⟨[(1, .sl (List.map i64 l_1)), (2, .ref 0 0 0), (5, i64 n166), (8, i64 x225), (36, .any), (37, .any), (38, .any), (39, .any), (40, .any), (7, bl p)], ⟨1, [(0, (2, [G.inquestref12_G.av g_0]))]⟩⟩ : St)) (fun (p : Bool) => G.inquestref16_free_j4 x225 p = some o2) ?_ ?_
                  · rintro led231 h
                    replace h : G.inquestref16_free_j4 x225 led231 = some o2 := h
                    unfold G.inquestref16_free_j4 at h
                    show AWP _ _ _ _ ⟨[(1, .sl (List.map i64 l_1)), (2, .ref 0 0 0), (5, i64 n166), (8, i64 x225), (36, .any), (37, .any), (38, .any), (39, .any), (40, .any), (7, bl led231)], ⟨1, [(0, (2, [G.inquestref12_G.av g_0]))]⟩⟩ _
                    refine awp_reg rfl ?_
                    refine AR.op (r := i64 x225) rfl (aop_move (.inl rfl) rfl) ?_
                    refine AR.op (r := i64 (w64 (x225 + 1))) rfl (aop_add rfl rfl rfl rfl) ?_
                    refine AR.op (r := i64 (w64 (x225 + 1))) rfl (aop_move (.inr rfl) rfl) ?_
                    refine AR.nil ?_
                    replace h := Sh.next_eq h
                    exact ⟨_, h, Weak.re (fr' := [(1, .sl (List.map i64 l_1)), (2, .ref 0 0 0), (5, i64 n166), (7, bl led231), (8, i64 (w64 (x225 + 1)))]) (H' := ⟨1, [(0, (2, [G.inquestref12_G.av g_0]))]⟩) [(0, 0)] [] rfl rfl rfl (.cons rfl rfl (.one (.same _ (by simp)) rfl) (of_decide_eq_true rfl) (trivial)) ⟨⟨.sl (List.map i64 l_1), rfl, .same _ (by simp)⟩, ⟨_, rfl, .ref rfl⟩, ⟨_, rfl, .same _ (by simp)⟩, ⟨_, rfl, .same _ (by simp)⟩, ⟨_, rfl, .same _ (by simp)⟩, trivial⟩⟩
                  · intro K18 hK18
                    refine awp_block ?_
                    refine awp_seqK fun K19 hK19 => ?_
                    refine awp_reg rfl ?_
                    refine AR.op (r := .sl (List.map i64 l_1)) rfl (aop_move (.inl rfl) rfl) ?_
                    refine AR.op (r := i64 x225) rfl (aop_move (.inl rfl) rfl) ?_
                    obtain ⟨r233, hr233, h⟩ := Sh.bind_some' h
                    refine AR.op (r := bl r233) rfl (aop_call1 rfl rfl (by simp) (inquestref16_in_ok hT hr233)) ?_
                    refine AR.drop (frx := [(1, _), (2, _), (5, _), (7, _), (8, _), (29, _)]) ⟨rfl, rfl, rfl, rfl, rfl, rfl, trivial⟩ ?_
                    refine AR.op (r := bl r233) rfl (aop_move (.inr rfl) rfl) ?_
                    refine AR.nil ?_
                    refine hK19 _ (AWP.weak (Weak.re (fr' := [(1, .sl (List.map i64 l_1)), (2, .ref 0 0 0), (5, i64 n166), (7, bl led224), (8, i64 x225), (9, bl r233)]) (H' := ⟨1, [(0, (2, [G.inquestref12_G.av g_0]))]⟩) [(0, 0)] [] rfl rfl rfl (.cons rfl rfl (.one (.same _ (by simp)) rfl) (of_decide_eq_true rfl) (trivial)) ⟨⟨.sl (List.map i64 l_1), rfl, .same _ (by simp)⟩, ⟨_, rfl, .ref rfl⟩, ⟨_, rfl, .same _ (by simp)⟩, ⟨_, rfl, .same _ (by simp)⟩, ⟨_, rfl, .same _ (by simp)⟩, ⟨_, rfl, .same _ (by simp)⟩, trivial⟩) ?_)
                    clear hK19 K19
                    refine awp_seqK fun K20 hK20 => ?_
                    refine awp_reg rfl ?_
                    refine AR.op (r := G.inquestref12_G.av g_0) rfl (aop_load_ref rfl rfl rfl rfl sz26 rfl) ?_
                    refine AR.op (r := i64 x225) rfl (aop_move (.inl rfl) rfl) ?_
                    refine AR.op (r := i64 n166) rfl (aop_move (.inl rfl) rfl) ?_
                    refine AR.drop (frx := [(1, _), (2, _), (5, _), (7, _), (8, _), (9, _), (30, _), (31, _), (32, _)]) ⟨rfl, rfl, rfl, rfl, rfl, rfl, rfl, rfl, rfl, trivial⟩ ?_
                    obtain ⟨r235, hr235, h⟩ := Sh.bind_some' h
                    refine AR.op (r := bl r235) rfl (aop_call1 rfl rfl (by simp) (inquestref12_Has_ok hT hr235)) ?_
                    refine AR.op (r := bl r235) rfl (aop_move (.inr rfl) rfl) ?_
                    refine AR.nil ?_
                    refine hK20 _ (AWP.weak (Weak.re (fr' := [(1, .sl (List.map i64 l_1)), (2, .ref 0 0 0), (5, i64 n166), (7, bl led224), (8, i64 x225), (9, bl r233), (10, bl r235)]) (H' := ⟨1, [(0, (2, [G.inquestref12_G.av g_0]))]⟩) [(0, 0)] [] rfl rfl rfl (.cons rfl rfl (.one (.same _ (by simp)) rfl) (of_decide_eq_true rfl) (trivial)) ⟨⟨.sl (List.map i64 l_1), rfl, .same _ (by simp)⟩, ⟨_, rfl, .ref rfl⟩, ⟨_, rfl, .same _ (by simp)⟩, ⟨_, rfl, .same _ (by simp)⟩, ⟨_, rfl, .same _ (by simp)⟩, ⟨_, rfl, .same _ (by simp)⟩, ⟨_, rfl, .same _ (by simp)⟩, trivial⟩) ?_)
                    clear hK20 K20
                    refine awp_reg rfl ?_
                    refine AR.op (r := bl led224) rfl (aop_move (.inl rfl) rfl) ?_
                    refine AR.op (r := bl led224) rfl (aop_move (.inl rfl) rfl) ?_
                    rcases Bool.eq_false_or_eq_true (led224) with hb236 | hb236
                    · rw [hb236]
                      replace h := Sh.if_t h hb236
                      refine AR.skip rfl ?_
                      refine AR.drop (frx := [(1, _), (2, _), (5, _), (8, _), (9, _), (35, _), (36, _)]) ⟨rfl, rfl, rfl, rfl, rfl, rfl, rfl, trivial⟩ ?_
                      refine AR.skip rfl ?_
                      refine AR.skip rfl ?_
                      refine AR.skip rfl ?_
                      refine AR.drop (frx := [(1, _), (2, _), (5, _), (8, _), (35, _), (36, _), (37, _), (38, _), (39, _)]) ⟨rfl, rfl, rfl, rfl, rfl, rfl, rfl, rfl, rfl, trivial⟩ ?_
                      refine AR.skip rfl ?_
                      refine AR.op (r := bl true) rfl (aop_pick rfl rfl rfl) ?_
                      refine AR.op (r := bl true) rfl (aop_move (.inr rfl) rfl) ?_
                      refine AR.nil ?_
                      exact hK18 true _ h (Weak.re (fr' := [(1, .sl (List.map i64 l_1)), (2, .ref 0 0 0), (5, i64 n166), (8, i64 x225), (36, .any), (37, .any), (38, .any), (39, .any), (40, .any), (7, bl true)]) (H' := ⟨1, [(0, (2, [G.inquestref12_G.av g_0]))]⟩) [(0, 0)] [] rfl rfl rfl (.cons rfl rfl (.one (.same _ (by simp)) rfl) (of_decide_eq_true rfl) (trivial)) ⟨⟨.sl (List.map i64 l_1), rfl, .same _ (by simp)⟩, ⟨_, rfl, .ref rfl⟩, ⟨_, rfl, .same _ (by simp)⟩, ⟨_, rfl, .same _ (by simp)⟩, ⟨_, rfl, .any _⟩, ⟨_, rfl, .any _⟩, ⟨_, rfl, .any _⟩, ⟨_, rfl, .any _⟩, ⟨_, rfl, .any _⟩, ⟨_, rfl, .same _ (by simp)⟩, trivial⟩)
                    · rw [hb236]
                      replace h := Sh.if_f h hb236
                      refine AR.op (r := bl r235) rfl (aop_move (.inl rfl) rfl) ?_
                      refine AR.drop (frx := [(1, _), (2, _), (5, _), (8, _), (9, _), (35, _), (36, _)]) ⟨rfl, rfl, rfl, rfl, rfl, rfl, rfl, trivial⟩ ?_
                      refine AR.op (r := bl r235) rfl (aop_move (.inl rfl) rfl) ?_
                      rcases Bool.eq_false_or_eq_true (r235) with hb237 | hb237
                      · rw [hb237]
                        replace h := Sh.if_t h hb237
                        refine AR.op (r := bl r233) rfl (aop_move (.inl rfl) rfl) ?_
                        refine AR.op (r := bl (!r233)) rfl (aop_not rfl rfl) ?_
                        refine AR.drop (frx := [(1, _), (2, _), (5, _), (8, _), (35, _), (36, _), (37, _), (38, _), (39, _)]) ⟨rfl, rfl, rfl, rfl, rfl, rfl, rfl, rfl, rfl, trivial⟩ ?_
                        refine AR.op (r := bl (!r233)) rfl (aop_pick rfl rfl rfl) ?_
                        refine AR.op (r := bl (!r233)) rfl (aop_pick rfl rfl rfl) ?_
                        refine AR.op (r := bl (!r233)) rfl (aop_move (.inr rfl) rfl) ?_
                        refine AR.nil ?_
                        exact hK18 (!r233) _ h (Weak.re (fr' := [(1, .sl (List.map i64 l_1)), (2, .ref 0 0 0), (5, i64 n166), (8, i64 x225), (36, .any), (37, .any), (38, .any), (39, .any), (40, .any), (7, bl (!r233))]) (H' := ⟨1, [(0, (2, [G.inquestref12_G.av g_0]))]⟩) [(0, 0)] [] rfl rfl rfl (.cons rfl rfl (.one (.same _ (by simp)) rfl) (of_decide_eq_true rfl) (trivial)) ⟨⟨.sl (List.map i64 l_1), rfl, .same _ (by simp)⟩, ⟨_, rfl, .ref rfl⟩, ⟨_, rfl, .same _ (by simp)⟩, ⟨_, rfl, .same _ (by simp)⟩, ⟨_, rfl, .any _⟩, ⟨_, rfl, .any _⟩, ⟨_, rfl, .any _⟩, ⟨_, rfl, .any _⟩, ⟨_, rfl, .any _⟩, ⟨_, rfl, .same _ (by simp)⟩, trivial⟩)
                      · rw [hb237]
                        replace h := Sh.if_f h hb237
                        refine AR.skip rfl ?_
                        refine AR.skip rfl ?_
                        refine AR.drop (frx := [(1, _), (2, _), (5, _), (8, _), (35, _), (36, _), (37, _), (38, _), (39, _)]) ⟨rfl, rfl, rfl, rfl, rfl, rfl, rfl, rfl, rfl, trivial⟩ ?_
                        refine AR.op (r := bl false) rfl (aop_pick rfl rfl rfl) ?_
                        refine AR.op (r := bl false) rfl (aop_pick rfl rfl rfl) ?_
                        refine AR.op (r := bl false) rfl (aop_move (.inr rfl) rfl) ?_
                        refine AR.nil ?_
                        exact hK18 false _ h (Weak.re (fr' := [(1, .sl (List.map i64 l_1)), (2, .ref 0 0 0), (5, i64 n166), (8, i64 x225), (36, .any), (37, .any), (38, .any), (39, .any), (40, .any), (7, bl false)]) (H' := ⟨1, [(0, (2, [G.inquestref12_G.av g_0]))]⟩) [(0, 0)] [] rfl rfl rfl (.cons rfl rfl (.one (.same _ (by simp)) rfl) (of_decide_eq_true rfl) (trivial)) ⟨⟨.sl (List.map i64 l_1), rfl, .same _ (by simp)⟩, ⟨_, rfl, .ref rfl⟩, ⟨_, rfl, .same _ (by simp)⟩, ⟨_, rfl, .same _ (by simp)⟩, ⟨_, rfl, .any _⟩, ⟨_, rfl, .any _⟩, ⟨_, rfl, .any _⟩, ⟨_, rfl, .any _⟩, ⟨_, rfl, .any _⟩, ⟨_, rfl, .same _ (by simp)⟩, trivial⟩)
                · replace h := Sh.if_f h hb226
                  refine awp_exit ?_
                  replace h := Sh.exit_eq h hx2
                  exact hK14 led224 _ h (Weak.re (fr' := [(1, .sl (List.map i64 l_1)), (2, .ref 0 0 0), (5, i64 n166), (7, bl led224)]) (H' := ⟨1, [(0, (2, [G.inquestref12_G.av g_0]))]⟩) [(0, 0)] [] rfl rfl rfl (.cons rfl rfl (.one (.same _ (by simp)) rfl) (of_decide_eq_true rfl) (trivial)) ⟨⟨.sl (List.map i64 l_1), rfl, .same _ (by simp)⟩, ⟨_, rfl, .ref rfl⟩, ⟨_, rfl, .same _ (by simp)⟩, ⟨_, rfl, .same _ (by simp)⟩, trivial⟩)
      · replace h := Sh.if_f h hb167
        refine awp_exit ?_
        replace h := Sh.exit_eq h hx1
        exact hK3 () _ h (Weak.re (fr' := []) (H' := .empty) [] [] rfl rfl rfl (trivial) trivial)
theorem inquestref16_free_ok {W0 : World} (hT : Tab W0) {g_0 : G.inquestref12_G} {l_1 : List Int} {r : Int} (h : G.inquestref16_free g_0 l_1 = some r) : Fun1 Tryd.prog W0 62 [G.inquestref12_G.av g_0, .sl (List.map i64 l_1)] (i64 r) := Fun1.two (inquestref16_free_ok0 hT h) (by simp)


set_option maxHeartbeats 8000000 in
theorem inquestref16_Order_own {W0 : World} (hT : Tab W0) {g_0 : G.inquestref12_G} {r : (List Int) × Bool} (h : G.inquestref16_Order g_0 = some r) : Fun2 Tryd.prog W0 45 [G.inquestref12_G.av g_0] (.tuple [.view 0 0 (List.map i64 r.1).length, bl r.2]) ⟨1, [(0, (1, List.map i64 r.1))]⟩ := by
  refine fun2_of_awp Tryd.func45 rfl (by kernel_rfl) Tryd.ntmps45 (by simp) ?_
  unfold G.inquestref16_Order at h
  show AWP _ _ _ _ ⟨[(0, G.inquestref12_G.av g_0)], .empty⟩ _
  refine awp_seqK fun K1 hK1 => ?_
  refine awp_reg rfl ?_
  refine AR.op (r := .ref 0 0 0) rfl (aop_box 2 [G.inquestref12_G.av g_0] rfl rfl rfl (.inl ⟨rfl, rfl⟩)) ?_
  refine AR.op (r := nilS) rfl (aop_move (.inr rfl) rfl) ?_
  refine AR.op (r := bl false) rfl (aop_move (.inr rfl) rfl) ?_
  refine AR.nil ?_
  refine hK1 _ (AWP.weak (Weak.re (fr' := [(1, .ref 0 0 0)]) (H' := ⟨1, [(0, (2, [G.inquestref12_G.av g_0]))]⟩) [(0, 0)] [] rfl rfl rfl (.cons rfl rfl (.one (.same _ (by simp)) rfl) (of_decide_eq_true rfl) (trivial)) ⟨⟨_, rfl, .ref rfl⟩, trivial⟩) ?_)
  clear hK1 K1
  refine awp_seqK fun K2 hK2 => ?_
  refine awp_reg rfl ?_
  refine AR.op (r := G.inquestref12_G.av g_0) rfl (aop_load_ref rfl rfl rfl rfl sz26 rfl) ?_
  obtain ⟨r11, hr11, h⟩ := Sh.bind_some' h
  refine AR.op (r := bl r11) rfl (aop_call1 rfl rfl (by simp) (inquestref12_Right_ok hT hr11)) ?_
  refine AR.op (r := bl r11) rfl (aop_move (.inr rfl) rfl) ?_
  refine AR.nil ?_
  refine hK2 _ (AWP.weak (Weak.re (fr' := [(1, .ref 0 0 0), (4, bl r11)]) (H' := ⟨1, [(0, (2, [G.inquestref12_G.av g_0]))]⟩) [(0, 0)] [] rfl rfl rfl (.cons rfl rfl (.one (.same _ (by simp)) rfl) (of_decide_eq_true rfl) (trivial)) ⟨⟨_, rfl, .ref rfl⟩, ⟨_, rfl, .same _ (by simp)⟩, trivial⟩) ?_)
  clear hK2 K2
  refine awp_seqK fun K3 hK3 => ?_
  refine awp_seqK fun K4 hK4 => ?_
  refine awp_reg rfl ?_
  refine AR.op (r := bl r11) rfl (aop_move (.inl rfl) rfl) ?_
  refine AR.op (r := bl (!r11)) rfl (aop_not rfl rfl) ?_
  refine AR.nil ?_
  refine hK4 _ (AWP.weak (Weak.re (fr' := [(1, .ref 0 0 0), (10, bl (!r11))]) (H' := ⟨1, [(0, (2, [G.inquestref12_G.av g_0]))]⟩) [(0, 0)] [] rfl rfl rfl (.cons rfl rfl (.one (.same _ (by simp)) rfl) (of_decide_eq_true rfl) (trivial)) ⟨⟨_, rfl, .ref rfl⟩, ⟨_, rfl, .same _ (by simp)⟩, trivial⟩) ?_)
  clear hK4 K4
  refine awp_cond rfl (fun hb12 => ?_) (fun hb12 => ?_)
  · replace h := Sh.if_t h hb12
    refine awp_seqK fun K5 hK5 => ?_
    refine awp_reg rfl ?_
    refine AR.op (r := nilS) rfl (aop_move (.inr rfl) rfl) ?_
    refine AR.op (r := bl false) rfl (aop_move (.inr rfl) rfl) ?_
    refine AR.nil ?_
    refine hK5 _ (AWP.weak (Weak.re (fr' := [(2, nilS), (3, bl false)]) (H' := .empty) [] [] rfl rfl rfl (trivial) ⟨⟨_, rfl, .same _ (by simp)⟩, ⟨_, rfl, .same _ (by simp)⟩, trivial⟩) ?_)
    clear hK5 K5
    refine awp_ret ?_
    obtain rfl := Option.some.inj h
    refine ⟨.inr rfl, .tuple [nilS, bl false], rfl, ?_⟩
    exact Weak.re [] [0] rfl rfl rfl (.fresh (by simp) (of_decide_eq_true rfl) (trivial)) ⟨⟨.tuple [nilS, bl false], rfl, .tp ⟨.nil (by simp), .same _ (by simp), trivial⟩⟩, trivial⟩
  · replace h := Sh.if_f h hb12
    refine awp_skip ?_
    refine hK3 _ (AWP.weak (Weak.re (fr' := [(1, .ref 0 0 0)]) (H' := ⟨1, [(0, (2, [G.inquestref12_G.av g_0]))]⟩) [(0, 0)] [] rfl rfl rfl (.cons rfl rfl (.one (.same _ (by simp)) rfl) (of_decide_eq_true rfl) (trivial)) ⟨⟨_, rfl, .ref rfl⟩, trivial⟩) ?_)
    clear hK3 K3
    refine awp_seqK fun K6 hK6 => ?_
    refine awp_reg rfl ?_
    refine AR.op (r := nilS) rfl (aop_move (.inr rfl) rfl) ?_
    refine AR.nil ?_
    refine hK6 _ ?_
    clear hK6 K6
    refine awp_seqJ (fun (p : (List Int)) => (⟨[(5, .view 0 0 (List.map i64 p).length)], ⟨1, [(0, (1, List.map i64 p))]⟩⟩ : St)) (fun (p : (List Int)) => G.inquestref16_Order_j1 p = some r) ?_ ?_
    · rintro out21 h
      replace h : G.inquestref16_Order_j1 out21 = some r := h
      unfold G.inquestref16_Order_j1 at h
      show AWP _ _ _ _ ⟨[(5, .view 0 0 (List.map i64 out21).length)], ⟨1, [(0, (1, List.map i64 out21))]⟩⟩ _
      refine awp_seqK fun K7 hK7 => ?_
      refine awp_reg rfl ?_
      refine AR.op (r := .view 0 0 (List.map i64 out21).length) rfl (aop_move (.inl rfl) rfl) ?_
      refine AR.op (r := .view 0 0 (List.map i64 out21).length) rfl (aop_move (.inr rfl) rfl) ?_
      refine AR.op (r := bl true) rfl (aop_move (.inr rfl) rfl) ?_
      refine AR.nil ?_
      refine hK7 _ (AWP.weak (Weak.re (fr' := [(2, .view 0 0 (List.map i64 out21).length), (3, bl true)]) (H' := ⟨1, [(0, (1, List.map i64 out21))]⟩) [(0, 0)] [] rfl rfl rfl (.cons rfl rfl (.same (by simp)) (of_decide_eq_true rfl) (trivial)) ⟨⟨_, rfl, .view rfl⟩, ⟨_, rfl, .same _ (by simp)⟩, trivial⟩) ?_)
      clear hK7 K7
      refine awp_ret ?_
      obtain rfl := Option.some.inj h
      refine ⟨.inr rfl, .tuple [.view 0 0 (List.map i64 out21).length, bl true], rfl, ?_⟩
      exact Weak.re [(0, 0)] [] rfl rfl rfl (.cons rfl rfl (.same (by simp)) (of_decide_eq_true rfl) (trivial)) ⟨⟨.tuple [.view 0 0 (List.map i64 out21).length, bl true], rfl, .tp ⟨.view rfl, .same _ (by simp), trivial⟩⟩, trivial⟩
    · intro K8 hK8
      refine awp_block ?_
      refine awp_iter (fun (p : (List Int)) => G.inquestref16_Order_b1 g_0 p) (fun (p : (List Int)) => (⟨[(1, .ref 0 0 0), (5, .view 1 0 (List.map i64 p).length)], ⟨2, [(0, (2, [G.inquestref12_G.av g_0])), (1, (1, List.map i64 p))]⟩⟩ : St)) h (Weak.re (fr' := [(1, .ref 0 0 0), (5, .view 1 0 (List.map i64 []).length)]) (H' := ⟨2, [(0, (2, [G.inquestref12_G.av g_0])), (1, (1, List.map i64 []))]⟩) [(0, 0)] [1] rfl rfl rfl (.cons rfl rfl (.one (.same _ (by simp)) rfl) (of_decide_eq_true rfl) (.fresh (by simp) (of_decide_eq_true rfl) (trivial))) ⟨⟨_, rfl, .ref rfl⟩, ⟨_, rfl, .nil (by simp)⟩, trivial⟩) ?_
      · skip
        rintro out27 o1 h hx1
        replace h : G.inquestref16_Order_b1 g_0 out27 = some o1 := h
        unfold G.inquestref16_Order_b1 at h
        show AWP _ _ _ _ ⟨[(1, .ref 0 0 0), (5, .view 1 0 (List.map i64 out27).length)], ⟨2, [(0, (2, [G.inquestref12_G.av g_0])), (1, (1, List.map i64 out27))]⟩⟩ _
        refine awp_seqK fun K9 hK9 => ?_
        refine awp_seqK fun K10 hK10 => ?_
        refine awp_reg rfl ?_
        refine AR.op (r := .view 1 0 (List.map i64 out27).length) rfl (aop_move (.inl rfl) rfl) ?_
        refine AR.op (r := i64 (Sh.len out27)) rfl (t_len_view i64 out27 rfl rfl rfl rfl el50) ?_
        refine AR.op rfl (aop_field_ref rfl rfl rfl fd26_0 (by decide)) ?_
        refine AR.drop (frx := [(1, _), (5, _), (12, _), (13, _)]) ⟨rfl, rfl, rfl, rfl, trivial⟩ ?_
        refine AR.op (r := i64 g_0.N) rfl (aop_load_ref rfl rfl rfl rfl sz3 rfl) ?_
        refine AR.op (r := bl (decide ((Sh.len out27) < g_0.N))) rfl (aop_lss rfl rfl rfl) ?_
        refine AR.nil ?_
        refine hK10 _ (AWP.weak (Weak.re (fr' := [(1, .ref 0 0 0), (5, .view 1 0 (List.map i64 out27).length), (15, bl (decide ((Sh.len out27) < g_0.N)))]) (H' := ⟨2, [(0, (2, [G.inquestref12_G.av g_0])), (1, (1, List.map i64 out27))]⟩) [(0, 0), (1, 1)] [] rfl rfl rfl (.cons rfl rfl (.one (.same _ (by simp)) rfl) (of_decide_eq_true rfl) (.cons rfl rfl (.same (by simp)) (of_decide_eq_true rfl) (trivial))) ⟨⟨_, rfl, .ref rfl⟩, ⟨_, rfl, .view rfl⟩, ⟨_, rfl, .same _ (by simp)⟩, trivial⟩) ?_)
        clear hK10 K10
        refine awp_cond rfl (fun hb28 => ?_) (fun hb28 => ?_)
        · replace h := Sh.if_t h hb28
          refine awp_skip ?_
          refine hK9 _ (AWP.weak (Weak.re (fr' := [(1, .ref 0 0 0), (5, .view 1 0 (List.map i64 out27).length)]) (H' := ⟨2, [(0, (2, [G.inquestref12_G.av g_0])), (1, (1, List.map i64 out27))]⟩) [(0, 0), (1, 1)] [] rfl rfl rfl (.cons rfl rfl (.one (.same _ (by simp)) rfl) (of_decide_eq_true rfl) (.cons rfl rfl (.same (by simp)) (of_decide_eq_true rfl) (trivial))) ⟨⟨_, rfl, .ref rfl⟩, ⟨_, rfl, .view rfl⟩, trivial⟩) ?_)
          clear hK9 K9
          refine awp_block ?_
          refine awp_seqK fun K11 hK11 => ?_
          refine awp_reg rfl ?_
          refine AR.op (r := G.inquestref12_G.av g_0) rfl (aop_load_ref rfl rfl rfl rfl sz26 rfl) ?_
          refine AR.op (r := .view 1 0 (List.map i64 out27).length) rfl (aop_move (.inl rfl) rfl) ?_
          obtain ⟨r30, hr30, h⟩ := Sh.bind_some' h
          refine AR.op (r := i64 r30) rfl (aop_callL rfl (ys := [G.inquestref12_G.av g_0, .view 1 0 (List.map i64 out27).length]) (xs := [G.inquestref12_G.av g_0, .sl (List.map i64 out27)]) rfl (Weak.re (fr' := argsFr 0 [G.inquestref12_G.av g_0, .sl (List.map i64 out27)]) (H' := .empty) [] [] rfl rfl rfl trivial ⟨⟨G.inquestref12_G.av g_0, rfl, .same _ (by simp)⟩, ⟨_, rfl, .lendAll rfl rfl (by simp)⟩, trivial⟩) rfl (inquestref16_free_ok hT hr30) (by simp)) ?_
          refine AR.drop (frx := [(1, _), (5, _), (18, _)]) ⟨rfl, rfl, rfl, trivial⟩ ?_
          refine AR.op (r := i64 r30) rfl (aop_move (.inr rfl) rfl) ?_
          refine AR.nil ?_
          refine hK11 _ (AWP.weak (Weak.re (fr' := [(1, .ref 0 0 0), (5, .view 1 0 (List.map i64 out27).length), (6, i64 r30)]) (H' := ⟨2, [(0, (2, [G.inquestref12_G.av g_0])), (1, (1, List.map i64 out27))]⟩) [(0, 0), (1, 1)] [] rfl rfl rfl (.cons rfl rfl (.one (.same _ (by simp)) rfl) (of_decide_eq_true rfl) (.cons rfl rfl (.same (by simp)) (of_decide_eq_true rfl) (trivial))) ⟨⟨_, rfl, .ref rfl⟩, ⟨_, rfl, .view rfl⟩, ⟨_, rfl, .same _ (by simp)⟩, trivial⟩) ?_)
          clear hK11 K11
          refine awp_seqK fun K12 hK12 => ?_
          refine awp_seqK fun K13 hK13 => ?_
          refine awp_reg rfl ?_
          refine AR.op (r := i64 r30) rfl (aop_move (.inl rfl) rfl) ?_
          refine AR.op (r := bl (decide (r30 < 0))) rfl (aop_lss rfl rfl rfl) ?_
          refine AR.nil ?_
          refine hK13 _ (AWP.weak (Weak.re (fr' := [(1, .ref 0 0 0), (5, .view 1 0 (List.map i64 out27).length), (6, i64 r30), (20, bl (decide (r30 < 0)))]) (H' := ⟨2, [(0, (2, [G.inquestref12_G.av g_0])), (1, (1, List.map i64 out27))]⟩) [(0, 0), (1, 1)] [] rfl rfl rfl (.cons rfl rfl (.one (.same _ (by simp)) rfl) (of_decide_eq_true rfl) (.cons rfl rfl (.same (by simp)) (of_decide_eq_true rfl) (trivial))) ⟨⟨_, rfl, .ref rfl⟩, ⟨_, rfl, .view rfl⟩, ⟨_, rfl, .same _ (by simp)⟩, ⟨_, rfl, .same _ (by simp)⟩, trivial⟩) ?_)
          clear hK13 K13
          refine awp_cond rfl (fun hb31 => ?_) (fun hb31 => ?_)
          · replace h := Sh.if_t h hb31
            refine awp_seqK fun K14 hK14 => ?_
            refine awp_reg rfl ?_
            refine AR.op (r := nilS) rfl (aop_move (.inr rfl) rfl) ?_
            refine AR.op (r := bl false) rfl (aop_move (.inr rfl) rfl) ?_
            refine AR.nil ?_
            refine hK14 _ (AWP.weak (Weak.re (fr' := [(2, nilS), (3, bl false)]) (H' := .empty) [] [] rfl rfl rfl (trivial) ⟨⟨_, rfl, .same _ (by simp)⟩, ⟨_, rfl, .same _ (by simp)⟩, trivial⟩) ?_)
            clear hK14 K14
            refine awp_ret ?_
            replace h := Sh.exit_eq h hx1
            obtain rfl := Option.some.inj h
            refine ⟨.inr rfl, .tuple [nilS, bl false], rfl, ?_⟩
            exact Weak.re [] [0] rfl rfl rfl (.fresh (by simp) (of_decide_eq_true rfl) (trivial)) ⟨⟨.tuple [nilS, bl false], rfl, .tp ⟨.nil (by simp), .same _ (by simp), trivial⟩⟩, trivial⟩
          · replace h := Sh.if_f h hb31
            refine awp_skip ?_
            refine hK12 _ (AWP.weak (Weak.re (fr' := [(1, .ref 0 0 0), (5, .view 1 0 (List.map i64 out27).length), (6, i64 r30)]) (H' := ⟨2, [(0, (2, [G.inquestref12_G.av g_0])), (1, (1, List.map i64 out27))]⟩) [(0, 0), (1, 1)] [] rfl rfl rfl (.cons rfl rfl (.one (.same _ (by simp)) rfl) (of_decide_eq_true rfl) (.cons rfl rfl (.same (by simp)) (of_decide_eq_true rfl) (trivial))) ⟨⟨_, rfl, .ref rfl⟩, ⟨_, rfl, .view rfl⟩, ⟨_, rfl, .same _ (by simp)⟩, trivial⟩) ?_)
            clear hK12 K12
            refine awp_reg rfl ?_
            refine AR.op (r := .view 1 0 (List.map i64 out27).length) rfl (aop_move (.inl rfl) rfl) ?_
            refine AR.op (r := i64 r30) rfl (aop_move (.inl rfl) rfl) ?_
            refine AR.op (r := .clip (List.map i64 [r30])) rfl (aop_buildSlice rfl (xo := [.tmp 22]) rfl rfl rfl (by simp [AV.solid]) (by simp [AV.flat]) el50 ze50 (by decide)) ?_
            refine AR.drop (frx := [(1, _), (21, _), (23, _)]) ⟨rfl, rfl, rfl, trivial⟩ ?_
            obtain ⟨out32, hout32, h⟩ := Sh.bind_some' h
            refine AR.op (r := .view 2 0 (List.map i64 out32).length) rfl (t_app_view i64 out27 [r30] out32 hout32 rfl et50 (fun _ => rfl) rfl rfl rfl rfl rfl rfl rfl) ?_
            refine AR.op (r := .view 2 0 (List.map i64 out32).length) rfl (aop_move (.inr rfl) rfl) ?_
            refine AR.nil ?_
            replace h := Sh.next_eq h
            exact ⟨_, h, Weak.re (fr' := [(1, .ref 0 0 0), (5, .view 1 0 (List.map i64 out32).length)]) (H' := ⟨2, [(0, (2, [G.inquestref12_G.av g_0])), (1, (1, List.map i64 out32))]⟩) [(0, 0), (1, 2)] [] rfl rfl rfl (.cons rfl rfl (.one (.same _ (by simp)) rfl) (of_decide_eq_true rfl) (.cons rfl rfl (.same (by simp)) (of_decide_eq_true rfl) (trivial))) ⟨⟨_, rfl, .ref rfl⟩, ⟨_, rfl, .view rfl⟩, trivial⟩⟩
        · replace h := Sh.if_f h hb28
          refine awp_exit ?_
          replace h := Sh.exit_eq h hx1
          exact hK8 out27 _ h (Weak.re (fr' := [(5, .view 0 0 (List.map i64 out27).length)]) (H' := ⟨1, [(0, (1, List.map i64 out27))]⟩) [(0, 1)] [] rfl rfl rfl (.cons rfl rfl (.same (by simp)) (of_decide_eq_true rfl) (trivial)) ⟨⟨_, rfl, .view rfl⟩, trivial⟩)
theorem inquestref16_Order_ok {W0 : World} (hT : Tab W0) {g_0 : G.inquestref12_G} {r : (List Int) × Bool} (h : G.inquestref16_Order g_0 = some r) : Fun1 Tryd.prog W0 45 [G.inquestref12_G.av g_0] (.tuple [.sl (List.map i64 r.1), bl r.2]) :=
  (inquestref16_Order_own hT h).give (Weak.re [] [] rfl rfl rfl trivial ⟨⟨_, rfl, .tp ⟨.lendAll rfl rfl (by simp), .same _ (by simp), trivial⟩⟩, trivial⟩) (by simp)


set_option maxHeartbeats 8000000 in
theorem inquestref16_Is_ok0 {W0 : World} (hT : Tab W0) {g_0 : G.inquestref12_G} {l_1 : List Int} {r : Bool} (h : G.inquestref16_Is g_0 l_1 = some r) : Fun2 Tryd.prog W0 48 [G.inquestref12_G.av g_0, .sl (List.map i64 l_1)] (bl r) .empty := by
  refine fun2_of_awp Tryd.func48 rfl (by kernel_rfl) Tryd.ntmps48 (by simp) ?_
  unfold G.inquestref16_Is at h
  show AWP _ _ _ _ ⟨[(0, G.inquestref12_G.av g_0), (1, .sl (List.map i64 l_1))], .empty⟩ _
  refine awp_seqK fun K1 hK1 => ?_
  refine awp_reg rfl ?_
  refine AR.op (r := .ref 0 0 0) rfl (aop_box 2 [G.inquestref12_G.av g_0] rfl rfl rfl (.inl ⟨rfl, rfl⟩)) ?_
  refine AR.op (r := bl false) rfl (aop_move (.inr rfl) rfl) ?_
  refine AR.nil ?_
  refine hK1 _ (AWP.weak (Weak.re (fr' := [(1, .sl (List.map i64 l_1)), (2, .ref 0 0 0)]) (H' := ⟨1, [(0, (2, [G.inquestref12_G.av g_0]))]⟩) [(0, 0)] [] rfl rfl rfl (.cons rfl rfl (.one (.same _ (by simp)) rfl) (of_decide_eq_true rfl) (trivial)) ⟨⟨.sl (List.map i64 l_1), rfl, .same _ (by simp)⟩, ⟨_, rfl, .ref rfl⟩, trivial⟩) ?_)
  clear hK1 K1
  refine awp_seqK fun K2 hK2 => ?_
  refine awp_reg rfl ?_
  refine AR.op (r := G.inquestref12_G.av g_0) rfl (aop_load_ref rfl rfl rfl rfl sz26 rfl) ?_
  obtain ⟨r100, hr100, h⟩ := Sh.bind_some' h
  refine AR.op (r := bl r100) rfl (aop_call1 rfl rfl (by simp) (inquestref12_Right_ok hT hr100)) ?_
  refine AR.op (r := bl r100) rfl (aop_move (.inr rfl) rfl) ?_
  refine AR.nil ?_
  refine hK2 _ (AWP.weak (Weak.re (fr' := [(1, .sl (List.map i64 l_1)), (2, .ref 0 0 0), (5, bl r100)]) (H' := ⟨1, [(0, (2, [G.inquestref12_G.av g_0]))]⟩) [(0, 0)] [] rfl rfl rfl (.cons rfl rfl (.one (.same _ (by simp)) rfl) (of_decide_eq_true rfl) (trivial)) ⟨⟨.sl (List.map i64 l_1), rfl, .same _ (by simp)⟩, ⟨_, rfl, .ref rfl⟩, ⟨_, rfl, .same _ (by simp)⟩, trivial⟩) ?_)
  clear hK2 K2
  refine awp_seqK fun K3 hK3 => ?_
  refine awp_seqJ (fun (p : Bool) => (⟨[(1, .sl (List.map i64 l_1)), (2, .ref 0 0 0), (21, bl p)], ⟨1, [(0, (2, [G.inquestref12_G.av g_0]))]⟩⟩ : St)) (fun (p : Bool) => G.inquestref16_Is_j1 g_0 l_1 p = some r) ?_ ?_
  · rintro v104 h
    replace h : G.inquestref16_Is_j1 g_0 l_1 v104 = some r := h
    unfold G.inquestref16_Is_j1 at h
    show AWP _ _ _ _ ⟨[(1, .sl (List.map i64 l_1)), (2, .ref 0 0 0), (21, bl v104)], ⟨1, [(0, (2, [G.inquestref12_G.av g_0]))]⟩⟩ _
    refine awp_cond rfl (fun hb105 => ?_) (fun hb105 => ?_)
    · replace h := Sh.if_t h hb105
      refine awp_seqK fun K4 hK4 => ?_
      refine awp_reg rfl ?_
      refine AR.op (r := bl false) rfl (aop_move (.inr rfl) rfl) ?_
      refine AR.nil ?_
      refine hK4 _ (AWP.weak (Weak.re (fr' := [(4, bl false)]) (H' := .empty) [] [] rfl rfl rfl (trivial) ⟨⟨_, rfl, .same _ (by simp)⟩, trivial⟩) ?_)
      clear hK4 K4
      refine awp_ret ?_
      obtain rfl := Option.some.inj h
      refine ⟨.inr rfl, bl false, rfl, ?_⟩
      exact Weak.re [] [] rfl rfl rfl (trivial) ⟨⟨_, rfl, .same _ (by simp)⟩, trivial⟩
    · replace h := Sh.if_f h hb105
      refine awp_skip ?_
      refine hK3 _ (AWP.weak (Weak.re (fr' := [(1, .sl (List.map i64 l_1)), (2, .ref 0 0 0)]) (H' := ⟨1, [(0, (2, [G.inquestref12_G.av g_0]))]⟩) [(0, 0)] [] rfl rfl rfl (.cons rfl rfl (.one (.same _ (by simp)) rfl) (of_decide_eq_true rfl) (trivial)) ⟨⟨.sl (List.map i64 l_1), rfl, .same _ (by simp)⟩, ⟨_, rfl, .ref rfl⟩, trivial⟩) ?_)
      clear hK3 K3
      refine awp_seqJ (fun (p : Unit) => (⟨[], .empty⟩ : St)) (fun (p : Unit) => G.inquestref16_Is_j2 = some r) ?_ ?_
      · rintro ⟨⟩ h
        replace h : G.inquestref16_Is_j2 = some r := h
        unfold G.inquestref16_Is_j2 at h
        show AWP _ _ _ _ ⟨[], .empty⟩ _
        refine awp_seqK fun K5 hK5 => ?_
        refine awp_reg rfl ?_
        refine AR.op (r := bl true) rfl (aop_move (.inr rfl) rfl) ?_
        refine AR.nil ?_
        refine hK5 _ ?_
        clear hK5 K5
        refine awp_ret ?_
        obtain rfl := Option.some.inj h
        refine ⟨.inr rfl, bl true, rfl, ?_⟩
        exact Weak.re [] [] rfl rfl rfl (trivial) ⟨⟨_, rfl, .same _ (by simp)⟩, trivial⟩
      · intro K6 hK6
        refine awp_seqK fun K7 hK7 => ?_
        refine awp_reg rfl ?_
        refine AR.op (r := i64 0) rfl (aop_move (.inr rfl) rfl) ?_
        refine AR.nil ?_
        refine hK7 _ ?_
        clear hK7 K7
        refine awp_block ?_
        refine awp_iter (fun (p : Int) => G.inquestref16_Is_b1 g_0 l_1 p) (fun (p : Int) => (⟨[(1, .sl (List.map i64 l_1)), (2, .ref 0 0 0), (6, i64 p)], ⟨1, [(0, (2, [G.inquestref12_G.av g_0]))]⟩⟩ : St)) h (Weak.re (fr' := [(1, .sl (List.map i64 l_1)), (2, .ref 0 0 0), (6, i64 0)]) (H' := ⟨1, [(0, (2, [G.inquestref12_G.av g_0]))]⟩) [(0, 0)] [] rfl rfl rfl (.cons rfl rfl (.one (.same _ (by simp)) rfl) (of_decide_eq_true rfl) (trivial)) ⟨⟨.sl (List.map i64 l_1), rfl, .same _ (by simp)⟩, ⟨_, rfl, .ref rfl⟩, ⟨_, rfl, .same _ (by simp)⟩, trivial⟩) ?_
        · skip
          rintro i264 o1 h hx1
          replace h : G.inquestref16_Is_b1 g_0 l_1 i264 = some o1 := h
          unfold G.inquestref16_Is_b1 at h
          show AWP _ _ _ _ ⟨[(1, .sl (List.map i64 l_1)), (2, .ref 0 0 0), (6, i64 i264)], ⟨1, [(0, (2, [G.inquestref12_G.av g_0]))]⟩⟩ _
          refine awp_seqK fun K8 hK8 => ?_
          refine awp_seqK fun K9 hK9 => ?_
          refine awp_reg rfl ?_
          refine AR.op (r := i64 i264) rfl (aop_move (.inl rfl) rfl) ?_
          refine AR.op (r := .sl (List.map i64 l_1)) rfl (aop_move (.inl rfl) rfl) ?_
          refine AR.op (r := i64 (Sh.len l_1)) rfl (t_len_sl i64 l_1 rfl rfl el50) ?_
          refine AR.drop (frx := [(1, _), (2, _), (6, _), (22, _), (24, _)]) ⟨rfl, rfl, rfl, rfl, rfl, trivial⟩ ?_
          refine AR.op (r := bl (decide (i264 < (Sh.len l_1)))) rfl (aop_lss rfl rfl rfl) ?_
          refine AR.nil ?_
          refine hK9 _ (AWP.weak (Weak.re (fr' := [(1, .sl (List.map i64 l_1)), (2, .ref 0 0 0), (6, i64 i264), (25, bl (decide (i264 < (Sh.len l_1))))]) (H' := ⟨1, [(0, (2, [G.inquestref12_G.av g_0]))]⟩) [(0, 0)] [] rfl rfl rfl (.cons rfl rfl (.one (.same _ (by simp)) rfl) (of_decide_eq_true rfl) (trivial)) ⟨⟨.sl (List.map i64 l_1), rfl, .same _ (by simp)⟩, ⟨_, rfl, .ref rfl⟩, ⟨_, rfl, .same _ (by simp)⟩, ⟨_, rfl, .same _ (by simp)⟩, trivial⟩) ?_)
          clear hK9 K9
          refine awp_cond rfl (fun hb265 => ?_) (fun hb265 => ?_)
          · replace h := Sh.if_t h hb265
            refine awp_skip ?_
            refine hK8 _ (AWP.weak (Weak.re (fr' := [(1, .sl (List.map i64 l_1)), (2, .ref 0 0 0), (6, i64 i264)]) (H' := ⟨1, [(0, (2, [G.inquestref12_G.av g_0]))]⟩) [(0, 0)] [] rfl rfl rfl (.cons rfl rfl (.one (.same _ (by simp)) rfl) (of_decide_eq_true rfl) (trivial)) ⟨⟨.sl (List.map i64 l_1), rfl, .same _ (by simp)⟩, ⟨_, rfl, .ref rfl⟩, ⟨_, rfl, .same _ (by simp)⟩, trivial⟩) ?_)
            clear hK8 K8
            refine awp_seqJ (fun (p : Unit) => (⟨[(1, .sl (List.map i64 l_1)), (2, .ref 0 0 0), (6, i64 i264), (44, .any)], ⟨1, [(0, (2, [G.inquestref12_G.av g_0]))]⟩⟩ : St)) (fun (p : Unit) => G.inquestref16_Is_j3 i264 = some o1) ?_ ?_
            · rintro ⟨⟩ h
              replace h : G.inquestref16_Is_j3 i264 = some o1 := h
              unfold G.inquestref16_Is_j3 at h
              show AWP _ _ _ _ ⟨[(1, .sl (List.map i64 l_1)), (2, .ref 0 0 0), (6, i64 i264), (44, .any)], ⟨1, [(0, (2, [G.inquestref12_G.av g_0]))]⟩⟩ _
              refine awp_reg rfl ?_
              refine AR.op (r := i64 i264) rfl (aop_move (.inl rfl) rfl) ?_
              refine AR.op (r := i64 (w64 (i264 + 1))) rfl (aop_add rfl rfl rfl rfl) ?_
              refine AR.op (r := i64 (w64 (i264 + 1))) rfl (aop_move (.inr rfl) rfl) ?_
              refine AR.nil ?_
              replace h := Sh.next_eq h
              exact ⟨_, h, Weak.re (fr' := [(1, .sl (List.map i64 l_1)), (2, .ref 0 0 0), (6, i64 (w64 (i264 + 1)))]) (H' := ⟨1, [(0, (2, [G.inquestref12_G.av g_0]))]⟩) [(0, 0)] [] rfl rfl rfl (.cons rfl rfl (.one (.same _ (by simp)) rfl) (of_decide_eq_true rfl) (trivial)) ⟨⟨.sl (List.map i64 l_1), rfl, .same _ (by simp)⟩, ⟨_, rfl, .ref rfl⟩, ⟨_, rfl, .same _ (by simp)⟩, trivial⟩⟩
            · intro K10 hK10
              refine awp_block ?_
              refine awp_seqK fun K11 hK11 => ?_
              refine awp_any (by kernel_rfl) (by kernel_rfl) rfl ?_
              refine ARH.dry (r := .sl (List.map i64 l_1)) rfl (fun _ => aop_move (.inl rfl) rfl) ?_
              refine ARH.dry (r := i64 i264) rfl (fun _ => aop_move (.inl rfl) rfl) ?_
              obtain ⟨part301, hpart301, h⟩ := Sh.bind_some' h
              refine ARH.op (r := .sl (List.map i64 part301)) rfl rfl (t_sub i64 l_1 part301 hpart301 (fun _ => rfl) rfl rfl (.inl rfl) (.inl ⟨rfl, rfl⟩) (.inr ⟨_, _, rfl, rfl⟩) el50) ?_
              refine ARH.drop (frx := [(1, _), (2, _), (6, _), (30, _)]) ⟨rfl, rfl, rfl, rfl, trivial⟩ ?_
              refine ARH.dry (r := .sl (List.map i64 l_1)) rfl (fun _ => aop_move (.inl rfl) rfl) ?_
              refine ARH.dry (r := i64 i264) rfl (fun _ => aop_move (.inl rfl) rfl) ?_
              obtain ⟨x302, hx302, h⟩ := Sh.bind_some' h
              obtain ⟨k303, hi303, hl303⟩ := Sh.idx_some hx302
              refine ARH.op rfl rfl (t_index_sl i64 l_1 hi303 hl303 rfl rfl rfl el50 rfl) ?_
              refine ARH.drop (frx := [(1, _), (2, _), (6, _), (30, _), (33, _)]) ⟨rfl, rfl, rfl, rfl, rfl, trivial⟩ ?_
              refine ARH.op (r := i64 x302) rfl rfl (aop_load_pp rfl rfl sz3 rfl) ?_
              obtain ⟨r304, hr304, h⟩ := Sh.bind_some' h
              refine ARH.op (r := bl r304) rfl rfl (aop_call1 rfl rfl (by simp) (inquestref16_in_ok hT hr304)) ?_
              refine ARH.dry (r := bl r304) rfl (fun _ => aop_move (.inr rfl) rfl) ?_
              refine ARH.nil ?_
              refine hK11 _ (AWP.weak (Weak.re (fr' := [(1, .sl (List.map i64 l_1)), (2, .ref 0 0 0), (6, i64 i264), (7, bl r304)]) (H' := ⟨1, [(0, (2, [G.inquestref12_G.av g_0]))]⟩) [(0, 0)] [] rfl rfl rfl (.cons rfl rfl (.one (.same _ (by simp)) rfl) (of_decide_eq_true rfl) (trivial)) ⟨⟨.sl (List.map i64 l_1), rfl, .same _ (by simp)⟩, ⟨_, rfl, .ref rfl⟩, ⟨_, rfl, .same _ (by simp)⟩, ⟨_, rfl, .same _ (by simp)⟩, trivial⟩) ?_)
              clear hK11 K11
              refine awp_seqK fun K12 hK12 => ?_
              refine awp_seqJ (fun (p : Bool) => (⟨[(1, .sl (List.map i64 l_1)), (2, .ref 0 0 0), (6, i64 i264), (44, .any), (45, bl p)], ⟨1, [(0, (2, [G.inquestref12_G.av g_0]))]⟩⟩ : St)) (fun (p : Bool) => G.inquestref16_Is_j4 g_0 l_1 i264 p = some o1) ?_ ?_
              · rintro v314 h
                replace h : G.inquestref16_Is_j4 g_0 l_1 i264 v314 = some o1 := h
                unfold G.inquestref16_Is_j4 at h
                show AWP _ _ _ _ ⟨[(1, .sl (List.map i64 l_1)), (2, .ref 0 0 0), (6, i64 i264), (44, .any), (45, bl v314)], ⟨1, [(0, (2, [G.inquestref12_G.av g_0]))]⟩⟩ _
                refine awp_cond rfl (fun hb315 => ?_) (fun hb315 => ?_)
                · replace h := Sh.if_t h hb315
                  refine awp_seqK fun K13 hK13 => ?_
                  refine awp_reg rfl ?_
                  refine AR.op (r := bl false) rfl (aop_move (.inr rfl) rfl) ?_
                  refine AR.nil ?_
                  refine hK13 _ (AWP.weak (Weak.re (fr' := [(4, bl false)]) (H' := .empty) [] [] rfl rfl rfl (trivial) ⟨⟨_, rfl, .same _ (by simp)⟩, trivial⟩) ?_)
                  clear hK13 K13
                  refine awp_ret ?_
                  replace h := Sh.exit_eq h hx1
                  obtain rfl := Option.some.inj h
                  refine ⟨.inr rfl, bl false, rfl, ?_⟩
                  exact Weak.re [] [] rfl rfl rfl (trivial) ⟨⟨_, rfl, .same _ (by simp)⟩, trivial⟩
                · replace h := Sh.if_f h hb315
                  refine awp_skip ?_
                  refine hK12 _ (AWP.weak (Weak.re (fr' := [(1, .sl (List.map i64 l_1)), (2, .ref 0 0 0), (6, i64 i264), (44, .any)]) (H' := ⟨1, [(0, (2, [G.inquestref12_G.av g_0]))]⟩) [(0, 0)] [] rfl rfl rfl (.cons rfl rfl (.one (.same _ (by simp)) rfl) (of_decide_eq_true rfl) (trivial)) ⟨⟨.sl (List.map i64 l_1), rfl, .same _ (by simp)⟩, ⟨_, rfl, .ref rfl⟩, ⟨_, rfl, .same _ (by simp)⟩, ⟨_, rfl, .any _⟩, trivial⟩) ?_)
                  clear hK12 K12
                  refine awp_seqJ (fun (p : Unit) => (⟨[(1, .sl (List.map i64 l_1)), (2, .ref 0 0 0), (6, i64 i264), (44, .any)], ⟨1, [(0, (2, [G.inquestref12_G.av g_0]))]⟩⟩ : St)) (fun (p : Unit) => G.inquestref16_Is_j5 g_0 l_1 i264 = some o1) ?_ ?_
                  · rintro ⟨⟩ h
                    replace h : G.inquestref16_Is_j5 g_0 l_1 i264 = some o1 := h
                    unfold G.inquestref16_Is_j5 at h
                    show AWP _ _ _ _ ⟨[(1, .sl (List.map i64 l_1)), (2, .ref 0 0 0), (6, i64 i264), (44, .any)], ⟨1, [(0, (2, [G.inquestref12_G.av g_0]))]⟩⟩ _
                    refine awp_seqK fun K14 hK14 => ?_
                    refine awp_any (by kernel_rfl) (by kernel_rfl) rfl ?_
                    refine ARH.op (r := G.inquestref12_G.av g_0) rfl rfl (aop_load_ref rfl rfl rfl rfl sz26 rfl) ?_
                    refine ARH.dry (r := .sl (List.map i64 l_1)) rfl (fun _ => aop_move (.inl rfl) rfl) ?_
                    refine ARH.dry (r := i64 i264) rfl (fun _ => aop_move (.inl rfl) rfl) ?_
                    refine ARH.drop (frx := [(1, _), (2, _), (6, _), (44, _), (62, _), (63, _), (64, _)]) ⟨rfl, rfl, rfl, rfl, rfl, rfl, rfl, trivial⟩ ?_
                    obtain ⟨x338, hx338, h⟩ := Sh.bind_some' h
                    obtain ⟨k339, hi339, hl339⟩ := Sh.idx_some hx338
                    refine ARH.op rfl rfl (t_index_sl i64 l_1 hi339 hl339 rfl rfl rfl el50 rfl) ?_
                    refine ARH.op (r := i64 x338) rfl rfl (aop_load_pp rfl rfl sz3 rfl) ?_
                    refine ARH.dry (r := .sl (List.map i64 l_1)) rfl (fun _ => aop_move (.inl rfl) rfl) ?_
                    refine ARH.drop (frx := [(1, _), (2, _), (6, _), (44, _), (62, _), (66, _), (67, _)]) ⟨rfl, rfl, rfl, rfl, rfl, rfl, rfl, trivial⟩ ?_
                    refine ARH.dry (r := i64 i264) rfl (fun _ => aop_move (.inl rfl) rfl) ?_
                    obtain ⟨x340, hx340, h⟩ := Sh.bind_some' h
                    obtain ⟨k341, hi341, hl341⟩ := Sh.idx_some hx340
                    refine ARH.op rfl rfl (t_index_sl i64 l_1 hi341 hl341 rfl rfl rfl el50 rfl) ?_
                    refine ARH.op (r := i64 x340) rfl rfl (aop_load_pp rfl rfl sz3 rfl) ?_
                    refine ARH.drop (frx := [(1, _), (2, _), (6, _), (44, _), (62, _), (66, _), (70, _)]) ⟨rfl, rfl, rfl, rfl, rfl, rfl, rfl, trivial⟩ ?_
                    obtain ⟨r342, hr342, h⟩ := Sh.bind_some' h
                    refine ARH.op (r := bl r342) rfl rfl (aop_call1 rfl rfl (by simp) (inquestref12_Has_ok hT hr342)) ?_
                    refine ARH.dry (r := bl r342) rfl (fun _ => aop_move (.inr rfl) rfl) ?_
                    refine ARH.nil ?_
                    refine hK14 _ (AWP.weak (Weak.re (fr' := [(1, .sl (List.map i64 l_1)), (2, .ref 0 0 0), (6, i64 i264), (44, .any), (10, bl r342)]) (H' := ⟨1, [(0, (2, [G.inquestref12_G.av g_0]))]⟩) [(0, 0)] [] rfl rfl rfl (.cons rfl rfl (.one (.same _ (by simp)) rfl) (of_decide_eq_true rfl) (trivial)) ⟨⟨.sl (List.map i64 l_1), rfl, .same _ (by simp)⟩, ⟨_, rfl, .ref rfl⟩, ⟨_, rfl, .same _ (by simp)⟩, ⟨_, rfl, .any _⟩, ⟨_, rfl, .same _ (by simp)⟩, trivial⟩) ?_)
                    clear hK14 K14
                    refine awp_seqK fun K15 hK15 => ?_
                    refine awp_reg rfl ?_
                    refine AR.op (r := bl r342) rfl (aop_move (.inl rfl) rfl) ?_
                    refine AR.nil ?_
                    refine hK15 _ (AWP.weak (Weak.re (fr' := [(1, .sl (List.map i64 l_1)), (2, .ref 0 0 0), (6, i64 i264), (44, .any), (72, bl r342)]) (H' := ⟨1, [(0, (2, [G.inquestref12_G.av g_0]))]⟩) [(0, 0)] [] rfl rfl rfl (.cons rfl rfl (.one (.same _ (by simp)) rfl) (of_decide_eq_true rfl) (trivial)) ⟨⟨.sl (List.map i64 l_1), rfl, .same _ (by simp)⟩, ⟨_, rfl, .ref rfl⟩, ⟨_, rfl, .same _ (by simp)⟩, ⟨_, rfl, .any _⟩, ⟨_, rfl, .same _ (by simp)⟩, trivial⟩) ?_)
                    clear hK15 K15
                    refine awp_cond rfl (fun hb343 => ?_) (fun hb343 => ?_)
                    · replace h := Sh.if_t h hb343
                      refine awp_seqK fun K16 hK16 => ?_
                      refine awp_reg rfl ?_
                      refine AR.op (r := bl false) rfl (aop_move (.inr rfl) rfl) ?_
                      refine AR.nil ?_
                      refine hK16 _ (AWP.weak (Weak.re (fr' := [(4, bl false)]) (H' := .empty) [] [] rfl rfl rfl (trivial) ⟨⟨_, rfl, .same _ (by simp)⟩, trivial⟩) ?_)
                      clear hK16 K16
                      refine awp_ret ?_
                      replace h := Sh.exit_eq h hx1
                      obtain rfl := Option.some.inj h
                      refine ⟨.inr rfl, bl false, rfl, ?_⟩
                      exact Weak.re [] [] rfl rfl rfl (trivial) ⟨⟨_, rfl, .same _ (by simp)⟩, trivial⟩
                    · replace h := Sh.if_f h hb343
                      refine awp_skip ?_
                      exact hK10 () _ h (Weak.re (fr' := [(1, .sl (List.map i64 l_1)), (2, .ref 0 0 0), (6, i64 i264), (44, .any)]) (H' := ⟨1, [(0, (2, [G.inquestref12_G.av g_0]))]⟩) [(0, 0)] [] rfl rfl rfl (.cons rfl rfl (.one (.same _ (by simp)) rfl) (of_decide_eq_true rfl) (trivial)) ⟨⟨.sl (List.map i64 l_1), rfl, .same _ (by simp)⟩, ⟨_, rfl, .ref rfl⟩, ⟨_, rfl, .same _ (by simp)⟩, ⟨_, rfl, .any _⟩, trivial⟩)
                  · intro K17 hK17
                    refine awp_seqK fun K18 hK18 => ?_
                    refine awp_reg rfl ?_
                    refine AR.op (r := i64 0) rfl (aop_move (.inr rfl) rfl) ?_
                    refine AR.nil ?_
                    refine hK18 _ ?_
                    clear hK18 K18
                    refine awp_block ?_
                    refine awp_iter (fun (p : Int) => G.inquestref16_Is_b2 g_0 l_1 i264 p) (fun (p : Int) => (⟨[(1, .sl (List.map i64 l_1)), (2, .ref 0 0 0), (6, i64 i264), (44, .any), (8, i64 p)], ⟨1, [(0, (2, [G.inquestref12_G.av g_0]))]⟩⟩ : St)) h (Weak.re (fr' := [(1, .sl (List.map i64 l_1)), (2, .ref 0 0 0), (6, i64 i264), (44, .any), (8, i64 0)]) (H' := ⟨1, [(0, (2, [G.inquestref12_G.av g_0]))]⟩) [(0, 0)] [] rfl rfl rfl (.cons rfl rfl (.one (.same _ (by simp)) rfl) (of_decide_eq_true rfl) (trivial)) ⟨⟨.sl (List.map i64 l_1), rfl, .same _ (by simp)⟩, ⟨_, rfl, .ref rfl⟩, ⟨_, rfl, .same _ (by simp)⟩, ⟨_, rfl, .any _⟩, ⟨_, rfl, .same _ (by simp)⟩, trivial⟩) ?_
                    · skip
                      rintro k355 o2 h hx2
                      replace h : G.inquestref16_Is_b2 g_0 l_1 i264 k355 = some o2 := h
                      unfold G.inquestref16_Is_b2 at h
                      show AWP _ _ _ _ ⟨[(1, .sl (List.map i64 l_1)), (2, .ref 0 0 0), (6, i64 i264), (44, .any), (8, i64 k355)], ⟨1, [(0, (2, [G.inquestref12_G.av g_0]))]⟩⟩ _
                      refine awp_seqK fun K19 hK19 => ?_
                      refine awp_seqK fun K20 hK20 => ?_
                      refine awp_reg rfl ?_
                      refine AR.op (r := i64 k355) rfl (aop_move (.inl rfl) rfl) ?_
                      refine AR.op (r := i64 i264) rfl (aop_move (.inl rfl) rfl) ?_
                      refine AR.op (r := bl (decide (k355 < i264))) rfl (aop_lss rfl rfl rfl) ?_
                      refine AR.nil ?_
                      refine hK20 _ (AWP.weak (Weak.re (fr' := [(1, .sl (List.map i64 l_1)), (2, .ref 0 0 0), (6, i64 i264), (44, .any), (8, i64 k355), (48, bl (decide (k355 < i264)))]) (H' := ⟨1, [(0, (2, [G.inquestref12_G.av g_0]))]⟩) [(0, 0)] [] rfl rfl rfl (.cons rfl rfl (.one (.same _ (by simp)) rfl) (of_decide_eq_true rfl) (trivial)) ⟨⟨.sl (List.map i64 l_1), rfl, .same _ (by simp)⟩, ⟨_, rfl, .ref rfl⟩, ⟨_, rfl, .same _ (by simp)⟩, ⟨_, rfl, .any _⟩, ⟨_, rfl, .same _ (by simp)⟩, ⟨_, rfl, .same _ (by simp)⟩, trivial⟩) ?_)
                      clear hK20 K20
                      refine awp_cond rfl (fun hb356 => ?_) (fun hb356 => ?_)
                      · replace h := Sh.if_t h hb356
                        refine awp_skip ?_
                        refine hK19 _ (AWP.weak (Weak.re (fr' := [(1, .sl (List.map i64 l_1)), (2, .ref 0 0 0), (6, i64 i264), (44, .any), (8, i64 k355)]) (H' := ⟨1, [(0, (2, [G.inquestref12_G.av g_0]))]⟩) [(0, 0)] [] rfl rfl rfl (.cons rfl rfl (.one (.same _ (by simp)) rfl) (of_decide_eq_true rfl) (trivial)) ⟨⟨.sl (List.map i64 l_1), rfl, .same _ (by simp)⟩, ⟨_, rfl, .ref rfl⟩, ⟨_, rfl, .same _ (by simp)⟩, ⟨_, rfl, .any _⟩, ⟨_, rfl, .same _ (by simp)⟩, trivial⟩) ?_)
                        clear hK19 K19
                        refine awp_seqK fun K21 hK21 => ?_
                        refine awp_block ?_
                        refine awp_seqK fun K22 hK22 => ?_
                        refine awp_any (by kernel_rfl) (by kernel_rfl) rfl ?_
                        refine ARH.op (r := G.inquestref12_G.av g_0) rfl rfl (aop_load_ref rfl rfl rfl rfl sz26 rfl) ?_
                        refine ARH.dry (r := .sl (List.map i64 l_1)) rfl (fun _ => aop_move (.inl rfl) rfl) ?_
                        refine ARH.dry (r := i64 i264) rfl (fun _ => aop_move (.inl rfl) rfl) ?_
                        refine ARH.drop (frx := [(1, _), (2, _), (6, _), (44, _), (8, _), (51, _), (52, _), (53, _)]) ⟨rfl, rfl, rfl, rfl, rfl, rfl, rfl, rfl, trivial⟩ ?_
                        obtain ⟨x367, hx367, h⟩ := Sh.bind_some' h
                        obtain ⟨k368, hi368, hl368⟩ := Sh.idx_some hx367
                        refine ARH.op rfl rfl (t_index_sl i64 l_1 hi368 hl368 rfl rfl rfl el50 rfl) ?_
                        refine ARH.op (r := i64 x367) rfl rfl (aop_load_pp rfl rfl sz3 rfl) ?_
                        refine ARH.dry (r := .sl (List.map i64 l_1)) rfl (fun _ => aop_move (.inl rfl) rfl) ?_
                        refine ARH.drop (frx := [(1, _), (2, _), (6, _), (44, _), (8, _), (51, _), (55, _), (56, _)]) ⟨rfl, rfl, rfl, rfl, rfl, rfl, rfl, rfl, trivial⟩ ?_
                        refine ARH.dry (r := i64 k355) rfl (fun _ => aop_move (.inl rfl) rfl) ?_
                        obtain ⟨x369, hx369, h⟩ := Sh.bind_some' h
                        obtain ⟨k370, hi370, hl370⟩ := Sh.idx_some hx369
                        refine ARH.op rfl rfl (t_index_sl i64 l_1 hi370 hl370 rfl rfl rfl el50 rfl) ?_
                        refine ARH.op (r := i64 x369) rfl rfl (aop_load_pp rfl rfl sz3 rfl) ?_
                        refine ARH.drop (frx := [(1, _), (2, _), (6, _), (44, _), (8, _), (51, _), (55, _), (59, _)]) ⟨rfl, rfl, rfl, rfl, rfl, rfl, rfl, rfl, trivial⟩ ?_
                        obtain ⟨r371, hr371, h⟩ := Sh.bind_some' h
                        refine ARH.op (r := bl r371) rfl rfl (aop_call1 rfl rfl (by simp) (inquestref12_Has_ok hT hr371)) ?_
                        refine ARH.dry (r := bl r371) rfl (fun _ => aop_move (.inr rfl) rfl) ?_
                        refine ARH.nil ?_
                        refine hK22 _ (AWP.weak (Weak.re (fr' := [(1, .sl (List.map i64 l_1)), (2, .ref 0 0 0), (6, i64 i264), (44, .any), (8, i64 k355), (9, bl r371)]) (H' := ⟨1, [(0, (2, [G.inquestref12_G.av g_0]))]⟩) [(0, 0)] [] rfl rfl rfl (.cons rfl rfl (.one (.same _ (by simp)) rfl) (of_decide_eq_true rfl) (trivial)) ⟨⟨.sl (List.map i64 l_1), rfl, .same _ (by simp)⟩, ⟨_, rfl, .ref rfl⟩, ⟨_, rfl, .same _ (by simp)⟩, ⟨_, rfl, .any _⟩, ⟨_, rfl, .same _ (by simp)⟩, ⟨_, rfl, .same _ (by simp)⟩, trivial⟩) ?_)
                        clear hK22 K22
                        refine awp_seqK fun K23 hK23 => ?_
                        refine awp_reg rfl ?_
                        refine AR.op (r := bl r371) rfl (aop_move (.inl rfl) rfl) ?_
                        refine AR.nil ?_
                        refine hK23 _ (AWP.weak (Weak.re (fr' := [(1, .sl (List.map i64 l_1)), (2, .ref 0 0 0), (6, i64 i264), (44, .any), (8, i64 k355), (61, bl r371)]) (H' := ⟨1, [(0, (2, [G.inquestref12_G.av g_0]))]⟩) [(0, 0)] [] rfl rfl rfl (.cons rfl rfl (.one (.same _ (by simp)) rfl) (of_decide_eq_true rfl) (trivial)) ⟨⟨.sl (List.map i64 l_1), rfl, .same _ (by simp)⟩, ⟨_, rfl, .ref rfl⟩, ⟨_, rfl, .same _ (by simp)⟩, ⟨_, rfl, .any _⟩, ⟨_, rfl, .same _ (by simp)⟩, ⟨_, rfl, .same _ (by simp)⟩, trivial⟩) ?_)
                        clear hK23 K23
                        refine awp_cond rfl (fun hb372 => ?_) (fun hb372 => ?_)
                        · replace h := Sh.if_t h hb372
                          refine awp_seqK fun K24 hK24 => ?_
                          refine awp_reg rfl ?_
                          refine AR.op (r := bl false) rfl (aop_move (.inr rfl) rfl) ?_
                          refine AR.nil ?_
                          refine hK24 _ (AWP.weak (Weak.re (fr' := [(4, bl false)]) (H' := .empty) [] [] rfl rfl rfl (trivial) ⟨⟨_, rfl, .same _ (by simp)⟩, trivial⟩) ?_)
                          clear hK24 K24
                          refine awp_ret ?_
                          replace h := Sh.exit_eq h hx2
                          replace h := Sh.exit_eq h hx1
                          obtain rfl := Option.some.inj h
                          refine ⟨.inr rfl, bl false, rfl, ?_⟩
                          exact Weak.re [] [] rfl rfl rfl (trivial) ⟨⟨_, rfl, .same _ (by simp)⟩, trivial⟩
                        · replace h := Sh.if_f h hb372
                          refine awp_skip ?_
                          refine hK21 _ (AWP.weak (Weak.re (fr' := [(1, .sl (List.map i64 l_1)), (2, .ref 0 0 0), (6, i64 i264), (44, .any), (8, i64 k355)]) (H' := ⟨1, [(0, (2, [G.inquestref12_G.av g_0]))]⟩) [(0, 0)] [] rfl rfl rfl (.cons rfl rfl (.one (.same _ (by simp)) rfl) (of_decide_eq_true rfl) (trivial)) ⟨⟨.sl (List.map i64 l_1), rfl, .same _ (by simp)⟩, ⟨_, rfl, .ref rfl⟩, ⟨_, rfl, .same _ (by simp)⟩, ⟨_, rfl, .any _⟩, ⟨_, rfl, .same _ (by simp)⟩, trivial⟩) ?_)
                          clear hK21 K21
                          refine awp_reg rfl ?_
                          refine AR.op (r := i64 k355) rfl (aop_move (.inl rfl) rfl) ?_
                          refine AR.op (r := i64 (w64 (k355 + 1))) rfl (aop_add rfl rfl rfl rfl) ?_
                          refine AR.op (r := i64 (w64 (k355 + 1))) rfl (aop_move (.inr rfl) rfl) ?_
                          refine AR.nil ?_
                          replace h := Sh.next_eq h
                          exact ⟨_, h, Weak.re (fr' := [(1, .sl (List.map i64 l_1)), (2, .ref 0 0 0), (6, i64 i264), (44, .any), (8, i64 (w64 (k355 + 1)))]) (H' := ⟨1, [(0, (2, [G.inquestref12_G.av g_0]))]⟩) [(0, 0)] [] rfl rfl rfl (.cons rfl rfl (.one (.same _ (by simp)) rfl) (of_decide_eq_true rfl) (trivial)) ⟨⟨.sl (List.map i64 l_1), rfl, .same _ (by simp)⟩, ⟨_, rfl, .ref rfl⟩, ⟨_, rfl, .same _ (by simp)⟩, ⟨_, rfl, .any _⟩, ⟨_, rfl, .same _ (by simp)⟩, trivial⟩⟩
                      · replace h := Sh.if_f h hb356
                        refine awp_exit ?_
                        replace h := Sh.exit_eq h hx2
                        exact hK17 () _ h (Weak.re (fr' := [(1, .sl (List.map i64 l_1)), (2, .ref 0 0 0), (6, i64 i264), (44, .any)]) (H' := ⟨1, [(0, (2, [G.inquestref12_G.av g_0]))]⟩) [(0, 0)] [] rfl rfl rfl (.cons rfl rfl (.one (.same _ (by simp)) rfl) (of_decide_eq_true rfl) (trivial)) ⟨⟨.sl (List.map i64 l_1), rfl, .same _ (by simp)⟩, ⟨_, rfl, .ref rfl⟩, ⟨_, rfl, .same _ (by simp)⟩, ⟨_, rfl, .any _⟩, trivial⟩)
              · intro K25 hK25
                refine awp_any (by kernel_rfl) (by kernel_rfl) rfl ?_
                refine ARH.op (r := G.inquestref12_G.av g_0) rfl rfl (aop_load_ref rfl rfl rfl rfl sz26 rfl) ?_
                refine ARH.dry (r := .sl (List.map i64 l_1)) rfl (fun _ => aop_move (.inl rfl) rfl) ?_
                refine ARH.dry (r := i64 i264) rfl (fun _ => aop_move (.inl rfl) rfl) ?_
                refine ARH.drop (frx := [(1, _), (2, _), (6, _), (7, _), (36, _), (37, _), (38, _)]) ⟨rfl, rfl, rfl, rfl, rfl, rfl, rfl, trivial⟩ ?_
                obtain ⟨x373, hx373, h⟩ := Sh.bind_some' h
                obtain ⟨k374, hi374, hl374⟩ := Sh.idx_some hx373
                refine ARH.op rfl rfl (t_index_sl i64 l_1 hi374 hl374 rfl rfl rfl el50 rfl) ?_
                refine ARH.op (r := i64 x373) rfl rfl (aop_load_pp rfl rfl sz3 rfl) ?_
                obtain ⟨r375, hr375, h⟩ := Sh.bind_some' h
                refine ARH.op (r := bl r375) rfl rfl (aop_call1 rfl rfl (by simp) (inquestref12_Node_ok hT hr375)) ?_
                refine ARH.drop (frx := [(1, _), (2, _), (6, _), (7, _), (41, _)]) ⟨rfl, rfl, rfl, rfl, rfl, trivial⟩ ?_
                refine ARH.dry (r := bl (!r375)) rfl (fun _ => aop_not rfl rfl) ?_
                refine ARH.dry (r := bl (!r375)) rfl (fun _ => aop_move (.inl rfl) rfl) ?_
                rcases Bool.eq_false_or_eq_true (!r375) with hb376 | hb376
                · rw [hb376]
                  replace h := Sh.if_t h hb376
                  refine ARH.skip rfl ?_
                  refine ARH.drop (frx := [(1, _), (2, _), (6, _), (43, _), (44, _)]) ⟨rfl, rfl, rfl, rfl, rfl, trivial⟩ ?_
                  refine ARH.dry (r := bl true) rfl (fun _ => aop_pick rfl rfl rfl) ?_
                  refine ARH.nil ?_
                  exact hK25 true _ h (Weak.re (fr' := [(1, .sl (List.map i64 l_1)), (2, .ref 0 0 0), (6, i64 i264), (44, .any), (45, bl true)]) (H' := ⟨1, [(0, (2, [G.inquestref12_G.av g_0]))]⟩) [(0, 0)] [] rfl rfl rfl (.cons rfl rfl (.one (.same _ (by simp)) rfl) (of_decide_eq_true rfl) (trivial)) ⟨⟨.sl (List.map i64 l_1), rfl, .same _ (by simp)⟩, ⟨_, rfl, .ref rfl⟩, ⟨_, rfl, .same _ (by simp)⟩, ⟨_, rfl, .any _⟩, ⟨_, rfl, .same _ (by simp)⟩, trivial⟩)
                · rw [hb376]
                  replace h := Sh.if_f h hb376
                  refine ARH.dry (r := bl r304) rfl (fun _ => aop_move (.inl rfl) rfl) ?_
                  refine ARH.drop (frx := [(1, _), (2, _), (6, _), (43, _), (44, _)]) ⟨rfl, rfl, rfl, rfl, rfl, trivial⟩ ?_
                  refine ARH.dry (r := bl r304) rfl (fun _ => aop_pick rfl rfl rfl) ?_
                  refine ARH.nil ?_
                  exact hK25 r304 _ h (Weak.re (fr' := [(1, .sl (List.map i64 l_1)), (2, .ref 0 0 0), (6, i64 i264), (44, .any), (45, bl r304)]) (H' := ⟨1, [(0, (2, [G.inquestref12_G.av g_0]))]⟩) [(0, 0)] [] rfl rfl rfl (.cons rfl rfl (.one (.same _ (by simp)) rfl) (of_decide_eq_true rfl) (trivial)) ⟨⟨.sl (List.map i64 l_1), rfl, .same _ (by simp)⟩, ⟨_, rfl, .ref rfl⟩, ⟨_, rfl, .same _ (by simp)⟩, ⟨_, rfl, .any _⟩, ⟨_, rfl, .same _ (by simp)⟩, trivial⟩)
          · replace h := Sh.if_f h hb265
            refine awp_exit ?_
            replace h := Sh.exit_eq h hx1
            exact hK6 () _ h (Weak.re (fr' := []) (H' := .empty) [] [] rfl rfl rfl (trivial) trivial)
  · intro K26 hK26
    refine awp_reg rfl ?_
    refine AR.op (r := bl r100) rfl (aop_move (.inl rfl) rfl) ?_
    refine AR.op (r := bl (!r100)) rfl (aop_not rfl rfl) ?_
    refine AR.op (r := bl (!r100)) rfl (aop_move (.inl rfl) rfl) ?_
    refine AR.drop (frx := [(1, _), (2, _), (15, _)]) ⟨rfl, rfl, rfl, trivial⟩ ?_
    rcases Bool.eq_false_or_eq_true (!r100) with hb377 | hb377
    · rw [hb377]
      replace h := Sh.if_t h hb377
      refine AR.skip rfl ?_
      refine AR.skip rfl ?_
      refine AR.skip rfl ?_
      refine AR.drop (frx := [(1, _), (2, _), (15, _), (17, _), (18, _)]) ⟨rfl, rfl, rfl, rfl, rfl, trivial⟩ ?_
      refine AR.skip rfl ?_
      refine AR.skip rfl ?_
      refine AR.op (r := bl true) rfl (aop_pick rfl rfl rfl) ?_
      refine AR.nil ?_
      exact hK26 true _ h (Weak.re (fr' := [(1, .sl (List.map i64 l_1)), (2, .ref 0 0 0), (21, bl true)]) (H' := ⟨1, [(0, (2, [G.inquestref12_G.av g_0]))]⟩) [(0, 0)] [] rfl rfl rfl (.cons rfl rfl (.one (.same _ (by simp)) rfl) (of_decide_eq_true rfl) (trivial)) ⟨⟨.sl (List.map i64 l_1), rfl, .same _ (by simp)⟩, ⟨_, rfl, .ref rfl⟩, ⟨_, rfl, .same _ (by simp)⟩, trivial⟩)
    · rw [hb377]
      replace h := Sh.if_f h hb377
      refine AR.op (r := .sl (List.map i64 l_1)) rfl (aop_move (.inl rfl) rfl) ?_
      refine AR.op (r := i64 (Sh.len l_1)) rfl (t_len_sl i64 l_1 rfl rfl el50) ?_
      refine AR.op rfl (aop_field_ref rfl rfl rfl fd26_0 (by decide)) ?_
      refine AR.drop (frx := [(1, _), (2, _), (15, _), (17, _), (18, _)]) ⟨rfl, rfl, rfl, rfl, rfl, trivial⟩ ?_
      refine AR.op (r := i64 g_0.N) rfl (aop_load_ref rfl rfl rfl rfl sz3 rfl) ?_
      refine AR.op (r := bl (decide ((Sh.len l_1) ≠ g_0.N))) rfl (aop_neq rfl rfl rfl) ?_
      refine AR.op (r := bl (decide ((Sh.len l_1) ≠ g_0.N))) rfl (aop_pick rfl rfl rfl) ?_
      refine AR.nil ?_
      exact hK26 (decide ((Sh.len l_1) ≠ g_0.N)) _ h (Weak.re (fr' := [(1, .sl (List.map i64 l_1)), (2, .ref 0 0 0), (21, bl (decide ((Sh.len l_1) ≠ g_0.N)))]) (H' := ⟨1, [(0, (2, [G.inquestref12_G.av g_0]))]⟩) [(0, 0)] [] rfl rfl rfl (.cons rfl rfl (.one (.same _ (by simp)) rfl) (of_decide_eq_true rfl) (trivial)) ⟨⟨.sl (List.map i64 l_1), rfl, .same _ (by simp)⟩, ⟨_, rfl, .ref rfl⟩, ⟨_, rfl, .same _ (by simp)⟩, trivial⟩)
theorem inquestref16_Is_ok {W0 : World} (hT : Tab W0) {g_0 : G.inquestref12_G} {l_1 : List Int} {r : Bool} (h : G.inquestref16_Is g_0 l_1 = some r) : Fun1 Tryd.prog W0 48 [G.inquestref12_G.av g_0, .sl (List.map i64 l_1)] (bl r) := Fun1.two (inquestref16_Is_ok0 hT h) (by simp)

end Wk
