/- That the functions of a package do what their plain functions say. -/
import Derived.Test.YtmmeihaoldinnaaDoorSh
import Derived.Test.YtmmeihaoldinnaaDoorWkGFacts
import Derived.Test.YtmmeihaoldinnaaDoorWkGinquestref10
open Go Go.Av Go.Proofs
set_option linter.unusedVariables false
namespace Wk
set_option maxHeartbeats 8000000 in
theorem inquestref12_Right_ok0 {W0 : World} (hT : Tab W0) {g_0 : G.inquestref12_G} {r : Bool} (h : G.inquestref12_Right g_0 = some r) : Fun2 Tryd.prog W0 17 [G.inquestref12_G.av g_0] (bl r) .empty := by
  refine fun2_of_awp Tryd.func17 rfl (by kernel_rfl) Tryd.ntmps17 (by simp) ?_
  unfold G.inquestref12_Right at h
  show AWP _ _ _ _ ⟨[(0, G.inquestref12_G.av g_0)], .empty⟩ _
  refine awp_seqK fun K1 hK1 => ?_
  refine awp_reg rfl ?_
  refine AR.op (r := .ref 0 0 0) rfl (aop_box 2 [G.inquestref12_G.av g_0] rfl rfl rfl (.inl ⟨rfl, rfl⟩)) ?_
  refine AR.op (r := bl false) rfl (aop_move (.inr rfl) rfl) ?_
  refine AR.nil ?_
  refine hK1 _ (AWP.weak (Weak.re (fr' := [(1, .ref 0 0 0)]) (H' := ⟨1, [(0, (2, [G.inquestref12_G.av g_0]))]⟩) [(0, 0)] [] rfl rfl rfl (.cons rfl rfl (.one (.same _ (by simp)) rfl) (of_decide_eq_true rfl) (trivial)) ⟨⟨_, rfl, .ref rfl⟩, trivial⟩) ?_)
  clear hK1 K1
  refine awp_seqK fun K2 hK2 => ?_
  refine awp_seqJ (fun (p : Bool) => (⟨[(1, .ref 0 0 0), (21, bl p)], ⟨1, [(0, (2, [G.inquestref12_G.av g_0]))]⟩⟩ : St)) (fun (p : Bool) => G.inquestref12_Right_j1 g_0 p = some r) ?_ ?_
  · rintro v44 h
    replace h : G.inquestref12_Right_j1 g_0 v44 = some r := h
    unfold G.inquestref12_Right_j1 at h
    show AWP _ _ _ _ ⟨[(1, .ref 0 0 0), (21, bl v44)], ⟨1, [(0, (2, [G.inquestref12_G.av g_0]))]⟩⟩ _
    refine awp_cond rfl (fun hb45 => ?_) (fun hb45 => ?_)
    · replace h := Sh.if_t h hb45
      refine awp_seqK fun K3 hK3 => ?_
      refine awp_reg rfl ?_
      refine AR.op (r := bl false) rfl (aop_move (.inr rfl) rfl) ?_
      refine AR.nil ?_
      refine hK3 _ (AWP.weak (Weak.re (fr' := [(2, bl false)]) (H' := .empty) [] [] rfl rfl rfl (trivial) ⟨⟨_, rfl, .same _ (by simp)⟩, trivial⟩) ?_)
      clear hK3 K3
      refine awp_ret ?_
      obtain rfl := Option.some.inj h
      refine ⟨.inr rfl, bl false, rfl, ?_⟩
      exact Weak.re [] [] rfl rfl rfl (trivial) ⟨⟨_, rfl, .same _ (by simp)⟩, trivial⟩
    · replace h := Sh.if_f h hb45
      refine awp_skip ?_
      refine hK2 _ (AWP.weak (Weak.re (fr' := [(1, .ref 0 0 0)]) (H' := ⟨1, [(0, (2, [G.inquestref12_G.av g_0]))]⟩) [(0, 0)] [] rfl rfl rfl (.cons rfl rfl (.one (.same _ (by simp)) rfl) (of_decide_eq_true rfl) (trivial)) ⟨⟨_, rfl, .ref rfl⟩, trivial⟩) ?_)
      clear hK2 K2
      refine awp_seqJ (fun (p : Unit) => (⟨[], .empty⟩ : St)) (fun (p : Unit) => G.inquestref12_Right_j2 = some r) ?_ ?_
      · rintro ⟨⟩ h
        replace h : G.inquestref12_Right_j2 = some r := h
        unfold G.inquestref12_Right_j2 at h
        show AWP _ _ _ _ ⟨[], .empty⟩ _
        refine awp_seqK fun K4 hK4 => ?_
        refine awp_reg rfl ?_
        refine AR.op (r := bl true) rfl (aop_move (.inr rfl) rfl) ?_
        refine AR.nil ?_
        refine hK4 _ ?_
        clear hK4 K4
        refine awp_ret ?_
        obtain rfl := Option.some.inj h
        refine ⟨.inr rfl, bl true, rfl, ?_⟩
        exact Weak.re [] [] rfl rfl rfl (trivial) ⟨⟨_, rfl, .same _ (by simp)⟩, trivial⟩
      · intro K5 hK5
        refine awp_seqK fun K6 hK6 => ?_
        refine awp_reg rfl ?_
        refine AR.op (r := i64 0) rfl (aop_move (.inr rfl) rfl) ?_
        refine AR.nil ?_
        refine hK6 _ ?_
        clear hK6 K6
        refine awp_block ?_
        refine awp_iter (fun (p : Int) => G.inquestref12_Right_b1 g_0 p) (fun (p : Int) => (⟨[(1, .ref 0 0 0), (3, i64 p)], ⟨1, [(0, (2, [G.inquestref12_G.av g_0]))]⟩⟩ : St)) h (Weak.re (fr' := [(1, .ref 0 0 0), (3, i64 0)]) (H' := ⟨1, [(0, (2, [G.inquestref12_G.av g_0]))]⟩) [(0, 0)] [] rfl rfl rfl (.cons rfl rfl (.one (.same _ (by simp)) rfl) (of_decide_eq_true rfl) (trivial)) ⟨⟨_, rfl, .ref rfl⟩, ⟨_, rfl, .same _ (by simp)⟩, trivial⟩) ?_
        · skip
          rintro i104 o1 h hx1
          replace h : G.inquestref12_Right_b1 g_0 i104 = some o1 := h
          unfold G.inquestref12_Right_b1 at h
          show AWP _ _ _ _ ⟨[(1, .ref 0 0 0), (3, i64 i104)], ⟨1, [(0, (2, [G.inquestref12_G.av g_0]))]⟩⟩ _
          refine awp_seqK fun K7 hK7 => ?_
          refine awp_seqK fun K8 hK8 => ?_
          refine awp_reg rfl ?_
          refine AR.op (r := i64 i104) rfl (aop_move (.inl rfl) rfl) ?_
          refine AR.op rfl (aop_field_ref rfl rfl rfl fd26_0 (by decide)) ?_
          refine AR.op (r := i64 g_0.N) rfl (aop_load_ref rfl rfl rfl rfl sz3 rfl) ?_
          refine AR.drop (frx := [(1, _), (3, _), (22, _), (24, _)]) ⟨rfl, rfl, rfl, rfl, trivial⟩ ?_
          refine AR.op (r := bl (decide (i104 < g_0.N))) rfl (aop_lss rfl rfl rfl) ?_
          refine AR.nil ?_
          refine hK8 _ (AWP.weak (Weak.re (fr' := [(1, .ref 0 0 0), (3, i64 i104), (25, bl (decide (i104 < g_0.N)))]) (H' := ⟨1, [(0, (2, [G.inquestref12_G.av g_0]))]⟩) [(0, 0)] [] rfl rfl rfl (.cons rfl rfl (.one (.same _ (by simp)) rfl) (of_decide_eq_true rfl) (trivial)) ⟨⟨_, rfl, .ref rfl⟩, ⟨_, rfl, .same _ (by simp)⟩, ⟨_, rfl, .same _ (by simp)⟩, trivial⟩) ?_)
          clear hK8 K8
          refine awp_cond rfl (fun hb105 => ?_) (fun hb105 => ?_)
          · replace h := Sh.if_t h hb105
            refine awp_skip ?_
            refine hK7 _ (AWP.weak (Weak.re (fr' := [(1, .ref 0 0 0), (3, i64 i104)]) (H' := ⟨1, [(0, (2, [G.inquestref12_G.av g_0]))]⟩) [(0, 0)] [] rfl rfl rfl (.cons rfl rfl (.one (.same _ (by simp)) rfl) (of_decide_eq_true rfl) (trivial)) ⟨⟨_, rfl, .ref rfl⟩, ⟨_, rfl, .same _ (by simp)⟩, trivial⟩) ?_)
            clear hK7 K7
            refine awp_seqJ (fun (p : Unit) => (⟨[(1, .ref 0 0 0), (3, i64 i104)], ⟨1, [(0, (2, [G.inquestref12_G.av g_0]))]⟩⟩ : St)) (fun (p : Unit) => G.inquestref12_Right_j3 i104 = some o1) ?_ ?_
            · rintro ⟨⟩ h
              replace h : G.inquestref12_Right_j3 i104 = some o1 := h
              unfold G.inquestref12_Right_j3 at h
              show AWP _ _ _ _ ⟨[(1, .ref 0 0 0), (3, i64 i104)], ⟨1, [(0, (2, [G.inquestref12_G.av g_0]))]⟩⟩ _
              refine awp_reg rfl ?_
              refine AR.op (r := i64 i104) rfl (aop_move (.inl rfl) rfl) ?_
              refine AR.op (r := i64 (w64 (i104 + 1))) rfl (aop_add rfl rfl rfl rfl) ?_
              refine AR.op (r := i64 (w64 (i104 + 1))) rfl (aop_move (.inr rfl) rfl) ?_
              refine AR.nil ?_
              replace h := Sh.next_eq h
              exact ⟨_, h, Weak.re (fr' := [(1, .ref 0 0 0), (3, i64 (w64 (i104 + 1)))]) (H' := ⟨1, [(0, (2, [G.inquestref12_G.av g_0]))]⟩) [(0, 0)] [] rfl rfl rfl (.cons rfl rfl (.one (.same _ (by simp)) rfl) (of_decide_eq_true rfl) (trivial)) ⟨⟨_, rfl, .ref rfl⟩, ⟨_, rfl, .same _ (by simp)⟩, trivial⟩⟩
            · intro K9 hK9
              refine awp_block ?_
              refine awp_seqK fun K10 hK10 => ?_
              refine awp_reg rfl ?_
              refine AR.op rfl (aop_field_ref rfl rfl rfl fd26_0 (by decide)) ?_
              refine AR.op (r := i64 g_0.N) rfl (aop_load_ref rfl rfl rfl rfl sz3 rfl) ?_
              refine AR.op (r := i64 g_0.N) rfl (aop_move (.inr rfl) rfl) ?_
              refine AR.nil ?_
              refine hK10 _ (AWP.weak (Weak.re (fr' := [(1, .ref 0 0 0), (3, i64 i104), (4, i64 g_0.N)]) (H' := ⟨1, [(0, (2, [G.inquestref12_G.av g_0]))]⟩) [(0, 0)] [] rfl rfl rfl (.cons rfl rfl (.one (.same _ (by simp)) rfl) (of_decide_eq_true rfl) (trivial)) ⟨⟨_, rfl, .ref rfl⟩, ⟨_, rfl, .same _ (by simp)⟩, ⟨_, rfl, .same _ (by simp)⟩, trivial⟩) ?_)
              clear hK10 K10
              refine awp_block ?_
              refine awp_iter (fun (p : Int) => G.inquestref12_Right_b2 g_0 i104 p) (fun (p : Int) => (⟨[(1, .ref 0 0 0), (3, i64 i104), (4, i64 p)], ⟨1, [(0, (2, [G.inquestref12_G.av g_0]))]⟩⟩ : St)) h (Weak.re (fr' := [(1, .ref 0 0 0), (3, i64 i104), (4, i64 g_0.N)]) (H' := ⟨1, [(0, (2, [G.inquestref12_G.av g_0]))]⟩) [(0, 0)] [] rfl rfl rfl (.cons rfl rfl (.one (.same _ (by simp)) rfl) (of_decide_eq_true rfl) (trivial)) ⟨⟨_, rfl, .ref rfl⟩, ⟨_, rfl, .same _ (by simp)⟩, ⟨_, rfl, .same _ (by simp)⟩, trivial⟩) ?_
              · skip
                rintro k124 o2 h hx2
                replace h : G.inquestref12_Right_b2 g_0 i104 k124 = some o2 := h
                unfold G.inquestref12_Right_b2 at h
                show AWP _ _ _ _ ⟨[(1, .ref 0 0 0), (3, i64 i104), (4, i64 k124)], ⟨1, [(0, (2, [G.inquestref12_G.av g_0]))]⟩⟩ _
                refine awp_seqK fun K11 hK11 => ?_
                refine awp_seqK fun K12 hK12 => ?_
                refine awp_reg rfl ?_
                refine AR.op (r := i64 k124) rfl (aop_move (.inl rfl) rfl) ?_
                refine AR.op (r := bl (decide (k124 < 64))) rfl (aop_lss rfl rfl rfl) ?_
                refine AR.nil ?_
                refine hK12 _ (AWP.weak (Weak.re (fr' := [(1, .ref 0 0 0), (3, i64 i104), (4, i64 k124), (31, bl (decide (k124 < 64)))]) (H' := ⟨1, [(0, (2, [G.inquestref12_G.av g_0]))]⟩) [(0, 0)] [] rfl rfl rfl (.cons rfl rfl (.one (.same _ (by simp)) rfl) (of_decide_eq_true rfl) (trivial)) ⟨⟨_, rfl, .ref rfl⟩, ⟨_, rfl, .same _ (by simp)⟩, ⟨_, rfl, .same _ (by simp)⟩, ⟨_, rfl, .same _ (by simp)⟩, trivial⟩) ?_)
                clear hK12 K12
                refine awp_cond rfl (fun hb125 => ?_) (fun hb125 => ?_)
                · replace h := Sh.if_t h hb125
                  refine awp_skip ?_
                  refine hK11 _ (AWP.weak (Weak.re (fr' := [(1, .ref 0 0 0), (3, i64 i104), (4, i64 k124)]) (H' := ⟨1, [(0, (2, [G.inquestref12_G.av g_0]))]⟩) [(0, 0)] [] rfl rfl rfl (.cons rfl rfl (.one (.same _ (by simp)) rfl) (of_decide_eq_true rfl) (trivial)) ⟨⟨_, rfl, .ref rfl⟩, ⟨_, rfl, .same _ (by simp)⟩, ⟨_, rfl, .same _ (by simp)⟩, trivial⟩) ?_)
                  clear hK11 K11
                  refine awp_seqK fun K13 hK13 => ?_
                  refine awp_block ?_
                  refine awp_seqK fun K14 hK14 => ?_
                  refine awp_reg rfl ?_
                  refine AR.op rfl (aop_field_ref rfl rfl rfl fd26_1 (by decide)) ?_
                  refine AR.op (r := .sl (List.map u64 g_0.Rows)) rfl (aop_load_ref rfl rfl rfl rfl sz22 rfl) ?_
                  refine AR.op (r := i64 i104) rfl (aop_move (.inl rfl) rfl) ?_
                  refine AR.drop (frx := [(1, _), (3, _), (4, _), (35, _), (36, _)]) ⟨rfl, rfl, rfl, rfl, rfl, trivial⟩ ?_
                  obtain ⟨x132, hx132, h⟩ := Sh.bind_some' h
                  obtain ⟨k133, hi133, hl133⟩ := Sh.idx_some hx132
                  refine AR.op rfl (t_index_sl u64 g_0.Rows hi133 hl133 rfl rfl rfl el22 rfl) ?_
                  refine AR.op (r := u64 x132) rfl (aop_load_pp rfl rfl sz45 rfl) ?_
                  refine AR.op (r := i64 k124) rfl (aop_move (.inl rfl) rfl) ?_
                  refine AR.drop (frx := [(1, _), (3, _), (4, _), (38, _), (39, _)]) ⟨rfl, rfl, rfl, rfl, rfl, trivial⟩ ?_
                  obtain ⟨r134, hr134, h⟩ := Sh.bind_some' h
                  refine AR.op (r := bl r134) rfl (aop_call1 rfl rfl (by simp) (inquestref10_Has_ok hT hr134)) ?_
                  refine AR.op (r := bl r134) rfl (aop_move (.inr rfl) rfl) ?_
                  refine AR.nil ?_
                  refine hK14 _ (AWP.weak (Weak.re (fr' := [(1, .ref 0 0 0), (3, i64 i104), (4, i64 k124), (5, bl r134)]) (H' := ⟨1, [(0, (2, [G.inquestref12_G.av g_0]))]⟩) [(0, 0)] [] rfl rfl rfl (.cons rfl rfl (.one (.same _ (by simp)) rfl) (of_decide_eq_true rfl) (trivial)) ⟨⟨_, rfl, .ref rfl⟩, ⟨_, rfl, .same _ (by simp)⟩, ⟨_, rfl, .same _ (by simp)⟩, ⟨_, rfl, .same _ (by simp)⟩, trivial⟩) ?_)
                  clear hK14 K14
                  refine awp_seqK fun K15 hK15 => ?_
                  refine awp_reg rfl ?_
                  refine AR.op (r := bl r134) rfl (aop_move (.inl rfl) rfl) ?_
                  refine AR.nil ?_
                  refine hK15 _ (AWP.weak (Weak.re (fr' := [(1, .ref 0 0 0), (3, i64 i104), (4, i64 k124), (41, bl r134)]) (H' := ⟨1, [(0, (2, [G.inquestref12_G.av g_0]))]⟩) [(0, 0)] [] rfl rfl rfl (.cons rfl rfl (.one (.same _ (by simp)) rfl) (of_decide_eq_true rfl) (trivial)) ⟨⟨_, rfl, .ref rfl⟩, ⟨_, rfl, .same _ (by simp)⟩, ⟨_, rfl, .same _ (by simp)⟩, ⟨_, rfl, .same _ (by simp)⟩, trivial⟩) ?_)
                  clear hK15 K15
                  refine awp_cond rfl (fun hb135 => ?_) (fun hb135 => ?_)
                  · replace h := Sh.if_t h hb135
                    refine awp_seqK fun K16 hK16 => ?_
                    refine awp_reg rfl ?_
                    refine AR.op (r := bl false) rfl (aop_move (.inr rfl) rfl) ?_
                    refine AR.nil ?_
                    refine hK16 _ (AWP.weak (Weak.re (fr' := [(2, bl false)]) (H' := .empty) [] [] rfl rfl rfl (trivial) ⟨⟨_, rfl, .same _ (by simp)⟩, trivial⟩) ?_)
                    clear hK16 K16
                    refine awp_ret ?_
                    replace h := Sh.exit_eq h hx2
                    replace h := Sh.exit_eq h hx1
                    obtain rfl := Option.some.inj h
                    refine ⟨.inr rfl, bl false, rfl, ?_⟩
                    exact Weak.re [] [] rfl rfl rfl (trivial) ⟨⟨_, rfl, .same _ (by simp)⟩, trivial⟩
                  · replace h := Sh.if_f h hb135
                    refine awp_skip ?_
                    refine hK13 _ (AWP.weak (Weak.re (fr' := [(1, .ref 0 0 0), (3, i64 i104), (4, i64 k124)]) (H' := ⟨1, [(0, (2, [G.inquestref12_G.av g_0]))]⟩) [(0, 0)] [] rfl rfl rfl (.cons rfl rfl (.one (.same _ (by simp)) rfl) (of_decide_eq_true rfl) (trivial)) ⟨⟨_, rfl, .ref rfl⟩, ⟨_, rfl, .same _ (by simp)⟩, ⟨_, rfl, .same _ (by simp)⟩, trivial⟩) ?_)
                    clear hK13 K13
                    refine awp_reg rfl ?_
                    refine AR.op (r := i64 k124) rfl (aop_move (.inl rfl) rfl) ?_
                    refine AR.op (r := i64 (w64 (k124 + 1))) rfl (aop_add rfl rfl rfl rfl) ?_
                    refine AR.op (r := i64 (w64 (k124 + 1))) rfl (aop_move (.inr rfl) rfl) ?_
                    refine AR.nil ?_
                    replace h := Sh.next_eq h
                    exact ⟨_, h, Weak.re (fr' := [(1, .ref 0 0 0), (3, i64 i104), (4, i64 (w64 (k124 + 1)))]) (H' := ⟨1, [(0, (2, [G.inquestref12_G.av g_0]))]⟩) [(0, 0)] [] rfl rfl rfl (.cons rfl rfl (.one (.same _ (by simp)) rfl) (of_decide_eq_true rfl) (trivial)) ⟨⟨_, rfl, .ref rfl⟩, ⟨_, rfl, .same _ (by simp)⟩, ⟨_, rfl, .same _ (by simp)⟩, trivial⟩⟩
                · replace h := Sh.if_f h hb125
                  refine awp_exit ?_
                  replace h := Sh.exit_eq h hx2
                  exact hK9 () _ h (Weak.re (fr' := [(1, .ref 0 0 0), (3, i64 i104)]) (H' := ⟨1, [(0, (2, [G.inquestref12_G.av g_0]))]⟩) [(0, 0)] [] rfl rfl rfl (.cons rfl rfl (.one (.same _ (by simp)) rfl) (of_decide_eq_true rfl) (trivial)) ⟨⟨_, rfl, .ref rfl⟩, ⟨_, rfl, .same _ (by simp)⟩, trivial⟩)
          · replace h := Sh.if_f h hb105
            refine awp_exit ?_
            replace h := Sh.exit_eq h hx1
            exact hK5 () _ h (Weak.re (fr' := []) (H' := .empty) [] [] rfl rfl rfl (trivial) trivial)
  · intro K17 hK17
    refine awp_reg rfl ?_
    refine AR.op rfl (aop_field_ref rfl rfl rfl fd26_0 (by decide)) ?_
    refine AR.op (r := i64 g_0.N) rfl (aop_load_ref rfl rfl rfl rfl sz3 rfl) ?_
    refine AR.op (r := bl (decide (g_0.N < 0))) rfl (aop_lss rfl rfl rfl) ?_
    refine AR.drop (frx := [(1, _), (8, _)]) ⟨rfl, rfl, trivial⟩ ?_
    refine AR.op (r := bl (decide (g_0.N < 0))) rfl (aop_move (.inl rfl) rfl) ?_
    rcases Bool.eq_false_or_eq_true (decide (g_0.N < 0)) with hb136 | hb136
    · rw [hb136]
      replace h := Sh.if_t h hb136
      refine AR.skip rfl ?_
      refine AR.skip rfl ?_
      refine AR.drop (frx := [(1, _), (9, _), (11, _)]) ⟨rfl, rfl, rfl, trivial⟩ ?_
      refine AR.skip rfl ?_
      refine AR.op (r := bl true) rfl (aop_pick rfl rfl rfl) ?_
      refine AR.op (r := bl true) rfl (aop_move (.inl rfl) rfl) ?_
      refine AR.drop (frx := [(1, _), (14, _)]) ⟨rfl, rfl, trivial⟩ ?_
      refine AR.skip rfl ?_
      refine AR.skip rfl ?_
      refine AR.skip rfl ?_
      refine AR.drop (frx := [(1, _), (14, _), (17, _)]) ⟨rfl, rfl, rfl, trivial⟩ ?_
      refine AR.skip rfl ?_
      refine AR.skip rfl ?_
      refine AR.skip rfl ?_
      refine AR.drop (frx := [(1, _), (14, _), (20, _)]) ⟨rfl, rfl, rfl, trivial⟩ ?_
      refine AR.op (r := bl true) rfl (aop_pick rfl rfl rfl) ?_
      refine AR.nil ?_
      exact hK17 true _ h (Weak.re (fr' := [(1, .ref 0 0 0), (21, bl true)]) (H' := ⟨1, [(0, (2, [G.inquestref12_G.av g_0]))]⟩) [(0, 0)] [] rfl rfl rfl (.cons rfl rfl (.one (.same _ (by simp)) rfl) (of_decide_eq_true rfl) (trivial)) ⟨⟨_, rfl, .ref rfl⟩, ⟨_, rfl, .same _ (by simp)⟩, trivial⟩)
    · rw [hb136]
      replace h := Sh.if_f h hb136
      refine AR.op rfl (aop_field_ref rfl rfl rfl fd26_0 (by decide)) ?_
      refine AR.op (r := i64 g_0.N) rfl (aop_load_ref rfl rfl rfl rfl sz3 rfl) ?_
      refine AR.drop (frx := [(1, _), (9, _), (11, _)]) ⟨rfl, rfl, rfl, trivial⟩ ?_
      refine AR.op (r := bl (decide ((64 : Int) < g_0.N))) rfl (aop_gtr rfl rfl rfl) ?_
      refine AR.op (r := bl (decide ((64 : Int) < g_0.N))) rfl (aop_pick rfl rfl rfl) ?_
      refine AR.op (r := bl (decide ((64 : Int) < g_0.N))) rfl (aop_move (.inl rfl) rfl) ?_
      refine AR.drop (frx := [(1, _), (14, _)]) ⟨rfl, rfl, trivial⟩ ?_
      rcases Bool.eq_false_or_eq_true (decide ((64 : Int) < g_0.N)) with hb137 | hb137
      · rw [hb137]
        replace h := Sh.if_t h hb137
        refine AR.skip rfl ?_
        refine AR.skip rfl ?_
        refine AR.skip rfl ?_
        refine AR.drop (frx := [(1, _), (14, _), (17, _)]) ⟨rfl, rfl, rfl, trivial⟩ ?_
        refine AR.skip rfl ?_
        refine AR.skip rfl ?_
        refine AR.skip rfl ?_
        refine AR.drop (frx := [(1, _), (14, _), (20, _)]) ⟨rfl, rfl, rfl, trivial⟩ ?_
        refine AR.op (r := bl true) rfl (aop_pick rfl rfl rfl) ?_
        refine AR.nil ?_
        exact hK17 true _ h (Weak.re (fr' := [(1, .ref 0 0 0), (21, bl true)]) (H' := ⟨1, [(0, (2, [G.inquestref12_G.av g_0]))]⟩) [(0, 0)] [] rfl rfl rfl (.cons rfl rfl (.one (.same _ (by simp)) rfl) (of_decide_eq_true rfl) (trivial)) ⟨⟨_, rfl, .ref rfl⟩, ⟨_, rfl, .same _ (by simp)⟩, trivial⟩)
      · rw [hb137]
        replace h := Sh.if_f h hb137
        refine AR.op rfl (aop_field_ref rfl rfl rfl fd26_1 (by decide)) ?_
        refine AR.op (r := .sl (List.map u64 g_0.Rows)) rfl (aop_load_ref rfl rfl rfl rfl sz22 rfl) ?_
        refine AR.op (r := i64 (Sh.len g_0.Rows)) rfl (t_len_sl u64 g_0.Rows rfl rfl el22) ?_
        refine AR.drop (frx := [(1, _), (14, _), (17, _)]) ⟨rfl, rfl, rfl, trivial⟩ ?_
        refine AR.op rfl (aop_field_ref rfl rfl rfl fd26_0 (by decide)) ?_
        refine AR.op (r := i64 g_0.N) rfl (aop_load_ref rfl rfl rfl rfl sz3 rfl) ?_
        refine AR.op (r := bl (decide ((Sh.len g_0.Rows) ≠ g_0.N))) rfl (aop_neq rfl rfl rfl) ?_
        refine AR.drop (frx := [(1, _), (14, _), (20, _)]) ⟨rfl, rfl, rfl, trivial⟩ ?_
        refine AR.op (r := bl (decide ((Sh.len g_0.Rows) ≠ g_0.N))) rfl (aop_pick rfl rfl rfl) ?_
        refine AR.nil ?_
        exact hK17 (decide ((Sh.len g_0.Rows) ≠ g_0.N)) _ h (Weak.re (fr' := [(1, .ref 0 0 0), (21, bl (decide ((Sh.len g_0.Rows) ≠ g_0.N)))]) (H' := ⟨1, [(0, (2, [G.inquestref12_G.av g_0]))]⟩) [(0, 0)] [] rfl rfl rfl (.cons rfl rfl (.one (.same _ (by simp)) rfl) (of_decide_eq_true rfl) (trivial)) ⟨⟨_, rfl, .ref rfl⟩, ⟨_, rfl, .same _ (by simp)⟩, trivial⟩)
theorem inquestref12_Right_ok {W0 : World} (hT : Tab W0) {g_0 : G.inquestref12_G} {r : Bool} (h : G.inquestref12_Right g_0 = some r) : Fun1 Tryd.prog W0 17 [G.inquestref12_G.av g_0] (bl r) := Fun1.two (inquestref12_Right_ok0 hT h) (by simp)


set_option maxHeartbeats 8000000 in
theorem inquestref12_Same_ok0 {W0 : World} (hT : Tab W0) {a_0 : G.inquestref12_G} {b_1 : G.inquestref12_G} {r : Bool} (h : G.inquestref12_Same a_0 b_1 = some r) : Fun2 Tryd.prog W0 21 [G.inquestref12_G.av a_0, G.inquestref12_G.av b_1] (bl r) .empty := by
  refine fun2_of_awp Tryd.func21 rfl (by kernel_rfl) Tryd.ntmps21 (by simp) ?_
  unfold G.inquestref12_Same at h
  show AWP _ _ _ _ ⟨[(0, G.inquestref12_G.av a_0), (1, G.inquestref12_G.av b_1)], .empty⟩ _
  refine awp_seqK fun K1 hK1 => ?_
  refine awp_reg rfl ?_
  refine AR.op (r := .ref 0 0 0) rfl (aop_box 2 [G.inquestref12_G.av a_0] rfl rfl rfl (.inl ⟨rfl, rfl⟩)) ?_
  refine AR.op (r := .ref 1 0 0) rfl (aop_box 2 [G.inquestref12_G.av b_1] rfl rfl rfl (.inl ⟨rfl, rfl⟩)) ?_
  refine AR.op (r := bl false) rfl (aop_move (.inr rfl) rfl) ?_
  refine AR.nil ?_
  refine hK1 _ (AWP.weak (Weak.re (fr' := [(2, .ref 0 0 0), (3, .ref 1 0 0)]) (H' := ⟨2, [(0, (2, [G.inquestref12_G.av a_0])), (1, (2, [G.inquestref12_G.av b_1]))]⟩) [(0, 0), (1, 1)] [] rfl rfl rfl (.cons rfl rfl (.one (.same _ (by simp)) rfl) (of_decide_eq_true rfl) (.cons rfl rfl (.one (.same _ (by simp)) rfl) (of_decide_eq_true rfl) (trivial))) ⟨⟨_, rfl, .ref rfl⟩, ⟨_, rfl, .ref rfl⟩, trivial⟩) ?_)
  clear hK1 K1
  refine awp_seqK fun K2 hK2 => ?_
  refine awp_seqJ (fun (p : Bool) => (⟨[(2, .ref 0 0 0), (3, .ref 1 0 0), (19, bl p)], ⟨2, [(0, (2, [G.inquestref12_G.av a_0])), (1, (2, [G.inquestref12_G.av b_1]))]⟩⟩ : St)) (fun (p : Bool) => G.inquestref12_Same_j1 a_0 b_1 p = some r) ?_ ?_
  · rintro v20 h
    replace h : G.inquestref12_Same_j1 a_0 b_1 v20 = some r := h
    unfold G.inquestref12_Same_j1 at h
    show AWP _ _ _ _ ⟨[(2, .ref 0 0 0), (3, .ref 1 0 0), (19, bl v20)], ⟨2, [(0, (2, [G.inquestref12_G.av a_0])), (1, (2, [G.inquestref12_G.av b_1]))]⟩⟩ _
    refine awp_cond rfl (fun hb21 => ?_) (fun hb21 => ?_)
    · replace h := Sh.if_t h hb21
      refine awp_seqK fun K3 hK3 => ?_
      refine awp_reg rfl ?_
      refine AR.op (r := bl false) rfl (aop_move (.inr rfl) rfl) ?_
      refine AR.nil ?_
      refine hK3 _ (AWP.weak (Weak.re (fr' := [(4, bl false)]) (H' := .empty) [] [] rfl rfl rfl (trivial) ⟨⟨_, rfl, .same _ (by simp)⟩, trivial⟩) ?_)
      clear hK3 K3
      refine awp_ret ?_
      obtain rfl := Option.some.inj h
      refine ⟨.inr rfl, bl false, rfl, ?_⟩
      exact Weak.re [] [] rfl rfl rfl (trivial) ⟨⟨_, rfl, .same _ (by simp)⟩, trivial⟩
    · replace h := Sh.if_f h hb21
      refine awp_skip ?_
      refine hK2 _ (AWP.weak (Weak.re (fr' := [(2, .ref 0 0 0), (3, .ref 1 0 0)]) (H' := ⟨2, [(0, (2, [G.inquestref12_G.av a_0])), (1, (2, [G.inquestref12_G.av b_1]))]⟩) [(0, 0), (1, 1)] [] rfl rfl rfl (.cons rfl rfl (.one (.same _ (by simp)) rfl) (of_decide_eq_true rfl) (.cons rfl rfl (.one (.same _ (by simp)) rfl) (of_decide_eq_true rfl) (trivial))) ⟨⟨_, rfl, .ref rfl⟩, ⟨_, rfl, .ref rfl⟩, trivial⟩) ?_)
      clear hK2 K2
      refine awp_seqJ (fun (p : Unit) => (⟨[], .empty⟩ : St)) (fun (p : Unit) => G.inquestref12_Same_j2 = some r) ?_ ?_
      · rintro ⟨⟩ h
        replace h : G.inquestref12_Same_j2 = some r := h
        unfold G.inquestref12_Same_j2 at h
        show AWP _ _ _ _ ⟨[], .empty⟩ _
        refine awp_seqK fun K4 hK4 => ?_
        refine awp_reg rfl ?_
        refine AR.op (r := bl true) rfl (aop_move (.inr rfl) rfl) ?_
        refine AR.nil ?_
        refine hK4 _ ?_
        clear hK4 K4
        refine awp_ret ?_
        obtain rfl := Option.some.inj h
        refine ⟨.inr rfl, bl true, rfl, ?_⟩
        exact Weak.re [] [] rfl rfl rfl (trivial) ⟨⟨_, rfl, .same _ (by simp)⟩, trivial⟩
      · intro K5 hK5
        refine awp_seqK fun K6 hK6 => ?_
        refine awp_reg rfl ?_
        refine AR.op (r := i64 0) rfl (aop_move (.inr rfl) rfl) ?_
        refine AR.nil ?_
        refine hK6 _ ?_
        clear hK6 K6
        refine awp_block ?_
        refine awp_iter (fun (p : Int) => G.inquestref12_Same_b1 a_0 b_1 p) (fun (p : Int) => (⟨[(2, .ref 0 0 0), (3, .ref 1 0 0), (5, i64 p)], ⟨2, [(0, (2, [G.inquestref12_G.av a_0])), (1, (2, [G.inquestref12_G.av b_1]))]⟩⟩ : St)) h (Weak.re (fr' := [(2, .ref 0 0 0), (3, .ref 1 0 0), (5, i64 0)]) (H' := ⟨2, [(0, (2, [G.inquestref12_G.av a_0])), (1, (2, [G.inquestref12_G.av b_1]))]⟩) [(0, 0), (1, 1)] [] rfl rfl rfl (.cons rfl rfl (.one (.same _ (by simp)) rfl) (of_decide_eq_true rfl) (.cons rfl rfl (.one (.same _ (by simp)) rfl) (of_decide_eq_true rfl) (trivial))) ⟨⟨_, rfl, .ref rfl⟩, ⟨_, rfl, .ref rfl⟩, ⟨_, rfl, .same _ (by simp)⟩, trivial⟩) ?_
        · skip
          rintro i45 o1 h hx1
          replace h : G.inquestref12_Same_b1 a_0 b_1 i45 = some o1 := h
          unfold G.inquestref12_Same_b1 at h
          show AWP _ _ _ _ ⟨[(2, .ref 0 0 0), (3, .ref 1 0 0), (5, i64 i45)], ⟨2, [(0, (2, [G.inquestref12_G.av a_0])), (1, (2, [G.inquestref12_G.av b_1]))]⟩⟩ _
          refine awp_seqK fun K7 hK7 => ?_
          refine awp_seqK fun K8 hK8 => ?_
          refine awp_reg rfl ?_
          refine AR.op (r := i64 i45) rfl (aop_move (.inl rfl) rfl) ?_
          refine AR.op rfl (aop_field_ref rfl rfl rfl fd26_1 (by decide)) ?_
          refine AR.op (r := .sl (List.map u64 a_0.Rows)) rfl (aop_load_ref rfl rfl rfl rfl sz22 rfl) ?_
          refine AR.drop (frx := [(2, _), (3, _), (5, _), (20, _), (22, _)]) ⟨rfl, rfl, rfl, rfl, rfl, trivial⟩ ?_
          refine AR.op (r := i64 (Sh.len a_0.Rows)) rfl (t_len_sl u64 a_0.Rows rfl rfl el22) ?_
          refine AR.op (r := bl (decide (i45 < (Sh.len a_0.Rows)))) rfl (aop_lss rfl rfl rfl) ?_
          refine AR.nil ?_
          refine hK8 _ (AWP.weak (Weak.re (fr' := [(2, .ref 0 0 0), (3, .ref 1 0 0), (5, i64 i45), (24, bl (decide (i45 < (Sh.len a_0.Rows))))]) (H' := ⟨2, [(0, (2, [G.inquestref12_G.av a_0])), (1, (2, [G.inquestref12_G.av b_1]))]⟩) [(0, 0), (1, 1)] [] rfl rfl rfl (.cons rfl rfl (.one (.same _ (by simp)) rfl) (of_decide_eq_true rfl) (.cons rfl rfl (.one (.same _ (by simp)) rfl) (of_decide_eq_true rfl) (trivial))) ⟨⟨_, rfl, .ref rfl⟩, ⟨_, rfl, .ref rfl⟩, ⟨_, rfl, .same _ (by simp)⟩, ⟨_, rfl, .same _ (by simp)⟩, trivial⟩) ?_)
          clear hK8 K8
          refine awp_cond rfl (fun hb46 => ?_) (fun hb46 => ?_)
          · replace h := Sh.if_t h hb46
            refine awp_skip ?_
            refine hK7 _ (AWP.weak (Weak.re (fr' := [(2, .ref 0 0 0), (3, .ref 1 0 0), (5, i64 i45)]) (H' := ⟨2, [(0, (2, [G.inquestref12_G.av a_0])), (1, (2, [G.inquestref12_G.av b_1]))]⟩) [(0, 0), (1, 1)] [] rfl rfl rfl (.cons rfl rfl (.one (.same _ (by simp)) rfl) (of_decide_eq_true rfl) (.cons rfl rfl (.one (.same _ (by simp)) rfl) (of_decide_eq_true rfl) (trivial))) ⟨⟨_, rfl, .ref rfl⟩, ⟨_, rfl, .ref rfl⟩, ⟨_, rfl, .same _ (by simp)⟩, trivial⟩) ?_)
            clear hK7 K7
            refine awp_seqK fun K9 hK9 => ?_
            refine awp_block ?_
            refine awp_seqK fun K10 hK10 => ?_
            refine awp_any (by kernel_rfl) (by kernel_rfl) rfl ?_
            refine ARH.op rfl rfl (aop_field_ref rfl rfl rfl fd26_1 (by decide)) ?_
            refine ARH.op (r := .sl (List.map u64 a_0.Rows)) rfl rfl (aop_load_ref rfl rfl rfl rfl sz22 rfl) ?_
            refine ARH.dry (r := i64 i45) rfl (fun _ => aop_move (.inl rfl) rfl) ?_
            refine ARH.drop (frx := [(2, _), (3, _), (5, _), (28, _), (29, _)]) ⟨rfl, rfl, rfl, rfl, rfl, trivial⟩ ?_
            obtain ⟨x55, hx55, h⟩ := Sh.bind_some' h
            obtain ⟨k56, hi56, hl56⟩ := Sh.idx_some hx55
            refine ARH.op rfl rfl (t_index_sl u64 a_0.Rows hi56 hl56 rfl rfl rfl el22 rfl) ?_
            refine ARH.op (r := u64 x55) rfl rfl (aop_load_pp rfl rfl sz45 rfl) ?_
            refine ARH.op rfl rfl (aop_field_ref rfl rfl rfl fd26_1 (by decide)) ?_
            refine ARH.drop (frx := [(2, _), (3, _), (5, _), (31, _), (32, _)]) ⟨rfl, rfl, rfl, rfl, rfl, trivial⟩ ?_
            refine ARH.op (r := .sl (List.map u64 b_1.Rows)) rfl rfl (aop_load_ref rfl rfl rfl rfl sz22 rfl) ?_
            refine ARH.dry (r := i64 i45) rfl (fun _ => aop_move (.inl rfl) rfl) ?_
            obtain ⟨x57, hx57, h⟩ := Sh.bind_some' h
            obtain ⟨k58, hi58, hl58⟩ := Sh.idx_some hx57
            refine ARH.op rfl rfl (t_index_sl u64 b_1.Rows hi58 hl58 rfl rfl rfl el22 rfl) ?_
            refine ARH.drop (frx := [(2, _), (3, _), (5, _), (31, _), (35, _)]) ⟨rfl, rfl, rfl, rfl, rfl, trivial⟩ ?_
            refine ARH.op (r := u64 x57) rfl rfl (aop_load_pp rfl rfl sz45 rfl) ?_
            refine ARH.dry (r := bl (decide (x55 ≠ x57))) rfl (fun _ => aop_neq64 (a := x55) (b := x57) rfl rfl rfl) ?_
            refine ARH.nil ?_
            refine hK10 _ (AWP.weak (Weak.re (fr' := [(2, .ref 0 0 0), (3, .ref 1 0 0), (5, i64 i45), (37, bl (decide (x55 ≠ x57)))]) (H' := ⟨2, [(0, (2, [G.inquestref12_G.av a_0])), (1, (2, [G.inquestref12_G.av b_1]))]⟩) [(0, 0), (1, 1)] [] rfl rfl rfl (.cons rfl rfl (.one (.same _ (by simp)) rfl) (of_decide_eq_true rfl) (.cons rfl rfl (.one (.same _ (by simp)) rfl) (of_decide_eq_true rfl) (trivial))) ⟨⟨_, rfl, .ref rfl⟩, ⟨_, rfl, .ref rfl⟩, ⟨_, rfl, .same _ (by simp)⟩, ⟨_, rfl, .same _ (by simp)⟩, trivial⟩) ?_)
            clear hK10 K10
            refine awp_cond rfl (fun hb59 => ?_) (fun hb59 => ?_)
            · replace h := Sh.if_t h hb59
              refine awp_seqK fun K11 hK11 => ?_
              refine awp_reg rfl ?_
              refine AR.op (r := bl false) rfl (aop_move (.inr rfl) rfl) ?_
              refine AR.nil ?_
              refine hK11 _ (AWP.weak (Weak.re (fr' := [(4, bl false)]) (H' := .empty) [] [] rfl rfl rfl (trivial) ⟨⟨_, rfl, .same _ (by simp)⟩, trivial⟩) ?_)
              clear hK11 K11
              refine awp_ret ?_
              replace h := Sh.exit_eq h hx1
              obtain rfl := Option.some.inj h
              refine ⟨.inr rfl, bl false, rfl, ?_⟩
              exact Weak.re [] [] rfl rfl rfl (trivial) ⟨⟨_, rfl, .same _ (by simp)⟩, trivial⟩
            · replace h := Sh.if_f h hb59
              refine awp_skip ?_
              refine hK9 _ (AWP.weak (Weak.re (fr' := [(2, .ref 0 0 0), (3, .ref 1 0 0), (5, i64 i45)]) (H' := ⟨2, [(0, (2, [G.inquestref12_G.av a_0])), (1, (2, [G.inquestref12_G.av b_1]))]⟩) [(0, 0), (1, 1)] [] rfl rfl rfl (.cons rfl rfl (.one (.same _ (by simp)) rfl) (of_decide_eq_true rfl) (.cons rfl rfl (.one (.same _ (by simp)) rfl) (of_decide_eq_true rfl) (trivial))) ⟨⟨_, rfl, .ref rfl⟩, ⟨_, rfl, .ref rfl⟩, ⟨_, rfl, .same _ (by simp)⟩, trivial⟩) ?_)
              clear hK9 K9
              refine awp_reg rfl ?_
              refine AR.op (r := i64 i45) rfl (aop_move (.inl rfl) rfl) ?_
              refine AR.op (r := i64 (w64 (i45 + 1))) rfl (aop_add rfl rfl rfl rfl) ?_
              refine AR.op (r := i64 (w64 (i45 + 1))) rfl (aop_move (.inr rfl) rfl) ?_
              refine AR.nil ?_
              replace h := Sh.next_eq h
              exact ⟨_, h, Weak.re (fr' := [(2, .ref 0 0 0), (3, .ref 1 0 0), (5, i64 (w64 (i45 + 1)))]) (H' := ⟨2, [(0, (2, [G.inquestref12_G.av a_0])), (1, (2, [G.inquestref12_G.av b_1]))]⟩) [(0, 0), (1, 1)] [] rfl rfl rfl (.cons rfl rfl (.one (.same _ (by simp)) rfl) (of_decide_eq_true rfl) (.cons rfl rfl (.one (.same _ (by simp)) rfl) (of_decide_eq_true rfl) (trivial))) ⟨⟨_, rfl, .ref rfl⟩, ⟨_, rfl, .ref rfl⟩, ⟨_, rfl, .same _ (by simp)⟩, trivial⟩⟩
          · replace h := Sh.if_f h hb46
            refine awp_exit ?_
            replace h := Sh.exit_eq h hx1
            exact hK5 () _ h (Weak.re (fr' := []) (H' := .empty) [] [] rfl rfl rfl (trivial) trivial)
  · intro K12 hK12
    refine awp_reg rfl ?_
    refine AR.op rfl (aop_field_ref rfl rfl rfl fd26_0 (by decide)) ?_
    refine AR.op (r := i64 a_0.N) rfl (aop_load_ref rfl rfl rfl rfl sz3 rfl) ?_
    refine AR.op rfl (aop_field_ref rfl rfl rfl fd26_0 (by decide)) ?_
    refine AR.drop (frx := [(2, _), (3, _), (7, _), (8, _)]) ⟨rfl, rfl, rfl, rfl, trivial⟩ ?_
    refine AR.op (r := i64 b_1.N) rfl (aop_load_ref rfl rfl rfl rfl sz3 rfl) ?_
    refine AR.op (r := bl (decide (a_0.N ≠ b_1.N))) rfl (aop_neq rfl rfl rfl) ?_
    refine AR.op (r := bl (decide (a_0.N ≠ b_1.N))) rfl (aop_move (.inl rfl) rfl) ?_
    refine AR.drop (frx := [(2, _), (3, _), (11, _)]) ⟨rfl, rfl, rfl, trivial⟩ ?_
    rcases Bool.eq_false_or_eq_true (decide (a_0.N ≠ b_1.N)) with hb60 | hb60
    · rw [hb60]
      replace h := Sh.if_t h hb60
      refine AR.skip rfl ?_
      refine AR.skip rfl ?_
      refine AR.skip rfl ?_
      refine AR.drop (frx := [(2, _), (3, _), (11, _), (14, _)]) ⟨rfl, rfl, rfl, rfl, trivial⟩ ?_
      refine AR.skip rfl ?_
      refine AR.skip rfl ?_
      refine AR.skip rfl ?_
      refine AR.drop (frx := [(2, _), (3, _), (11, _), (14, _), (17, _)]) ⟨rfl, rfl, rfl, rfl, rfl, trivial⟩ ?_
      refine AR.skip rfl ?_
      refine AR.op (r := bl true) rfl (aop_pick rfl rfl rfl) ?_
      refine AR.nil ?_
      exact hK12 true _ h (Weak.re (fr' := [(2, .ref 0 0 0), (3, .ref 1 0 0), (19, bl true)]) (H' := ⟨2, [(0, (2, [G.inquestref12_G.av a_0])), (1, (2, [G.inquestref12_G.av b_1]))]⟩) [(0, 0), (1, 1)] [] rfl rfl rfl (.cons rfl rfl (.one (.same _ (by simp)) rfl) (of_decide_eq_true rfl) (.cons rfl rfl (.one (.same _ (by simp)) rfl) (of_decide_eq_true rfl) (trivial))) ⟨⟨_, rfl, .ref rfl⟩, ⟨_, rfl, .ref rfl⟩, ⟨_, rfl, .same _ (by simp)⟩, trivial⟩)
    · rw [hb60]
      replace h := Sh.if_f h hb60
      refine AR.op rfl (aop_field_ref rfl rfl rfl fd26_1 (by decide)) ?_
      refine AR.op (r := .sl (List.map u64 a_0.Rows)) rfl (aop_load_ref rfl rfl rfl rfl sz22 rfl) ?_
      refine AR.op (r := i64 (Sh.len a_0.Rows)) rfl (t_len_sl u64 a_0.Rows rfl rfl el22) ?_
      refine AR.drop (frx := [(2, _), (3, _), (11, _), (14, _)]) ⟨rfl, rfl, rfl, rfl, trivial⟩ ?_
      refine AR.op rfl (aop_field_ref rfl rfl rfl fd26_1 (by decide)) ?_
      refine AR.op (r := .sl (List.map u64 b_1.Rows)) rfl (aop_load_ref rfl rfl rfl rfl sz22 rfl) ?_
      refine AR.op (r := i64 (Sh.len b_1.Rows)) rfl (t_len_sl u64 b_1.Rows rfl rfl el22) ?_
      refine AR.drop (frx := [(2, _), (3, _), (11, _), (14, _), (17, _)]) ⟨rfl, rfl, rfl, rfl, rfl, trivial⟩ ?_
      refine AR.op (r := bl (decide ((Sh.len a_0.Rows) ≠ (Sh.len b_1.Rows)))) rfl (aop_neq rfl rfl rfl) ?_
      refine AR.op (r := bl (decide ((Sh.len a_0.Rows) ≠ (Sh.len b_1.Rows)))) rfl (aop_pick rfl rfl rfl) ?_
      refine AR.nil ?_
      exact hK12 (decide ((Sh.len a_0.Rows) ≠ (Sh.len b_1.Rows))) _ h (Weak.re (fr' := [(2, .ref 0 0 0), (3, .ref 1 0 0), (19, bl (decide ((Sh.len a_0.Rows) ≠ (Sh.len b_1.Rows))))]) (H' := ⟨2, [(0, (2, [G.inquestref12_G.av a_0])), (1, (2, [G.inquestref12_G.av b_1]))]⟩) [(0, 0), (1, 1)] [] rfl rfl rfl (.cons rfl rfl (.one (.same _ (by simp)) rfl) (of_decide_eq_true rfl) (.cons rfl rfl (.one (.same _ (by simp)) rfl) (of_decide_eq_true rfl) (trivial))) ⟨⟨_, rfl, .ref rfl⟩, ⟨_, rfl, .ref rfl⟩, ⟨_, rfl, .same _ (by simp)⟩, trivial⟩)
theorem inquestref12_Same_ok {W0 : World} (hT : Tab W0) {a_0 : G.inquestref12_G} {b_1 : G.inquestref12_G} {r : Bool} (h : G.inquestref12_Same a_0 b_1 = some r) : Fun1 Tryd.prog W0 21 [G.inquestref12_G.av a_0, G.inquestref12_G.av b_1] (bl r) := Fun1.two (inquestref12_Same_ok0 hT h) (by simp)


set_option maxHeartbeats 8000000 in
theorem inquestref12_Has_ok0 {W0 : World} (hT : Tab W0) {g_0 : G.inquestref12_G} {a_1 : Int} {b_2 : Int} {r : Bool} (h : G.inquestref12_Has g_0 a_1 b_2 = some r) : Fun2 Tryd.prog W0 27 [G.inquestref12_G.av g_0, i64 a_1, i64 b_2] (bl r) .empty := by
  refine fun2_of_awp Tryd.func27 rfl (by kernel_rfl) Tryd.ntmps27 (by simp) ?_
  unfold G.inquestref12_Has at h
  show AWP _ _ _ _ ⟨[(0, G.inquestref12_G.av g_0), (1, i64 a_1), (2, i64 b_2)], .empty⟩ _
  refine awp_seqK fun K1 hK1 => ?_
  refine awp_reg rfl ?_
  refine AR.op (r := .ref 0 0 0) rfl (aop_box 2 [G.inquestref12_G.av g_0] rfl rfl rfl (.inl ⟨rfl, rfl⟩)) ?_
  refine AR.op (r := bl false) rfl (aop_move (.inr rfl) rfl) ?_
  refine AR.nil ?_
  refine hK1 _ (AWP.weak (Weak.re (fr' := [(1, i64 a_1), (2, i64 b_2), (3, .ref 0 0 0)]) (H' := ⟨1, [(0, (2, [G.inquestref12_G.av g_0]))]⟩) [(0, 0)] [] rfl rfl rfl (.cons rfl rfl (.one (.same _ (by simp)) rfl) (of_decide_eq_true rfl) (trivial)) ⟨⟨_, rfl, .same _ (by simp)⟩, ⟨_, rfl, .same _ (by simp)⟩, ⟨_, rfl, .ref rfl⟩, trivial⟩) ?_)
  clear hK1 K1
  refine awp_seqK fun K2 hK2 => ?_
  refine awp_reg rfl ?_
  refine AR.op rfl (aop_field_ref rfl rfl rfl fd26_1 (by decide)) ?_
  refine AR.op (r := .sl (List.map u64 g_0.Rows)) rfl (aop_load_ref rfl rfl rfl rfl sz22 rfl) ?_
  refine AR.op (r := i64 a_1) rfl (aop_move (.inl rfl) rfl) ?_
  refine AR.drop (frx := [(2, _), (8, _), (9, _)]) ⟨rfl, rfl, rfl, trivial⟩ ?_
  obtain ⟨x7, hx7, h⟩ := Sh.bind_some' h
  obtain ⟨k8, hi8, hl8⟩ := Sh.idx_some hx7
  refine AR.op rfl (t_index_sl u64 g_0.Rows hi8 hl8 rfl rfl rfl el22 rfl) ?_
  refine AR.op (r := u64 x7) rfl (aop_load_pp rfl rfl sz45 rfl) ?_
  refine AR.op (r := i64 b_2) rfl (aop_move (.inl rfl) rfl) ?_
  refine AR.drop (frx := [(11, _), (12, _)]) ⟨rfl, rfl, trivial⟩ ?_
  obtain ⟨r9, hr9, h⟩ := Sh.bind_some' h
  refine AR.op (r := bl r9) rfl (aop_call1 rfl rfl (by simp) (inquestref10_Has_ok hT hr9)) ?_
  refine AR.op (r := bl r9) rfl (aop_move (.inr rfl) rfl) ?_
  refine AR.nil ?_
  refine hK2 _ (AWP.weak (Weak.re (fr' := [(6, bl r9)]) (H' := .empty) [] [] rfl rfl rfl (trivial) ⟨⟨_, rfl, .same _ (by simp)⟩, trivial⟩) ?_)
  clear hK2 K2
  refine awp_ret ?_
  obtain rfl := Option.some.inj h
  refine ⟨.inr rfl, bl r9, rfl, ?_⟩
  exact Weak.re [] [] rfl rfl rfl (trivial) ⟨⟨_, rfl, .same _ (by simp)⟩, trivial⟩
theorem inquestref12_Has_ok {W0 : World} (hT : Tab W0) {g_0 : G.inquestref12_G} {a_1 : Int} {b_2 : Int} {r : Bool} (h : G.inquestref12_Has g_0 a_1 b_2 = some r) : Fun1 Tryd.prog W0 27 [G.inquestref12_G.av g_0, i64 a_1, i64 b_2] (bl r) := Fun1.two (inquestref12_Has_ok0 hT h) (by simp)


set_option maxHeartbeats 8000000 in
theorem inquestref12_New_own {W0 : World} (hT : Tab W0) {n_0 : Int} {r : G.inquestref12_G} (h : G.inquestref12_New n_0 = some r) : Fun2 Tryd.prog W0 58 [i64 n_0] (.agg [i64 r.N, .view 0 0 (List.map u64 r.Rows).length]) ⟨1, [(0, (1, List.map u64 r.Rows))]⟩ := by
  refine fun2_of_awp Tryd.func58 rfl (by kernel_rfl) Tryd.ntmps58 (by simp) ?_
  unfold G.inquestref12_New at h
  show AWP _ _ _ _ ⟨[(0, i64 n_0)], .empty⟩ _
  refine awp_seqK fun K1 hK1 => ?_
  refine awp_reg rfl ?_
  refine AR.op (r := .ref 0 0 0) rfl (aop_alloc 2 [.agg [i64 0, nilS]] rfl zr26 (by kernel_rfl) (.inl ⟨rfl, rfl⟩)) ?_
  refine AR.nil ?_
  refine hK1 _ ?_
  clear hK1 K1
  refine awp_seqK fun K2 hK2 => ?_
  refine awp_reg rfl ?_
  refine AR.op (r := i64 n_0) rfl (aop_move (.inl rfl) rfl) ?_
  refine AR.op (r := .agg [i64 n_0, nilS]) rfl (aop_build rfl bd26 rfl rfl rfl) ?_
  refine AR.op (r := .ref 1 0 0) rfl (aop_alloc 2 [.agg [i64 0, nilS]] rfl zr26 (by kernel_rfl) (.inl ⟨rfl, rfl⟩)) ?_
  refine AR.drop (frx := [(0, _), (2, _), (6, _), (3, _)]) ⟨rfl, rfl, rfl, rfl, trivial⟩ ?_
  refine AR.op rfl (aop_store (e' := .agg [i64 n_0, nilS]) rfl rfl rfl rfl rfl rfl sz26 rfl (of_decide_eq_true rfl) rfl) ?_
  refine AR.nil ?_
  refine hK2 _ (AWP.weak (Weak.re (fr' := [(0, i64 n_0), (2, .ref 0 0 0), (3, .ref 1 0 0)]) (H' := ⟨2, [(0, (2, [.agg [i64 0, nilS]])), (1, (2, [.agg [i64 n_0, nilS]]))]⟩) [(0, 0), (1, 1)] [] rfl rfl rfl (.cons rfl rfl (.one (.same _ (by simp)) rfl) (of_decide_eq_true rfl) (.cons rfl rfl (.one (.same _ (by simp)) rfl) (of_decide_eq_true rfl) (trivial))) ⟨⟨_, rfl, .same _ (by simp)⟩, ⟨_, rfl, .ref rfl⟩, ⟨_, rfl, .ref rfl⟩, trivial⟩) ?_)
  clear hK2 K2
  refine awp_seqJ (fun (p : (List (BitVec 64))) => (⟨[(2, .ref 0 0 0), (3, .ref 1 0 0)], ⟨3, [(0, (2, [.agg [i64 0, nilS]])), (1, (2, [.agg [i64 n_0, .view 2 0 (List.map u64 p).length]])), (2, (1, List.map u64 p))]⟩⟩ : St)) (fun (p : (List (BitVec 64))) => G.inquestref12_New_j1 n_0 p = some r) ?_ ?_
  · rintro v15 h
    replace h : G.inquestref12_New_j1 n_0 v15 = some r := h
    unfold G.inquestref12_New_j1 at h
    show AWP _ _ _ _ ⟨[(2, .ref 0 0 0), (3, .ref 1 0 0)], ⟨3, [(0, (2, [.agg [i64 0, nilS]])), (1, (2, [.agg [i64 n_0, .view 2 0 (List.map u64 v15).length]])), (2, (1, List.map u64 v15))]⟩⟩ _
    refine awp_seqK fun K3 hK3 => ?_
    refine awp_reg rfl ?_
    refine AR.op (r := .agg [i64 n_0, .view 2 0 (List.map u64 v15).length]) rfl (aop_load_ref rfl rfl rfl rfl sz26 rfl) ?_
    refine AR.op rfl (aop_store (e' := .agg [i64 n_0, .view 2 0 (List.map u64 v15).length]) rfl rfl rfl rfl rfl rfl sz26 rfl (of_decide_eq_true rfl) rfl) ?_
    refine AR.nil ?_
    refine hK3 _ (AWP.weak (Weak.re (fr' := [(2, .ref 0 0 0)]) (H' := ⟨2, [(0, (2, [.agg [i64 n_0, .view 1 0 (List.map u64 v15).length]])), (1, (1, List.map u64 v15))]⟩) [(0, 0), (1, 2)] [] rfl rfl rfl (.cons rfl rfl (.one (.ag ⟨.same _ (by simp), .view rfl, trivial⟩) rfl) (of_decide_eq_true rfl) (.cons rfl rfl (.same (by simp)) (of_decide_eq_true rfl) (trivial))) ⟨⟨_, rfl, .ref rfl⟩, trivial⟩) ?_)
    clear hK3 K3
    refine awp_ret ?_
    obtain rfl := Option.some.inj h
    refine ⟨.inr rfl, .agg [i64 n_0, .view 1 0 (List.map u64 v15).length], rfl, ?_⟩
    exact Weak.re [(0, 1)] [] rfl rfl rfl (.cons rfl rfl (.same (by simp)) (of_decide_eq_true rfl) (trivial)) ⟨⟨.agg [i64 n_0, .view 1 0 (List.map u64 v15).length], rfl, .ag ⟨.same _ (by simp), .view rfl, trivial⟩⟩, trivial⟩
  · intro K4 hK4
    refine awp_seqK fun K5 hK5 => ?_
    refine awp_reg rfl ?_
    refine AR.op (r := i64 0) rfl (aop_move (.inr rfl) rfl) ?_
    refine AR.nil ?_
    refine hK5 _ ?_
    clear hK5 K5
    refine awp_block ?_
    refine awp_iter (fun (p : (List (BitVec 64)) × Int) => G.inquestref12_New_b1 n_0 p.1 p.2) (fun (p : (List (BitVec 64)) × Int) => (⟨[(0, i64 n_0), (2, .ref 0 0 0), (3, .ref 1 0 0), (4, i64 p.2)], ⟨3, [(0, (2, [.agg [i64 0, nilS]])), (1, (2, [.agg [i64 n_0, .view 2 0 (List.map u64 p.1).length]])), (2, (1, List.map u64 p.1))]⟩⟩ : St)) h (Weak.re (fr' := [(0, i64 n_0), (2, .ref 0 0 0), (3, .ref 1 0 0), (4, i64 0)]) (H' := ⟨3, [(0, (2, [.agg [i64 0, nilS]])), (1, (2, [.agg [i64 n_0, .view 2 0 (List.map u64 []).length]])), (2, (1, List.map u64 []))]⟩) [(0, 0), (1, 1)] [2] rfl rfl rfl (.cons rfl rfl (.one (.same _ (by simp)) rfl) (of_decide_eq_true rfl) (.cons rfl rfl (.one (.ag ⟨.same _ (by simp), .nil (by simp), trivial⟩) rfl) (of_decide_eq_true rfl) (.fresh (by simp) (of_decide_eq_true rfl) (trivial)))) ⟨⟨_, rfl, .same _ (by simp)⟩, ⟨_, rfl, .ref rfl⟩, ⟨_, rfl, .ref rfl⟩, ⟨_, rfl, .same _ (by simp)⟩, trivial⟩) ?_
    · skip
      rintro ⟨gRows20, i21⟩ o1 h hx1
      replace h : G.inquestref12_New_b1 n_0 gRows20 i21 = some o1 := h
      unfold G.inquestref12_New_b1 at h
      show AWP _ _ _ _ ⟨[(0, i64 n_0), (2, .ref 0 0 0), (3, .ref 1 0 0), (4, i64 i21)], ⟨3, [(0, (2, [.agg [i64 0, nilS]])), (1, (2, [.agg [i64 n_0, .view 2 0 (List.map u64 gRows20).length]])), (2, (1, List.map u64 gRows20))]⟩⟩ _
      refine awp_seqK fun K6 hK6 => ?_
      refine awp_seqK fun K7 hK7 => ?_
      refine awp_reg rfl ?_
      refine AR.op (r := i64 i21) rfl (aop_move (.inl rfl) rfl) ?_
      refine AR.op (r := i64 n_0) rfl (aop_move (.inl rfl) rfl) ?_
      refine AR.op (r := bl (decide (i21 < n_0))) rfl (aop_lss rfl rfl rfl) ?_
      refine AR.nil ?_
      refine hK7 _ (AWP.weak (Weak.re (fr' := [(0, i64 n_0), (2, .ref 0 0 0), (3, .ref 1 0 0), (4, i64 i21), (9, bl (decide (i21 < n_0)))]) (H' := ⟨3, [(0, (2, [.agg [i64 0, nilS]])), (1, (2, [.agg [i64 n_0, .view 2 0 (List.map u64 gRows20).length]])), (2, (1, List.map u64 gRows20))]⟩) [(0, 0), (1, 1), (2, 2)] [] rfl rfl rfl (.cons rfl rfl (.one (.same _ (by simp)) rfl) (of_decide_eq_true rfl) (.cons rfl rfl (.one (.ag ⟨.same _ (by simp), .view rfl, trivial⟩) rfl) (of_decide_eq_true rfl) (.cons rfl rfl (.same (by simp)) (of_decide_eq_true rfl) (trivial)))) ⟨⟨_, rfl, .same _ (by simp)⟩, ⟨_, rfl, .ref rfl⟩, ⟨_, rfl, .ref rfl⟩, ⟨_, rfl, .same _ (by simp)⟩, ⟨_, rfl, .same _ (by simp)⟩, trivial⟩) ?_)
      clear hK7 K7
      refine awp_cond rfl (fun hb22 => ?_) (fun hb22 => ?_)
      · replace h := Sh.if_t h hb22
        refine awp_skip ?_
        refine hK6 _ (AWP.weak (Weak.re (fr' := [(0, i64 n_0), (2, .ref 0 0 0), (3, .ref 1 0 0), (4, i64 i21)]) (H' := ⟨3, [(0, (2, [.agg [i64 0, nilS]])), (1, (2, [.agg [i64 n_0, .view 2 0 (List.map u64 gRows20).length]])), (2, (1, List.map u64 gRows20))]⟩) [(0, 0), (1, 1), (2, 2)] [] rfl rfl rfl (.cons rfl rfl (.one (.same _ (by simp)) rfl) (of_decide_eq_true rfl) (.cons rfl rfl (.one (.ag ⟨.same _ (by simp), .view rfl, trivial⟩) rfl) (of_decide_eq_true rfl) (.cons rfl rfl (.same (by simp)) (of_decide_eq_true rfl) (trivial)))) ⟨⟨_, rfl, .same _ (by simp)⟩, ⟨_, rfl, .ref rfl⟩, ⟨_, rfl, .ref rfl⟩, ⟨_, rfl, .same _ (by simp)⟩, trivial⟩) ?_)
        clear hK6 K6
        refine awp_seqK fun K8 hK8 => ?_
        refine awp_block ?_
        refine awp_reg rfl ?_
        refine AR.op rfl (aop_field_ref rfl rfl rfl fd26_1 (by decide)) ?_
        refine AR.op (r := .view 2 0 (List.map u64 gRows20).length) rfl (aop_load_ref rfl rfl rfl rfl sz22 rfl) ?_
        refine AR.op (r := .clip (List.map u64 [0#64])) rfl (aop_buildSlice rfl (xo := [.const (.int .u64 0)]) rfl rfl rfl (by simp [AV.solid]) (by simp [AV.flat]) el22 ze22 (by decide)) ?_
        refine AR.drop (frx := [(0, _), (2, _), (3, _), (4, _), (13, _), (14, _)]) ⟨rfl, rfl, rfl, rfl, rfl, rfl, trivial⟩ ?_
        obtain ⟨l24, hl24, h⟩ := Sh.bind_some' h
        refine AR.op (r := .view 3 0 (List.map u64 l24).length) rfl (t_app_view u64 gRows20 [0#64] l24 hl24 rfl et22 (fun _ => rfl) rfl rfl rfl rfl rfl rfl rfl) ?_
        refine AR.op rfl (aop_field_ref rfl rfl rfl fd26_1 (by decide)) ?_
        refine AR.op rfl (aop_store (e' := .agg [i64 n_0, .view 3 0 (List.map u64 l24).length]) rfl rfl rfl rfl rfl rfl sz22 rfl (of_decide_eq_true rfl) rfl) ?_
        refine AR.nil ?_
        refine hK8 _ (AWP.weak (Weak.re (fr' := [(0, i64 n_0), (2, .ref 0 0 0), (3, .ref 1 0 0), (4, i64 i21)]) (H' := ⟨3, [(0, (2, [.agg [i64 0, nilS]])), (1, (2, [.agg [i64 n_0, .view 2 0 (List.map u64 l24).length]])), (2, (1, List.map u64 l24))]⟩) [(0, 0), (1, 1), (2, 3)] [] rfl rfl rfl (.cons rfl rfl (.one (.same _ (by simp)) rfl) (of_decide_eq_true rfl) (.cons rfl rfl (.one (.ag ⟨.same _ (by simp), .view rfl, trivial⟩) rfl) (of_decide_eq_true rfl) (.cons rfl rfl (.same (by simp)) (of_decide_eq_true rfl) (trivial)))) ⟨⟨_, rfl, .same _ (by simp)⟩, ⟨_, rfl, .ref rfl⟩, ⟨_, rfl, .ref rfl⟩, ⟨_, rfl, .same _ (by simp)⟩, trivial⟩) ?_)
        clear hK8 K8
        refine awp_reg rfl ?_
        refine AR.op (r := i64 i21) rfl (aop_move (.inl rfl) rfl) ?_
        refine AR.op (r := i64 (w64 (i21 + 1))) rfl (aop_add rfl rfl rfl rfl) ?_
        refine AR.op (r := i64 (w64 (i21 + 1))) rfl (aop_move (.inr rfl) rfl) ?_
        refine AR.nil ?_
        replace h := Sh.next_eq h
        exact ⟨_, h, Weak.re (fr' := [(0, i64 n_0), (2, .ref 0 0 0), (3, .ref 1 0 0), (4, i64 (w64 (i21 + 1)))]) (H' := ⟨3, [(0, (2, [.agg [i64 0, nilS]])), (1, (2, [.agg [i64 n_0, .view 2 0 (List.map u64 l24).length]])), (2, (1, List.map u64 l24))]⟩) [(0, 0), (1, 1), (2, 2)] [] rfl rfl rfl (.cons rfl rfl (.one (.same _ (by simp)) rfl) (of_decide_eq_true rfl) (.cons rfl rfl (.one (.ag ⟨.same _ (by simp), .view rfl, trivial⟩) rfl) (of_decide_eq_true rfl) (.cons rfl rfl (.same (by simp)) (of_decide_eq_true rfl) (trivial)))) ⟨⟨_, rfl, .same _ (by simp)⟩, ⟨_, rfl, .ref rfl⟩, ⟨_, rfl, .ref rfl⟩, ⟨_, rfl, .same _ (by simp)⟩, trivial⟩⟩
      · replace h := Sh.if_f h hb22
        refine awp_exit ?_
        replace h := Sh.exit_eq h hx1
        exact hK4 gRows20 _ h (Weak.re (fr' := [(2, .ref 0 0 0), (3, .ref 1 0 0)]) (H' := ⟨3, [(0, (2, [.agg [i64 0, nilS]])), (1, (2, [.agg [i64 n_0, .view 2 0 (List.map u64 gRows20).length]])), (2, (1, List.map u64 gRows20))]⟩) [(0, 0), (1, 1), (2, 2)] [] rfl rfl rfl (.cons rfl rfl (.one (.same _ (by simp)) rfl) (of_decide_eq_true rfl) (.cons rfl rfl (.one (.ag ⟨.same _ (by simp), .view rfl, trivial⟩) rfl) (of_decide_eq_true rfl) (.cons rfl rfl (.same (by simp)) (of_decide_eq_true rfl) (trivial)))) ⟨⟨_, rfl, .ref rfl⟩, ⟨_, rfl, .ref rfl⟩, trivial⟩)
theorem inquestref12_New_ok {W0 : World} (hT : Tab W0) {n_0 : Int} {r : G.inquestref12_G} (h : G.inquestref12_New n_0 = some r) : Fun1 Tryd.prog W0 58 [i64 n_0] (G.inquestref12_G.av r) :=
  (inquestref12_New_own hT h).give (Weak.re [] [] rfl rfl rfl trivial ⟨⟨_, rfl, .ag ⟨.same _ (by simp), .lendAll rfl rfl (by simp), trivial⟩⟩, trivial⟩) (by simp)


set_option maxHeartbeats 8000000 in
theorem inquestref12_Turn_own {W0 : World} (hT : Tab W0) {g_0 : G.inquestref12_G} {r : G.inquestref12_G} (h : G.inquestref12_Turn g_0 = some r) : Fun2 Tryd.prog W0 24 [G.inquestref12_G.av g_0] (.agg [i64 r.N, .view 0 0 (List.map u64 r.Rows).length]) ⟨1, [(0, (1, List.map u64 r.Rows))]⟩ := by
  refine fun2_of_awp Tryd.func24 rfl (by kernel_rfl) Tryd.ntmps24 (by simp) ?_
  unfold G.inquestref12_Turn at h
  show AWP _ _ _ _ ⟨[(0, G.inquestref12_G.av g_0)], .empty⟩ _
  refine awp_seqK fun K1 hK1 => ?_
  refine awp_reg rfl ?_
  refine AR.op (r := .ref 0 0 0) rfl (aop_box 2 [G.inquestref12_G.av g_0] rfl rfl rfl (.inl ⟨rfl, rfl⟩)) ?_
  refine AR.op (r := .ref 1 0 0) rfl (aop_alloc 2 [.agg [i64 0, nilS]] rfl zr26 (by kernel_rfl) (.inl ⟨rfl, rfl⟩)) ?_
  refine AR.nil ?_
  refine hK1 _ (AWP.weak (Weak.re (fr' := [(1, .ref 0 0 0), (2, .ref 1 0 0)]) (H' := ⟨2, [(0, (2, [G.inquestref12_G.av g_0])), (1, (2, [.agg [i64 0, nilS]]))]⟩) [(0, 0), (1, 1)] [] rfl rfl rfl (.cons rfl rfl (.one (.same _ (by simp)) rfl) (of_decide_eq_true rfl) (.cons rfl rfl (.one (.same _ (by simp)) rfl) (of_decide_eq_true rfl) (trivial))) ⟨⟨_, rfl, .ref rfl⟩, ⟨_, rfl, .ref rfl⟩, trivial⟩) ?_)
  clear hK1 K1
  refine awp_seqK fun K2 hK2 => ?_
  refine awp_reg rfl ?_
  refine AR.op rfl (aop_field_ref rfl rfl rfl fd26_0 (by decide)) ?_
  refine AR.op (r := i64 g_0.N) rfl (aop_load_ref rfl rfl rfl rfl sz3 rfl) ?_
  obtain ⟨r82, hr82, h⟩ := Sh.bind_some' h
  refine AR.op (r := .agg [i64 r82.N, .view 2 0 (List.map u64 r82.Rows).length]) rfl (aop_call2N (.agg [i64 r82.N, .view 2 0 (List.map u64 r82.Rows).length]) [(2, (1, List.map u64 r82.Rows))] rfl (ys := [i64 g_0.N]) (xs := [i64 g_0.N]) rfl (Weak.refl _) rfl (by simp) (inquestref12_New_own hT hr82) (.ag ⟨.same _ (by simp), .view _ _ _, trivial⟩) ⟨rfl, rfl, .same (by simp [AV.flat]), trivial⟩) ?_
  refine AR.drop (frx := [(1, _), (2, _), (9, _)]) ⟨rfl, rfl, rfl, trivial⟩ ?_
  refine AR.op (r := .ref 3 0 0) rfl (aop_alloc 2 [.agg [i64 0, nilS]] rfl zr26 (by kernel_rfl) (.inl ⟨rfl, rfl⟩)) ?_
  refine AR.op rfl (aop_store (e' := .agg [i64 r82.N, .view 2 0 (List.map u64 r82.Rows).length]) rfl rfl rfl rfl rfl rfl sz26 rfl (of_decide_eq_true rfl) rfl) ?_
  refine AR.nil ?_
  refine hK2 _ (AWP.weak (Weak.re (fr' := [(1, .ref 0 0 0), (2, .ref 1 0 0), (3, .ref 2 0 0)]) (H' := ⟨4, [(0, (2, [G.inquestref12_G.av g_0])), (1, (2, [.agg [i64 0, nilS]])), (2, (2, [.agg [i64 r82.N, .view 3 0 (List.map u64 r82.Rows).length]])), (3, (1, List.map u64 r82.Rows))]⟩) [(0, 0), (1, 1), (2, 3), (3, 2)] [] rfl rfl rfl (.cons rfl rfl (.one (.same _ (by simp)) rfl) (of_decide_eq_true rfl) (.cons rfl rfl (.one (.same _ (by simp)) rfl) (of_decide_eq_true rfl) (.cons rfl rfl (.one (.ag ⟨.same _ (by simp), .view rfl, trivial⟩) rfl) (of_decide_eq_true rfl) (.cons rfl rfl (.same (by simp)) (of_decide_eq_true rfl) (trivial))))) ⟨⟨_, rfl, .ref rfl⟩, ⟨_, rfl, .ref rfl⟩, ⟨_, rfl, .ref rfl⟩, trivial⟩) ?_)
  clear hK2 K2
  refine awp_seqJ (fun (p : (List (BitVec 64))) => (⟨[(2, .ref 0 0 0), (3, .ref 1 0 0)], ⟨3, [(0, (2, [.agg [i64 0, nilS]])), (1, (2, [.agg [i64 r82.N, .view 2 0 (List.map u64 p).length]])), (2, (1, List.map u64 p))]⟩⟩ : St)) (fun (p : (List (BitVec 64))) => G.inquestref12_Turn_j1 r82 p = some r) ?_ ?_
  · rintro v162 h
    replace h : G.inquestref12_Turn_j1 r82 v162 = some r := h
    unfold G.inquestref12_Turn_j1 at h
    show AWP _ _ _ _ ⟨[(2, .ref 0 0 0), (3, .ref 1 0 0)], ⟨3, [(0, (2, [.agg [i64 0, nilS]])), (1, (2, [.agg [i64 r82.N, .view 2 0 (List.map u64 v162).length]])), (2, (1, List.map u64 v162))]⟩⟩ _
    refine awp_seqK fun K3 hK3 => ?_
    refine awp_reg rfl ?_
    refine AR.op (r := .agg [i64 r82.N, .view 2 0 (List.map u64 v162).length]) rfl (aop_load_ref rfl rfl rfl rfl sz26 rfl) ?_
    refine AR.op rfl (aop_store (e' := .agg [i64 r82.N, .view 2 0 (List.map u64 v162).length]) rfl rfl rfl rfl rfl rfl sz26 rfl (of_decide_eq_true rfl) rfl) ?_
    refine AR.nil ?_
    refine hK3 _ (AWP.weak (Weak.re (fr' := [(2, .ref 0 0 0)]) (H' := ⟨2, [(0, (2, [.agg [i64 r82.N, .view 1 0 (List.map u64 v162).length]])), (1, (1, List.map u64 v162))]⟩) [(0, 0), (1, 2)] [] rfl rfl rfl (.cons rfl rfl (.one (.ag ⟨.same _ (by simp), .view rfl, trivial⟩) rfl) (of_decide_eq_true rfl) (.cons rfl rfl (.same (by simp)) (of_decide_eq_true rfl) (trivial))) ⟨⟨_, rfl, .ref rfl⟩, trivial⟩) ?_)
    clear hK3 K3
    refine awp_ret ?_
    obtain rfl := Option.some.inj h
    refine ⟨.inr rfl, .agg [i64 r82.N, .view 1 0 (List.map u64 v162).length], rfl, ?_⟩
    exact Weak.re [(0, 1)] [] rfl rfl rfl (.cons rfl rfl (.same (by simp)) (of_decide_eq_true rfl) (trivial)) ⟨⟨.agg [i64 r82.N, .view 1 0 (List.map u64 v162).length], rfl, .ag ⟨.same _ (by simp), .view rfl, trivial⟩⟩, trivial⟩
  · intro K4 hK4
    refine awp_seqK fun K5 hK5 => ?_
    refine awp_reg rfl ?_
    refine AR.op (r := i64 0) rfl (aop_move (.inr rfl) rfl) ?_
    refine AR.nil ?_
    refine hK5 _ ?_
    clear hK5 K5
    refine awp_block ?_
    refine awp_iter (fun (p : (List (BitVec 64)) × Int) => G.inquestref12_Turn_b1 g_0 r82 p.1 p.2) (fun (p : (List (BitVec 64)) × Int) => (⟨[(1, .ref 0 0 0), (2, .ref 1 0 0), (3, .ref 2 0 0), (4, i64 p.2)], ⟨4, [(0, (2, [G.inquestref12_G.av g_0])), (1, (2, [.agg [i64 0, nilS]])), (2, (2, [.agg [i64 r82.N, .view 3 0 (List.map u64 p.1).length]])), (3, (1, List.map u64 p.1))]⟩⟩ : St)) h (Weak.re (fr' := [(1, .ref 0 0 0), (2, .ref 1 0 0), (3, .ref 2 0 0), (4, i64 0)]) (H' := ⟨4, [(0, (2, [G.inquestref12_G.av g_0])), (1, (2, [.agg [i64 0, nilS]])), (2, (2, [.agg [i64 r82.N, .view 3 0 (List.map u64 r82.Rows).length]])), (3, (1, List.map u64 r82.Rows))]⟩) [(0, 0), (1, 1), (2, 2), (3, 3)] [] rfl rfl rfl (.cons rfl rfl (.one (.same _ (by simp)) rfl) (of_decide_eq_true rfl) (.cons rfl rfl (.one (.same _ (by simp)) rfl) (of_decide_eq_true rfl) (.cons rfl rfl (.one (.ag ⟨.same _ (by simp), .view rfl, trivial⟩) rfl) (of_decide_eq_true rfl) (.cons rfl rfl (.same (by simp)) (of_decide_eq_true rfl) (trivial))))) ⟨⟨_, rfl, .ref rfl⟩, ⟨_, rfl, .ref rfl⟩, ⟨_, rfl, .ref rfl⟩, ⟨_, rfl, .same _ (by simp)⟩, trivial⟩) ?_
    · skip
      rintro ⟨outRows215, x216⟩ o1 h hx1
      replace h : G.inquestref12_Turn_b1 g_0 r82 outRows215 x216 = some o1 := h
      unfold G.inquestref12_Turn_b1 at h
      show AWP _ _ _ _ ⟨[(1, .ref 0 0 0), (2, .ref 1 0 0), (3, .ref 2 0 0), (4, i64 x216)], ⟨4, [(0, (2, [G.inquestref12_G.av g_0])), (1, (2, [.agg [i64 0, nilS]])), (2, (2, [.agg [i64 r82.N, .view 3 0 (List.map u64 outRows215).length]])), (3, (1, List.map u64 outRows215))]⟩⟩ _
      refine awp_seqK fun K6 hK6 => ?_
      refine awp_seqK fun K7 hK7 => ?_
      refine awp_reg rfl ?_
      refine AR.op (r := i64 x216) rfl (aop_move (.inl rfl) rfl) ?_
      refine AR.op rfl (aop_field_ref rfl rfl rfl fd26_0 (by decide)) ?_
      refine AR.op (r := i64 g_0.N) rfl (aop_load_ref rfl rfl rfl rfl sz3 rfl) ?_
      refine AR.drop (frx := [(1, _), (2, _), (3, _), (4, _), (10, _), (12, _)]) ⟨rfl, rfl, rfl, rfl, rfl, rfl, trivial⟩ ?_
      refine AR.op (r := bl (decide (x216 < g_0.N))) rfl (aop_lss rfl rfl rfl) ?_
      refine AR.nil ?_
      refine hK7 _ (AWP.weak (Weak.re (fr' := [(1, .ref 0 0 0), (2, .ref 1 0 0), (3, .ref 2 0 0), (4, i64 x216), (13, bl (decide (x216 < g_0.N)))]) (H' := ⟨4, [(0, (2, [G.inquestref12_G.av g_0])), (1, (2, [.agg [i64 0, nilS]])), (2, (2, [.agg [i64 r82.N, .view 3 0 (List.map u64 outRows215).length]])), (3, (1, List.map u64 outRows215))]⟩) [(0, 0), (1, 1), (2, 2), (3, 3)] [] rfl rfl rfl (.cons rfl rfl (.one (.same _ (by simp)) rfl) (of_decide_eq_true rfl) (.cons rfl rfl (.one (.same _ (by simp)) rfl) (of_decide_eq_true rfl) (.cons rfl rfl (.one (.ag ⟨.same _ (by simp), .view rfl, trivial⟩) rfl) (of_decide_eq_true rfl) (.cons rfl rfl (.same (by simp)) (of_decide_eq_true rfl) (trivial))))) ⟨⟨_, rfl, .ref rfl⟩, ⟨_, rfl, .ref rfl⟩, ⟨_, rfl, .ref rfl⟩, ⟨_, rfl, .same _ (by simp)⟩, ⟨_, rfl, .same _ (by simp)⟩, trivial⟩) ?_)
      clear hK7 K7
      refine awp_cond rfl (fun hb217 => ?_) (fun hb217 => ?_)
      · replace h := Sh.if_t h hb217
        refine awp_skip ?_
        refine hK6 _ (AWP.weak (Weak.re (fr' := [(1, .ref 0 0 0), (2, .ref 1 0 0), (3, .ref 2 0 0), (4, i64 x216)]) (H' := ⟨4, [(0, (2, [G.inquestref12_G.av g_0])), (1, (2, [.agg [i64 0, nilS]])), (2, (2, [.agg [i64 r82.N, .view 3 0 (List.map u64 outRows215).length]])), (3, (1, List.map u64 outRows215))]⟩) [(0, 0), (1, 1), (2, 2), (3, 3)] [] rfl rfl rfl (.cons rfl rfl (.one (.same _ (by simp)) rfl) (of_decide_eq_true rfl) (.cons rfl rfl (.one (.same _ (by simp)) rfl) (of_decide_eq_true rfl) (.cons rfl rfl (.one (.ag ⟨.same _ (by simp), .view rfl, trivial⟩) rfl) (of_decide_eq_true rfl) (.cons rfl rfl (.same (by simp)) (of_decide_eq_true rfl) (trivial))))) ⟨⟨_, rfl, .ref rfl⟩, ⟨_, rfl, .ref rfl⟩, ⟨_, rfl, .ref rfl⟩, ⟨_, rfl, .same _ (by simp)⟩, trivial⟩) ?_)
        clear hK6 K6
        refine awp_seqJ (fun (p : (List (BitVec 64))) => (⟨[(1, .ref 0 0 0), (2, .ref 1 0 0), (3, .ref 2 0 0), (4, i64 x216)], ⟨4, [(0, (2, [G.inquestref12_G.av g_0])), (1, (2, [.agg [i64 0, nilS]])), (2, (2, [.agg [i64 r82.N, .view 3 0 (List.map u64 p).length]])), (3, (1, List.map u64 p))]⟩⟩ : St)) (fun (p : (List (BitVec 64))) => G.inquestref12_Turn_j2 x216 p = some o1) ?_ ?_
        · rintro v243 h
          replace h : G.inquestref12_Turn_j2 x216 v243 = some o1 := h
          unfold G.inquestref12_Turn_j2 at h
          show AWP _ _ _ _ ⟨[(1, .ref 0 0 0), (2, .ref 1 0 0), (3, .ref 2 0 0), (4, i64 x216)], ⟨4, [(0, (2, [G.inquestref12_G.av g_0])), (1, (2, [.agg [i64 0, nilS]])), (2, (2, [.agg [i64 r82.N, .view 3 0 (List.map u64 v243).length]])), (3, (1, List.map u64 v243))]⟩⟩ _
          refine awp_reg rfl ?_
          refine AR.op (r := i64 x216) rfl (aop_move (.inl rfl) rfl) ?_
          refine AR.op (r := i64 (w64 (x216 + 1))) rfl (aop_add rfl rfl rfl rfl) ?_
          refine AR.op (r := i64 (w64 (x216 + 1))) rfl (aop_move (.inr rfl) rfl) ?_
          refine AR.nil ?_
          replace h := Sh.next_eq h
          exact ⟨_, h, Weak.re (fr' := [(1, .ref 0 0 0), (2, .ref 1 0 0), (3, .ref 2 0 0), (4, i64 (w64 (x216 + 1)))]) (H' := ⟨4, [(0, (2, [G.inquestref12_G.av g_0])), (1, (2, [.agg [i64 0, nilS]])), (2, (2, [.agg [i64 r82.N, .view 3 0 (List.map u64 v243).length]])), (3, (1, List.map u64 v243))]⟩) [(0, 0), (1, 1), (2, 2), (3, 3)] [] rfl rfl rfl (.cons rfl rfl (.one (.same _ (by simp)) rfl) (of_decide_eq_true rfl) (.cons rfl rfl (.one (.same _ (by simp)) rfl) (of_decide_eq_true rfl) (.cons rfl rfl (.one (.ag ⟨.same _ (by simp), .view rfl, trivial⟩) rfl) (of_decide_eq_true rfl) (.cons rfl rfl (.same (by simp)) (of_decide_eq_true rfl) (trivial))))) ⟨⟨_, rfl, .ref rfl⟩, ⟨_, rfl, .ref rfl⟩, ⟨_, rfl, .ref rfl⟩, ⟨_, rfl, .same _ (by simp)⟩, trivial⟩⟩
        · intro K8 hK8
          refine awp_block ?_
          refine awp_seqK fun K9 hK9 => ?_
          refine awp_reg rfl ?_
          refine AR.op (r := i64 0) rfl (aop_move (.inr rfl) rfl) ?_
          refine AR.nil ?_
          refine hK9 _ ?_
          clear hK9 K9
          refine awp_block ?_
          refine awp_iter (fun (p : (List (BitVec 64)) × Int) => G.inquestref12_Turn_b2 g_0 x216 p.1 p.2) (fun (p : (List (BitVec 64)) × Int) => (⟨[(1, .ref 0 0 0), (2, .ref 1 0 0), (3, .ref 2 0 0), (4, i64 x216), (5, i64 p.2)], ⟨4, [(0, (2, [G.inquestref12_G.av g_0])), (1, (2, [.agg [i64 0, nilS]])), (2, (2, [.agg [i64 r82.N, .view 3 0 (List.map u64 p.1).length]])), (3, (1, List.map u64 p.1))]⟩⟩ : St)) h (Weak.re (fr' := [(1, .ref 0 0 0), (2, .ref 1 0 0), (3, .ref 2 0 0), (4, i64 x216), (5, i64 0)]) (H' := ⟨4, [(0, (2, [G.inquestref12_G.av g_0])), (1, (2, [.agg [i64 0, nilS]])), (2, (2, [.agg [i64 r82.N, .view 3 0 (List.map u64 outRows215).length]])), (3, (1, List.map u64 outRows215))]⟩) [(0, 0), (1, 1), (2, 2), (3, 3)] [] rfl rfl rfl (.cons rfl rfl (.one (.same _ (by simp)) rfl) (of_decide_eq_true rfl) (.cons rfl rfl (.one (.same _ (by simp)) rfl) (of_decide_eq_true rfl) (.cons rfl rfl (.one (.ag ⟨.same _ (by simp), .view rfl, trivial⟩) rfl) (of_decide_eq_true rfl) (.cons rfl rfl (.same (by simp)) (of_decide_eq_true rfl) (trivial))))) ⟨⟨_, rfl, .ref rfl⟩, ⟨_, rfl, .ref rfl⟩, ⟨_, rfl, .ref rfl⟩, ⟨_, rfl, .same _ (by simp)⟩, ⟨_, rfl, .same _ (by simp)⟩, trivial⟩) ?_
          · skip
            rintro ⟨outRows260, y261⟩ o2 h hx2
            replace h : G.inquestref12_Turn_b2 g_0 x216 outRows260 y261 = some o2 := h
            unfold G.inquestref12_Turn_b2 at h
            show AWP _ _ _ _ ⟨[(1, .ref 0 0 0), (2, .ref 1 0 0), (3, .ref 2 0 0), (4, i64 x216), (5, i64 y261)], ⟨4, [(0, (2, [G.inquestref12_G.av g_0])), (1, (2, [.agg [i64 0, nilS]])), (2, (2, [.agg [i64 r82.N, .view 3 0 (List.map u64 outRows260).length]])), (3, (1, List.map u64 outRows260))]⟩⟩ _
            refine awp_seqK fun K10 hK10 => ?_
            refine awp_seqK fun K11 hK11 => ?_
            refine awp_reg rfl ?_
            refine AR.op (r := i64 y261) rfl (aop_move (.inl rfl) rfl) ?_
            refine AR.op rfl (aop_field_ref rfl rfl rfl fd26_0 (by decide)) ?_
            refine AR.op (r := i64 g_0.N) rfl (aop_load_ref rfl rfl rfl rfl sz3 rfl) ?_
            refine AR.drop (frx := [(1, _), (2, _), (3, _), (4, _), (5, _), (16, _), (18, _)]) ⟨rfl, rfl, rfl, rfl, rfl, rfl, rfl, trivial⟩ ?_
            refine AR.op (r := bl (decide (y261 < g_0.N))) rfl (aop_lss rfl rfl rfl) ?_
            refine AR.nil ?_
            refine hK11 _ (AWP.weak (Weak.re (fr' := [(1, .ref 0 0 0), (2, .ref 1 0 0), (3, .ref 2 0 0), (4, i64 x216), (5, i64 y261), (19, bl (decide (y261 < g_0.N)))]) (H' := ⟨4, [(0, (2, [G.inquestref12_G.av g_0])), (1, (2, [.agg [i64 0, nilS]])), (2, (2, [.agg [i64 r82.N, .view 3 0 (List.map u64 outRows260).length]])), (3, (1, List.map u64 outRows260))]⟩) [(0, 0), (1, 1), (2, 2), (3, 3)] [] rfl rfl rfl (.cons rfl rfl (.one (.same _ (by simp)) rfl) (of_decide_eq_true rfl) (.cons rfl rfl (.one (.same _ (by simp)) rfl) (of_decide_eq_true rfl) (.cons rfl rfl (.one (.ag ⟨.same _ (by simp), .view rfl, trivial⟩) rfl) (of_decide_eq_true rfl) (.cons rfl rfl (.same (by simp)) (of_decide_eq_true rfl) (trivial))))) ⟨⟨_, rfl, .ref rfl⟩, ⟨_, rfl, .ref rfl⟩, ⟨_, rfl, .ref rfl⟩, ⟨_, rfl, .same _ (by simp)⟩, ⟨_, rfl, .same _ (by simp)⟩, ⟨_, rfl, .same _ (by simp)⟩, trivial⟩) ?_)
            clear hK11 K11
            refine awp_cond rfl (fun hb262 => ?_) (fun hb262 => ?_)
            · replace h := Sh.if_t h hb262
              refine awp_skip ?_
              refine hK10 _ (AWP.weak (Weak.re (fr' := [(1, .ref 0 0 0), (2, .ref 1 0 0), (3, .ref 2 0 0), (4, i64 x216), (5, i64 y261)]) (H' := ⟨4, [(0, (2, [G.inquestref12_G.av g_0])), (1, (2, [.agg [i64 0, nilS]])), (2, (2, [.agg [i64 r82.N, .view 3 0 (List.map u64 outRows260).length]])), (3, (1, List.map u64 outRows260))]⟩) [(0, 0), (1, 1), (2, 2), (3, 3)] [] rfl rfl rfl (.cons rfl rfl (.one (.same _ (by simp)) rfl) (of_decide_eq_true rfl) (.cons rfl rfl (.one (.same _ (by simp)) rfl) (of_decide_eq_true rfl) (.cons rfl rfl (.one (.ag ⟨.same _ (by simp), .view rfl, trivial⟩) rfl) (of_decide_eq_true rfl) (.cons rfl rfl (.same (by simp)) (of_decide_eq_true rfl) (trivial))))) ⟨⟨_, rfl, .ref rfl⟩, ⟨_, rfl, .ref rfl⟩, ⟨_, rfl, .ref rfl⟩, ⟨_, rfl, .same _ (by simp)⟩, ⟨_, rfl, .same _ (by simp)⟩, trivial⟩) ?_)
              clear hK10 K10
              refine awp_seqJ (fun (p : (List (BitVec 64))) => (⟨[(1, .ref 0 0 0), (2, .ref 1 0 0), (3, .ref 2 0 0), (4, i64 x216), (5, i64 y261)], ⟨4, [(0, (2, [G.inquestref12_G.av g_0])), (1, (2, [.agg [i64 0, nilS]])), (2, (2, [.agg [i64 r82.N, .view 3 0 (List.map u64 p).length]])), (3, (1, List.map u64 p))]⟩⟩ : St)) (fun (p : (List (BitVec 64))) => G.inquestref12_Turn_j3 y261 p = some o2) ?_ ?_
              · rintro outRows269 h
                replace h : G.inquestref12_Turn_j3 y261 outRows269 = some o2 := h
                unfold G.inquestref12_Turn_j3 at h
                show AWP _ _ _ _ ⟨[(1, .ref 0 0 0), (2, .ref 1 0 0), (3, .ref 2 0 0), (4, i64 x216), (5, i64 y261)], ⟨4, [(0, (2, [G.inquestref12_G.av g_0])), (1, (2, [.agg [i64 0, nilS]])), (2, (2, [.agg [i64 r82.N, .view 3 0 (List.map u64 outRows269).length]])), (3, (1, List.map u64 outRows269))]⟩⟩ _
                refine awp_reg rfl ?_
                refine AR.op (r := i64 y261) rfl (aop_move (.inl rfl) rfl) ?_
                refine AR.op (r := i64 (w64 (y261 + 1))) rfl (aop_add rfl rfl rfl rfl) ?_
                refine AR.op (r := i64 (w64 (y261 + 1))) rfl (aop_move (.inr rfl) rfl) ?_
                refine AR.nil ?_
                replace h := Sh.next_eq h
                exact ⟨_, h, Weak.re (fr' := [(1, .ref 0 0 0), (2, .ref 1 0 0), (3, .ref 2 0 0), (4, i64 x216), (5, i64 (w64 (y261 + 1)))]) (H' := ⟨4, [(0, (2, [G.inquestref12_G.av g_0])), (1, (2, [.agg [i64 0, nilS]])), (2, (2, [.agg [i64 r82.N, .view 3 0 (List.map u64 outRows269).length]])), (3, (1, List.map u64 outRows269))]⟩) [(0, 0), (1, 1), (2, 2), (3, 3)] [] rfl rfl rfl (.cons rfl rfl (.one (.same _ (by simp)) rfl) (of_decide_eq_true rfl) (.cons rfl rfl (.one (.same _ (by simp)) rfl) (of_decide_eq_true rfl) (.cons rfl rfl (.one (.ag ⟨.same _ (by simp), .view rfl, trivial⟩) rfl) (of_decide_eq_true rfl) (.cons rfl rfl (.same (by simp)) (of_decide_eq_true rfl) (trivial))))) ⟨⟨_, rfl, .ref rfl⟩, ⟨_, rfl, .ref rfl⟩, ⟨_, rfl, .ref rfl⟩, ⟨_, rfl, .same _ (by simp)⟩, ⟨_, rfl, .same _ (by simp)⟩, trivial⟩⟩
              · intro K12 hK12
                refine awp_block ?_
                refine awp_seqK fun K13 hK13 => ?_
                refine awp_reg rfl ?_
                refine AR.op (r := G.inquestref12_G.av g_0) rfl (aop_load_ref rfl rfl rfl rfl sz26 rfl) ?_
                refine AR.op (r := i64 y261) rfl (aop_move (.inl rfl) rfl) ?_
                refine AR.op (r := i64 x216) rfl (aop_move (.inl rfl) rfl) ?_
                refine AR.drop (frx := [(1, _), (2, _), (3, _), (4, _), (5, _), (22, _), (23, _), (24, _)]) ⟨rfl, rfl, rfl, rfl, rfl, rfl, rfl, rfl, trivial⟩ ?_
                obtain ⟨r271, hr271, h⟩ := Sh.bind_some' h
                refine AR.op (r := bl r271) rfl (aop_call1 rfl rfl (by simp) (inquestref12_Has_ok hT hr271)) ?_
                refine AR.op (r := bl r271) rfl (aop_move (.inr rfl) rfl) ?_
                refine AR.nil ?_
                refine hK13 _ (AWP.weak (Weak.re (fr' := [(1, .ref 0 0 0), (2, .ref 1 0 0), (3, .ref 2 0 0), (4, i64 x216), (5, i64 y261), (6, bl r271)]) (H' := ⟨4, [(0, (2, [G.inquestref12_G.av g_0])), (1, (2, [.agg [i64 0, nilS]])), (2, (2, [.agg [i64 r82.N, .view 3 0 (List.map u64 outRows260).length]])), (3, (1, List.map u64 outRows260))]⟩) [(0, 0), (1, 1), (2, 2), (3, 3)] [] rfl rfl rfl (.cons rfl rfl (.one (.same _ (by simp)) rfl) (of_decide_eq_true rfl) (.cons rfl rfl (.one (.same _ (by simp)) rfl) (of_decide_eq_true rfl) (.cons rfl rfl (.one (.ag ⟨.same _ (by simp), .view rfl, trivial⟩) rfl) (of_decide_eq_true rfl) (.cons rfl rfl (.same (by simp)) (of_decide_eq_true rfl) (trivial))))) ⟨⟨_, rfl, .ref rfl⟩, ⟨_, rfl, .ref rfl⟩, ⟨_, rfl, .ref rfl⟩, ⟨_, rfl, .same _ (by simp)⟩, ⟨_, rfl, .same _ (by simp)⟩, ⟨_, rfl, .same _ (by simp)⟩, trivial⟩) ?_)
                clear hK13 K13
                refine awp_seqK fun K14 hK14 => ?_
                refine awp_reg rfl ?_
                refine AR.op (r := bl r271) rfl (aop_move (.inl rfl) rfl) ?_
                refine AR.nil ?_
                refine hK14 _ (AWP.weak (Weak.re (fr' := [(1, .ref 0 0 0), (2, .ref 1 0 0), (3, .ref 2 0 0), (4, i64 x216), (5, i64 y261), (26, bl r271)]) (H' := ⟨4, [(0, (2, [G.inquestref12_G.av g_0])), (1, (2, [.agg [i64 0, nilS]])), (2, (2, [.agg [i64 r82.N, .view 3 0 (List.map u64 outRows260).length]])), (3, (1, List.map u64 outRows260))]⟩) [(0, 0), (1, 1), (2, 2), (3, 3)] [] rfl rfl rfl (.cons rfl rfl (.one (.same _ (by simp)) rfl) (of_decide_eq_true rfl) (.cons rfl rfl (.one (.same _ (by simp)) rfl) (of_decide_eq_true rfl) (.cons rfl rfl (.one (.ag ⟨.same _ (by simp), .view rfl, trivial⟩) rfl) (of_decide_eq_true rfl) (.cons rfl rfl (.same (by simp)) (of_decide_eq_true rfl) (trivial))))) ⟨⟨_, rfl, .ref rfl⟩, ⟨_, rfl, .ref rfl⟩, ⟨_, rfl, .ref rfl⟩, ⟨_, rfl, .same _ (by simp)⟩, ⟨_, rfl, .same _ (by simp)⟩, ⟨_, rfl, .same _ (by simp)⟩, trivial⟩) ?_)
                clear hK14 K14
                refine awp_cond rfl (fun hb272 => ?_) (fun hb272 => ?_)
                · replace h := Sh.if_t h hb272
                  refine awp_any (by kernel_rfl) (by kernel_rfl) rfl ?_
                  refine ARH.op rfl rfl (aop_field_ref rfl rfl rfl fd26_1 (by decide)) ?_
                  refine ARH.op (r := .view 3 0 (List.map u64 outRows260).length) rfl rfl (aop_load_ref rfl rfl rfl rfl sz22 rfl) ?_
                  refine ARH.dry (r := i64 x216) rfl (fun _ => aop_move (.inl rfl) rfl) ?_
                  refine ARH.drop (frx := [(1, _), (2, _), (3, _), (4, _), (5, _), (28, _), (29, _)]) ⟨rfl, rfl, rfl, rfl, rfl, rfl, rfl, trivial⟩ ?_
                  refine ARH.op rfl rfl (aop_field_ref rfl rfl rfl fd26_1 (by decide)) ?_
                  refine ARH.op (r := .view 3 0 (List.map u64 outRows260).length) rfl rfl (aop_load_ref rfl rfl rfl rfl sz22 rfl) ?_
                  refine ARH.dry (r := i64 x216) rfl (fun _ => aop_move (.inl rfl) rfl) ?_
                  refine ARH.drop (frx := [(1, _), (2, _), (3, _), (4, _), (5, _), (28, _), (29, _), (31, _), (32, _)]) ⟨rfl, rfl, rfl, rfl, rfl, rfl, rfl, rfl, rfl, trivial⟩ ?_
                  obtain ⟨x273, hx273, h⟩ := Sh.bind_some' h
                  obtain ⟨k274, hi274, hl274⟩ := Sh.idx_some hx273
                  refine ARH.op (r := .ref 3 k274 0) rfl rfl (t_index_view u64 outRows260 hi274 hl274 rfl rfl rfl rfl rfl el22 rfl) ?_
                  refine ARH.op (r := u64 x273) rfl rfl (t_load_el u64 outRows260 hl274 rfl rfl rfl sz45 rfl) ?_
                  refine ARH.dry (r := i64 y261) rfl (fun _ => aop_move (.inl rfl) rfl) ?_
                  refine ARH.drop (frx := [(1, _), (2, _), (3, _), (4, _), (5, _), (28, _), (29, _), (34, _), (35, _)]) ⟨rfl, rfl, rfl, rfl, rfl, rfl, rfl, rfl, rfl, trivial⟩ ?_
                  obtain ⟨r275, hr275, h⟩ := Sh.bind_some' h
                  refine ARH.op (r := u64 r275) rfl rfl (aop_call1 rfl rfl (by simp) (inquestref10_With_ok hT hr275)) ?_
                  obtain ⟨x276, hx276, h⟩ := Sh.bind_some' h
                  obtain ⟨k277, hi277, hl277⟩ := Sh.idx_some hx276
                  refine ARH.op (r := .ref 3 k277 0) rfl rfl (t_index_view u64 outRows260 hi277 hl277 rfl rfl rfl rfl rfl el22 rfl) ?_
                  refine ARH.loud rfl rfl rfl (t_store_el u64 outRows260 r275 hi277 hl277 rfl rfl rfl rfl rfl sz45 rfl (of_decide_eq_true rfl) rfl) ?_
                  refine ARH.nil ?_
                  exact hK12 (Sh.set outRows260 x216 r275) _ h (Weak.re (fr' := [(1, .ref 0 0 0), (2, .ref 1 0 0), (3, .ref 2 0 0), (4, i64 x216), (5, i64 y261)]) (H' := ⟨4, [(0, (2, [G.inquestref12_G.av g_0])), (1, (2, [.agg [i64 0, nilS]])), (2, (2, [.agg [i64 r82.N, .view 3 0 (List.map u64 (Sh.set outRows260 x216 r275)).length]])), (3, (1, List.map u64 (Sh.set outRows260 x216 r275)))]⟩) [(0, 0), (1, 1), (2, 2), (3, 3)] [] rfl rfl rfl (.cons rfl rfl (.one (.same _ (by simp)) rfl) (of_decide_eq_true rfl) (.cons rfl rfl (.one (.same _ (by simp)) rfl) (of_decide_eq_true rfl) (.cons rfl rfl (.one (.ag ⟨.same _ (by simp), .viewL rfl (by simp []), trivial⟩) rfl) (of_decide_eq_true rfl) (.cons rfl rfl (.same (by simp)) (of_decide_eq_true rfl) (trivial))))) ⟨⟨_, rfl, .ref rfl⟩, ⟨_, rfl, .ref rfl⟩, ⟨_, rfl, .ref rfl⟩, ⟨_, rfl, .same _ (by simp)⟩, ⟨_, rfl, .same _ (by simp)⟩, trivial⟩)
                · replace h := Sh.if_f h hb272
                  refine awp_skip ?_
                  exact hK12 outRows260 _ h (Weak.re (fr' := [(1, .ref 0 0 0), (2, .ref 1 0 0), (3, .ref 2 0 0), (4, i64 x216), (5, i64 y261)]) (H' := ⟨4, [(0, (2, [G.inquestref12_G.av g_0])), (1, (2, [.agg [i64 0, nilS]])), (2, (2, [.agg [i64 r82.N, .view 3 0 (List.map u64 outRows260).length]])), (3, (1, List.map u64 outRows260))]⟩) [(0, 0), (1, 1), (2, 2), (3, 3)] [] rfl rfl rfl (.cons rfl rfl (.one (.same _ (by simp)) rfl) (of_decide_eq_true rfl) (.cons rfl rfl (.one (.same _ (by simp)) rfl) (of_decide_eq_true rfl) (.cons rfl rfl (.one (.ag ⟨.same _ (by simp), .view rfl, trivial⟩) rfl) (of_decide_eq_true rfl) (.cons rfl rfl (.same (by simp)) (of_decide_eq_true rfl) (trivial))))) ⟨⟨_, rfl, .ref rfl⟩, ⟨_, rfl, .ref rfl⟩, ⟨_, rfl, .ref rfl⟩, ⟨_, rfl, .same _ (by simp)⟩, ⟨_, rfl, .same _ (by simp)⟩, trivial⟩)
            · replace h := Sh.if_f h hb262
              refine awp_exit ?_
              replace h := Sh.exit_eq h hx2
              exact hK8 outRows260 _ h (Weak.re (fr' := [(1, .ref 0 0 0), (2, .ref 1 0 0), (3, .ref 2 0 0), (4, i64 x216)]) (H' := ⟨4, [(0, (2, [G.inquestref12_G.av g_0])), (1, (2, [.agg [i64 0, nilS]])), (2, (2, [.agg [i64 r82.N, .view 3 0 (List.map u64 outRows260).length]])), (3, (1, List.map u64 outRows260))]⟩) [(0, 0), (1, 1), (2, 2), (3, 3)] [] rfl rfl rfl (.cons rfl rfl (.one (.same _ (by simp)) rfl) (of_decide_eq_true rfl) (.cons rfl rfl (.one (.same _ (by simp)) rfl) (of_decide_eq_true rfl) (.cons rfl rfl (.one (.ag ⟨.same _ (by simp), .view rfl, trivial⟩) rfl) (of_decide_eq_true rfl) (.cons rfl rfl (.same (by simp)) (of_decide_eq_true rfl) (trivial))))) ⟨⟨_, rfl, .ref rfl⟩, ⟨_, rfl, .ref rfl⟩, ⟨_, rfl, .ref rfl⟩, ⟨_, rfl, .same _ (by simp)⟩, trivial⟩)
      · replace h := Sh.if_f h hb217
        refine awp_exit ?_
        replace h := Sh.exit_eq h hx1
        exact hK4 outRows215 _ h (Weak.re (fr' := [(2, .ref 0 0 0), (3, .ref 1 0 0)]) (H' := ⟨3, [(0, (2, [.agg [i64 0, nilS]])), (1, (2, [.agg [i64 r82.N, .view 2 0 (List.map u64 outRows215).length]])), (2, (1, List.map u64 outRows215))]⟩) [(0, 1), (1, 2), (2, 3)] [] rfl rfl rfl (.cons rfl rfl (.one (.same _ (by simp)) rfl) (of_decide_eq_true rfl) (.cons rfl rfl (.one (.ag ⟨.same _ (by simp), .view rfl, trivial⟩) rfl) (of_decide_eq_true rfl) (.cons rfl rfl (.same (by simp)) (of_decide_eq_true rfl) (trivial)))) ⟨⟨_, rfl, .ref rfl⟩, ⟨_, rfl, .ref rfl⟩, trivial⟩)
theorem inquestref12_Turn_ok {W0 : World} (hT : Tab W0) {g_0 : G.inquestref12_G} {r : G.inquestref12_G} (h : G.inquestref12_Turn g_0 = some r) : Fun1 Tryd.prog W0 24 [G.inquestref12_G.av g_0] (G.inquestref12_G.av r) :=
  (inquestref12_Turn_own hT h).give (Weak.re [] [] rfl rfl rfl trivial ⟨⟨_, rfl, .ag ⟨.same _ (by simp), .lendAll rfl rfl (by simp), trivial⟩⟩, trivial⟩) (by simp)


set_option maxHeartbeats 8000000 in
theorem inquestref12_Node_ok0 {W0 : World} (hT : Tab W0) {g_0 : G.inquestref12_G} {a_1 : Int} {r : Bool} (h : G.inquestref12_Node g_0 a_1 = some r) : Fun2 Tryd.prog W0 25 [G.inquestref12_G.av g_0, i64 a_1] (bl r) .empty := by
  refine fun2_of_awp Tryd.func25 rfl (by kernel_rfl) Tryd.ntmps25 (by simp) ?_
  unfold G.inquestref12_Node at h
  show AWP _ _ _ _ ⟨[(0, G.inquestref12_G.av g_0), (1, i64 a_1)], .empty⟩ _
  refine awp_seqK fun K1 hK1 => ?_
  refine awp_reg rfl ?_
  refine AR.op (r := .ref 0 0 0) rfl (aop_box 2 [G.inquestref12_G.av g_0] rfl rfl rfl (.inl ⟨rfl, rfl⟩)) ?_
  refine AR.op (r := bl false) rfl (aop_move (.inr rfl) rfl) ?_
  refine AR.nil ?_
  refine hK1 _ (AWP.weak (Weak.re (fr' := [(1, i64 a_1), (2, .ref 0 0 0)]) (H' := ⟨1, [(0, (2, [G.inquestref12_G.av g_0]))]⟩) [(0, 0)] [] rfl rfl rfl (.cons rfl rfl (.one (.same _ (by simp)) rfl) (of_decide_eq_true rfl) (trivial)) ⟨⟨_, rfl, .same _ (by simp)⟩, ⟨_, rfl, .ref rfl⟩, trivial⟩) ?_)
  clear hK1 K1
  refine awp_seqK fun K2 hK2 => ?_
  refine awp_reg rfl ?_
  refine AR.op (r := i64 a_1) rfl (aop_move (.inl rfl) rfl) ?_
  refine AR.op (r := bl (decide ((0 : Int) ≤ a_1))) rfl (aop_geq rfl rfl rfl) ?_
  refine AR.op (r := bl (decide ((0 : Int) ≤ a_1))) rfl (aop_move (.inl rfl) rfl) ?_
  refine AR.drop (frx := [(1, _), (2, _), (7, _)]) ⟨rfl, rfl, rfl, trivial⟩ ?_
  rcases Bool.eq_false_or_eq_true (decide ((0 : Int) ≤ a_1)) with hb4 | hb4
  · rw [hb4]
    replace h := Sh.if_t h hb4
    refine AR.op (r := i64 a_1) rfl (aop_move (.inl rfl) rfl) ?_
    refine AR.op rfl (aop_field_ref rfl rfl rfl fd26_0 (by decide)) ?_
    refine AR.op (r := i64 g_0.N) rfl (aop_load_ref rfl rfl rfl rfl sz3 rfl) ?_
    refine AR.drop (frx := [(7, _), (8, _), (10, _)]) ⟨rfl, rfl, rfl, trivial⟩ ?_
    refine AR.op (r := bl (decide (a_1 < g_0.N))) rfl (aop_lss rfl rfl rfl) ?_
    refine AR.op (r := bl (decide (a_1 < g_0.N))) rfl (aop_pick rfl rfl rfl) ?_
    refine AR.op (r := bl (decide (a_1 < g_0.N))) rfl (aop_move (.inr rfl) rfl) ?_
    refine AR.nil ?_
    refine hK2 _ (AWP.weak (Weak.re (fr' := [(4, bl (decide (a_1 < g_0.N)))]) (H' := .empty) [] [] rfl rfl rfl (trivial) ⟨⟨_, rfl, .same _ (by simp)⟩, trivial⟩) ?_)
    clear hK2 K2
    refine awp_ret ?_
    obtain rfl := Option.some.inj h
    refine ⟨.inr rfl, bl (decide (a_1 < g_0.N)), rfl, ?_⟩
    exact Weak.re [] [] rfl rfl rfl (trivial) ⟨⟨_, rfl, .same _ (by simp)⟩, trivial⟩
  · rw [hb4]
    replace h := Sh.if_f h hb4
    refine AR.skip rfl ?_
    refine AR.skip rfl ?_
    refine AR.skip rfl ?_
    refine AR.drop (frx := [(7, _), (8, _), (10, _)]) ⟨rfl, rfl, rfl, trivial⟩ ?_
    refine AR.skip rfl ?_
    refine AR.op (r := bl false) rfl (aop_pick rfl rfl rfl) ?_
    refine AR.op (r := bl false) rfl (aop_move (.inr rfl) rfl) ?_
    refine AR.nil ?_
    refine hK2 _ (AWP.weak (Weak.re (fr' := [(4, bl false)]) (H' := .empty) [] [] rfl rfl rfl (trivial) ⟨⟨_, rfl, .same _ (by simp)⟩, trivial⟩) ?_)
    clear hK2 K2
    refine awp_ret ?_
    obtain rfl := Option.some.inj h
    refine ⟨.inr rfl, bl false, rfl, ?_⟩
    exact Weak.re [] [] rfl rfl rfl (trivial) ⟨⟨_, rfl, .same _ (by simp)⟩, trivial⟩
theorem inquestref12_Node_ok {W0 : World} (hT : Tab W0) {g_0 : G.inquestref12_G} {a_1 : Int} {r : Bool} (h : G.inquestref12_Node g_0 a_1 = some r) : Fun1 Tryd.prog W0 25 [G.inquestref12_G.av g_0, i64 a_1] (bl r) := Fun1.two (inquestref12_Node_ok0 hT h) (by simp)


set_option maxHeartbeats 8000000 in
theorem inquestref12_Set_own {W0 : World} (hT : Tab W0) {g_0 : G.inquestref12_G} {a_1 : Int} {b_2 : Int} {r : G.inquestref12_G} (h : G.inquestref12_Set g_0 a_1 b_2 = some r) : Fun2 Tryd.prog W0 26 [G.inquestref12_G.av g_0, i64 a_1, i64 b_2] (.agg [i64 r.N, .view 0 0 (List.map u64 r.Rows).length]) ⟨1, [(0, (1, List.map u64 r.Rows))]⟩ := by
  refine fun2_of_awp Tryd.func26 rfl (by kernel_rfl) Tryd.ntmps26 (by simp) ?_
  unfold G.inquestref12_Set at h
  show AWP _ _ _ _ ⟨[(0, G.inquestref12_G.av g_0), (1, i64 a_1), (2, i64 b_2)], .empty⟩ _
  refine awp_seqK fun K1 hK1 => ?_
  refine awp_reg rfl ?_
  refine AR.op (r := .ref 0 0 0) rfl (aop_box 2 [G.inquestref12_G.av g_0] rfl rfl rfl (.inl ⟨rfl, rfl⟩)) ?_
  refine AR.op (r := .ref 1 0 0) rfl (aop_alloc 2 [.agg [i64 0, nilS]] rfl zr26 (by kernel_rfl) (.inl ⟨rfl, rfl⟩)) ?_
  refine AR.nil ?_
  refine hK1 _ (AWP.weak (Weak.re (fr' := [(1, i64 a_1), (2, i64 b_2), (3, .ref 0 0 0), (6, .ref 1 0 0)]) (H' := ⟨2, [(0, (2, [G.inquestref12_G.av g_0])), (1, (2, [.agg [i64 0, nilS]]))]⟩) [(0, 0), (1, 1)] [] rfl rfl rfl (.cons rfl rfl (.one (.same _ (by simp)) rfl) (of_decide_eq_true rfl) (.cons rfl rfl (.one (.same _ (by simp)) rfl) (of_decide_eq_true rfl) (trivial))) ⟨⟨_, rfl, .same _ (by simp)⟩, ⟨_, rfl, .same _ (by simp)⟩, ⟨_, rfl, .ref rfl⟩, ⟨_, rfl, .ref rfl⟩, trivial⟩) ?_)
  clear hK1 K1
  refine awp_seqK fun K2 hK2 => ?_
  refine awp_reg rfl ?_
  refine AR.op rfl (aop_field_ref rfl rfl rfl fd26_0 (by decide)) ?_
  refine AR.op (r := i64 g_0.N) rfl (aop_load_ref rfl rfl rfl rfl sz3 rfl) ?_
  refine AR.op (r := .agg [i64 g_0.N, nilS]) rfl (aop_build rfl bd26 rfl rfl rfl) ?_
  refine AR.drop (frx := [(1, _), (2, _), (3, _), (6, _), (10, _)]) ⟨rfl, rfl, rfl, rfl, rfl, trivial⟩ ?_
  refine AR.op (r := .ref 2 0 0) rfl (aop_alloc 2 [.agg [i64 0, nilS]] rfl zr26 (by kernel_rfl) (.inl ⟨rfl, rfl⟩)) ?_
  refine AR.op rfl (aop_store (e' := .agg [i64 g_0.N, nilS]) rfl rfl rfl rfl rfl rfl sz26 rfl (of_decide_eq_true rfl) rfl) ?_
  refine AR.nil ?_
  refine hK2 _ (AWP.weak (Weak.re (fr' := [(1, i64 a_1), (2, i64 b_2), (3, .ref 0 0 0), (6, .ref 1 0 0), (7, .ref 2 0 0)]) (H' := ⟨3, [(0, (2, [G.inquestref12_G.av g_0])), (1, (2, [.agg [i64 0, nilS]])), (2, (2, [.agg [i64 g_0.N, nilS]]))]⟩) [(0, 0), (1, 1), (2, 2)] [] rfl rfl rfl (.cons rfl rfl (.one (.same _ (by simp)) rfl) (of_decide_eq_true rfl) (.cons rfl rfl (.one (.same _ (by simp)) rfl) (of_decide_eq_true rfl) (.cons rfl rfl (.one (.same _ (by simp)) rfl) (of_decide_eq_true rfl) (trivial)))) ⟨⟨_, rfl, .same _ (by simp)⟩, ⟨_, rfl, .same _ (by simp)⟩, ⟨_, rfl, .ref rfl⟩, ⟨_, rfl, .ref rfl⟩, ⟨_, rfl, .ref rfl⟩, trivial⟩) ?_)
  clear hK2 K2
  refine awp_seqK fun K3 hK3 => ?_
  refine awp_reg rfl ?_
  refine AR.op rfl (aop_field_ref rfl rfl rfl fd26_1 (by decide)) ?_
  refine AR.op (r := nilS) rfl (aop_load_ref rfl rfl rfl rfl sz22 rfl) ?_
  refine AR.op rfl (aop_field_ref rfl rfl rfl fd26_1 (by decide)) ?_
  refine AR.drop (frx := [(1, _), (2, _), (6, _), (7, _), (12, _), (13, _)]) ⟨rfl, rfl, rfl, rfl, rfl, rfl, trivial⟩ ?_
  refine AR.op (r := .sl (List.map u64 g_0.Rows)) rfl (aop_load_ref rfl rfl rfl rfl sz22 rfl) ?_
  obtain ⟨l8, hl8, h⟩ := Sh.bind_some' h
  refine AR.op (r := .view 3 0 (List.map u64 l8).length) rfl (t_app_nil u64 g_0.Rows l8 hl8 et22 (fun _ => rfl) rfl rfl rfl rfl rfl) ?_
  refine AR.op rfl (aop_field_ref rfl rfl rfl fd26_1 (by decide)) ?_
  refine AR.drop (frx := [(1, _), (2, _), (6, _), (7, _), (15, _), (16, _)]) ⟨rfl, rfl, rfl, rfl, rfl, rfl, trivial⟩ ?_
  refine AR.op rfl (aop_store (e' := .agg [i64 g_0.N, .view 3 0 (List.map u64 l8).length]) rfl rfl rfl rfl rfl rfl sz22 rfl (of_decide_eq_true rfl) rfl) ?_
  refine AR.nil ?_
  refine hK3 _ (AWP.weak (Weak.re (fr' := [(1, i64 a_1), (2, i64 b_2), (6, .ref 0 0 0), (7, .ref 1 0 0)]) (H' := ⟨3, [(0, (2, [.agg [i64 0, nilS]])), (1, (2, [.agg [i64 g_0.N, .view 2 0 (List.map u64 l8).length]])), (2, (1, List.map u64 l8))]⟩) [(0, 1), (1, 2), (2, 3)] [] rfl rfl rfl (.cons rfl rfl (.one (.same _ (by simp)) rfl) (of_decide_eq_true rfl) (.cons rfl rfl (.one (.ag ⟨.same _ (by simp), .view rfl, trivial⟩) rfl) (of_decide_eq_true rfl) (.cons rfl rfl (.same (by simp)) (of_decide_eq_true rfl) (trivial)))) ⟨⟨_, rfl, .same _ (by simp)⟩, ⟨_, rfl, .same _ (by simp)⟩, ⟨_, rfl, .ref rfl⟩, ⟨_, rfl, .ref rfl⟩, trivial⟩) ?_)
  clear hK3 K3
  refine awp_seqK fun K4 hK4 => ?_
  refine awp_any (by kernel_rfl) (by kernel_rfl) rfl ?_
  refine ARH.op rfl rfl (aop_field_ref rfl rfl rfl fd26_1 (by decide)) ?_
  refine ARH.op (r := .view 2 0 (List.map u64 l8).length) rfl rfl (aop_load_ref rfl rfl rfl rfl sz22 rfl) ?_
  refine ARH.dry (r := i64 a_1) rfl (fun _ => aop_move (.inl rfl) rfl) ?_
  refine ARH.drop (frx := [(1, _), (2, _), (6, _), (7, _), (18, _), (19, _)]) ⟨rfl, rfl, rfl, rfl, rfl, rfl, trivial⟩ ?_
  refine ARH.op rfl rfl (aop_field_ref rfl rfl rfl fd26_1 (by decide)) ?_
  refine ARH.op (r := .view 2 0 (List.map u64 l8).length) rfl rfl (aop_load_ref rfl rfl rfl rfl sz22 rfl) ?_
  refine ARH.dry (r := i64 a_1) rfl (fun _ => aop_move (.inl rfl) rfl) ?_
  refine ARH.drop (frx := [(2, _), (6, _), (7, _), (18, _), (19, _), (21, _), (22, _)]) ⟨rfl, rfl, rfl, rfl, rfl, rfl, rfl, trivial⟩ ?_
  obtain ⟨x14, hx14, h⟩ := Sh.bind_some' h
  obtain ⟨k15, hi15, hl15⟩ := Sh.idx_some hx14
  refine ARH.op (r := .ref 2 k15 0) rfl rfl (t_index_view u64 l8 hi15 hl15 rfl rfl rfl rfl rfl el22 rfl) ?_
  refine ARH.op (r := u64 x14) rfl rfl (t_load_el u64 l8 hl15 rfl rfl rfl sz45 rfl) ?_
  refine ARH.dry (r := i64 b_2) rfl (fun _ => aop_move (.inl rfl) rfl) ?_
  refine ARH.drop (frx := [(6, _), (7, _), (18, _), (19, _), (24, _), (25, _)]) ⟨rfl, rfl, rfl, rfl, rfl, rfl, trivial⟩ ?_
  obtain ⟨r16, hr16, h⟩ := Sh.bind_some' h
  refine ARH.op (r := u64 r16) rfl rfl (aop_call1 rfl rfl (by simp) (inquestref10_With_ok hT hr16)) ?_
  obtain ⟨x17, hx17, h⟩ := Sh.bind_some' h
  obtain ⟨k18, hi18, hl18⟩ := Sh.idx_some hx17
  refine ARH.op (r := .ref 2 k18 0) rfl rfl (t_index_view u64 l8 hi18 hl18 rfl rfl rfl rfl rfl el22 rfl) ?_
  refine ARH.loud rfl rfl rfl (t_store_el u64 l8 r16 hi18 hl18 rfl rfl rfl rfl rfl sz45 rfl (of_decide_eq_true rfl) rfl) ?_
  refine ARH.nil ?_
  refine hK4 _ (AWP.weak (Weak.re (fr' := [(6, .ref 0 0 0), (7, .ref 1 0 0)]) (H' := ⟨3, [(0, (2, [.agg [i64 0, nilS]])), (1, (2, [.agg [i64 g_0.N, .view 2 0 (List.map u64 (Sh.set l8 a_1 r16)).length]])), (2, (1, List.map u64 (Sh.set l8 a_1 r16)))]⟩) [(0, 0), (1, 1), (2, 2)] [] rfl rfl rfl (.cons rfl rfl (.one (.same _ (by simp)) rfl) (of_decide_eq_true rfl) (.cons rfl rfl (.one (.ag ⟨.same _ (by simp), .viewL rfl (by simp []), trivial⟩) rfl) (of_decide_eq_true rfl) (.cons rfl rfl (.same (by simp)) (of_decide_eq_true rfl) (trivial)))) ⟨⟨_, rfl, .ref rfl⟩, ⟨_, rfl, .ref rfl⟩, trivial⟩) ?_)
  clear hK4 K4
  refine awp_seqK fun K5 hK5 => ?_
  refine awp_reg rfl ?_
  refine AR.op (r := .agg [i64 g_0.N, .view 2 0 (List.map u64 (Sh.set l8 a_1 r16)).length]) rfl (aop_load_ref rfl rfl rfl rfl sz26 rfl) ?_
  refine AR.op rfl (aop_store (e' := .agg [i64 g_0.N, .view 2 0 (List.map u64 (Sh.set l8 a_1 r16)).length]) rfl rfl rfl rfl rfl rfl sz26 rfl (of_decide_eq_true rfl) rfl) ?_
  refine AR.nil ?_
  refine hK5 _ (AWP.weak (Weak.re (fr' := [(6, .ref 0 0 0)]) (H' := ⟨2, [(0, (2, [.agg [i64 g_0.N, .view 1 0 (List.map u64 (Sh.set l8 a_1 r16)).length]])), (1, (1, List.map u64 (Sh.set l8 a_1 r16)))]⟩) [(0, 0), (1, 2)] [] rfl rfl rfl (.cons rfl rfl (.one (.ag ⟨.same _ (by simp), .view rfl, trivial⟩) rfl) (of_decide_eq_true rfl) (.cons rfl rfl (.same (by simp)) (of_decide_eq_true rfl) (trivial))) ⟨⟨_, rfl, .ref rfl⟩, trivial⟩) ?_)
  clear hK5 K5
  refine awp_ret ?_
  obtain rfl := Option.some.inj h
  refine ⟨.inr rfl, .agg [i64 g_0.N, .view 1 0 (List.map u64 (Sh.set l8 a_1 r16)).length], rfl, ?_⟩
  exact Weak.re [(0, 1)] [] rfl rfl rfl (.cons rfl rfl (.same (by simp)) (of_decide_eq_true rfl) (trivial)) ⟨⟨.agg [i64 g_0.N, .view 1 0 (List.map u64 (Sh.set l8 a_1 r16)).length], rfl, .ag ⟨.same _ (by simp), .view rfl, trivial⟩⟩, trivial⟩
theorem inquestref12_Set_ok {W0 : World} (hT : Tab W0) {g_0 : G.inquestref12_G} {a_1 : Int} {b_2 : Int} {r : G.inquestref12_G} (h : G.inquestref12_Set g_0 a_1 b_2 = some r) : Fun1 Tryd.prog W0 26 [G.inquestref12_G.av g_0, i64 a_1, i64 b_2] (G.inquestref12_G.av r) :=
  (inquestref12_Set_own hT h).give (Weak.re [] [] rfl rfl rfl trivial ⟨⟨_, rfl, .ag ⟨.same _ (by simp), .lendAll rfl rfl (by simp), trivial⟩⟩, trivial⟩) (by simp)


set_option maxHeartbeats 8000000 in
theorem inquestref12_Union_own {W0 : World} (hT : Tab W0) {a_0 : G.inquestref12_G} {b_1 : G.inquestref12_G} {r : G.inquestref12_G} (h : G.inquestref12_Union a_0 b_1 = some r) : Fun2 Tryd.prog W0 40 [G.inquestref12_G.av a_0, G.inquestref12_G.av b_1] (.agg [i64 r.N, .view 0 0 (List.map u64 r.Rows).length]) ⟨1, [(0, (1, List.map u64 r.Rows))]⟩ := by
  refine fun2_of_awp Tryd.func40 rfl (by kernel_rfl) Tryd.ntmps40 (by simp) ?_
  unfold G.inquestref12_Union at h
  show AWP _ _ _ _ ⟨[(0, G.inquestref12_G.av a_0), (1, G.inquestref12_G.av b_1)], .empty⟩ _
  refine awp_seqK fun K1 hK1 => ?_
  refine awp_reg rfl ?_
  refine AR.op (r := .ref 0 0 0) rfl (aop_box 2 [G.inquestref12_G.av a_0] rfl rfl rfl (.inl ⟨rfl, rfl⟩)) ?_
  refine AR.op (r := .ref 1 0 0) rfl (aop_box 2 [G.inquestref12_G.av b_1] rfl rfl rfl (.inl ⟨rfl, rfl⟩)) ?_
  refine AR.op (r := .ref 2 0 0) rfl (aop_alloc 2 [.agg [i64 0, nilS]] rfl zr26 (by kernel_rfl) (.inl ⟨rfl, rfl⟩)) ?_
  refine AR.nil ?_
  refine hK1 _ (AWP.weak (Weak.re (fr' := [(2, .ref 0 0 0), (3, .ref 1 0 0), (4, .ref 2 0 0)]) (H' := ⟨3, [(0, (2, [G.inquestref12_G.av a_0])), (1, (2, [G.inquestref12_G.av b_1])), (2, (2, [.agg [i64 0, nilS]]))]⟩) [(0, 0), (1, 1), (2, 2)] [] rfl rfl rfl (.cons rfl rfl (.one (.same _ (by simp)) rfl) (of_decide_eq_true rfl) (.cons rfl rfl (.one (.same _ (by simp)) rfl) (of_decide_eq_true rfl) (.cons rfl rfl (.one (.same _ (by simp)) rfl) (of_decide_eq_true rfl) (trivial)))) ⟨⟨_, rfl, .ref rfl⟩, ⟨_, rfl, .ref rfl⟩, ⟨_, rfl, .ref rfl⟩, trivial⟩) ?_)
  clear hK1 K1
  refine awp_seqK fun K2 hK2 => ?_
  refine awp_reg rfl ?_
  refine AR.op rfl (aop_field_ref rfl rfl rfl fd26_0 (by decide)) ?_
  refine AR.op (r := i64 a_0.N) rfl (aop_load_ref rfl rfl rfl rfl sz3 rfl) ?_
  obtain ⟨r109, hr109, h⟩ := Sh.bind_some' h
  refine AR.op (r := .agg [i64 r109.N, .view 3 0 (List.map u64 r109.Rows).length]) rfl (aop_call2N (.agg [i64 r109.N, .view 3 0 (List.map u64 r109.Rows).length]) [(3, (1, List.map u64 r109.Rows))] rfl (ys := [i64 a_0.N]) (xs := [i64 a_0.N]) rfl (Weak.refl _) rfl (by simp) (inquestref12_New_own hT hr109) (.ag ⟨.same _ (by simp), .view _ _ _, trivial⟩) ⟨rfl, rfl, .same (by simp [AV.flat]), trivial⟩) ?_
  refine AR.drop (frx := [(2, _), (3, _), (4, _), (12, _)]) ⟨rfl, rfl, rfl, rfl, trivial⟩ ?_
  refine AR.op (r := .ref 4 0 0) rfl (aop_alloc 2 [.agg [i64 0, nilS]] rfl zr26 (by kernel_rfl) (.inl ⟨rfl, rfl⟩)) ?_
  refine AR.op rfl (aop_store (e' := .agg [i64 r109.N, .view 3 0 (List.map u64 r109.Rows).length]) rfl rfl rfl rfl rfl rfl sz26 rfl (of_decide_eq_true rfl) rfl) ?_
  refine AR.nil ?_
  refine hK2 _ (AWP.weak (Weak.re (fr' := [(2, .ref 0 0 0), (3, .ref 1 0 0), (4, .ref 2 0 0), (5, .ref 3 0 0)]) (H' := ⟨5, [(0, (2, [G.inquestref12_G.av a_0])), (1, (2, [G.inquestref12_G.av b_1])), (2, (2, [.agg [i64 0, nilS]])), (3, (2, [.agg [i64 r109.N, .view 4 0 (List.map u64 r109.Rows).length]])), (4, (1, List.map u64 r109.Rows))]⟩) [(0, 0), (1, 1), (2, 2), (3, 4), (4, 3)] [] rfl rfl rfl (.cons rfl rfl (.one (.same _ (by simp)) rfl) (of_decide_eq_true rfl) (.cons rfl rfl (.one (.same _ (by simp)) rfl) (of_decide_eq_true rfl) (.cons rfl rfl (.one (.same _ (by simp)) rfl) (of_decide_eq_true rfl) (.cons rfl rfl (.one (.ag ⟨.same _ (by simp), .view rfl, trivial⟩) rfl) (of_decide_eq_true rfl) (.cons rfl rfl (.same (by simp)) (of_decide_eq_true rfl) (trivial)))))) ⟨⟨_, rfl, .ref rfl⟩, ⟨_, rfl, .ref rfl⟩, ⟨_, rfl, .ref rfl⟩, ⟨_, rfl, .ref rfl⟩, trivial⟩) ?_)
  clear hK2 K2
  refine awp_seqJ (fun (p : (List (BitVec 64))) => (⟨[(4, .ref 0 0 0), (5, .ref 1 0 0)], ⟨3, [(0, (2, [.agg [i64 0, nilS]])), (1, (2, [.agg [i64 r109.N, .view 2 0 (List.map u64 p).length]])), (2, (1, List.map u64 p))]⟩⟩ : St)) (fun (p : (List (BitVec 64))) => G.inquestref12_Union_j1 r109 p = some r) ?_ ?_
  · rintro v216 h
    replace h : G.inquestref12_Union_j1 r109 v216 = some r := h
    unfold G.inquestref12_Union_j1 at h
    show AWP _ _ _ _ ⟨[(4, .ref 0 0 0), (5, .ref 1 0 0)], ⟨3, [(0, (2, [.agg [i64 0, nilS]])), (1, (2, [.agg [i64 r109.N, .view 2 0 (List.map u64 v216).length]])), (2, (1, List.map u64 v216))]⟩⟩ _
    refine awp_seqK fun K3 hK3 => ?_
    refine awp_reg rfl ?_
    refine AR.op (r := .agg [i64 r109.N, .view 2 0 (List.map u64 v216).length]) rfl (aop_load_ref rfl rfl rfl rfl sz26 rfl) ?_
    refine AR.op rfl (aop_store (e' := .agg [i64 r109.N, .view 2 0 (List.map u64 v216).length]) rfl rfl rfl rfl rfl rfl sz26 rfl (of_decide_eq_true rfl) rfl) ?_
    refine AR.nil ?_
    refine hK3 _ (AWP.weak (Weak.re (fr' := [(4, .ref 0 0 0)]) (H' := ⟨2, [(0, (2, [.agg [i64 r109.N, .view 1 0 (List.map u64 v216).length]])), (1, (1, List.map u64 v216))]⟩) [(0, 0), (1, 2)] [] rfl rfl rfl (.cons rfl rfl (.one (.ag ⟨.same _ (by simp), .view rfl, trivial⟩) rfl) (of_decide_eq_true rfl) (.cons rfl rfl (.same (by simp)) (of_decide_eq_true rfl) (trivial))) ⟨⟨_, rfl, .ref rfl⟩, trivial⟩) ?_)
    clear hK3 K3
    refine awp_ret ?_
    obtain rfl := Option.some.inj h
    refine ⟨.inr rfl, .agg [i64 r109.N, .view 1 0 (List.map u64 v216).length], rfl, ?_⟩
    exact Weak.re [(0, 1)] [] rfl rfl rfl (.cons rfl rfl (.same (by simp)) (of_decide_eq_true rfl) (trivial)) ⟨⟨.agg [i64 r109.N, .view 1 0 (List.map u64 v216).length], rfl, .ag ⟨.same _ (by simp), .view rfl, trivial⟩⟩, trivial⟩
  · intro K4 hK4
    refine awp_seqK fun K5 hK5 => ?_
    refine awp_reg rfl ?_
    refine AR.op (r := i64 0) rfl (aop_move (.inr rfl) rfl) ?_
    refine AR.nil ?_
    refine hK5 _ ?_
    clear hK5 K5
    refine awp_block ?_
    refine awp_iter (fun (p : (List (BitVec 64)) × Int) => G.inquestref12_Union_b1 a_0 b_1 r109 p.1 p.2) (fun (p : (List (BitVec 64)) × Int) => (⟨[(2, .ref 0 0 0), (3, .ref 1 0 0), (4, .ref 2 0 0), (5, .ref 3 0 0), (6, i64 p.2)], ⟨5, [(0, (2, [G.inquestref12_G.av a_0])), (1, (2, [G.inquestref12_G.av b_1])), (2, (2, [.agg [i64 0, nilS]])), (3, (2, [.agg [i64 r109.N, .view 4 0 (List.map u64 p.1).length]])), (4, (1, List.map u64 p.1))]⟩⟩ : St)) h (Weak.re (fr' := [(2, .ref 0 0 0), (3, .ref 1 0 0), (4, .ref 2 0 0), (5, .ref 3 0 0), (6, i64 0)]) (H' := ⟨5, [(0, (2, [G.inquestref12_G.av a_0])), (1, (2, [G.inquestref12_G.av b_1])), (2, (2, [.agg [i64 0, nilS]])), (3, (2, [.agg [i64 r109.N, .view 4 0 (List.map u64 r109.Rows).length]])), (4, (1, List.map u64 r109.Rows))]⟩) [(0, 0), (1, 1), (2, 2), (3, 3), (4, 4)] [] rfl rfl rfl (.cons rfl rfl (.one (.same _ (by simp)) rfl) (of_decide_eq_true rfl) (.cons rfl rfl (.one (.same _ (by simp)) rfl) (of_decide_eq_true rfl) (.cons rfl rfl (.one (.same _ (by simp)) rfl) (of_decide_eq_true rfl) (.cons rfl rfl (.one (.ag ⟨.same _ (by simp), .view rfl, trivial⟩) rfl) (of_decide_eq_true rfl) (.cons rfl rfl (.same (by simp)) (of_decide_eq_true rfl) (trivial)))))) ⟨⟨_, rfl, .ref rfl⟩, ⟨_, rfl, .ref rfl⟩, ⟨_, rfl, .ref rfl⟩, ⟨_, rfl, .ref rfl⟩, ⟨_, rfl, .same _ (by simp)⟩, trivial⟩) ?_
    · skip
      rintro ⟨outRows287, x288⟩ o1 h hx1
      replace h : G.inquestref12_Union_b1 a_0 b_1 r109 outRows287 x288 = some o1 := h
      unfold G.inquestref12_Union_b1 at h
      show AWP _ _ _ _ ⟨[(2, .ref 0 0 0), (3, .ref 1 0 0), (4, .ref 2 0 0), (5, .ref 3 0 0), (6, i64 x288)], ⟨5, [(0, (2, [G.inquestref12_G.av a_0])), (1, (2, [G.inquestref12_G.av b_1])), (2, (2, [.agg [i64 0, nilS]])), (3, (2, [.agg [i64 r109.N, .view 4 0 (List.map u64 outRows287).length]])), (4, (1, List.map u64 outRows287))]⟩⟩ _
      refine awp_seqK fun K6 hK6 => ?_
      refine awp_seqK fun K7 hK7 => ?_
      refine awp_reg rfl ?_
      refine AR.op (r := i64 x288) rfl (aop_move (.inl rfl) rfl) ?_
      refine AR.op rfl (aop_field_ref rfl rfl rfl fd26_0 (by decide)) ?_
      refine AR.op (r := i64 a_0.N) rfl (aop_load_ref rfl rfl rfl rfl sz3 rfl) ?_
      refine AR.drop (frx := [(2, _), (3, _), (4, _), (5, _), (6, _), (13, _), (15, _)]) ⟨rfl, rfl, rfl, rfl, rfl, rfl, rfl, trivial⟩ ?_
      refine AR.op (r := bl (decide (x288 < a_0.N))) rfl (aop_lss rfl rfl rfl) ?_
      refine AR.nil ?_
      refine hK7 _ (AWP.weak (Weak.re (fr' := [(2, .ref 0 0 0), (3, .ref 1 0 0), (4, .ref 2 0 0), (5, .ref 3 0 0), (6, i64 x288), (16, bl (decide (x288 < a_0.N)))]) (H' := ⟨5, [(0, (2, [G.inquestref12_G.av a_0])), (1, (2, [G.inquestref12_G.av b_1])), (2, (2, [.agg [i64 0, nilS]])), (3, (2, [.agg [i64 r109.N, .view 4 0 (List.map u64 outRows287).length]])), (4, (1, List.map u64 outRows287))]⟩) [(0, 0), (1, 1), (2, 2), (3, 3), (4, 4)] [] rfl rfl rfl (.cons rfl rfl (.one (.same _ (by simp)) rfl) (of_decide_eq_true rfl) (.cons rfl rfl (.one (.same _ (by simp)) rfl) (of_decide_eq_true rfl) (.cons rfl rfl (.one (.same _ (by simp)) rfl) (of_decide_eq_true rfl) (.cons rfl rfl (.one (.ag ⟨.same _ (by simp), .view rfl, trivial⟩) rfl) (of_decide_eq_true rfl) (.cons rfl rfl (.same (by simp)) (of_decide_eq_true rfl) (trivial)))))) ⟨⟨_, rfl, .ref rfl⟩, ⟨_, rfl, .ref rfl⟩, ⟨_, rfl, .ref rfl⟩, ⟨_, rfl, .ref rfl⟩, ⟨_, rfl, .same _ (by simp)⟩, ⟨_, rfl, .same _ (by simp)⟩, trivial⟩) ?_)
      clear hK7 K7
      refine awp_cond rfl (fun hb289 => ?_) (fun hb289 => ?_)
      · replace h := Sh.if_t h hb289
        refine awp_skip ?_
        refine hK6 _ (AWP.weak (Weak.re (fr' := [(2, .ref 0 0 0), (3, .ref 1 0 0), (4, .ref 2 0 0), (5, .ref 3 0 0), (6, i64 x288)]) (H' := ⟨5, [(0, (2, [G.inquestref12_G.av a_0])), (1, (2, [G.inquestref12_G.av b_1])), (2, (2, [.agg [i64 0, nilS]])), (3, (2, [.agg [i64 r109.N, .view 4 0 (List.map u64 outRows287).length]])), (4, (1, List.map u64 outRows287))]⟩) [(0, 0), (1, 1), (2, 2), (3, 3), (4, 4)] [] rfl rfl rfl (.cons rfl rfl (.one (.same _ (by simp)) rfl) (of_decide_eq_true rfl) (.cons rfl rfl (.one (.same _ (by simp)) rfl) (of_decide_eq_true rfl) (.cons rfl rfl (.one (.same _ (by simp)) rfl) (of_decide_eq_true rfl) (.cons rfl rfl (.one (.ag ⟨.same _ (by simp), .view rfl, trivial⟩) rfl) (of_decide_eq_true rfl) (.cons rfl rfl (.same (by simp)) (of_decide_eq_true rfl) (trivial)))))) ⟨⟨_, rfl, .ref rfl⟩, ⟨_, rfl, .ref rfl⟩, ⟨_, rfl, .ref rfl⟩, ⟨_, rfl, .ref rfl⟩, ⟨_, rfl, .same _ (by simp)⟩, trivial⟩) ?_)
        clear hK6 K6
        refine awp_seqJ (fun (p : (List (BitVec 64))) => (⟨[(2, .ref 0 0 0), (3, .ref 1 0 0), (4, .ref 2 0 0), (5, .ref 3 0 0), (6, i64 x288)], ⟨5, [(0, (2, [G.inquestref12_G.av a_0])), (1, (2, [G.inquestref12_G.av b_1])), (2, (2, [.agg [i64 0, nilS]])), (3, (2, [.agg [i64 r109.N, .view 4 0 (List.map u64 p).length]])), (4, (1, List.map u64 p))]⟩⟩ : St)) (fun (p : (List (BitVec 64))) => G.inquestref12_Union_j2 x288 p = some o1) ?_ ?_
        · rintro v324 h
          replace h : G.inquestref12_Union_j2 x288 v324 = some o1 := h
          unfold G.inquestref12_Union_j2 at h
          show AWP _ _ _ _ ⟨[(2, .ref 0 0 0), (3, .ref 1 0 0), (4, .ref 2 0 0), (5, .ref 3 0 0), (6, i64 x288)], ⟨5, [(0, (2, [G.inquestref12_G.av a_0])), (1, (2, [G.inquestref12_G.av b_1])), (2, (2, [.agg [i64 0, nilS]])), (3, (2, [.agg [i64 r109.N, .view 4 0 (List.map u64 v324).length]])), (4, (1, List.map u64 v324))]⟩⟩ _
          refine awp_reg rfl ?_
          refine AR.op (r := i64 x288) rfl (aop_move (.inl rfl) rfl) ?_
          refine AR.op (r := i64 (w64 (x288 + 1))) rfl (aop_add rfl rfl rfl rfl) ?_
          refine AR.op (r := i64 (w64 (x288 + 1))) rfl (aop_move (.inr rfl) rfl) ?_
          refine AR.nil ?_
          replace h := Sh.next_eq h
          exact ⟨_, h, Weak.re (fr' := [(2, .ref 0 0 0), (3, .ref 1 0 0), (4, .ref 2 0 0), (5, .ref 3 0 0), (6, i64 (w64 (x288 + 1)))]) (H' := ⟨5, [(0, (2, [G.inquestref12_G.av a_0])), (1, (2, [G.inquestref12_G.av b_1])), (2, (2, [.agg [i64 0, nilS]])), (3, (2, [.agg [i64 r109.N, .view 4 0 (List.map u64 v324).length]])), (4, (1, List.map u64 v324))]⟩) [(0, 0), (1, 1), (2, 2), (3, 3), (4, 4)] [] rfl rfl rfl (.cons rfl rfl (.one (.same _ (by simp)) rfl) (of_decide_eq_true rfl) (.cons rfl rfl (.one (.same _ (by simp)) rfl) (of_decide_eq_true rfl) (.cons rfl rfl (.one (.same _ (by simp)) rfl) (of_decide_eq_true rfl) (.cons rfl rfl (.one (.ag ⟨.same _ (by simp), .view rfl, trivial⟩) rfl) (of_decide_eq_true rfl) (.cons rfl rfl (.same (by simp)) (of_decide_eq_true rfl) (trivial)))))) ⟨⟨_, rfl, .ref rfl⟩, ⟨_, rfl, .ref rfl⟩, ⟨_, rfl, .ref rfl⟩, ⟨_, rfl, .ref rfl⟩, ⟨_, rfl, .same _ (by simp)⟩, trivial⟩⟩
        · intro K8 hK8
          refine awp_block ?_
          refine awp_seqK fun K9 hK9 => ?_
          refine awp_reg rfl ?_
          refine AR.op (r := i64 0) rfl (aop_move (.inr rfl) rfl) ?_
          refine AR.nil ?_
          refine hK9 _ ?_
          clear hK9 K9
          refine awp_block ?_
          refine awp_iter (fun (p : (List (BitVec 64)) × Int) => G.inquestref12_Union_b2 a_0 b_1 x288 p.1 p.2) (fun (p : (List (BitVec 64)) × Int) => (⟨[(2, .ref 0 0 0), (3, .ref 1 0 0), (4, .ref 2 0 0), (5, .ref 3 0 0), (6, i64 x288), (7, i64 p.2)], ⟨5, [(0, (2, [G.inquestref12_G.av a_0])), (1, (2, [G.inquestref12_G.av b_1])), (2, (2, [.agg [i64 0, nilS]])), (3, (2, [.agg [i64 r109.N, .view 4 0 (List.map u64 p.1).length]])), (4, (1, List.map u64 p.1))]⟩⟩ : St)) h (Weak.re (fr' := [(2, .ref 0 0 0), (3, .ref 1 0 0), (4, .ref 2 0 0), (5, .ref 3 0 0), (6, i64 x288), (7, i64 0)]) (H' := ⟨5, [(0, (2, [G.inquestref12_G.av a_0])), (1, (2, [G.inquestref12_G.av b_1])), (2, (2, [.agg [i64 0, nilS]])), (3, (2, [.agg [i64 r109.N, .view 4 0 (List.map u64 outRows287).length]])), (4, (1, List.map u64 outRows287))]⟩) [(0, 0), (1, 1), (2, 2), (3, 3), (4, 4)] [] rfl rfl rfl (.cons rfl rfl (.one (.same _ (by simp)) rfl) (of_decide_eq_true rfl) (.cons rfl rfl (.one (.same _ (by simp)) rfl) (of_decide_eq_true rfl) (.cons rfl rfl (.one (.same _ (by simp)) rfl) (of_decide_eq_true rfl) (.cons rfl rfl (.one (.ag ⟨.same _ (by simp), .view rfl, trivial⟩) rfl) (of_decide_eq_true rfl) (.cons rfl rfl (.same (by simp)) (of_decide_eq_true rfl) (trivial)))))) ⟨⟨_, rfl, .ref rfl⟩, ⟨_, rfl, .ref rfl⟩, ⟨_, rfl, .ref rfl⟩, ⟨_, rfl, .ref rfl⟩, ⟨_, rfl, .same _ (by simp)⟩, ⟨_, rfl, .same _ (by simp)⟩, trivial⟩) ?_
          · skip
            rintro ⟨outRows347, y348⟩ o2 h hx2
            replace h : G.inquestref12_Union_b2 a_0 b_1 x288 outRows347 y348 = some o2 := h
            unfold G.inquestref12_Union_b2 at h
            show AWP _ _ _ _ ⟨[(2, .ref 0 0 0), (3, .ref 1 0 0), (4, .ref 2 0 0), (5, .ref 3 0 0), (6, i64 x288), (7, i64 y348)], ⟨5, [(0, (2, [G.inquestref12_G.av a_0])), (1, (2, [G.inquestref12_G.av b_1])), (2, (2, [.agg [i64 0, nilS]])), (3, (2, [.agg [i64 r109.N, .view 4 0 (List.map u64 outRows347).length]])), (4, (1, List.map u64 outRows347))]⟩⟩ _
            refine awp_seqK fun K10 hK10 => ?_
            refine awp_seqK fun K11 hK11 => ?_
            refine awp_reg rfl ?_
            refine AR.op (r := i64 y348) rfl (aop_move (.inl rfl) rfl) ?_
            refine AR.op rfl (aop_field_ref rfl rfl rfl fd26_0 (by decide)) ?_
            refine AR.op (r := i64 a_0.N) rfl (aop_load_ref rfl rfl rfl rfl sz3 rfl) ?_
            refine AR.drop (frx := [(2, _), (3, _), (4, _), (5, _), (6, _), (7, _), (19, _), (21, _)]) ⟨rfl, rfl, rfl, rfl, rfl, rfl, rfl, rfl, trivial⟩ ?_
            refine AR.op (r := bl (decide (y348 < a_0.N))) rfl (aop_lss rfl rfl rfl) ?_
            refine AR.nil ?_
            refine hK11 _ (AWP.weak (Weak.re (fr' := [(2, .ref 0 0 0), (3, .ref 1 0 0), (4, .ref 2 0 0), (5, .ref 3 0 0), (6, i64 x288), (7, i64 y348), (22, bl (decide (y348 < a_0.N)))]) (H' := ⟨5, [(0, (2, [G.inquestref12_G.av a_0])), (1, (2, [G.inquestref12_G.av b_1])), (2, (2, [.agg [i64 0, nilS]])), (3, (2, [.agg [i64 r109.N, .view 4 0 (List.map u64 outRows347).length]])), (4, (1, List.map u64 outRows347))]⟩) [(0, 0), (1, 1), (2, 2), (3, 3), (4, 4)] [] rfl rfl rfl (.cons rfl rfl (.one (.same _ (by simp)) rfl) (of_decide_eq_true rfl) (.cons rfl rfl (.one (.same _ (by simp)) rfl) (of_decide_eq_true rfl) (.cons rfl rfl (.one (.same _ (by simp)) rfl) (of_decide_eq_true rfl) (.cons rfl rfl (.one (.ag ⟨.same _ (by simp), .view rfl, trivial⟩) rfl) (of_decide_eq_true rfl) (.cons rfl rfl (.same (by simp)) (of_decide_eq_true rfl) (trivial)))))) ⟨⟨_, rfl, .ref rfl⟩, ⟨_, rfl, .ref rfl⟩, ⟨_, rfl, .ref rfl⟩, ⟨_, rfl, .ref rfl⟩, ⟨_, rfl, .same _ (by simp)⟩, ⟨_, rfl, .same _ (by simp)⟩, ⟨_, rfl, .same _ (by simp)⟩, trivial⟩) ?_)
            clear hK11 K11
            refine awp_cond rfl (fun hb349 => ?_) (fun hb349 => ?_)
            · replace h := Sh.if_t h hb349
              refine awp_skip ?_
              refine hK10 _ (AWP.weak (Weak.re (fr' := [(2, .ref 0 0 0), (3, .ref 1 0 0), (4, .ref 2 0 0), (5, .ref 3 0 0), (6, i64 x288), (7, i64 y348)]) (H' := ⟨5, [(0, (2, [G.inquestref12_G.av a_0])), (1, (2, [G.inquestref12_G.av b_1])), (2, (2, [.agg [i64 0, nilS]])), (3, (2, [.agg [i64 r109.N, .view 4 0 (List.map u64 outRows347).length]])), (4, (1, List.map u64 outRows347))]⟩) [(0, 0), (1, 1), (2, 2), (3, 3), (4, 4)] [] rfl rfl rfl (.cons rfl rfl (.one (.same _ (by simp)) rfl) (of_decide_eq_true rfl) (.cons rfl rfl (.one (.same _ (by simp)) rfl) (of_decide_eq_true rfl) (.cons rfl rfl (.one (.same _ (by simp)) rfl) (of_decide_eq_true rfl) (.cons rfl rfl (.one (.ag ⟨.same _ (by simp), .view rfl, trivial⟩) rfl) (of_decide_eq_true rfl) (.cons rfl rfl (.same (by simp)) (of_decide_eq_true rfl) (trivial)))))) ⟨⟨_, rfl, .ref rfl⟩, ⟨_, rfl, .ref rfl⟩, ⟨_, rfl, .ref rfl⟩, ⟨_, rfl, .ref rfl⟩, ⟨_, rfl, .same _ (by simp)⟩, ⟨_, rfl, .same _ (by simp)⟩, trivial⟩) ?_)
              clear hK10 K10
              refine awp_seqJ (fun (p : (List (BitVec 64))) => (⟨[(2, .ref 0 0 0), (3, .ref 1 0 0), (4, .ref 2 0 0), (5, .ref 3 0 0), (6, i64 x288), (7, i64 y348), (35, .any)], ⟨5, [(0, (2, [G.inquestref12_G.av a_0])), (1, (2, [G.inquestref12_G.av b_1])), (2, (2, [.agg [i64 0, nilS]])), (3, (2, [.agg [i64 r109.N, .view 4 0 (List.map u64 p).length]])), (4, (1, List.map u64 p))]⟩⟩ : St)) (fun (p : (List (BitVec 64))) => G.inquestref12_Union_j3 y348 p = some o2) ?_ ?_
              · rintro outRows359 h
                replace h : G.inquestref12_Union_j3 y348 outRows359 = some o2 := h
                unfold G.inquestref12_Union_j3 at h
                show AWP _ _ _ _ ⟨[(2, .ref 0 0 0), (3, .ref 1 0 0), (4, .ref 2 0 0), (5, .ref 3 0 0), (6, i64 x288), (7, i64 y348), (35, .any)], ⟨5, [(0, (2, [G.inquestref12_G.av a_0])), (1, (2, [G.inquestref12_G.av b_1])), (2, (2, [.agg [i64 0, nilS]])), (3, (2, [.agg [i64 r109.N, .view 4 0 (List.map u64 outRows359).length]])), (4, (1, List.map u64 outRows359))]⟩⟩ _
                refine awp_reg rfl ?_
                refine AR.op (r := i64 y348) rfl (aop_move (.inl rfl) rfl) ?_
                refine AR.op (r := i64 (w64 (y348 + 1))) rfl (aop_add rfl rfl rfl rfl) ?_
                refine AR.op (r := i64 (w64 (y348 + 1))) rfl (aop_move (.inr rfl) rfl) ?_
                refine AR.nil ?_
                replace h := Sh.next_eq h
                exact ⟨_, h, Weak.re (fr' := [(2, .ref 0 0 0), (3, .ref 1 0 0), (4, .ref 2 0 0), (5, .ref 3 0 0), (6, i64 x288), (7, i64 (w64 (y348 + 1)))]) (H' := ⟨5, [(0, (2, [G.inquestref12_G.av a_0])), (1, (2, [G.inquestref12_G.av b_1])), (2, (2, [.agg [i64 0, nilS]])), (3, (2, [.agg [i64 r109.N, .view 4 0 (List.map u64 outRows359).length]])), (4, (1, List.map u64 outRows359))]⟩) [(0, 0), (1, 1), (2, 2), (3, 3), (4, 4)] [] rfl rfl rfl (.cons rfl rfl (.one (.same _ (by simp)) rfl) (of_decide_eq_true rfl) (.cons rfl rfl (.one (.same _ (by simp)) rfl) (of_decide_eq_true rfl) (.cons rfl rfl (.one (.same _ (by simp)) rfl) (of_decide_eq_true rfl) (.cons rfl rfl (.one (.ag ⟨.same _ (by simp), .view rfl, trivial⟩) rfl) (of_decide_eq_true rfl) (.cons rfl rfl (.same (by simp)) (of_decide_eq_true rfl) (trivial)))))) ⟨⟨_, rfl, .ref rfl⟩, ⟨_, rfl, .ref rfl⟩, ⟨_, rfl, .ref rfl⟩, ⟨_, rfl, .ref rfl⟩, ⟨_, rfl, .same _ (by simp)⟩, ⟨_, rfl, .same _ (by simp)⟩, trivial⟩⟩
              · intro K12 hK12
                refine awp_block ?_
                refine awp_seqK fun K13 hK13 => ?_
                refine awp_reg rfl ?_
                refine AR.op (r := G.inquestref12_G.av a_0) rfl (aop_load_ref rfl rfl rfl rfl sz26 rfl) ?_
                refine AR.op (r := i64 x288) rfl (aop_move (.inl rfl) rfl) ?_
                refine AR.op (r := i64 y348) rfl (aop_move (.inl rfl) rfl) ?_
                refine AR.drop (frx := [(2, _), (3, _), (4, _), (5, _), (6, _), (7, _), (25, _), (26, _), (27, _)]) ⟨rfl, rfl, rfl, rfl, rfl, rfl, rfl, rfl, rfl, trivial⟩ ?_
                obtain ⟨r361, hr361, h⟩ := Sh.bind_some' h
                refine AR.op (r := bl r361) rfl (aop_call1 rfl rfl (by simp) (inquestref12_Has_ok hT hr361)) ?_
                refine AR.op (r := bl r361) rfl (aop_move (.inr rfl) rfl) ?_
                refine AR.nil ?_
                refine hK13 _ (AWP.weak (Weak.re (fr' := [(2, .ref 0 0 0), (3, .ref 1 0 0), (4, .ref 2 0 0), (5, .ref 3 0 0), (6, i64 x288), (7, i64 y348), (8, bl r361)]) (H' := ⟨5, [(0, (2, [G.inquestref12_G.av a_0])), (1, (2, [G.inquestref12_G.av b_1])), (2, (2, [.agg [i64 0, nilS]])), (3, (2, [.agg [i64 r109.N, .view 4 0 (List.map u64 outRows347).length]])), (4, (1, List.map u64 outRows347))]⟩) [(0, 0), (1, 1), (2, 2), (3, 3), (4, 4)] [] rfl rfl rfl (.cons rfl rfl (.one (.same _ (by simp)) rfl) (of_decide_eq_true rfl) (.cons rfl rfl (.one (.same _ (by simp)) rfl) (of_decide_eq_true rfl) (.cons rfl rfl (.one (.same _ (by simp)) rfl) (of_decide_eq_true rfl) (.cons rfl rfl (.one (.ag ⟨.same _ (by simp), .view rfl, trivial⟩) rfl) (of_decide_eq_true rfl) (.cons rfl rfl (.same (by simp)) (of_decide_eq_true rfl) (trivial)))))) ⟨⟨_, rfl, .ref rfl⟩, ⟨_, rfl, .ref rfl⟩, ⟨_, rfl, .ref rfl⟩, ⟨_, rfl, .ref rfl⟩, ⟨_, rfl, .same _ (by simp)⟩, ⟨_, rfl, .same _ (by simp)⟩, ⟨_, rfl, .same _ (by simp)⟩, trivial⟩) ?_)
                clear hK13 K13
                refine awp_seqK fun K14 hK14 => ?_
                refine awp_reg rfl ?_
                refine AR.op (r := G.inquestref12_G.av b_1) rfl (aop_load_ref rfl rfl rfl rfl sz26 rfl) ?_
                refine AR.op (r := i64 x288) rfl (aop_move (.inl rfl) rfl) ?_
                refine AR.op (r := i64 y348) rfl (aop_move (.inl rfl) rfl) ?_
                refine AR.drop (frx := [(2, _), (3, _), (4, _), (5, _), (6, _), (7, _), (8, _), (29, _), (30, _), (31, _)]) ⟨rfl, rfl, rfl, rfl, rfl, rfl, rfl, rfl, rfl, rfl, trivial⟩ ?_
                obtain ⟨r363, hr363, h⟩ := Sh.bind_some' h
                refine AR.op (r := bl r363) rfl (aop_call1 rfl rfl (by simp) (inquestref12_Has_ok hT hr363)) ?_
                refine AR.op (r := bl r363) rfl (aop_move (.inr rfl) rfl) ?_
                refine AR.nil ?_
                refine hK14 _ (AWP.weak (Weak.re (fr' := [(2, .ref 0 0 0), (3, .ref 1 0 0), (4, .ref 2 0 0), (5, .ref 3 0 0), (6, i64 x288), (7, i64 y348), (8, bl r361), (9, bl r363)]) (H' := ⟨5, [(0, (2, [G.inquestref12_G.av a_0])), (1, (2, [G.inquestref12_G.av b_1])), (2, (2, [.agg [i64 0, nilS]])), (3, (2, [.agg [i64 r109.N, .view 4 0 (List.map u64 outRows347).length]])), (4, (1, List.map u64 outRows347))]⟩) [(0, 0), (1, 1), (2, 2), (3, 3), (4, 4)] [] rfl rfl rfl (.cons rfl rfl (.one (.same _ (by simp)) rfl) (of_decide_eq_true rfl) (.cons rfl rfl (.one (.same _ (by simp)) rfl) (of_decide_eq_true rfl) (.cons rfl rfl (.one (.same _ (by simp)) rfl) (of_decide_eq_true rfl) (.cons rfl rfl (.one (.ag ⟨.same _ (by simp), .view rfl, trivial⟩) rfl) (of_decide_eq_true rfl) (.cons rfl rfl (.same (by simp)) (of_decide_eq_true rfl) (trivial)))))) ⟨⟨_, rfl, .ref rfl⟩, ⟨_, rfl, .ref rfl⟩, ⟨_, rfl, .ref rfl⟩, ⟨_, rfl, .ref rfl⟩, ⟨_, rfl, .same _ (by simp)⟩, ⟨_, rfl, .same _ (by simp)⟩, ⟨_, rfl, .same _ (by simp)⟩, ⟨_, rfl, .same _ (by simp)⟩, trivial⟩) ?_)
                clear hK14 K14
                refine awp_seqJ (fun (p : Bool) => (⟨[(2, .ref 0 0 0), (3, .ref 1 0 0), (4, .ref 2 0 0), (5, .ref 3 0 0), (6, i64 x288), (7, i64 y348), (35, .any), (36, bl p)], ⟨5, [(0, (2, [G.inquestref12_G.av a_0])), (1, (2, [G.inquestref12_G.av b_1])), (2, (2, [.agg [i64 0, nilS]])), (3, (2, [.agg [i64 r109.N, .view 4 0 (List.map u64 outRows347).length]])), (4, (1, List.map u64 outRows347))]⟩⟩ : St)) (fun (p : Bool) => G.inquestref12_Union_j4 x288 outRows347 y348 p = some o2) ?_ ?_
                · rintro v365 h
                  replace h : G.inquestref12_Union_j4 x288 outRows347 y348 v365 = some o2 := h
                  unfold G.inquestref12_Union_j4 at h
                  show AWP _ _ _ _ ⟨[(2, .ref 0 0 0), (3, .ref 1 0 0), (4, .ref 2 0 0), (5, .ref 3 0 0), (6, i64 x288), (7, i64 y348), (35, .any), (36, bl v365)], ⟨5, [(0, (2, [G.inquestref12_G.av a_0])), (1, (2, [G.inquestref12_G.av b_1])), (2, (2, [.agg [i64 0, nilS]])), (3, (2, [.agg [i64 r109.N, .view 4 0 (List.map u64 outRows347).length]])), (4, (1, List.map u64 outRows347))]⟩⟩ _
                  refine awp_cond rfl (fun hb366 => ?_) (fun hb366 => ?_)
                  · replace h := Sh.if_t h hb366
                    refine awp_any (by kernel_rfl) (by kernel_rfl) rfl ?_
                    refine ARH.op rfl rfl (aop_field_ref rfl rfl rfl fd26_1 (by decide)) ?_
                    refine ARH.op (r := .view 4 0 (List.map u64 outRows347).length) rfl rfl (aop_load_ref rfl rfl rfl rfl sz22 rfl) ?_
                    refine ARH.dry (r := i64 x288) rfl (fun _ => aop_move (.inl rfl) rfl) ?_
                    refine ARH.drop (frx := [(2, _), (3, _), (4, _), (5, _), (6, _), (7, _), (35, _), (38, _), (39, _)]) ⟨rfl, rfl, rfl, rfl, rfl, rfl, rfl, rfl, rfl, trivial⟩ ?_
                    refine ARH.op rfl rfl (aop_field_ref rfl rfl rfl fd26_1 (by decide)) ?_
                    refine ARH.op (r := .view 4 0 (List.map u64 outRows347).length) rfl rfl (aop_load_ref rfl rfl rfl rfl sz22 rfl) ?_
                    refine ARH.dry (r := i64 x288) rfl (fun _ => aop_move (.inl rfl) rfl) ?_
                    refine ARH.drop (frx := [(2, _), (3, _), (4, _), (5, _), (6, _), (7, _), (35, _), (38, _), (39, _), (41, _), (42, _)]) ⟨rfl, rfl, rfl, rfl, rfl, rfl, rfl, rfl, rfl, rfl, rfl, trivial⟩ ?_
                    obtain ⟨x367, hx367, h⟩ := Sh.bind_some' h
                    obtain ⟨k368, hi368, hl368⟩ := Sh.idx_some hx367
                    refine ARH.op (r := .ref 4 k368 0) rfl rfl (t_index_view u64 outRows347 hi368 hl368 rfl rfl rfl rfl rfl el22 rfl) ?_
                    refine ARH.op (r := u64 x367) rfl rfl (t_load_el u64 outRows347 hl368 rfl rfl rfl sz45 rfl) ?_
                    refine ARH.dry (r := i64 y348) rfl (fun _ => aop_move (.inl rfl) rfl) ?_
                    refine ARH.drop (frx := [(2, _), (3, _), (4, _), (5, _), (6, _), (7, _), (35, _), (38, _), (39, _), (44, _), (45, _)]) ⟨rfl, rfl, rfl, rfl, rfl, rfl, rfl, rfl, rfl, rfl, rfl, trivial⟩ ?_
                    obtain ⟨r369, hr369, h⟩ := Sh.bind_some' h
                    refine ARH.op (r := u64 r369) rfl rfl (aop_call1 rfl rfl (by simp) (inquestref10_With_ok hT hr369)) ?_
                    obtain ⟨x370, hx370, h⟩ := Sh.bind_some' h
                    obtain ⟨k371, hi371, hl371⟩ := Sh.idx_some hx370
                    refine ARH.op (r := .ref 4 k371 0) rfl rfl (t_index_view u64 outRows347 hi371 hl371 rfl rfl rfl rfl rfl el22 rfl) ?_
                    refine ARH.loud rfl rfl rfl (t_store_el u64 outRows347 r369 hi371 hl371 rfl rfl rfl rfl rfl sz45 rfl (of_decide_eq_true rfl) rfl) ?_
                    refine ARH.nil ?_
                    exact hK12 (Sh.set outRows347 x288 r369) _ h (Weak.re (fr' := [(2, .ref 0 0 0), (3, .ref 1 0 0), (4, .ref 2 0 0), (5, .ref 3 0 0), (6, i64 x288), (7, i64 y348), (35, .any)]) (H' := ⟨5, [(0, (2, [G.inquestref12_G.av a_0])), (1, (2, [G.inquestref12_G.av b_1])), (2, (2, [.agg [i64 0, nilS]])), (3, (2, [.agg [i64 r109.N, .view 4 0 (List.map u64 (Sh.set outRows347 x288 r369)).length]])), (4, (1, List.map u64 (Sh.set outRows347 x288 r369)))]⟩) [(0, 0), (1, 1), (2, 2), (3, 3), (4, 4)] [] rfl rfl rfl (.cons rfl rfl (.one (.same _ (by simp)) rfl) (of_decide_eq_true rfl) (.cons rfl rfl (.one (.same _ (by simp)) rfl) (of_decide_eq_true rfl) (.cons rfl rfl (.one (.same _ (by simp)) rfl) (of_decide_eq_true rfl) (.cons rfl rfl (.one (.ag ⟨.same _ (by simp), .viewL rfl (by simp []), trivial⟩) rfl) (of_decide_eq_true rfl) (.cons rfl rfl (.same (by simp)) (of_decide_eq_true rfl) (trivial)))))) ⟨⟨_, rfl, .ref rfl⟩, ⟨_, rfl, .ref rfl⟩, ⟨_, rfl, .ref rfl⟩, ⟨_, rfl, .ref rfl⟩, ⟨_, rfl, .same _ (by simp)⟩, ⟨_, rfl, .same _ (by simp)⟩, ⟨_, rfl, .any _⟩, trivial⟩)
                  · replace h := Sh.if_f h hb366
                    refine awp_skip ?_
                    exact hK12 outRows347 _ h (Weak.re (fr' := [(2, .ref 0 0 0), (3, .ref 1 0 0), (4, .ref 2 0 0), (5, .ref 3 0 0), (6, i64 x288), (7, i64 y348), (35, .any)]) (H' := ⟨5, [(0, (2, [G.inquestref12_G.av a_0])), (1, (2, [G.inquestref12_G.av b_1])), (2, (2, [.agg [i64 0, nilS]])), (3, (2, [.agg [i64 r109.N, .view 4 0 (List.map u64 outRows347).length]])), (4, (1, List.map u64 outRows347))]⟩) [(0, 0), (1, 1), (2, 2), (3, 3), (4, 4)] [] rfl rfl rfl (.cons rfl rfl (.one (.same _ (by simp)) rfl) (of_decide_eq_true rfl) (.cons rfl rfl (.one (.same _ (by simp)) rfl) (of_decide_eq_true rfl) (.cons rfl rfl (.one (.same _ (by simp)) rfl) (of_decide_eq_true rfl) (.cons rfl rfl (.one (.ag ⟨.same _ (by simp), .view rfl, trivial⟩) rfl) (of_decide_eq_true rfl) (.cons rfl rfl (.same (by simp)) (of_decide_eq_true rfl) (trivial)))))) ⟨⟨_, rfl, .ref rfl⟩, ⟨_, rfl, .ref rfl⟩, ⟨_, rfl, .ref rfl⟩, ⟨_, rfl, .ref rfl⟩, ⟨_, rfl, .same _ (by simp)⟩, ⟨_, rfl, .same _ (by simp)⟩, ⟨_, rfl, .any _⟩, trivial⟩)
                · intro K15 hK15
                  refine awp_reg rfl ?_
                  refine AR.op (r := bl r361) rfl (aop_move (.inl rfl) rfl) ?_
                  refine AR.op (r := bl r361) rfl (aop_move (.inl rfl) rfl) ?_
                  rcases Bool.eq_false_or_eq_true (r361) with hb372 | hb372
                  · rw [hb372]
                    replace h := Sh.if_t h hb372
                    refine AR.skip rfl ?_
                    refine AR.drop (frx := [(2, _), (3, _), (4, _), (5, _), (6, _), (7, _), (34, _), (35, _)]) ⟨rfl, rfl, rfl, rfl, rfl, rfl, rfl, rfl, trivial⟩ ?_
                    refine AR.op (r := bl true) rfl (aop_pick rfl rfl rfl) ?_
                    refine AR.nil ?_
                    exact hK15 true _ h (Weak.re (fr' := [(2, .ref 0 0 0), (3, .ref 1 0 0), (4, .ref 2 0 0), (5, .ref 3 0 0), (6, i64 x288), (7, i64 y348), (35, .any), (36, bl true)]) (H' := ⟨5, [(0, (2, [G.inquestref12_G.av a_0])), (1, (2, [G.inquestref12_G.av b_1])), (2, (2, [.agg [i64 0, nilS]])), (3, (2, [.agg [i64 r109.N, .view 4 0 (List.map u64 outRows347).length]])), (4, (1, List.map u64 outRows347))]⟩) [(0, 0), (1, 1), (2, 2), (3, 3), (4, 4)] [] rfl rfl rfl (.cons rfl rfl (.one (.same _ (by simp)) rfl) (of_decide_eq_true rfl) (.cons rfl rfl (.one (.same _ (by simp)) rfl) (of_decide_eq_true rfl) (.cons rfl rfl (.one (.same _ (by simp)) rfl) (of_decide_eq_true rfl) (.cons rfl rfl (.one (.ag ⟨.same _ (by simp), .view rfl, trivial⟩) rfl) (of_decide_eq_true rfl) (.cons rfl rfl (.same (by simp)) (of_decide_eq_true rfl) (trivial)))))) ⟨⟨_, rfl, .ref rfl⟩, ⟨_, rfl, .ref rfl⟩, ⟨_, rfl, .ref rfl⟩, ⟨_, rfl, .ref rfl⟩, ⟨_, rfl, .same _ (by simp)⟩, ⟨_, rfl, .same _ (by simp)⟩, ⟨_, rfl, .any _⟩, ⟨_, rfl, .same _ (by simp)⟩, trivial⟩)
                  · rw [hb372]
                    replace h := Sh.if_f h hb372
                    refine AR.op (r := bl r363) rfl (aop_move (.inl rfl) rfl) ?_
                    refine AR.drop (frx := [(2, _), (3, _), (4, _), (5, _), (6, _), (7, _), (34, _), (35, _)]) ⟨rfl, rfl, rfl, rfl, rfl, rfl, rfl, rfl, trivial⟩ ?_
                    refine AR.op (r := bl r363) rfl (aop_pick rfl rfl rfl) ?_
                    refine AR.nil ?_
                    exact hK15 r363 _ h (Weak.re (fr' := [(2, .ref 0 0 0), (3, .ref 1 0 0), (4, .ref 2 0 0), (5, .ref 3 0 0), (6, i64 x288), (7, i64 y348), (35, .any), (36, bl r363)]) (H' := ⟨5, [(0, (2, [G.inquestref12_G.av a_0])), (1, (2, [G.inquestref12_G.av b_1])), (2, (2, [.agg [i64 0, nilS]])), (3, (2, [.agg [i64 r109.N, .view 4 0 (List.map u64 outRows347).length]])), (4, (1, List.map u64 outRows347))]⟩) [(0, 0), (1, 1), (2, 2), (3, 3), (4, 4)] [] rfl rfl rfl (.cons rfl rfl (.one (.same _ (by simp)) rfl) (of_decide_eq_true rfl) (.cons rfl rfl (.one (.same _ (by simp)) rfl) (of_decide_eq_true rfl) (.cons rfl rfl (.one (.same _ (by simp)) rfl) (of_decide_eq_true rfl) (.cons rfl rfl (.one (.ag ⟨.same _ (by simp), .view rfl, trivial⟩) rfl) (of_decide_eq_true rfl) (.cons rfl rfl (.same (by simp)) (of_decide_eq_true rfl) (trivial)))))) ⟨⟨_, rfl, .ref rfl⟩, ⟨_, rfl, .ref rfl⟩, ⟨_, rfl, .ref rfl⟩, ⟨_, rfl, .ref rfl⟩, ⟨_, rfl, .same _ (by simp)⟩, ⟨_, rfl, .same _ (by simp)⟩, ⟨_, rfl, .any _⟩, ⟨_, rfl, .same _ (by simp)⟩, trivial⟩)
            · replace h := Sh.if_f h hb349
              refine awp_exit ?_
              replace h := Sh.exit_eq h hx2
              exact hK8 outRows347 _ h (Weak.re (fr' := [(2, .ref 0 0 0), (3, .ref 1 0 0), (4, .ref 2 0 0), (5, .ref 3 0 0), (6, i64 x288)]) (H' := ⟨5, [(0, (2, [G.inquestref12_G.av a_0])), (1, (2, [G.inquestref12_G.av b_1])), (2, (2, [.agg [i64 0, nilS]])), (3, (2, [.agg [i64 r109.N, .view 4 0 (List.map u64 outRows347).length]])), (4, (1, List.map u64 outRows347))]⟩) [(0, 0), (1, 1), (2, 2), (3, 3), (4, 4)] [] rfl rfl rfl (.cons rfl rfl (.one (.same _ (by simp)) rfl) (of_decide_eq_true rfl) (.cons rfl rfl (.one (.same _ (by simp)) rfl) (of_decide_eq_true rfl) (.cons rfl rfl (.one (.same _ (by simp)) rfl) (of_decide_eq_true rfl) (.cons rfl rfl (.one (.ag ⟨.same _ (by simp), .view rfl, trivial⟩) rfl) (of_decide_eq_true rfl) (.cons rfl rfl (.same (by simp)) (of_decide_eq_true rfl) (trivial)))))) ⟨⟨_, rfl, .ref rfl⟩, ⟨_, rfl, .ref rfl⟩, ⟨_, rfl, .ref rfl⟩, ⟨_, rfl, .ref rfl⟩, ⟨_, rfl, .same _ (by simp)⟩, trivial⟩)
      · replace h := Sh.if_f h hb289
        refine awp_exit ?_
        replace h := Sh.exit_eq h hx1
        exact hK4 outRows287 _ h (Weak.re (fr' := [(4, .ref 0 0 0), (5, .ref 1 0 0)]) (H' := ⟨3, [(0, (2, [.agg [i64 0, nilS]])), (1, (2, [.agg [i64 r109.N, .view 2 0 (List.map u64 outRows287).length]])), (2, (1, List.map u64 outRows287))]⟩) [(0, 2), (1, 3), (2, 4)] [] rfl rfl rfl (.cons rfl rfl (.one (.same _ (by simp)) rfl) (of_decide_eq_true rfl) (.cons rfl rfl (.one (.ag ⟨.same _ (by simp), .view rfl, trivial⟩) rfl) (of_decide_eq_true rfl) (.cons rfl rfl (.same (by simp)) (of_decide_eq_true rfl) (trivial)))) ⟨⟨_, rfl, .ref rfl⟩, ⟨_, rfl, .ref rfl⟩, trivial⟩)
theorem inquestref12_Union_ok {W0 : World} (hT : Tab W0) {a_0 : G.inquestref12_G} {b_1 : G.inquestref12_G} {r : G.inquestref12_G} (h : G.inquestref12_Union a_0 b_1 = some r) : Fun1 Tryd.prog W0 40 [G.inquestref12_G.av a_0, G.inquestref12_G.av b_1] (G.inquestref12_G.av r) :=
  (inquestref12_Union_own hT h).give (Weak.re [] [] rfl rfl rfl trivial ⟨⟨_, rfl, .ag ⟨.same _ (by simp), .lendAll rfl rfl (by simp), trivial⟩⟩, trivial⟩) (by simp)


set_option maxHeartbeats 8000000 in
theorem inquestref12_Compose_own {W0 : World} (hT : Tab W0) {a_0 : G.inquestref12_G} {b_1 : G.inquestref12_G} {r : G.inquestref12_G} (h : G.inquestref12_Compose a_0 b_1 = some r) : Fun2 Tryd.prog W0 41 [G.inquestref12_G.av a_0, G.inquestref12_G.av b_1] (.agg [i64 r.N, .view 0 0 (List.map u64 r.Rows).length]) ⟨1, [(0, (1, List.map u64 r.Rows))]⟩ := by
  refine fun2_of_awp Tryd.func41 rfl (by kernel_rfl) Tryd.ntmps41 (by simp) ?_
  unfold G.inquestref12_Compose at h
  show AWP _ _ _ _ ⟨[(0, G.inquestref12_G.av a_0), (1, G.inquestref12_G.av b_1)], .empty⟩ _
  refine awp_seqK fun K1 hK1 => ?_
  refine awp_reg rfl ?_
  refine AR.op (r := .ref 0 0 0) rfl (aop_box 2 [G.inquestref12_G.av a_0] rfl rfl rfl (.inl ⟨rfl, rfl⟩)) ?_
  refine AR.op (r := .ref 1 0 0) rfl (aop_box 2 [G.inquestref12_G.av b_1] rfl rfl rfl (.inl ⟨rfl, rfl⟩)) ?_
  refine AR.op (r := .ref 2 0 0) rfl (aop_alloc 2 [.agg [i64 0, nilS]] rfl zr26 (by kernel_rfl) (.inl ⟨rfl, rfl⟩)) ?_
  refine AR.nil ?_
  refine hK1 _ (AWP.weak (Weak.re (fr' := [(2, .ref 0 0 0), (3, .ref 1 0 0), (4, .ref 2 0 0)]) (H' := ⟨3, [(0, (2, [G.inquestref12_G.av a_0])), (1, (2, [G.inquestref12_G.av b_1])), (2, (2, [.agg [i64 0, nilS]]))]⟩) [(0, 0), (1, 1), (2, 2)] [] rfl rfl rfl (.cons rfl rfl (.one (.same _ (by simp)) rfl) (of_decide_eq_true rfl) (.cons rfl rfl (.one (.same _ (by simp)) rfl) (of_decide_eq_true rfl) (.cons rfl rfl (.one (.same _ (by simp)) rfl) (of_decide_eq_true rfl) (trivial)))) ⟨⟨_, rfl, .ref rfl⟩, ⟨_, rfl, .ref rfl⟩, ⟨_, rfl, .ref rfl⟩, trivial⟩) ?_)
  clear hK1 K1
  refine awp_seqK fun K2 hK2 => ?_
  refine awp_reg rfl ?_
  refine AR.op rfl (aop_field_ref rfl rfl rfl fd26_0 (by decide)) ?_
  refine AR.op (r := i64 a_0.N) rfl (aop_load_ref rfl rfl rfl rfl sz3 rfl) ?_
  obtain ⟨r262, hr262, h⟩ := Sh.bind_some' h
  refine AR.op (r := .agg [i64 r262.N, .view 3 0 (List.map u64 r262.Rows).length]) rfl (aop_call2N (.agg [i64 r262.N, .view 3 0 (List.map u64 r262.Rows).length]) [(3, (1, List.map u64 r262.Rows))] rfl (ys := [i64 a_0.N]) (xs := [i64 a_0.N]) rfl (Weak.refl _) rfl (by simp) (inquestref12_New_own hT hr262) (.ag ⟨.same _ (by simp), .view _ _ _, trivial⟩) ⟨rfl, rfl, .same (by simp [AV.flat]), trivial⟩) ?_
  refine AR.drop (frx := [(2, _), (3, _), (4, _), (13, _)]) ⟨rfl, rfl, rfl, rfl, trivial⟩ ?_
  refine AR.op (r := .ref 4 0 0) rfl (aop_alloc 2 [.agg [i64 0, nilS]] rfl zr26 (by kernel_rfl) (.inl ⟨rfl, rfl⟩)) ?_
  refine AR.op rfl (aop_store (e' := .agg [i64 r262.N, .view 3 0 (List.map u64 r262.Rows).length]) rfl rfl rfl rfl rfl rfl sz26 rfl (of_decide_eq_true rfl) rfl) ?_
  refine AR.nil ?_
  refine hK2 _ (AWP.weak (Weak.re (fr' := [(2, .ref 0 0 0), (3, .ref 1 0 0), (4, .ref 2 0 0), (5, .ref 3 0 0)]) (H' := ⟨5, [(0, (2, [G.inquestref12_G.av a_0])), (1, (2, [G.inquestref12_G.av b_1])), (2, (2, [.agg [i64 0, nilS]])), (3, (2, [.agg [i64 r262.N, .view 4 0 (List.map u64 r262.Rows).length]])), (4, (1, List.map u64 r262.Rows))]⟩) [(0, 0), (1, 1), (2, 2), (3, 4), (4, 3)] [] rfl rfl rfl (.cons rfl rfl (.one (.same _ (by simp)) rfl) (of_decide_eq_true rfl) (.cons rfl rfl (.one (.same _ (by simp)) rfl) (of_decide_eq_true rfl) (.cons rfl rfl (.one (.same _ (by simp)) rfl) (of_decide_eq_true rfl) (.cons rfl rfl (.one (.ag ⟨.same _ (by simp), .view rfl, trivial⟩) rfl) (of_decide_eq_true rfl) (.cons rfl rfl (.same (by simp)) (of_decide_eq_true rfl) (trivial)))))) ⟨⟨_, rfl, .ref rfl⟩, ⟨_, rfl, .ref rfl⟩, ⟨_, rfl, .ref rfl⟩, ⟨_, rfl, .ref rfl⟩, trivial⟩) ?_)
  clear hK2 K2
  refine awp_seqJ (fun (p : (List (BitVec 64))) => (⟨[(4, .ref 0 0 0), (5, .ref 1 0 0)], ⟨3, [(0, (2, [.agg [i64 0, nilS]])), (1, (2, [.agg [i64 r262.N, .view 2 0 (List.map u64 p).length]])), (2, (1, List.map u64 p))]⟩⟩ : St)) (fun (p : (List (BitVec 64))) => G.inquestref12_Compose_j1 r262 p = some r) ?_ ?_
  · rintro v522 h
    replace h : G.inquestref12_Compose_j1 r262 v522 = some r := h
    unfold G.inquestref12_Compose_j1 at h
    show AWP _ _ _ _ ⟨[(4, .ref 0 0 0), (5, .ref 1 0 0)], ⟨3, [(0, (2, [.agg [i64 0, nilS]])), (1, (2, [.agg [i64 r262.N, .view 2 0 (List.map u64 v522).length]])), (2, (1, List.map u64 v522))]⟩⟩ _
    refine awp_seqK fun K3 hK3 => ?_
    refine awp_reg rfl ?_
    refine AR.op (r := .agg [i64 r262.N, .view 2 0 (List.map u64 v522).length]) rfl (aop_load_ref rfl rfl rfl rfl sz26 rfl) ?_
    refine AR.op rfl (aop_store (e' := .agg [i64 r262.N, .view 2 0 (List.map u64 v522).length]) rfl rfl rfl rfl rfl rfl sz26 rfl (of_decide_eq_true rfl) rfl) ?_
    refine AR.nil ?_
    refine hK3 _ (AWP.weak (Weak.re (fr' := [(4, .ref 0 0 0)]) (H' := ⟨2, [(0, (2, [.agg [i64 r262.N, .view 1 0 (List.map u64 v522).length]])), (1, (1, List.map u64 v522))]⟩) [(0, 0), (1, 2)] [] rfl rfl rfl (.cons rfl rfl (.one (.ag ⟨.same _ (by simp), .view rfl, trivial⟩) rfl) (of_decide_eq_true rfl) (.cons rfl rfl (.same (by simp)) (of_decide_eq_true rfl) (trivial))) ⟨⟨_, rfl, .ref rfl⟩, trivial⟩) ?_)
    clear hK3 K3
    refine awp_ret ?_
    obtain rfl := Option.some.inj h
    refine ⟨.inr rfl, .agg [i64 r262.N, .view 1 0 (List.map u64 v522).length], rfl, ?_⟩
    exact Weak.re [(0, 1)] [] rfl rfl rfl (.cons rfl rfl (.same (by simp)) (of_decide_eq_true rfl) (trivial)) ⟨⟨.agg [i64 r262.N, .view 1 0 (List.map u64 v522).length], rfl, .ag ⟨.same _ (by simp), .view rfl, trivial⟩⟩, trivial⟩
  · intro K4 hK4
    refine awp_seqK fun K5 hK5 => ?_
    refine awp_reg rfl ?_
    refine AR.op (r := i64 0) rfl (aop_move (.inr rfl) rfl) ?_
    refine AR.nil ?_
    refine hK5 _ ?_
    clear hK5 K5
    refine awp_block ?_
    refine awp_iter (fun (p : (List (BitVec 64)) × Int) => G.inquestref12_Compose_b1 a_0 b_1 r262 p.1 p.2) (fun (p : (List (BitVec 64)) × Int) => (⟨[(2, .ref 0 0 0), (3, .ref 1 0 0), (4, .ref 2 0 0), (5, .ref 3 0 0), (6, i64 p.2)], ⟨5, [(0, (2, [G.inquestref12_G.av a_0])), (1, (2, [G.inquestref12_G.av b_1])), (2, (2, [.agg [i64 0, nilS]])), (3, (2, [.agg [i64 r262.N, .view 4 0 (List.map u64 p.1).length]])), (4, (1, List.map u64 p.1))]⟩⟩ : St)) h (Weak.re (fr' := [(2, .ref 0 0 0), (3, .ref 1 0 0), (4, .ref 2 0 0), (5, .ref 3 0 0), (6, i64 0)]) (H' := ⟨5, [(0, (2, [G.inquestref12_G.av a_0])), (1, (2, [G.inquestref12_G.av b_1])), (2, (2, [.agg [i64 0, nilS]])), (3, (2, [.agg [i64 r262.N, .view 4 0 (List.map u64 r262.Rows).length]])), (4, (1, List.map u64 r262.Rows))]⟩) [(0, 0), (1, 1), (2, 2), (3, 3), (4, 4)] [] rfl rfl rfl (.cons rfl rfl (.one (.same _ (by simp)) rfl) (of_decide_eq_true rfl) (.cons rfl rfl (.one (.same _ (by simp)) rfl) (of_decide_eq_true rfl) (.cons rfl rfl (.one (.same _ (by simp)) rfl) (of_decide_eq_true rfl) (.cons rfl rfl (.one (.ag ⟨.same _ (by simp), .view rfl, trivial⟩) rfl) (of_decide_eq_true rfl) (.cons rfl rfl (.same (by simp)) (of_decide_eq_true rfl) (trivial)))))) ⟨⟨_, rfl, .ref rfl⟩, ⟨_, rfl, .ref rfl⟩, ⟨_, rfl, .ref rfl⟩, ⟨_, rfl, .ref rfl⟩, ⟨_, rfl, .same _ (by simp)⟩, trivial⟩) ?_
    · skip
      rintro ⟨outRows695, x696⟩ o1 h hx1
      replace h : G.inquestref12_Compose_b1 a_0 b_1 r262 outRows695 x696 = some o1 := h
      unfold G.inquestref12_Compose_b1 at h
      show AWP _ _ _ _ ⟨[(2, .ref 0 0 0), (3, .ref 1 0 0), (4, .ref 2 0 0), (5, .ref 3 0 0), (6, i64 x696)], ⟨5, [(0, (2, [G.inquestref12_G.av a_0])), (1, (2, [G.inquestref12_G.av b_1])), (2, (2, [.agg [i64 0, nilS]])), (3, (2, [.agg [i64 r262.N, .view 4 0 (List.map u64 outRows695).length]])), (4, (1, List.map u64 outRows695))]⟩⟩ _
      refine awp_seqK fun K6 hK6 => ?_
      refine awp_seqK fun K7 hK7 => ?_
      refine awp_reg rfl ?_
      refine AR.op (r := i64 x696) rfl (aop_move (.inl rfl) rfl) ?_
      refine AR.op rfl (aop_field_ref rfl rfl rfl fd26_0 (by decide)) ?_
      refine AR.op (r := i64 a_0.N) rfl (aop_load_ref rfl rfl rfl rfl sz3 rfl) ?_
      refine AR.drop (frx := [(2, _), (3, _), (4, _), (5, _), (6, _), (14, _), (16, _)]) ⟨rfl, rfl, rfl, rfl, rfl, rfl, rfl, trivial⟩ ?_
      refine AR.op (r := bl (decide (x696 < a_0.N))) rfl (aop_lss rfl rfl rfl) ?_
      refine AR.nil ?_
      refine hK7 _ (AWP.weak (Weak.re (fr' := [(2, .ref 0 0 0), (3, .ref 1 0 0), (4, .ref 2 0 0), (5, .ref 3 0 0), (6, i64 x696), (17, bl (decide (x696 < a_0.N)))]) (H' := ⟨5, [(0, (2, [G.inquestref12_G.av a_0])), (1, (2, [G.inquestref12_G.av b_1])), (2, (2, [.agg [i64 0, nilS]])), (3, (2, [.agg [i64 r262.N, .view 4 0 (List.map u64 outRows695).length]])), (4, (1, List.map u64 outRows695))]⟩) [(0, 0), (1, 1), (2, 2), (3, 3), (4, 4)] [] rfl rfl rfl (.cons rfl rfl (.one (.same _ (by simp)) rfl) (of_decide_eq_true rfl) (.cons rfl rfl (.one (.same _ (by simp)) rfl) (of_decide_eq_true rfl) (.cons rfl rfl (.one (.same _ (by simp)) rfl) (of_decide_eq_true rfl) (.cons rfl rfl (.one (.ag ⟨.same _ (by simp), .view rfl, trivial⟩) rfl) (of_decide_eq_true rfl) (.cons rfl rfl (.same (by simp)) (of_decide_eq_true rfl) (trivial)))))) ⟨⟨_, rfl, .ref rfl⟩, ⟨_, rfl, .ref rfl⟩, ⟨_, rfl, .ref rfl⟩, ⟨_, rfl, .ref rfl⟩, ⟨_, rfl, .same _ (by simp)⟩, ⟨_, rfl, .same _ (by simp)⟩, trivial⟩) ?_)
      clear hK7 K7
      refine awp_cond rfl (fun hb697 => ?_) (fun hb697 => ?_)
      · replace h := Sh.if_t h hb697
        refine awp_skip ?_
        refine hK6 _ (AWP.weak (Weak.re (fr' := [(2, .ref 0 0 0), (3, .ref 1 0 0), (4, .ref 2 0 0), (5, .ref 3 0 0), (6, i64 x696)]) (H' := ⟨5, [(0, (2, [G.inquestref12_G.av a_0])), (1, (2, [G.inquestref12_G.av b_1])), (2, (2, [.agg [i64 0, nilS]])), (3, (2, [.agg [i64 r262.N, .view 4 0 (List.map u64 outRows695).length]])), (4, (1, List.map u64 outRows695))]⟩) [(0, 0), (1, 1), (2, 2), (3, 3), (4, 4)] [] rfl rfl rfl (.cons rfl rfl (.one (.same _ (by simp)) rfl) (of_decide_eq_true rfl) (.cons rfl rfl (.one (.same _ (by simp)) rfl) (of_decide_eq_true rfl) (.cons rfl rfl (.one (.same _ (by simp)) rfl) (of_decide_eq_true rfl) (.cons rfl rfl (.one (.ag ⟨.same _ (by simp), .view rfl, trivial⟩) rfl) (of_decide_eq_true rfl) (.cons rfl rfl (.same (by simp)) (of_decide_eq_true rfl) (trivial)))))) ⟨⟨_, rfl, .ref rfl⟩, ⟨_, rfl, .ref rfl⟩, ⟨_, rfl, .ref rfl⟩, ⟨_, rfl, .ref rfl⟩, ⟨_, rfl, .same _ (by simp)⟩, trivial⟩) ?_)
        clear hK6 K6
        refine awp_seqJ (fun (p : (List (BitVec 64))) => (⟨[(2, .ref 0 0 0), (3, .ref 1 0 0), (4, .ref 2 0 0), (5, .ref 3 0 0), (6, i64 x696)], ⟨5, [(0, (2, [G.inquestref12_G.av a_0])), (1, (2, [G.inquestref12_G.av b_1])), (2, (2, [.agg [i64 0, nilS]])), (3, (2, [.agg [i64 r262.N, .view 4 0 (List.map u64 p).length]])), (4, (1, List.map u64 p))]⟩⟩ : St)) (fun (p : (List (BitVec 64))) => G.inquestref12_Compose_j2 x696 p = some o1) ?_ ?_
        · rintro v783 h
          replace h : G.inquestref12_Compose_j2 x696 v783 = some o1 := h
          unfold G.inquestref12_Compose_j2 at h
          show AWP _ _ _ _ ⟨[(2, .ref 0 0 0), (3, .ref 1 0 0), (4, .ref 2 0 0), (5, .ref 3 0 0), (6, i64 x696)], ⟨5, [(0, (2, [G.inquestref12_G.av a_0])), (1, (2, [G.inquestref12_G.av b_1])), (2, (2, [.agg [i64 0, nilS]])), (3, (2, [.agg [i64 r262.N, .view 4 0 (List.map u64 v783).length]])), (4, (1, List.map u64 v783))]⟩⟩ _
          refine awp_reg rfl ?_
          refine AR.op (r := i64 x696) rfl (aop_move (.inl rfl) rfl) ?_
          refine AR.op (r := i64 (w64 (x696 + 1))) rfl (aop_add rfl rfl rfl rfl) ?_
          refine AR.op (r := i64 (w64 (x696 + 1))) rfl (aop_move (.inr rfl) rfl) ?_
          refine AR.nil ?_
          replace h := Sh.next_eq h
          exact ⟨_, h, Weak.re (fr' := [(2, .ref 0 0 0), (3, .ref 1 0 0), (4, .ref 2 0 0), (5, .ref 3 0 0), (6, i64 (w64 (x696 + 1)))]) (H' := ⟨5, [(0, (2, [G.inquestref12_G.av a_0])), (1, (2, [G.inquestref12_G.av b_1])), (2, (2, [.agg [i64 0, nilS]])), (3, (2, [.agg [i64 r262.N, .view 4 0 (List.map u64 v783).length]])), (4, (1, List.map u64 v783))]⟩) [(0, 0), (1, 1), (2, 2), (3, 3), (4, 4)] [] rfl rfl rfl (.cons rfl rfl (.one (.same _ (by simp)) rfl) (of_decide_eq_true rfl) (.cons rfl rfl (.one (.same _ (by simp)) rfl) (of_decide_eq_true rfl) (.cons rfl rfl (.one (.same _ (by simp)) rfl) (of_decide_eq_true rfl) (.cons rfl rfl (.one (.ag ⟨.same _ (by simp), .view rfl, trivial⟩) rfl) (of_decide_eq_true rfl) (.cons rfl rfl (.same (by simp)) (of_decide_eq_true rfl) (trivial)))))) ⟨⟨_, rfl, .ref rfl⟩, ⟨_, rfl, .ref rfl⟩, ⟨_, rfl, .ref rfl⟩, ⟨_, rfl, .ref rfl⟩, ⟨_, rfl, .same _ (by simp)⟩, trivial⟩⟩
        · intro K8 hK8
          refine awp_block ?_
          refine awp_seqK fun K9 hK9 => ?_
          refine awp_reg rfl ?_
          refine AR.op (r := i64 0) rfl (aop_move (.inr rfl) rfl) ?_
          refine AR.nil ?_
          refine hK9 _ ?_
          clear hK9 K9
          refine awp_block ?_
          refine awp_iter (fun (p : (List (BitVec 64)) × Int) => G.inquestref12_Compose_b2 a_0 b_1 x696 p.1 p.2) (fun (p : (List (BitVec 64)) × Int) => (⟨[(2, .ref 0 0 0), (3, .ref 1 0 0), (4, .ref 2 0 0), (5, .ref 3 0 0), (6, i64 x696), (7, i64 p.2)], ⟨5, [(0, (2, [G.inquestref12_G.av a_0])), (1, (2, [G.inquestref12_G.av b_1])), (2, (2, [.agg [i64 0, nilS]])), (3, (2, [.agg [i64 r262.N, .view 4 0 (List.map u64 p.1).length]])), (4, (1, List.map u64 p.1))]⟩⟩ : St)) h (Weak.re (fr' := [(2, .ref 0 0 0), (3, .ref 1 0 0), (4, .ref 2 0 0), (5, .ref 3 0 0), (6, i64 x696), (7, i64 0)]) (H' := ⟨5, [(0, (2, [G.inquestref12_G.av a_0])), (1, (2, [G.inquestref12_G.av b_1])), (2, (2, [.agg [i64 0, nilS]])), (3, (2, [.agg [i64 r262.N, .view 4 0 (List.map u64 outRows695).length]])), (4, (1, List.map u64 outRows695))]⟩) [(0, 0), (1, 1), (2, 2), (3, 3), (4, 4)] [] rfl rfl rfl (.cons rfl rfl (.one (.same _ (by simp)) rfl) (of_decide_eq_true rfl) (.cons rfl rfl (.one (.same _ (by simp)) rfl) (of_decide_eq_true rfl) (.cons rfl rfl (.one (.same _ (by simp)) rfl) (of_decide_eq_true rfl) (.cons rfl rfl (.one (.ag ⟨.same _ (by simp), .view rfl, trivial⟩) rfl) (of_decide_eq_true rfl) (.cons rfl rfl (.same (by simp)) (of_decide_eq_true rfl) (trivial)))))) ⟨⟨_, rfl, .ref rfl⟩, ⟨_, rfl, .ref rfl⟩, ⟨_, rfl, .ref rfl⟩, ⟨_, rfl, .ref rfl⟩, ⟨_, rfl, .same _ (by simp)⟩, ⟨_, rfl, .same _ (by simp)⟩, trivial⟩) ?_
          · skip
            rintro ⟨outRows840, y841⟩ o2 h hx2
            replace h : G.inquestref12_Compose_b2 a_0 b_1 x696 outRows840 y841 = some o2 := h
            unfold G.inquestref12_Compose_b2 at h
            show AWP _ _ _ _ ⟨[(2, .ref 0 0 0), (3, .ref 1 0 0), (4, .ref 2 0 0), (5, .ref 3 0 0), (6, i64 x696), (7, i64 y841)], ⟨5, [(0, (2, [G.inquestref12_G.av a_0])), (1, (2, [G.inquestref12_G.av b_1])), (2, (2, [.agg [i64 0, nilS]])), (3, (2, [.agg [i64 r262.N, .view 4 0 (List.map u64 outRows840).length]])), (4, (1, List.map u64 outRows840))]⟩⟩ _
            refine awp_seqK fun K10 hK10 => ?_
            refine awp_seqK fun K11 hK11 => ?_
            refine awp_reg rfl ?_
            refine AR.op (r := i64 y841) rfl (aop_move (.inl rfl) rfl) ?_
            refine AR.op rfl (aop_field_ref rfl rfl rfl fd26_0 (by decide)) ?_
            refine AR.op (r := i64 a_0.N) rfl (aop_load_ref rfl rfl rfl rfl sz3 rfl) ?_
            refine AR.drop (frx := [(2, _), (3, _), (4, _), (5, _), (6, _), (7, _), (20, _), (22, _)]) ⟨rfl, rfl, rfl, rfl, rfl, rfl, rfl, rfl, trivial⟩ ?_
            refine AR.op (r := bl (decide (y841 < a_0.N))) rfl (aop_lss rfl rfl rfl) ?_
            refine AR.nil ?_
            refine hK11 _ (AWP.weak (Weak.re (fr' := [(2, .ref 0 0 0), (3, .ref 1 0 0), (4, .ref 2 0 0), (5, .ref 3 0 0), (6, i64 x696), (7, i64 y841), (23, bl (decide (y841 < a_0.N)))]) (H' := ⟨5, [(0, (2, [G.inquestref12_G.av a_0])), (1, (2, [G.inquestref12_G.av b_1])), (2, (2, [.agg [i64 0, nilS]])), (3, (2, [.agg [i64 r262.N, .view 4 0 (List.map u64 outRows840).length]])), (4, (1, List.map u64 outRows840))]⟩) [(0, 0), (1, 1), (2, 2), (3, 3), (4, 4)] [] rfl rfl rfl (.cons rfl rfl (.one (.same _ (by simp)) rfl) (of_decide_eq_true rfl) (.cons rfl rfl (.one (.same _ (by simp)) rfl) (of_decide_eq_true rfl) (.cons rfl rfl (.one (.same _ (by simp)) rfl) (of_decide_eq_true rfl) (.cons rfl rfl (.one (.ag ⟨.same _ (by simp), .view rfl, trivial⟩) rfl) (of_decide_eq_true rfl) (.cons rfl rfl (.same (by simp)) (of_decide_eq_true rfl) (trivial)))))) ⟨⟨_, rfl, .ref rfl⟩, ⟨_, rfl, .ref rfl⟩, ⟨_, rfl, .ref rfl⟩, ⟨_, rfl, .ref rfl⟩, ⟨_, rfl, .same _ (by simp)⟩, ⟨_, rfl, .same _ (by simp)⟩, ⟨_, rfl, .same _ (by simp)⟩, trivial⟩) ?_)
            clear hK11 K11
            refine awp_cond rfl (fun hb842 => ?_) (fun hb842 => ?_)
            · replace h := Sh.if_t h hb842
              refine awp_skip ?_
              refine hK10 _ (AWP.weak (Weak.re (fr' := [(2, .ref 0 0 0), (3, .ref 1 0 0), (4, .ref 2 0 0), (5, .ref 3 0 0), (6, i64 x696), (7, i64 y841)]) (H' := ⟨5, [(0, (2, [G.inquestref12_G.av a_0])), (1, (2, [G.inquestref12_G.av b_1])), (2, (2, [.agg [i64 0, nilS]])), (3, (2, [.agg [i64 r262.N, .view 4 0 (List.map u64 outRows840).length]])), (4, (1, List.map u64 outRows840))]⟩) [(0, 0), (1, 1), (2, 2), (3, 3), (4, 4)] [] rfl rfl rfl (.cons rfl rfl (.one (.same _ (by simp)) rfl) (of_decide_eq_true rfl) (.cons rfl rfl (.one (.same _ (by simp)) rfl) (of_decide_eq_true rfl) (.cons rfl rfl (.one (.same _ (by simp)) rfl) (of_decide_eq_true rfl) (.cons rfl rfl (.one (.ag ⟨.same _ (by simp), .view rfl, trivial⟩) rfl) (of_decide_eq_true rfl) (.cons rfl rfl (.same (by simp)) (of_decide_eq_true rfl) (trivial)))))) ⟨⟨_, rfl, .ref rfl⟩, ⟨_, rfl, .ref rfl⟩, ⟨_, rfl, .ref rfl⟩, ⟨_, rfl, .ref rfl⟩, ⟨_, rfl, .same _ (by simp)⟩, ⟨_, rfl, .same _ (by simp)⟩, trivial⟩) ?_)
              clear hK10 K10
              refine awp_seqJ (fun (p : (List (BitVec 64))) => (⟨[(2, .ref 0 0 0), (3, .ref 1 0 0), (4, .ref 2 0 0), (5, .ref 3 0 0), (6, i64 x696), (7, i64 y841)], ⟨5, [(0, (2, [G.inquestref12_G.av a_0])), (1, (2, [G.inquestref12_G.av b_1])), (2, (2, [.agg [i64 0, nilS]])), (3, (2, [.agg [i64 r262.N, .view 4 0 (List.map u64 p).length]])), (4, (1, List.map u64 p))]⟩⟩ : St)) (fun (p : (List (BitVec 64))) => G.inquestref12_Compose_j3 y841 p = some o2) ?_ ?_
              · rintro outRows869 h
                replace h : G.inquestref12_Compose_j3 y841 outRows869 = some o2 := h
                unfold G.inquestref12_Compose_j3 at h
                show AWP _ _ _ _ ⟨[(2, .ref 0 0 0), (3, .ref 1 0 0), (4, .ref 2 0 0), (5, .ref 3 0 0), (6, i64 x696), (7, i64 y841)], ⟨5, [(0, (2, [G.inquestref12_G.av a_0])), (1, (2, [G.inquestref12_G.av b_1])), (2, (2, [.agg [i64 0, nilS]])), (3, (2, [.agg [i64 r262.N, .view 4 0 (List.map u64 outRows869).length]])), (4, (1, List.map u64 outRows869))]⟩⟩ _
                refine awp_reg rfl ?_
                refine AR.op (r := i64 y841) rfl (aop_move (.inl rfl) rfl) ?_
                refine AR.op (r := i64 (w64 (y841 + 1))) rfl (aop_add rfl rfl rfl rfl) ?_
                refine AR.op (r := i64 (w64 (y841 + 1))) rfl (aop_move (.inr rfl) rfl) ?_
                refine AR.nil ?_
                replace h := Sh.next_eq h
                exact ⟨_, h, Weak.re (fr' := [(2, .ref 0 0 0), (3, .ref 1 0 0), (4, .ref 2 0 0), (5, .ref 3 0 0), (6, i64 x696), (7, i64 (w64 (y841 + 1)))]) (H' := ⟨5, [(0, (2, [G.inquestref12_G.av a_0])), (1, (2, [G.inquestref12_G.av b_1])), (2, (2, [.agg [i64 0, nilS]])), (3, (2, [.agg [i64 r262.N, .view 4 0 (List.map u64 outRows869).length]])), (4, (1, List.map u64 outRows869))]⟩) [(0, 0), (1, 1), (2, 2), (3, 3), (4, 4)] [] rfl rfl rfl (.cons rfl rfl (.one (.same _ (by simp)) rfl) (of_decide_eq_true rfl) (.cons rfl rfl (.one (.same _ (by simp)) rfl) (of_decide_eq_true rfl) (.cons rfl rfl (.one (.same _ (by simp)) rfl) (of_decide_eq_true rfl) (.cons rfl rfl (.one (.ag ⟨.same _ (by simp), .view rfl, trivial⟩) rfl) (of_decide_eq_true rfl) (.cons rfl rfl (.same (by simp)) (of_decide_eq_true rfl) (trivial)))))) ⟨⟨_, rfl, .ref rfl⟩, ⟨_, rfl, .ref rfl⟩, ⟨_, rfl, .ref rfl⟩, ⟨_, rfl, .ref rfl⟩, ⟨_, rfl, .same _ (by simp)⟩, ⟨_, rfl, .same _ (by simp)⟩, trivial⟩⟩
              · intro K12 hK12
                refine awp_block ?_
                refine awp_seqK fun K13 hK13 => ?_
                refine awp_reg rfl ?_
                refine AR.op (r := G.inquestref12_G.av a_0) rfl (aop_load_ref rfl rfl rfl rfl sz26 rfl) ?_
                refine AR.op (r := i64 x696) rfl (aop_move (.inl rfl) rfl) ?_
                refine AR.op (r := i64 y841) rfl (aop_move (.inl rfl) rfl) ?_
                refine AR.drop (frx := [(2, _), (3, _), (4, _), (5, _), (6, _), (7, _), (26, _), (27, _), (28, _)]) ⟨rfl, rfl, rfl, rfl, rfl, rfl, rfl, rfl, rfl, trivial⟩ ?_
                obtain ⟨r871, hr871, h⟩ := Sh.bind_some' h
                refine AR.op (r := bl r871) rfl (aop_call1 rfl rfl (by simp) (inquestref12_Has_ok hT hr871)) ?_
                refine AR.op (r := bl r871) rfl (aop_move (.inr rfl) rfl) ?_
                refine AR.nil ?_
                refine hK13 _ (AWP.weak (Weak.re (fr' := [(2, .ref 0 0 0), (3, .ref 1 0 0), (4, .ref 2 0 0), (5, .ref 3 0 0), (6, i64 x696), (7, i64 y841), (8, bl r871)]) (H' := ⟨5, [(0, (2, [G.inquestref12_G.av a_0])), (1, (2, [G.inquestref12_G.av b_1])), (2, (2, [.agg [i64 0, nilS]])), (3, (2, [.agg [i64 r262.N, .view 4 0 (List.map u64 outRows840).length]])), (4, (1, List.map u64 outRows840))]⟩) [(0, 0), (1, 1), (2, 2), (3, 3), (4, 4)] [] rfl rfl rfl (.cons rfl rfl (.one (.same _ (by simp)) rfl) (of_decide_eq_true rfl) (.cons rfl rfl (.one (.same _ (by simp)) rfl) (of_decide_eq_true rfl) (.cons rfl rfl (.one (.same _ (by simp)) rfl) (of_decide_eq_true rfl) (.cons rfl rfl (.one (.ag ⟨.same _ (by simp), .view rfl, trivial⟩) rfl) (of_decide_eq_true rfl) (.cons rfl rfl (.same (by simp)) (of_decide_eq_true rfl) (trivial)))))) ⟨⟨_, rfl, .ref rfl⟩, ⟨_, rfl, .ref rfl⟩, ⟨_, rfl, .ref rfl⟩, ⟨_, rfl, .ref rfl⟩, ⟨_, rfl, .same _ (by simp)⟩, ⟨_, rfl, .same _ (by simp)⟩, ⟨_, rfl, .same _ (by simp)⟩, trivial⟩) ?_)
                clear hK13 K13
                refine awp_seqK fun K14 hK14 => ?_
                refine awp_seqK fun K15 hK15 => ?_
                refine awp_reg rfl ?_
                refine AR.op (r := bl r871) rfl (aop_move (.inl rfl) rfl) ?_
                refine AR.op (r := bl (!r871)) rfl (aop_not rfl rfl) ?_
                refine AR.nil ?_
                refine hK15 _ (AWP.weak (Weak.re (fr' := [(2, .ref 0 0 0), (3, .ref 1 0 0), (4, .ref 2 0 0), (5, .ref 3 0 0), (6, i64 x696), (7, i64 y841), (31, bl (!r871))]) (H' := ⟨5, [(0, (2, [G.inquestref12_G.av a_0])), (1, (2, [G.inquestref12_G.av b_1])), (2, (2, [.agg [i64 0, nilS]])), (3, (2, [.agg [i64 r262.N, .view 4 0 (List.map u64 outRows840).length]])), (4, (1, List.map u64 outRows840))]⟩) [(0, 0), (1, 1), (2, 2), (3, 3), (4, 4)] [] rfl rfl rfl (.cons rfl rfl (.one (.same _ (by simp)) rfl) (of_decide_eq_true rfl) (.cons rfl rfl (.one (.same _ (by simp)) rfl) (of_decide_eq_true rfl) (.cons rfl rfl (.one (.same _ (by simp)) rfl) (of_decide_eq_true rfl) (.cons rfl rfl (.one (.ag ⟨.same _ (by simp), .view rfl, trivial⟩) rfl) (of_decide_eq_true rfl) (.cons rfl rfl (.same (by simp)) (of_decide_eq_true rfl) (trivial)))))) ⟨⟨_, rfl, .ref rfl⟩, ⟨_, rfl, .ref rfl⟩, ⟨_, rfl, .ref rfl⟩, ⟨_, rfl, .ref rfl⟩, ⟨_, rfl, .same _ (by simp)⟩, ⟨_, rfl, .same _ (by simp)⟩, ⟨_, rfl, .same _ (by simp)⟩, trivial⟩) ?_)
                clear hK15 K15
                refine awp_cond rfl (fun hb872 => ?_) (fun hb872 => ?_)
                · replace h := Sh.if_t h hb872
                  refine awp_exit ?_
                  exact hK12 outRows840 _ h (Weak.re (fr' := [(2, .ref 0 0 0), (3, .ref 1 0 0), (4, .ref 2 0 0), (5, .ref 3 0 0), (6, i64 x696), (7, i64 y841)]) (H' := ⟨5, [(0, (2, [G.inquestref12_G.av a_0])), (1, (2, [G.inquestref12_G.av b_1])), (2, (2, [.agg [i64 0, nilS]])), (3, (2, [.agg [i64 r262.N, .view 4 0 (List.map u64 outRows840).length]])), (4, (1, List.map u64 outRows840))]⟩) [(0, 0), (1, 1), (2, 2), (3, 3), (4, 4)] [] rfl rfl rfl (.cons rfl rfl (.one (.same _ (by simp)) rfl) (of_decide_eq_true rfl) (.cons rfl rfl (.one (.same _ (by simp)) rfl) (of_decide_eq_true rfl) (.cons rfl rfl (.one (.same _ (by simp)) rfl) (of_decide_eq_true rfl) (.cons rfl rfl (.one (.ag ⟨.same _ (by simp), .view rfl, trivial⟩) rfl) (of_decide_eq_true rfl) (.cons rfl rfl (.same (by simp)) (of_decide_eq_true rfl) (trivial)))))) ⟨⟨_, rfl, .ref rfl⟩, ⟨_, rfl, .ref rfl⟩, ⟨_, rfl, .ref rfl⟩, ⟨_, rfl, .ref rfl⟩, ⟨_, rfl, .same _ (by simp)⟩, ⟨_, rfl, .same _ (by simp)⟩, trivial⟩)
                · replace h := Sh.if_f h hb872
                  refine awp_skip ?_
                  refine hK14 _ (AWP.weak (Weak.re (fr' := [(2, .ref 0 0 0), (3, .ref 1 0 0), (4, .ref 2 0 0), (5, .ref 3 0 0), (6, i64 x696), (7, i64 y841)]) (H' := ⟨5, [(0, (2, [G.inquestref12_G.av a_0])), (1, (2, [G.inquestref12_G.av b_1])), (2, (2, [.agg [i64 0, nilS]])), (3, (2, [.agg [i64 r262.N, .view 4 0 (List.map u64 outRows840).length]])), (4, (1, List.map u64 outRows840))]⟩) [(0, 0), (1, 1), (2, 2), (3, 3), (4, 4)] [] rfl rfl rfl (.cons rfl rfl (.one (.same _ (by simp)) rfl) (of_decide_eq_true rfl) (.cons rfl rfl (.one (.same _ (by simp)) rfl) (of_decide_eq_true rfl) (.cons rfl rfl (.one (.same _ (by simp)) rfl) (of_decide_eq_true rfl) (.cons rfl rfl (.one (.ag ⟨.same _ (by simp), .view rfl, trivial⟩) rfl) (of_decide_eq_true rfl) (.cons rfl rfl (.same (by simp)) (of_decide_eq_true rfl) (trivial)))))) ⟨⟨_, rfl, .ref rfl⟩, ⟨_, rfl, .ref rfl⟩, ⟨_, rfl, .ref rfl⟩, ⟨_, rfl, .ref rfl⟩, ⟨_, rfl, .same _ (by simp)⟩, ⟨_, rfl, .same _ (by simp)⟩, trivial⟩) ?_)
                  clear hK14 K14
                  refine awp_seqK fun K16 hK16 => ?_
                  refine awp_reg rfl ?_
                  refine AR.op (r := i64 0) rfl (aop_move (.inr rfl) rfl) ?_
                  refine AR.nil ?_
                  refine hK16 _ ?_
                  clear hK16 K16
                  refine awp_block ?_
                  refine awp_iter (fun (p : (List (BitVec 64)) × Int) => G.inquestref12_Compose_b3 a_0 b_1 x696 y841 p.1 p.2) (fun (p : (List (BitVec 64)) × Int) => (⟨[(2, .ref 0 0 0), (3, .ref 1 0 0), (4, .ref 2 0 0), (5, .ref 3 0 0), (6, i64 x696), (7, i64 y841), (9, i64 p.2)], ⟨5, [(0, (2, [G.inquestref12_G.av a_0])), (1, (2, [G.inquestref12_G.av b_1])), (2, (2, [.agg [i64 0, nilS]])), (3, (2, [.agg [i64 r262.N, .view 4 0 (List.map u64 p.1).length]])), (4, (1, List.map u64 p.1))]⟩⟩ : St)) h (Weak.re (fr' := [(2, .ref 0 0 0), (3, .ref 1 0 0), (4, .ref 2 0 0), (5, .ref 3 0 0), (6, i64 x696), (7, i64 y841), (9, i64 0)]) (H' := ⟨5, [(0, (2, [G.inquestref12_G.av a_0])), (1, (2, [G.inquestref12_G.av b_1])), (2, (2, [.agg [i64 0, nilS]])), (3, (2, [.agg [i64 r262.N, .view 4 0 (List.map u64 outRows840).length]])), (4, (1, List.map u64 outRows840))]⟩) [(0, 0), (1, 1), (2, 2), (3, 3), (4, 4)] [] rfl rfl rfl (.cons rfl rfl (.one (.same _ (by simp)) rfl) (of_decide_eq_true rfl) (.cons rfl rfl (.one (.same _ (by simp)) rfl) (of_decide_eq_true rfl) (.cons rfl rfl (.one (.same _ (by simp)) rfl) (of_decide_eq_true rfl) (.cons rfl rfl (.one (.ag ⟨.same _ (by simp), .view rfl, trivial⟩) rfl) (of_decide_eq_true rfl) (.cons rfl rfl (.same (by simp)) (of_decide_eq_true rfl) (trivial)))))) ⟨⟨_, rfl, .ref rfl⟩, ⟨_, rfl, .ref rfl⟩, ⟨_, rfl, .ref rfl⟩, ⟨_, rfl, .ref rfl⟩, ⟨_, rfl, .same _ (by simp)⟩, ⟨_, rfl, .same _ (by simp)⟩, ⟨_, rfl, .same _ (by simp)⟩, trivial⟩) ?_
                  · skip
                    rintro ⟨outRows889, z890⟩ o3 h hx3
                    replace h : G.inquestref12_Compose_b3 a_0 b_1 x696 y841 outRows889 z890 = some o3 := h
                    unfold G.inquestref12_Compose_b3 at h
                    show AWP _ _ _ _ ⟨[(2, .ref 0 0 0), (3, .ref 1 0 0), (4, .ref 2 0 0), (5, .ref 3 0 0), (6, i64 x696), (7, i64 y841), (9, i64 z890)], ⟨5, [(0, (2, [G.inquestref12_G.av a_0])), (1, (2, [G.inquestref12_G.av b_1])), (2, (2, [.agg [i64 0, nilS]])), (3, (2, [.agg [i64 r262.N, .view 4 0 (List.map u64 outRows889).length]])), (4, (1, List.map u64 outRows889))]⟩⟩ _
                    refine awp_seqK fun K17 hK17 => ?_
                    refine awp_seqK fun K18 hK18 => ?_
                    refine awp_reg rfl ?_
                    refine AR.op (r := i64 z890) rfl (aop_move (.inl rfl) rfl) ?_
                    refine AR.op rfl (aop_field_ref rfl rfl rfl fd26_0 (by decide)) ?_
                    refine AR.op (r := i64 a_0.N) rfl (aop_load_ref rfl rfl rfl rfl sz3 rfl) ?_
                    refine AR.drop (frx := [(2, _), (3, _), (4, _), (5, _), (6, _), (7, _), (9, _), (32, _), (34, _)]) ⟨rfl, rfl, rfl, rfl, rfl, rfl, rfl, rfl, rfl, trivial⟩ ?_
                    refine AR.op (r := bl (decide (z890 < a_0.N))) rfl (aop_lss rfl rfl rfl) ?_
                    refine AR.nil ?_
                    refine hK18 _ (AWP.weak (Weak.re (fr' := [(2, .ref 0 0 0), (3, .ref 1 0 0), (4, .ref 2 0 0), (5, .ref 3 0 0), (6, i64 x696), (7, i64 y841), (9, i64 z890), (35, bl (decide (z890 < a_0.N)))]) (H' := ⟨5, [(0, (2, [G.inquestref12_G.av a_0])), (1, (2, [G.inquestref12_G.av b_1])), (2, (2, [.agg [i64 0, nilS]])), (3, (2, [.agg [i64 r262.N, .view 4 0 (List.map u64 outRows889).length]])), (4, (1, List.map u64 outRows889))]⟩) [(0, 0), (1, 1), (2, 2), (3, 3), (4, 4)] [] rfl rfl rfl (.cons rfl rfl (.one (.same _ (by simp)) rfl) (of_decide_eq_true rfl) (.cons rfl rfl (.one (.same _ (by simp)) rfl) (of_decide_eq_true rfl) (.cons rfl rfl (.one (.same _ (by simp)) rfl) (of_decide_eq_true rfl) (.cons rfl rfl (.one (.ag ⟨.same _ (by simp), .view rfl, trivial⟩) rfl) (of_decide_eq_true rfl) (.cons rfl rfl (.same (by simp)) (of_decide_eq_true rfl) (trivial)))))) ⟨⟨_, rfl, .ref rfl⟩, ⟨_, rfl, .ref rfl⟩, ⟨_, rfl, .ref rfl⟩, ⟨_, rfl, .ref rfl⟩, ⟨_, rfl, .same _ (by simp)⟩, ⟨_, rfl, .same _ (by simp)⟩, ⟨_, rfl, .same _ (by simp)⟩, ⟨_, rfl, .same _ (by simp)⟩, trivial⟩) ?_)
                    clear hK18 K18
                    refine awp_cond rfl (fun hb891 => ?_) (fun hb891 => ?_)
                    · replace h := Sh.if_t h hb891
                      refine awp_skip ?_
                      refine hK17 _ (AWP.weak (Weak.re (fr' := [(2, .ref 0 0 0), (3, .ref 1 0 0), (4, .ref 2 0 0), (5, .ref 3 0 0), (6, i64 x696), (7, i64 y841), (9, i64 z890)]) (H' := ⟨5, [(0, (2, [G.inquestref12_G.av a_0])), (1, (2, [G.inquestref12_G.av b_1])), (2, (2, [.agg [i64 0, nilS]])), (3, (2, [.agg [i64 r262.N, .view 4 0 (List.map u64 outRows889).length]])), (4, (1, List.map u64 outRows889))]⟩) [(0, 0), (1, 1), (2, 2), (3, 3), (4, 4)] [] rfl rfl rfl (.cons rfl rfl (.one (.same _ (by simp)) rfl) (of_decide_eq_true rfl) (.cons rfl rfl (.one (.same _ (by simp)) rfl) (of_decide_eq_true rfl) (.cons rfl rfl (.one (.same _ (by simp)) rfl) (of_decide_eq_true rfl) (.cons rfl rfl (.one (.ag ⟨.same _ (by simp), .view rfl, trivial⟩) rfl) (of_decide_eq_true rfl) (.cons rfl rfl (.same (by simp)) (of_decide_eq_true rfl) (trivial)))))) ⟨⟨_, rfl, .ref rfl⟩, ⟨_, rfl, .ref rfl⟩, ⟨_, rfl, .ref rfl⟩, ⟨_, rfl, .ref rfl⟩, ⟨_, rfl, .same _ (by simp)⟩, ⟨_, rfl, .same _ (by simp)⟩, ⟨_, rfl, .same _ (by simp)⟩, trivial⟩) ?_)
                      clear hK17 K17
                      refine awp_seqJ (fun (p : (List (BitVec 64))) => (⟨[(2, .ref 0 0 0), (3, .ref 1 0 0), (4, .ref 2 0 0), (5, .ref 3 0 0), (6, i64 x696), (7, i64 y841), (9, i64 z890)], ⟨5, [(0, (2, [G.inquestref12_G.av a_0])), (1, (2, [G.inquestref12_G.av b_1])), (2, (2, [.agg [i64 0, nilS]])), (3, (2, [.agg [i64 r262.N, .view 4 0 (List.map u64 p).length]])), (4, (1, List.map u64 p))]⟩⟩ : St)) (fun (p : (List (BitVec 64))) => G.inquestref12_Compose_j4 z890 p = some o3) ?_ ?_
                      · rintro outRows898 h
                        replace h : G.inquestref12_Compose_j4 z890 outRows898 = some o3 := h
                        unfold G.inquestref12_Compose_j4 at h
                        show AWP _ _ _ _ ⟨[(2, .ref 0 0 0), (3, .ref 1 0 0), (4, .ref 2 0 0), (5, .ref 3 0 0), (6, i64 x696), (7, i64 y841), (9, i64 z890)], ⟨5, [(0, (2, [G.inquestref12_G.av a_0])), (1, (2, [G.inquestref12_G.av b_1])), (2, (2, [.agg [i64 0, nilS]])), (3, (2, [.agg [i64 r262.N, .view 4 0 (List.map u64 outRows898).length]])), (4, (1, List.map u64 outRows898))]⟩⟩ _
                        refine awp_reg rfl ?_
                        refine AR.op (r := i64 z890) rfl (aop_move (.inl rfl) rfl) ?_
                        refine AR.op (r := i64 (w64 (z890 + 1))) rfl (aop_add rfl rfl rfl rfl) ?_
                        refine AR.op (r := i64 (w64 (z890 + 1))) rfl (aop_move (.inr rfl) rfl) ?_
                        refine AR.nil ?_
                        replace h := Sh.next_eq h
                        exact ⟨_, h, Weak.re (fr' := [(2, .ref 0 0 0), (3, .ref 1 0 0), (4, .ref 2 0 0), (5, .ref 3 0 0), (6, i64 x696), (7, i64 y841), (9, i64 (w64 (z890 + 1)))]) (H' := ⟨5, [(0, (2, [G.inquestref12_G.av a_0])), (1, (2, [G.inquestref12_G.av b_1])), (2, (2, [.agg [i64 0, nilS]])), (3, (2, [.agg [i64 r262.N, .view 4 0 (List.map u64 outRows898).length]])), (4, (1, List.map u64 outRows898))]⟩) [(0, 0), (1, 1), (2, 2), (3, 3), (4, 4)] [] rfl rfl rfl (.cons rfl rfl (.one (.same _ (by simp)) rfl) (of_decide_eq_true rfl) (.cons rfl rfl (.one (.same _ (by simp)) rfl) (of_decide_eq_true rfl) (.cons rfl rfl (.one (.same _ (by simp)) rfl) (of_decide_eq_true rfl) (.cons rfl rfl (.one (.ag ⟨.same _ (by simp), .view rfl, trivial⟩) rfl) (of_decide_eq_true rfl) (.cons rfl rfl (.same (by simp)) (of_decide_eq_true rfl) (trivial)))))) ⟨⟨_, rfl, .ref rfl⟩, ⟨_, rfl, .ref rfl⟩, ⟨_, rfl, .ref rfl⟩, ⟨_, rfl, .ref rfl⟩, ⟨_, rfl, .same _ (by simp)⟩, ⟨_, rfl, .same _ (by simp)⟩, ⟨_, rfl, .same _ (by simp)⟩, trivial⟩⟩
                      · intro K19 hK19
                        refine awp_block ?_
                        refine awp_seqK fun K20 hK20 => ?_
                        refine awp_reg rfl ?_
                        refine AR.op (r := G.inquestref12_G.av b_1) rfl (aop_load_ref rfl rfl rfl rfl sz26 rfl) ?_
                        refine AR.op (r := i64 y841) rfl (aop_move (.inl rfl) rfl) ?_
                        refine AR.op (r := i64 z890) rfl (aop_move (.inl rfl) rfl) ?_
                        refine AR.drop (frx := [(2, _), (3, _), (4, _), (5, _), (6, _), (7, _), (9, _), (38, _), (39, _), (40, _)]) ⟨rfl, rfl, rfl, rfl, rfl, rfl, rfl, rfl, rfl, rfl, trivial⟩ ?_
                        obtain ⟨r900, hr900, h⟩ := Sh.bind_some' h
                        refine AR.op (r := bl r900) rfl (aop_call1 rfl rfl (by simp) (inquestref12_Has_ok hT hr900)) ?_
                        refine AR.op (r := bl r900) rfl (aop_move (.inr rfl) rfl) ?_
                        refine AR.nil ?_
                        refine hK20 _ (AWP.weak (Weak.re (fr' := [(2, .ref 0 0 0), (3, .ref 1 0 0), (4, .ref 2 0 0), (5, .ref 3 0 0), (6, i64 x696), (7, i64 y841), (9, i64 z890), (10, bl r900)]) (H' := ⟨5, [(0, (2, [G.inquestref12_G.av a_0])), (1, (2, [G.inquestref12_G.av b_1])), (2, (2, [.agg [i64 0, nilS]])), (3, (2, [.agg [i64 r262.N, .view 4 0 (List.map u64 outRows889).length]])), (4, (1, List.map u64 outRows889))]⟩) [(0, 0), (1, 1), (2, 2), (3, 3), (4, 4)] [] rfl rfl rfl (.cons rfl rfl (.one (.same _ (by simp)) rfl) (of_decide_eq_true rfl) (.cons rfl rfl (.one (.same _ (by simp)) rfl) (of_decide_eq_true rfl) (.cons rfl rfl (.one (.same _ (by simp)) rfl) (of_decide_eq_true rfl) (.cons rfl rfl (.one (.ag ⟨.same _ (by simp), .view rfl, trivial⟩) rfl) (of_decide_eq_true rfl) (.cons rfl rfl (.same (by simp)) (of_decide_eq_true rfl) (trivial)))))) ⟨⟨_, rfl, .ref rfl⟩, ⟨_, rfl, .ref rfl⟩, ⟨_, rfl, .ref rfl⟩, ⟨_, rfl, .ref rfl⟩, ⟨_, rfl, .same _ (by simp)⟩, ⟨_, rfl, .same _ (by simp)⟩, ⟨_, rfl, .same _ (by simp)⟩, ⟨_, rfl, .same _ (by simp)⟩, trivial⟩) ?_)
                        clear hK20 K20
                        refine awp_seqK fun K21 hK21 => ?_
                        refine awp_reg rfl ?_
                        refine AR.op (r := bl r900) rfl (aop_move (.inl rfl) rfl) ?_
                        refine AR.nil ?_
                        refine hK21 _ (AWP.weak (Weak.re (fr' := [(2, .ref 0 0 0), (3, .ref 1 0 0), (4, .ref 2 0 0), (5, .ref 3 0 0), (6, i64 x696), (7, i64 y841), (9, i64 z890), (42, bl r900)]) (H' := ⟨5, [(0, (2, [G.inquestref12_G.av a_0])), (1, (2, [G.inquestref12_G.av b_1])), (2, (2, [.agg [i64 0, nilS]])), (3, (2, [.agg [i64 r262.N, .view 4 0 (List.map u64 outRows889).length]])), (4, (1, List.map u64 outRows889))]⟩) [(0, 0), (1, 1), (2, 2), (3, 3), (4, 4)] [] rfl rfl rfl (.cons rfl rfl (.one (.same _ (by simp)) rfl) (of_decide_eq_true rfl) (.cons rfl rfl (.one (.same _ (by simp)) rfl) (of_decide_eq_true rfl) (.cons rfl rfl (.one (.same _ (by simp)) rfl) (of_decide_eq_true rfl) (.cons rfl rfl (.one (.ag ⟨.same _ (by simp), .view rfl, trivial⟩) rfl) (of_decide_eq_true rfl) (.cons rfl rfl (.same (by simp)) (of_decide_eq_true rfl) (trivial)))))) ⟨⟨_, rfl, .ref rfl⟩, ⟨_, rfl, .ref rfl⟩, ⟨_, rfl, .ref rfl⟩, ⟨_, rfl, .ref rfl⟩, ⟨_, rfl, .same _ (by simp)⟩, ⟨_, rfl, .same _ (by simp)⟩, ⟨_, rfl, .same _ (by simp)⟩, ⟨_, rfl, .same _ (by simp)⟩, trivial⟩) ?_)
                        clear hK21 K21
                        refine awp_cond rfl (fun hb901 => ?_) (fun hb901 => ?_)
                        · replace h := Sh.if_t h hb901
                          refine awp_any (by kernel_rfl) (by kernel_rfl) rfl ?_
                          refine ARH.op rfl rfl (aop_field_ref rfl rfl rfl fd26_1 (by decide)) ?_
                          refine ARH.op (r := .view 4 0 (List.map u64 outRows889).length) rfl rfl (aop_load_ref rfl rfl rfl rfl sz22 rfl) ?_
                          refine ARH.dry (r := i64 x696) rfl (fun _ => aop_move (.inl rfl) rfl) ?_
                          refine ARH.drop (frx := [(2, _), (3, _), (4, _), (5, _), (6, _), (7, _), (9, _), (44, _), (45, _)]) ⟨rfl, rfl, rfl, rfl, rfl, rfl, rfl, rfl, rfl, trivial⟩ ?_
                          refine ARH.op rfl rfl (aop_field_ref rfl rfl rfl fd26_1 (by decide)) ?_
                          refine ARH.op (r := .view 4 0 (List.map u64 outRows889).length) rfl rfl (aop_load_ref rfl rfl rfl rfl sz22 rfl) ?_
                          refine ARH.dry (r := i64 x696) rfl (fun _ => aop_move (.inl rfl) rfl) ?_
                          refine ARH.drop (frx := [(2, _), (3, _), (4, _), (5, _), (6, _), (7, _), (9, _), (44, _), (45, _), (47, _), (48, _)]) ⟨rfl, rfl, rfl, rfl, rfl, rfl, rfl, rfl, rfl, rfl, rfl, trivial⟩ ?_
                          obtain ⟨x902, hx902, h⟩ := Sh.bind_some' h
                          obtain ⟨k903, hi903, hl903⟩ := Sh.idx_some hx902
                          refine ARH.op (r := .ref 4 k903 0) rfl rfl (t_index_view u64 outRows889 hi903 hl903 rfl rfl rfl rfl rfl el22 rfl) ?_
                          refine ARH.op (r := u64 x902) rfl rfl (t_load_el u64 outRows889 hl903 rfl rfl rfl sz45 rfl) ?_
                          refine ARH.dry (r := i64 z890) rfl (fun _ => aop_move (.inl rfl) rfl) ?_
                          refine ARH.drop (frx := [(2, _), (3, _), (4, _), (5, _), (6, _), (7, _), (9, _), (44, _), (45, _), (50, _), (51, _)]) ⟨rfl, rfl, rfl, rfl, rfl, rfl, rfl, rfl, rfl, rfl, rfl, trivial⟩ ?_
                          obtain ⟨r904, hr904, h⟩ := Sh.bind_some' h
                          refine ARH.op (r := u64 r904) rfl rfl (aop_call1 rfl rfl (by simp) (inquestref10_With_ok hT hr904)) ?_
                          obtain ⟨x905, hx905, h⟩ := Sh.bind_some' h
                          obtain ⟨k906, hi906, hl906⟩ := Sh.idx_some hx905
                          refine ARH.op (r := .ref 4 k906 0) rfl rfl (t_index_view u64 outRows889 hi906 hl906 rfl rfl rfl rfl rfl el22 rfl) ?_
                          refine ARH.loud rfl rfl rfl (t_store_el u64 outRows889 r904 hi906 hl906 rfl rfl rfl rfl rfl sz45 rfl (of_decide_eq_true rfl) rfl) ?_
                          refine ARH.nil ?_
                          exact hK19 (Sh.set outRows889 x696 r904) _ h (Weak.re (fr' := [(2, .ref 0 0 0), (3, .ref 1 0 0), (4, .ref 2 0 0), (5, .ref 3 0 0), (6, i64 x696), (7, i64 y841), (9, i64 z890)]) (H' := ⟨5, [(0, (2, [G.inquestref12_G.av a_0])), (1, (2, [G.inquestref12_G.av b_1])), (2, (2, [.agg [i64 0, nilS]])), (3, (2, [.agg [i64 r262.N, .view 4 0 (List.map u64 (Sh.set outRows889 x696 r904)).length]])), (4, (1, List.map u64 (Sh.set outRows889 x696 r904)))]⟩) [(0, 0), (1, 1), (2, 2), (3, 3), (4, 4)] [] rfl rfl rfl (.cons rfl rfl (.one (.same _ (by simp)) rfl) (of_decide_eq_true rfl) (.cons rfl rfl (.one (.same _ (by simp)) rfl) (of_decide_eq_true rfl) (.cons rfl rfl (.one (.same _ (by simp)) rfl) (of_decide_eq_true rfl) (.cons rfl rfl (.one (.ag ⟨.same _ (by simp), .viewL rfl (by simp []), trivial⟩) rfl) (of_decide_eq_true rfl) (.cons rfl rfl (.same (by simp)) (of_decide_eq_true rfl) (trivial)))))) ⟨⟨_, rfl, .ref rfl⟩, ⟨_, rfl, .ref rfl⟩, ⟨_, rfl, .ref rfl⟩, ⟨_, rfl, .ref rfl⟩, ⟨_, rfl, .same _ (by simp)⟩, ⟨_, rfl, .same _ (by simp)⟩, ⟨_, rfl, .same _ (by simp)⟩, trivial⟩)
                        · replace h := Sh.if_f h hb901
                          refine awp_skip ?_
                          exact hK19 outRows889 _ h (Weak.re (fr' := [(2, .ref 0 0 0), (3, .ref 1 0 0), (4, .ref 2 0 0), (5, .ref 3 0 0), (6, i64 x696), (7, i64 y841), (9, i64 z890)]) (H' := ⟨5, [(0, (2, [G.inquestref12_G.av a_0])), (1, (2, [G.inquestref12_G.av b_1])), (2, (2, [.agg [i64 0, nilS]])), (3, (2, [.agg [i64 r262.N, .view 4 0 (List.map u64 outRows889).length]])), (4, (1, List.map u64 outRows889))]⟩) [(0, 0), (1, 1), (2, 2), (3, 3), (4, 4)] [] rfl rfl rfl (.cons rfl rfl (.one (.same _ (by simp)) rfl) (of_decide_eq_true rfl) (.cons rfl rfl (.one (.same _ (by simp)) rfl) (of_decide_eq_true rfl) (.cons rfl rfl (.one (.same _ (by simp)) rfl) (of_decide_eq_true rfl) (.cons rfl rfl (.one (.ag ⟨.same _ (by simp), .view rfl, trivial⟩) rfl) (of_decide_eq_true rfl) (.cons rfl rfl (.same (by simp)) (of_decide_eq_true rfl) (trivial)))))) ⟨⟨_, rfl, .ref rfl⟩, ⟨_, rfl, .ref rfl⟩, ⟨_, rfl, .ref rfl⟩, ⟨_, rfl, .ref rfl⟩, ⟨_, rfl, .same _ (by simp)⟩, ⟨_, rfl, .same _ (by simp)⟩, ⟨_, rfl, .same _ (by simp)⟩, trivial⟩)
                    · replace h := Sh.if_f h hb891
                      refine awp_exit ?_
                      replace h := Sh.exit_eq h hx3
                      exact hK12 outRows889 _ h (Weak.re (fr' := [(2, .ref 0 0 0), (3, .ref 1 0 0), (4, .ref 2 0 0), (5, .ref 3 0 0), (6, i64 x696), (7, i64 y841)]) (H' := ⟨5, [(0, (2, [G.inquestref12_G.av a_0])), (1, (2, [G.inquestref12_G.av b_1])), (2, (2, [.agg [i64 0, nilS]])), (3, (2, [.agg [i64 r262.N, .view 4 0 (List.map u64 outRows889).length]])), (4, (1, List.map u64 outRows889))]⟩) [(0, 0), (1, 1), (2, 2), (3, 3), (4, 4)] [] rfl rfl rfl (.cons rfl rfl (.one (.same _ (by simp)) rfl) (of_decide_eq_true rfl) (.cons rfl rfl (.one (.same _ (by simp)) rfl) (of_decide_eq_true rfl) (.cons rfl rfl (.one (.same _ (by simp)) rfl) (of_decide_eq_true rfl) (.cons rfl rfl (.one (.ag ⟨.same _ (by simp), .view rfl, trivial⟩) rfl) (of_decide_eq_true rfl) (.cons rfl rfl (.same (by simp)) (of_decide_eq_true rfl) (trivial)))))) ⟨⟨_, rfl, .ref rfl⟩, ⟨_, rfl, .ref rfl⟩, ⟨_, rfl, .ref rfl⟩, ⟨_, rfl, .ref rfl⟩, ⟨_, rfl, .same _ (by simp)⟩, ⟨_, rfl, .same _ (by simp)⟩, trivial⟩)
            · replace h := Sh.if_f h hb842
              refine awp_exit ?_
              replace h := Sh.exit_eq h hx2
              exact hK8 outRows840 _ h (Weak.re (fr' := [(2, .ref 0 0 0), (3, .ref 1 0 0), (4, .ref 2 0 0), (5, .ref 3 0 0), (6, i64 x696)]) (H' := ⟨5, [(0, (2, [G.inquestref12_G.av a_0])), (1, (2, [G.inquestref12_G.av b_1])), (2, (2, [.agg [i64 0, nilS]])), (3, (2, [.agg [i64 r262.N, .view 4 0 (List.map u64 outRows840).length]])), (4, (1, List.map u64 outRows840))]⟩) [(0, 0), (1, 1), (2, 2), (3, 3), (4, 4)] [] rfl rfl rfl (.cons rfl rfl (.one (.same _ (by simp)) rfl) (of_decide_eq_true rfl) (.cons rfl rfl (.one (.same _ (by simp)) rfl) (of_decide_eq_true rfl) (.cons rfl rfl (.one (.same _ (by simp)) rfl) (of_decide_eq_true rfl) (.cons rfl rfl (.one (.ag ⟨.same _ (by simp), .view rfl, trivial⟩) rfl) (of_decide_eq_true rfl) (.cons rfl rfl (.same (by simp)) (of_decide_eq_true rfl) (trivial)))))) ⟨⟨_, rfl, .ref rfl⟩, ⟨_, rfl, .ref rfl⟩, ⟨_, rfl, .ref rfl⟩, ⟨_, rfl, .ref rfl⟩, ⟨_, rfl, .same _ (by simp)⟩, trivial⟩)
      · replace h := Sh.if_f h hb697
        refine awp_exit ?_
        replace h := Sh.exit_eq h hx1
        exact hK4 outRows695 _ h (Weak.re (fr' := [(4, .ref 0 0 0), (5, .ref 1 0 0)]) (H' := ⟨3, [(0, (2, [.agg [i64 0, nilS]])), (1, (2, [.agg [i64 r262.N, .view 2 0 (List.map u64 outRows695).length]])), (2, (1, List.map u64 outRows695))]⟩) [(0, 2), (1, 3), (2, 4)] [] rfl rfl rfl (.cons rfl rfl (.one (.same _ (by simp)) rfl) (of_decide_eq_true rfl) (.cons rfl rfl (.one (.ag ⟨.same _ (by simp), .view rfl, trivial⟩) rfl) (of_decide_eq_true rfl) (.cons rfl rfl (.same (by simp)) (of_decide_eq_true rfl) (trivial)))) ⟨⟨_, rfl, .ref rfl⟩, ⟨_, rfl, .ref rfl⟩, trivial⟩)
theorem inquestref12_Compose_ok {W0 : World} (hT : Tab W0) {a_0 : G.inquestref12_G} {b_1 : G.inquestref12_G} {r : G.inquestref12_G} (h : G.inquestref12_Compose a_0 b_1 = some r) : Fun1 Tryd.prog W0 41 [G.inquestref12_G.av a_0, G.inquestref12_G.av b_1] (G.inquestref12_G.av r) :=
  (inquestref12_Compose_own hT h).give (Weak.re [] [] rfl rfl rfl trivial ⟨⟨_, rfl, .ag ⟨.same _ (by simp), .lendAll rfl rfl (by simp), trivial⟩⟩, trivial⟩) (by simp)

end Wk
