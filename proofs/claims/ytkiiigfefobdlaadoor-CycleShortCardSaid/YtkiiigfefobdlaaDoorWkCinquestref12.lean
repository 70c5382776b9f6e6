/- That the functions of a package do what their plain functions say. -/
import Derived.Test.YtkiiigfefobdlaaDoorSh
import Derived.Test.YtkiiigfefobdlaaDoorWkCFacts
import Derived.Test.YtkiiigfefobdlaaDoorWkCinquestref10
open Go Go.Av Go.Proofs
set_option linter.unusedVariables false
namespace Wk
set_option maxHeartbeats 8000000 in
set_option maxRecDepth 20000 in
theorem inquestref12_Right_ok0 {W0 : World} (hT : Tab W0) {g_0 : G.inquestref12_G} {r : Bool} (h : G.inquestref12_Right g_0 = some r) : Fun2 Tryd.prog W0 13 [G.inquestref12_G.av g_0] (bl r) .empty := by
  refine fun2_of_awp Tryd.func13 rfl (by kernel_rfl) Tryd.ntmps13 (by simp) ?_
  unfold G.inquestref12_Right at h
  show AWP _ _ _ _ ⟨[(0, G.inquestref12_G.av g_0)], .empty⟩ _
  refine awp_seqK fun K1 hK1 => ?_
  refine awp_reg rfl ?_
  refine AR.op (r := .ref 0 0 0) rfl (aop_box 2 [G.inquestref12_G.av g_0] rfl rfl rfl (.inl ⟨rfl, rfl⟩)) ?_
  refine AR.op (r := bl false) rfl (aop_move (.inr rfl) rfl) ?_
  refine AR.nil ?_
  refine hK1 _ (AWP.weak (Weak.re (fr' := [(1, .ref 0 0 0)]) (H' := ⟨1, [(0, (2, [G.inquestref12_G.av g_0]))]⟩) [(0, 0)] [] rfl rfl rfl (.cons rfl rfl (.one (.same _ (by simp)) rfl) (of_decide_eq_true rfl) (trivial)) ⟨⟨_, rfl, .ref rfl⟩, trivial⟩) ?_)
  clear hK1 K1
  refine awp_seqK fun K2 hK2 => ?_
  refine awp_seqJ (fun (p : Bool) => (⟨[(1, .ref 0 0 0), (21, bl p)], ⟨1, [(0, (2, [G.inquestref12_G.av g_0]))]⟩⟩ : St)) (fun (p : Bool) => G.inquestref12_Right_j1 g_0 p = some r) ?_ ?_
  · rintro v44 h
    replace h : G.inquestref12_Right_j1 g_0 v44 = some r := h
    unfold G.inquestref12_Right_j1 at h
    show AWP _ _ _ _ ⟨[(1, .ref 0 0 0), (21, bl v44)], ⟨1, [(0, (2, [G.inquestref12_G.av g_0]))]⟩⟩ _
    refine awp_cond rfl (fun hb45 => ?_) (fun hb45 => ?_)
    · replace h := Sh.if_t h hb45
      refine awp_seqK fun K3 hK3 => ?_
      refine awp_reg rfl ?_
      refine AR.op (r := bl false) rfl (aop_move (.inr rfl) rfl) ?_
      refine AR.nil ?_
      refine hK3 _ (AWP.weak (Weak.re (fr' := [(2, bl false)]) (H' := .empty) [] [] rfl rfl rfl (trivial) ⟨⟨_, rfl, .same _ (by simp)⟩, trivial⟩) ?_)
      clear hK3 K3
      refine awp_ret ?_
      obtain rfl := Option.some.inj h
      refine ⟨.inr rfl, bl false, rfl, ?_⟩
      exact Weak.re [] [] rfl rfl rfl (trivial) ⟨⟨_, rfl, .same _ (by simp)⟩, trivial⟩
    · replace h := Sh.if_f h hb45
      refine awp_skip ?_
      refine hK2 _ (AWP.weak (Weak.re (fr' := [(1, .ref 0 0 0)]) (H' := ⟨1, [(0, (2, [G.inquestref12_G.av g_0]))]⟩) [(0, 0)] [] rfl rfl rfl (.cons rfl rfl (.one (.same _ (by simp)) rfl) (of_decide_eq_true rfl) (trivial)) ⟨⟨_, rfl, .ref rfl⟩, trivial⟩) ?_)
      clear hK2 K2
      refine awp_seqJ (fun (p : Unit) => (⟨[], .empty⟩ : St)) (fun (p : Unit) => G.inquestref12_Right_j2 = some r) ?_ ?_
      · rintro ⟨⟩ h
        replace h : G.inquestref12_Right_j2 = some r := h
        unfold G.inquestref12_Right_j2 at h
        show AWP _ _ _ _ ⟨[], .empty⟩ _
        refine awp_seqK fun K4 hK4 => ?_
        refine awp_reg rfl ?_
        refine AR.op (r := bl true) rfl (aop_move (.inr rfl) rfl) ?_
        refine AR.nil ?_
        refine hK4 _ ?_
        clear hK4 K4
        refine awp_ret ?_
        obtain rfl := Option.some.inj h
        refine ⟨.inr rfl, bl true, rfl, ?_⟩
        exact Weak.re [] [] rfl rfl rfl (trivial) ⟨⟨_, rfl, .same _ (by simp)⟩, trivial⟩
      · intro K5 hK5
        refine awp_seqK fun K6 hK6 => ?_
        refine awp_reg rfl ?_
        refine AR.op (r := i64 0) rfl (aop_move (.inr rfl) rfl) ?_
        refine AR.nil ?_
        refine hK6 _ ?_
        clear hK6 K6
        refine awp_block ?_
        refine awp_iter (fun (p : Int) => G.inquestref12_Right_b1 g_0 p) (fun (p : Int) => (⟨[(1, .ref 0 0 0), (3, i64 p)], ⟨1, [(0, (2, [G.inquestref12_G.av g_0]))]⟩⟩ : St)) h (Weak.re (fr' := [(1, .ref 0 0 0), (3, i64 0)]) (H' := ⟨1, [(0, (2, [G.inquestref12_G.av g_0]))]⟩) [(0, 0)] [] rfl rfl rfl (.cons rfl rfl (.one (.same _ (by simp)) rfl) (of_decide_eq_true rfl) (trivial)) ⟨⟨_, rfl, .ref rfl⟩, ⟨_, rfl, .same _ (by simp)⟩, trivial⟩) ?_
        · skip
          rintro i104 o1 h hx1
          replace h : G.inquestref12_Right_b1 g_0 i104 = some o1 := h
          unfold G.inquestref12_Right_b1 at h
          show AWP _ _ _ _ ⟨[(1, .ref 0 0 0), (3, i64 i104)], ⟨1, [(0, (2, [G.inquestref12_G.av g_0]))]⟩⟩ _
          refine awp_seqK fun K7 hK7 => ?_
          refine awp_seqK fun K8 hK8 => ?_
          refine awp_reg rfl ?_
          refine AR.op (r := i64 i104) rfl (aop_move (.inl rfl) rfl) ?_
          refine AR.op rfl (aop_field_ref rfl rfl rfl fd27_0 (by decide)) ?_
          refine AR.op (r := i64 g_0.N) rfl (aop_load_ref rfl rfl rfl rfl sz3 rfl) ?_
          refine AR.drop (frx := [(1, _), (3, _), (22, _), (24, _)]) ⟨rfl, rfl, rfl, rfl, trivial⟩ ?_
          refine AR.op (r := bl (decide (i104 < g_0.N))) rfl (aop_lss rfl rfl rfl) ?_
          refine AR.nil ?_
          refine hK8 _ (AWP.weak (Weak.re (fr' := [(1, .ref 0 0 0), (3, i64 i104), (25, bl (decide (i104 < g_0.N)))]) (H' := ⟨1, [(0, (2, [G.inquestref12_G.av g_0]))]⟩) [(0, 0)] [] rfl rfl rfl (.cons rfl rfl (.one (.same _ (by simp)) rfl) (of_decide_eq_true rfl) (trivial)) ⟨⟨_, rfl, .ref rfl⟩, ⟨_, rfl, .same _ (by simp)⟩, ⟨_, rfl, .same _ (by simp)⟩, trivial⟩) ?_)
          clear hK8 K8
          refine awp_cond rfl (fun hb105 => ?_) (fun hb105 => ?_)
          · replace h := Sh.if_t h hb105
            refine awp_skip ?_
            refine hK7 _ (AWP.weak (Weak.re (fr' := [(1, .ref 0 0 0), (3, i64 i104)]) (H' := ⟨1, [(0, (2, [G.inquestref12_G.av g_0]))]⟩) [(0, 0)] [] rfl rfl rfl (.cons rfl rfl (.one (.same _ (by simp)) rfl) (of_decide_eq_true rfl) (trivial)) ⟨⟨_, rfl, .ref rfl⟩, ⟨_, rfl, .same _ (by simp)⟩, trivial⟩) ?_)
            clear hK7 K7
            refine awp_seqJ (fun (p : Unit) => (⟨[(1, .ref 0 0 0), (3, i64 i104)], ⟨1, [(0, (2, [G.inquestref12_G.av g_0]))]⟩⟩ : St)) (fun (p : Unit) => G.inquestref12_Right_j3 i104 = some o1) ?_ ?_
            · rintro ⟨⟩ h
              replace h : G.inquestref12_Right_j3 i104 = some o1 := h
              unfold G.inquestref12_Right_j3 at h
              show AWP _ _ _ _ ⟨[(1, .ref 0 0 0), (3, i64 i104)], ⟨1, [(0, (2, [G.inquestref12_G.av g_0]))]⟩⟩ _
              refine awp_reg rfl ?_
              refine AR.op (r := i64 i104) rfl (aop_move (.inl rfl) rfl) ?_
              refine AR.op (r := i64 (w64 (i104 + 1))) rfl (aop_add rfl rfl rfl rfl) ?_
              refine AR.op (r := i64 (w64 (i104 + 1))) rfl (aop_move (.inr rfl) rfl) ?_
              refine AR.nil ?_
              replace h := Sh.next_eq h
              exact ⟨_, h, Weak.re (fr' := [(1, .ref 0 0 0), (3, i64 (w64 (i104 + 1)))]) (H' := ⟨1, [(0, (2, [G.inquestref12_G.av g_0]))]⟩) [(0, 0)] [] rfl rfl rfl (.cons rfl rfl (.one (.same _ (by simp)) rfl) (of_decide_eq_true rfl) (trivial)) ⟨⟨_, rfl, .ref rfl⟩, ⟨_, rfl, .same _ (by simp)⟩, trivial⟩⟩
            · intro K9 hK9
              refine awp_block ?_
              refine awp_seqK fun K10 hK10 => ?_
              refine awp_reg rfl ?_
              refine AR.op rfl (aop_field_ref rfl rfl rfl fd27_0 (by decide)) ?_
              refine AR.op (r := i64 g_0.N) rfl (aop_load_ref rfl rfl rfl rfl sz3 rfl) ?_
              refine AR.op (r := i64 g_0.N) rfl (aop_move (.inr rfl) rfl) ?_
              refine AR.nil ?_
              refine hK10 _ (AWP.weak (Weak.re (fr' := [(1, .ref 0 0 0), (3, i64 i104), (4, i64 g_0.N)]) (H' := ⟨1, [(0, (2, [G.inquestref12_G.av g_0]))]⟩) [(0, 0)] [] rfl rfl rfl (.cons rfl rfl (.one (.same _ (by simp)) rfl) (of_decide_eq_true rfl) (trivial)) ⟨⟨_, rfl, .ref rfl⟩, ⟨_, rfl, .same _ (by simp)⟩, ⟨_, rfl, .same _ (by simp)⟩, trivial⟩) ?_)
              clear hK10 K10
              refine awp_block ?_
              refine awp_iter (fun (p : Int) => G.inquestref12_Right_b2 g_0 i104 p) (fun (p : Int) => (⟨[(1, .ref 0 0 0), (3, i64 i104), (4, i64 p)], ⟨1, [(0, (2, [G.inquestref12_G.av g_0]))]⟩⟩ : St)) h (Weak.re (fr' := [(1, .ref 0 0 0), (3, i64 i104), (4, i64 g_0.N)]) (H' := ⟨1, [(0, (2, [G.inquestref12_G.av g_0]))]⟩) [(0, 0)] [] rfl rfl rfl (.cons rfl rfl (.one (.same _ (by simp)) rfl) (of_decide_eq_true rfl) (trivial)) ⟨⟨_, rfl, .ref rfl⟩, ⟨_, rfl, .same _ (by simp)⟩, ⟨_, rfl, .same _ (by simp)⟩, trivial⟩) ?_
              · skip
                rintro k124 o2 h hx2
                replace h : G.inquestref12_Right_b2 g_0 i104 k124 = some o2 := h
                unfold G.inquestref12_Right_b2 at h
                show AWP _ _ _ _ ⟨[(1, .ref 0 0 0), (3, i64 i104), (4, i64 k124)], ⟨1, [(0, (2, [G.inquestref12_G.av g_0]))]⟩⟩ _
                refine awp_seqK fun K11 hK11 => ?_
                refine awp_seqK fun K12 hK12 => ?_
                refine awp_reg rfl ?_
                refine AR.op (r := i64 k124) rfl (aop_move (.inl rfl) rfl) ?_
                refine AR.op (r := bl (decide (k124 < 64))) rfl (aop_lss rfl rfl rfl) ?_
                refine AR.nil ?_
                refine hK12 _ (AWP.weak (Weak.re (fr' := [(1, .ref 0 0 0), (3, i64 i104), (4, i64 k124), (31, bl (decide (k124 < 64)))]) (H' := ⟨1, [(0, (2, [G.inquestref12_G.av g_0]))]⟩) [(0, 0)] [] rfl rfl rfl (.cons rfl rfl (.one (.same _ (by simp)) rfl) (of_decide_eq_true rfl) (trivial)) ⟨⟨_, rfl, .ref rfl⟩, ⟨_, rfl, .same _ (by simp)⟩, ⟨_, rfl, .same _ (by simp)⟩, ⟨_, rfl, .same _ (by simp)⟩, trivial⟩) ?_)
                clear hK12 K12
                refine awp_cond rfl (fun hb125 => ?_) (fun hb125 => ?_)
                · replace h := Sh.if_t h hb125
                  refine awp_skip ?_
                  refine hK11 _ (AWP.weak (Weak.re (fr' := [(1, .ref 0 0 0), (3, i64 i104), (4, i64 k124)]) (H' := ⟨1, [(0, (2, [G.inquestref12_G.av g_0]))]⟩) [(0, 0)] [] rfl rfl rfl (.cons rfl rfl (.one (.same _ (by simp)) rfl) (of_decide_eq_true rfl) (trivial)) ⟨⟨_, rfl, .ref rfl⟩, ⟨_, rfl, .same _ (by simp)⟩, ⟨_, rfl, .same _ (by simp)⟩, trivial⟩) ?_)
                  clear hK11 K11
                  refine awp_seqK fun K13 hK13 => ?_
                  refine awp_block ?_
                  refine awp_seqK fun K14 hK14 => ?_
                  refine awp_reg rfl ?_
                  refine AR.op rfl (aop_field_ref rfl rfl rfl fd27_1 (by decide)) ?_
                  refine AR.op (r := .sl (List.map u64 g_0.Rows)) rfl (aop_load_ref rfl rfl rfl rfl sz22 rfl) ?_
                  refine AR.op (r := i64 i104) rfl (aop_move (.inl rfl) rfl) ?_
                  refine AR.drop (frx := [(1, _), (3, _), (4, _), (35, _), (36, _)]) ⟨rfl, rfl, rfl, rfl, rfl, trivial⟩ ?_
                  obtain ⟨x132, hx132, h⟩ := Sh.bind_some' h
                  obtain ⟨k133, hi133, hl133⟩ := Sh.idx_some hx132
                  refine AR.op rfl (t_index_sl u64 g_0.Rows hi133 hl133 rfl rfl rfl el22 rfl) ?_
                  refine AR.op (r := u64 x132) rfl (aop_load_pp rfl rfl sz35 rfl) ?_
                  refine AR.op (r := i64 k124) rfl (aop_move (.inl rfl) rfl) ?_
                  refine AR.drop (frx := [(1, _), (3, _), (4, _), (38, _), (39, _)]) ⟨rfl, rfl, rfl, rfl, rfl, trivial⟩ ?_
                  obtain ⟨r134, hr134, h⟩ := Sh.bind_some' h
                  refine AR.op (r := bl r134) rfl (aop_call1 rfl rfl (by simp) (inquestref10_Has_ok hT hr134)) ?_
                  refine AR.op (r := bl r134) rfl (aop_move (.inr rfl) rfl) ?_
                  refine AR.nil ?_
                  refine hK14 _ (AWP.weak (Weak.re (fr' := [(1, .ref 0 0 0), (3, i64 i104), (4, i64 k124), (5, bl r134)]) (H' := ⟨1, [(0, (2, [G.inquestref12_G.av g_0]))]⟩) [(0, 0)] [] rfl rfl rfl (.cons rfl rfl (.one (.same _ (by simp)) rfl) (of_decide_eq_true rfl) (trivial)) ⟨⟨_, rfl, .ref rfl⟩, ⟨_, rfl, .same _ (by simp)⟩, ⟨_, rfl, .same _ (by simp)⟩, ⟨_, rfl, .same _ (by simp)⟩, trivial⟩) ?_)
                  clear hK14 K14
                  refine awp_seqK fun K15 hK15 => ?_
                  refine awp_reg rfl ?_
                  refine AR.op (r := bl r134) rfl (aop_move (.inl rfl) rfl) ?_
                  refine AR.nil ?_
                  refine hK15 _ (AWP.weak (Weak.re (fr' := [(1, .ref 0 0 0), (3, i64 i104), (4, i64 k124), (41, bl r134)]) (H' := ⟨1, [(0, (2, [G.inquestref12_G.av g_0]))]⟩) [(0, 0)] [] rfl rfl rfl (.cons rfl rfl (.one (.same _ (by simp)) rfl) (of_decide_eq_true rfl) (trivial)) ⟨⟨_, rfl, .ref rfl⟩, ⟨_, rfl, .same _ (by simp)⟩, ⟨_, rfl, .same _ (by simp)⟩, ⟨_, rfl, .same _ (by simp)⟩, trivial⟩) ?_)
                  clear hK15 K15
                  refine awp_cond rfl (fun hb135 => ?_) (fun hb135 => ?_)
                  · replace h := Sh.if_t h hb135
                    refine awp_seqK fun K16 hK16 => ?_
                    refine awp_reg rfl ?_
                    refine AR.op (r := bl false) rfl (aop_move (.inr rfl) rfl) ?_
                    refine AR.nil ?_
                    refine hK16 _ (AWP.weak (Weak.re (fr' := [(2, bl false)]) (H' := .empty) [] [] rfl rfl rfl (trivial) ⟨⟨_, rfl, .same _ (by simp)⟩, trivial⟩) ?_)
                    clear hK16 K16
                    refine awp_ret ?_
                    replace h := Sh.exit_eq h hx2
                    replace h := Sh.exit_eq h hx1
                    obtain rfl := Option.some.inj h
                    refine ⟨.inr rfl, bl false, rfl, ?_⟩
                    exact Weak.re [] [] rfl rfl rfl (trivial) ⟨⟨_, rfl, .same _ (by simp)⟩, trivial⟩
                  · replace h := Sh.if_f h hb135
                    refine awp_skip ?_
                    refine hK13 _ (AWP.weak (Weak.re (fr' := [(1, .ref 0 0 0), (3, i64 i104), (4, i64 k124)]) (H' := ⟨1, [(0, (2, [G.inquestref12_G.av g_0]))]⟩) [(0, 0)] [] rfl rfl rfl (.cons rfl rfl (.one (.same _ (by simp)) rfl) (of_decide_eq_true rfl) (trivial)) ⟨⟨_, rfl, .ref rfl⟩, ⟨_, rfl, .same _ (by simp)⟩, ⟨_, rfl, .same _ (by simp)⟩, trivial⟩) ?_)
                    clear hK13 K13
                    refine awp_reg rfl ?_
                    refine AR.op (r := i64 k124) rfl (aop_move (.inl rfl) rfl) ?_
                    refine AR.op (r := i64 (w64 (k124 + 1))) rfl (aop_add rfl rfl rfl rfl) ?_
                    refine AR.op (r := i64 (w64 (k124 + 1))) rfl (aop_move (.inr rfl) rfl) ?_
                    refine AR.nil ?_
                    replace h := Sh.next_eq h
                    exact ⟨_, h, Weak.re (fr' := [(1, .ref 0 0 0), (3, i64 i104), (4, i64 (w64 (k124 + 1)))]) (H' := ⟨1, [(0, (2, [G.inquestref12_G.av g_0]))]⟩) [(0, 0)] [] rfl rfl rfl (.cons rfl rfl (.one (.same _ (by simp)) rfl) (of_decide_eq_true rfl) (trivial)) ⟨⟨_, rfl, .ref rfl⟩, ⟨_, rfl, .same _ (by simp)⟩, ⟨_, rfl, .same _ (by simp)⟩, trivial⟩⟩
                · replace h := Sh.if_f h hb125
                  refine awp_exit ?_
                  replace h := Sh.exit_eq h hx2
                  exact hK9 () _ h (Weak.re (fr' := [(1, .ref 0 0 0), (3, i64 i104)]) (H' := ⟨1, [(0, (2, [G.inquestref12_G.av g_0]))]⟩) [(0, 0)] [] rfl rfl rfl (.cons rfl rfl (.one (.same _ (by simp)) rfl) (of_decide_eq_true rfl) (trivial)) ⟨⟨_, rfl, .ref rfl⟩, ⟨_, rfl, .same _ (by simp)⟩, trivial⟩)
          · replace h := Sh.if_f h hb105
            refine awp_exit ?_
            replace h := Sh.exit_eq h hx1
            exact hK5 () _ h (Weak.re (fr' := []) (H' := .empty) [] [] rfl rfl rfl (trivial) trivial)
  · intro K17 hK17
    refine awp_reg rfl ?_
    refine AR.op rfl (aop_field_ref rfl rfl rfl fd27_0 (by decide)) ?_
    refine AR.op (r := i64 g_0.N) rfl (aop_load_ref rfl rfl rfl rfl sz3 rfl) ?_
    refine AR.op (r := bl (decide (g_0.N < 0))) rfl (aop_lss rfl rfl rfl) ?_
    refine AR.drop (frx := [(1, _), (8, _)]) ⟨rfl, rfl, trivial⟩ ?_
    refine AR.op (r := bl (decide (g_0.N < 0))) rfl (aop_move (.inl rfl) rfl) ?_
    rcases Bool.eq_false_or_eq_true (decide (g_0.N < 0)) with hb136 | hb136
    · rw [hb136]
      replace h := Sh.if_t h hb136
      refine AR.skip rfl ?_
      refine AR.skip rfl ?_
      refine AR.drop (frx := [(1, _), (9, _), (11, _)]) ⟨rfl, rfl, rfl, trivial⟩ ?_
      refine AR.skip rfl ?_
      refine AR.op (r := bl true) rfl (aop_pick rfl rfl rfl) ?_
      refine AR.op (r := bl true) rfl (aop_move (.inl rfl) rfl) ?_
      refine AR.drop (frx := [(1, _), (14, _)]) ⟨rfl, rfl, trivial⟩ ?_
      refine AR.skip rfl ?_
      refine AR.skip rfl ?_
      refine AR.skip rfl ?_
      refine AR.drop (frx := [(1, _), (14, _), (17, _)]) ⟨rfl, rfl, rfl, trivial⟩ ?_
      refine AR.skip rfl ?_
      refine AR.skip rfl ?_
      refine AR.skip rfl ?_
      refine AR.drop (frx := [(1, _), (14, _), (20, _)]) ⟨rfl, rfl, rfl, trivial⟩ ?_
      refine AR.op (r := bl true) rfl (aop_pick rfl rfl rfl) ?_
      refine AR.nil ?_
      exact hK17 true _ h (Weak.re (fr' := [(1, .ref 0 0 0), (21, bl true)]) (H' := ⟨1, [(0, (2, [G.inquestref12_G.av g_0]))]⟩) [(0, 0)] [] rfl rfl rfl (.cons rfl rfl (.one (.same _ (by simp)) rfl) (of_decide_eq_true rfl) (trivial)) ⟨⟨_, rfl, .ref rfl⟩, ⟨_, rfl, .same _ (by simp)⟩, trivial⟩)
    · rw [hb136]
      replace h := Sh.if_f h hb136
      refine AR.op rfl (aop_field_ref rfl rfl rfl fd27_0 (by decide)) ?_
      refine AR.op (r := i64 g_0.N) rfl (aop_load_ref rfl rfl rfl rfl sz3 rfl) ?_
      refine AR.drop (frx := [(1, _), (9, _), (11, _)]) ⟨rfl, rfl, rfl, trivial⟩ ?_
      refine AR.op (r := bl (decide ((64 : Int) < g_0.N))) rfl (aop_gtr rfl rfl rfl) ?_
      refine AR.op (r := bl (decide ((64 : Int) < g_0.N))) rfl (aop_pick rfl rfl rfl) ?_
      refine AR.op (r := bl (decide ((64 : Int) < g_0.N))) rfl (aop_move (.inl rfl) rfl) ?_
      refine AR.drop (frx := [(1, _), (14, _)]) ⟨rfl, rfl, trivial⟩ ?_
      rcases Bool.eq_false_or_eq_true (decide ((64 : Int) < g_0.N)) with hb137 | hb137
      · rw [hb137]
        replace h := Sh.if_t h hb137
        refine AR.skip rfl ?_
        refine AR.skip rfl ?_
        refine AR.skip rfl ?_
        refine AR.drop (frx := [(1, _), (14, _), (17, _)]) ⟨rfl, rfl, rfl, trivial⟩ ?_
        refine AR.skip rfl ?_
        refine AR.skip rfl ?_
        refine AR.skip rfl ?_
        refine AR.drop (frx := [(1, _), (14, _), (20, _)]) ⟨rfl, rfl, rfl, trivial⟩ ?_
        refine AR.op (r := bl true) rfl (aop_pick rfl rfl rfl) ?_
        refine AR.nil ?_
        exact hK17 true _ h (Weak.re (fr' := [(1, .ref 0 0 0), (21, bl true)]) (H' := ⟨1, [(0, (2, [G.inquestref12_G.av g_0]))]⟩) [(0, 0)] [] rfl rfl rfl (.cons rfl rfl (.one (.same _ (by simp)) rfl) (of_decide_eq_true rfl) (trivial)) ⟨⟨_, rfl, .ref rfl⟩, ⟨_, rfl, .same _ (by simp)⟩, trivial⟩)
      · rw [hb137]
        replace h := Sh.if_f h hb137
        refine AR.op rfl (aop_field_ref rfl rfl rfl fd27_1 (by decide)) ?_
        refine AR.op (r := .sl (List.map u64 g_0.Rows)) rfl (aop_load_ref rfl rfl rfl rfl sz22 rfl) ?_
        refine AR.op (r := i64 (Sh.len g_0.Rows)) rfl (t_len_sl u64 g_0.Rows rfl rfl el22) ?_
        refine AR.drop (frx := [(1, _), (14, _), (17, _)]) ⟨rfl, rfl, rfl, trivial⟩ ?_
        refine AR.op rfl (aop_field_ref rfl rfl rfl fd27_0 (by decide)) ?_
        refine AR.op (r := i64 g_0.N) rfl (aop_load_ref rfl rfl rfl rfl sz3 rfl) ?_
        refine AR.op (r := bl (decide ((Sh.len g_0.Rows) ≠ g_0.N))) rfl (aop_neq rfl rfl rfl) ?_
        refine AR.drop (frx := [(1, _), (14, _), (20, _)]) ⟨rfl, rfl, rfl, trivial⟩ ?_
        refine AR.op (r := bl (decide ((Sh.len g_0.Rows) ≠ g_0.N))) rfl (aop_pick rfl rfl rfl) ?_
        refine AR.nil ?_
        exact hK17 (decide ((Sh.len g_0.Rows) ≠ g_0.N)) _ h (Weak.re (fr' := [(1, .ref 0 0 0), (21, bl (decide ((Sh.len g_0.Rows) ≠ g_0.N)))]) (H' := ⟨1, [(0, (2, [G.inquestref12_G.av g_0]))]⟩) [(0, 0)] [] rfl rfl rfl (.cons rfl rfl (.one (.same _ (by simp)) rfl) (of_decide_eq_true rfl) (trivial)) ⟨⟨_, rfl, .ref rfl⟩, ⟨_, rfl, .same _ (by simp)⟩, trivial⟩)
theorem inquestref12_Right_ok {W0 : World} (hT : Tab W0) {g_0 : G.inquestref12_G} {r : Bool} (h : G.inquestref12_Right g_0 = some r) : Fun1 Tryd.prog W0 13 [G.inquestref12_G.av g_0] (bl r) := Fun1.two (inquestref12_Right_ok0 hT h) (by simp)


set_option maxHeartbeats 8000000 in
set_option maxRecDepth 20000 in
theorem inquestref12_Node_ok0 {W0 : World} (hT : Tab W0) {g_0 : G.inquestref12_G} {a_1 : Int} {r : Bool} (h : G.inquestref12_Node g_0 a_1 = some r) : Fun2 Tryd.prog W0 37 [G.inquestref12_G.av g_0, i64 a_1] (bl r) .empty := by
  refine fun2_of_awp Tryd.func37 rfl (by kernel_rfl) Tryd.ntmps37 (by simp) ?_
  unfold G.inquestref12_Node at h
  show AWP _ _ _ _ ⟨[(0, G.inquestref12_G.av g_0), (1, i64 a_1)], .empty⟩ _
  refine awp_seqK fun K1 hK1 => ?_
  refine awp_reg rfl ?_
  refine AR.op (r := .ref 0 0 0) rfl (aop_box 2 [G.inquestref12_G.av g_0] rfl rfl rfl (.inl ⟨rfl, rfl⟩)) ?_
  refine AR.op (r := bl false) rfl (aop_move (.inr rfl) rfl) ?_
  refine AR.nil ?_
  refine hK1 _ (AWP.weak (Weak.re (fr' := [(1, i64 a_1), (2, .ref 0 0 0)]) (H' := ⟨1, [(0, (2, [G.inquestref12_G.av g_0]))]⟩) [(0, 0)] [] rfl rfl rfl (.cons rfl rfl (.one (.same _ (by simp)) rfl) (of_decide_eq_true rfl) (trivial)) ⟨⟨_, rfl, .same _ (by simp)⟩, ⟨_, rfl, .ref rfl⟩, trivial⟩) ?_)
  clear hK1 K1
  refine awp_seqK fun K2 hK2 => ?_
  refine awp_reg rfl ?_
  refine AR.op (r := i64 a_1) rfl (aop_move (.inl rfl) rfl) ?_
  refine AR.op (r := bl (decide ((0 : Int) ≤ a_1))) rfl (aop_geq rfl rfl rfl) ?_
  refine AR.op (r := bl (decide ((0 : Int) ≤ a_1))) rfl (aop_move (.inl rfl) rfl) ?_
  refine AR.drop (frx := [(1, _), (2, _), (7, _)]) ⟨rfl, rfl, rfl, trivial⟩ ?_
  rcases Bool.eq_false_or_eq_true (decide ((0 : Int) ≤ a_1)) with hb4 | hb4
  · rw [hb4]
    replace h := Sh.if_t h hb4
    refine AR.op (r := i64 a_1) rfl (aop_move (.inl rfl) rfl) ?_
    refine AR.op rfl (aop_field_ref rfl rfl rfl fd27_0 (by decide)) ?_
    refine AR.op (r := i64 g_0.N) rfl (aop_load_ref rfl rfl rfl rfl sz3 rfl) ?_
    refine AR.drop (frx := [(7, _), (8, _), (10, _)]) ⟨rfl, rfl, rfl, trivial⟩ ?_
    refine AR.op (r := bl (decide (a_1 < g_0.N))) rfl (aop_lss rfl rfl rfl) ?_
    refine AR.op (r := bl (decide (a_1 < g_0.N))) rfl (aop_pick rfl rfl rfl) ?_
    refine AR.op (r := bl (decide (a_1 < g_0.N))) rfl (aop_move (.inr rfl) rfl) ?_
    refine AR.nil ?_
    refine hK2 _ (AWP.weak (Weak.re (fr' := [(4, bl (decide (a_1 < g_0.N)))]) (H' := .empty) [] [] rfl rfl rfl (trivial) ⟨⟨_, rfl, .same _ (by simp)⟩, trivial⟩) ?_)
    clear hK2 K2
    refine awp_ret ?_
    obtain rfl := Option.some.inj h
    refine ⟨.inr rfl, bl (decide (a_1 < g_0.N)), rfl, ?_⟩
    exact Weak.re [] [] rfl rfl rfl (trivial) ⟨⟨_, rfl, .same _ (by simp)⟩, trivial⟩
  · rw [hb4]
    replace h := Sh.if_f h hb4
    refine AR.skip rfl ?_
    refine AR.skip rfl ?_
    refine AR.skip rfl ?_
    refine AR.drop (frx := [(7, _), (8, _), (10, _)]) ⟨rfl, rfl, rfl, trivial⟩ ?_
    refine AR.skip rfl ?_
    refine AR.op (r := bl false) rfl (aop_pick rfl rfl rfl) ?_
    refine AR.op (r := bl false) rfl (aop_move (.inr rfl) rfl) ?_
    refine AR.nil ?_
    refine hK2 _ (AWP.weak (Weak.re (fr' := [(4, bl false)]) (H' := .empty) [] [] rfl rfl rfl (trivial) ⟨⟨_, rfl, .same _ (by simp)⟩, trivial⟩) ?_)
    clear hK2 K2
    refine awp_ret ?_
    obtain rfl := Option.some.inj h
    refine ⟨.inr rfl, bl false, rfl, ?_⟩
    exact Weak.re [] [] rfl rfl rfl (trivial) ⟨⟨_, rfl, .same _ (by simp)⟩, trivial⟩
theorem inquestref12_Node_ok {W0 : World} (hT : Tab W0) {g_0 : G.inquestref12_G} {a_1 : Int} {r : Bool} (h : G.inquestref12_Node g_0 a_1 = some r) : Fun1 Tryd.prog W0 37 [G.inquestref12_G.av g_0, i64 a_1] (bl r) := Fun1.two (inquestref12_Node_ok0 hT h) (by simp)


set_option maxHeartbeats 8000000 in
set_option maxRecDepth 20000 in
theorem inquestref12_Has_ok0 {W0 : World} (hT : Tab W0) {g_0 : G.inquestref12_G} {a_1 : Int} {b_2 : Int} {r : Bool} (h : G.inquestref12_Has g_0 a_1 b_2 = some r) : Fun2 Tryd.prog W0 38 [G.inquestref12_G.av g_0, i64 a_1, i64 b_2] (bl r) .empty := by
  refine fun2_of_awp Tryd.func38 rfl (by kernel_rfl) Tryd.ntmps38 (by simp) ?_
  unfold G.inquestref12_Has at h
  show AWP _ _ _ _ ⟨[(0, G.inquestref12_G.av g_0), (1, i64 a_1), (2, i64 b_2)], .empty⟩ _
  refine awp_seqK fun K1 hK1 => ?_
  refine awp_reg rfl ?_
  refine AR.op (r := .ref 0 0 0) rfl (aop_box 2 [G.inquestref12_G.av g_0] rfl rfl rfl (.inl ⟨rfl, rfl⟩)) ?_
  refine AR.op (r := bl false) rfl (aop_move (.inr rfl) rfl) ?_
  refine AR.nil ?_
  refine hK1 _ (AWP.weak (Weak.re (fr' := [(1, i64 a_1), (2, i64 b_2), (3, .ref 0 0 0)]) (H' := ⟨1, [(0, (2, [G.inquestref12_G.av g_0]))]⟩) [(0, 0)] [] rfl rfl rfl (.cons rfl rfl (.one (.same _ (by simp)) rfl) (of_decide_eq_true rfl) (trivial)) ⟨⟨_, rfl, .same _ (by simp)⟩, ⟨_, rfl, .same _ (by simp)⟩, ⟨_, rfl, .ref rfl⟩, trivial⟩) ?_)
  clear hK1 K1
  refine awp_seqK fun K2 hK2 => ?_
  refine awp_reg rfl ?_
  refine AR.op rfl (aop_field_ref rfl rfl rfl fd27_1 (by decide)) ?_
  refine AR.op (r := .sl (List.map u64 g_0.Rows)) rfl (aop_load_ref rfl rfl rfl rfl sz22 rfl) ?_
  refine AR.op (r := i64 a_1) rfl (aop_move (.inl rfl) rfl) ?_
  refine AR.drop (frx := [(2, _), (8, _), (9, _)]) ⟨rfl, rfl, rfl, trivial⟩ ?_
  obtain ⟨x7, hx7, h⟩ := Sh.bind_some' h
  obtain ⟨k8, hi8, hl8⟩ := Sh.idx_some hx7
  refine AR.op rfl (t_index_sl u64 g_0.Rows hi8 hl8 rfl rfl rfl el22 rfl) ?_
  refine AR.op (r := u64 x7) rfl (aop_load_pp rfl rfl sz35 rfl) ?_
  refine AR.op (r := i64 b_2) rfl (aop_move (.inl rfl) rfl) ?_
  refine AR.drop (frx := [(11, _), (12, _)]) ⟨rfl, rfl, trivial⟩ ?_
  obtain ⟨r9, hr9, h⟩ := Sh.bind_some' h
  refine AR.op (r := bl r9) rfl (aop_call1 rfl rfl (by simp) (inquestref10_Has_ok hT hr9)) ?_
  refine AR.op (r := bl r9) rfl (aop_move (.inr rfl) rfl) ?_
  refine AR.nil ?_
  refine hK2 _ (AWP.weak (Weak.re (fr' := [(6, bl r9)]) (H' := .empty) [] [] rfl rfl rfl (trivial) ⟨⟨_, rfl, .same _ (by simp)⟩, trivial⟩) ?_)
  clear hK2 K2
  refine awp_ret ?_
  obtain rfl := Option.some.inj h
  refine ⟨.inr rfl, bl r9, rfl, ?_⟩
  exact Weak.re [] [] rfl rfl rfl (trivial) ⟨⟨_, rfl, .same _ (by simp)⟩, trivial⟩
theorem inquestref12_Has_ok {W0 : World} (hT : Tab W0) {g_0 : G.inquestref12_G} {a_1 : Int} {b_2 : Int} {r : Bool} (h : G.inquestref12_Has g_0 a_1 b_2 = some r) : Fun1 Tryd.prog W0 38 [G.inquestref12_G.av g_0, i64 a_1, i64 b_2] (bl r) := Fun1.two (inquestref12_Has_ok0 hT h) (by simp)


set_option maxHeartbeats 8000000 in
set_option maxRecDepth 20000 in
theorem inquestref12_New_own {W0 : World} (hT : Tab W0) {n_0 : Int} {r : G.inquestref12_G} (h : G.inquestref12_New n_0 = some r) : Fun2 Tryd.prog W0 74 [i64 n_0] (.agg [i64 r.N, .view 0 0 (List.map u64 r.Rows).length]) ⟨1, [(0, (1, List.map u64 r.Rows))]⟩ := by
  refine fun2_of_awp Tryd.func74 rfl (by kernel_rfl) Tryd.ntmps74 (by simp) ?_
  unfold G.inquestref12_New at h
  show AWP _ _ _ _ ⟨[(0, i64 n_0)], .empty⟩ _
  refine awp_seqK fun K1 hK1 => ?_
  refine awp_reg rfl ?_
  refine AR.op (r := .ref 0 0 0) rfl (aop_alloc 2 [.agg [i64 0, nilS]] rfl zr27 (by kernel_rfl) (.inl ⟨rfl, rfl⟩)) ?_
  refine AR.nil ?_
  refine hK1 _ ?_
  clear hK1 K1
  refine awp_seqK fun K2 hK2 => ?_
  refine awp_reg rfl ?_
  refine AR.op (r := i64 n_0) rfl (aop_move (.inl rfl) rfl) ?_
  refine AR.op (r := .agg [i64 n_0, nilS]) rfl (aop_build rfl bd27 rfl rfl rfl) ?_
  refine AR.op (r := .ref 1 0 0) rfl (aop_alloc 2 [.agg [i64 0, nilS]] rfl zr27 (by kernel_rfl) (.inl ⟨rfl, rfl⟩)) ?_
  refine AR.drop (frx := [(0, _), (2, _), (6, _), (3, _)]) ⟨rfl, rfl, rfl, rfl, trivial⟩ ?_
  refine AR.op rfl (aop_store (e' := .agg [i64 n_0, nilS]) rfl rfl rfl rfl rfl rfl sz27 rfl (of_decide_eq_true rfl) rfl) ?_
  refine AR.nil ?_
  refine hK2 _ (AWP.weak (Weak.re (fr' := [(0, i64 n_0), (2, .ref 0 0 0), (3, .ref 1 0 0)]) (H' := ⟨2, [(0, (2, [.agg [i64 0, nilS]])), (1, (2, [.agg [i64 n_0, nilS]]))]⟩) [(0, 0), (1, 1)] [] rfl rfl rfl (.cons rfl rfl (.one (.same _ (by simp)) rfl) (of_decide_eq_true rfl) (.cons rfl rfl (.one (.same _ (by simp)) rfl) (of_decide_eq_true rfl) (trivial))) ⟨⟨_, rfl, .same _ (by simp)⟩, ⟨_, rfl, .ref rfl⟩, ⟨_, rfl, .ref rfl⟩, trivial⟩) ?_)
  clear hK2 K2
  refine awp_seqJ (fun (p : (List (BitVec 64))) => (⟨[(2, .ref 0 0 0), (3, .ref 1 0 0)], ⟨3, [(0, (2, [.agg [i64 0, nilS]])), (1, (2, [.agg [i64 n_0, .view 2 0 (List.map u64 p).length]])), (2, (1, List.map u64 p))]⟩⟩ : St)) (fun (p : (List (BitVec 64))) => G.inquestref12_New_j1 n_0 p = some r) ?_ ?_
  · rintro v15 h
    replace h : G.inquestref12_New_j1 n_0 v15 = some r := h
    unfold G.inquestref12_New_j1 at h
    show AWP _ _ _ _ ⟨[(2, .ref 0 0 0), (3, .ref 1 0 0)], ⟨3, [(0, (2, [.agg [i64 0, nilS]])), (1, (2, [.agg [i64 n_0, .view 2 0 (List.map u64 v15).length]])), (2, (1, List.map u64 v15))]⟩⟩ _
    refine awp_seqK fun K3 hK3 => ?_
    refine awp_reg rfl ?_
    refine AR.op (r := .agg [i64 n_0, .view 2 0 (List.map u64 v15).length]) rfl (aop_load_ref rfl rfl rfl rfl sz27 rfl) ?_
    refine AR.op rfl (aop_store (e' := .agg [i64 n_0, .view 2 0 (List.map u64 v15).length]) rfl rfl rfl rfl rfl rfl sz27 rfl (of_decide_eq_true rfl) rfl) ?_
    refine AR.nil ?_
    refine hK3 _ (AWP.weak (Weak.re (fr' := [(2, .ref 0 0 0)]) (H' := ⟨2, [(0, (2, [.agg [i64 n_0, .view 1 0 (List.map u64 v15).length]])), (1, (1, List.map u64 v15))]⟩) [(0, 0), (1, 2)] [] rfl rfl rfl (.cons rfl rfl (.one (.ag ⟨.same _ (by simp), .view rfl, trivial⟩) rfl) (of_decide_eq_true rfl) (.cons rfl rfl (.same (by simp)) (of_decide_eq_true rfl) (trivial))) ⟨⟨_, rfl, .ref rfl⟩, trivial⟩) ?_)
    clear hK3 K3
    refine awp_ret ?_
    obtain rfl := Option.some.inj h
    refine ⟨.inr rfl, .agg [i64 n_0, .view 1 0 (List.map u64 v15).length], rfl, ?_⟩
    exact Weak.re [(0, 1)] [] rfl rfl rfl (.cons rfl rfl (.same (by simp)) (of_decide_eq_true rfl) (trivial)) ⟨⟨.agg [i64 n_0, .view 1 0 (List.map u64 v15).length], rfl, .ag ⟨.same _ (by simp), .view rfl, trivial⟩⟩, trivial⟩
  · intro K4 hK4
    refine awp_seqK fun K5 hK5 => ?_
    refine awp_reg rfl ?_
    refine AR.op (r := i64 0) rfl (aop_move (.inr rfl) rfl) ?_
    refine AR.nil ?_
    refine hK5 _ ?_
    clear hK5 K5
    refine awp_block ?_
    refine awp_iter (fun (p : (List (BitVec 64)) × Int) => G.inquestref12_New_b1 n_0 p.1 p.2) (fun (p : (List (BitVec 64)) × Int) => (⟨[(0, i64 n_0), (2, .ref 0 0 0), (3, .ref 1 0 0), (4, i64 p.2)], ⟨3, [(0, (2, [.agg [i64 0, nilS]])), (1, (2, [.agg [i64 n_0, .view 2 0 (List.map u64 p.1).length]])), (2, (1, List.map u64 p.1))]⟩⟩ : St)) h (Weak.re (fr' := [(0, i64 n_0), (2, .ref 0 0 0), (3, .ref 1 0 0), (4, i64 0)]) (H' := ⟨3, [(0, (2, [.agg [i64 0, nilS]])), (1, (2, [.agg [i64 n_0, .view 2 0 (List.map u64 []).length]])), (2, (1, List.map u64 []))]⟩) [(0, 0), (1, 1)] [2] rfl rfl rfl (.cons rfl rfl (.one (.same _ (by simp)) rfl) (of_decide_eq_true rfl) (.cons rfl rfl (.one (.ag ⟨.same _ (by simp), .nil (by simp), trivial⟩) rfl) (of_decide_eq_true rfl) (.fresh (by simp) (of_decide_eq_true rfl) (trivial)))) ⟨⟨_, rfl, .same _ (by simp)⟩, ⟨_, rfl, .ref rfl⟩, ⟨_, rfl, .ref rfl⟩, ⟨_, rfl, .same _ (by simp)⟩, trivial⟩) ?_
    · skip
      rintro ⟨gRows20, i21⟩ o1 h hx1
      replace h : G.inquestref12_New_b1 n_0 gRows20 i21 = some o1 := h
      unfold G.inquestref12_New_b1 at h
      show AWP _ _ _ _ ⟨[(0, i64 n_0), (2, .ref 0 0 0), (3, .ref 1 0 0), (4, i64 i21)], ⟨3, [(0, (2, [.agg [i64 0, nilS]])), (1, (2, [.agg [i64 n_0, .view 2 0 (List.map u64 gRows20).length]])), (2, (1, List.map u64 gRows20))]⟩⟩ _
      refine awp_seqK fun K6 hK6 => ?_
      refine awp_seqK fun K7 hK7 => ?_
      refine awp_reg rfl ?_
      refine AR.op (r := i64 i21) rfl (aop_move (.inl rfl) rfl) ?_
      refine AR.op (r := i64 n_0) rfl (aop_move (.inl rfl) rfl) ?_
      refine AR.op (r := bl (decide (i21 < n_0))) rfl (aop_lss rfl rfl rfl) ?_
      refine AR.nil ?_
      refine hK7 _ (AWP.weak (Weak.re (fr' := [(0, i64 n_0), (2, .ref 0 0 0), (3, .ref 1 0 0), (4, i64 i21), (9, bl (decide (i21 < n_0)))]) (H' := ⟨3, [(0, (2, [.agg [i64 0, nilS]])), (1, (2, [.agg [i64 n_0, .view 2 0 (List.map u64 gRows20).length]])), (2, (1, List.map u64 gRows20))]⟩) [(0, 0), (1, 1), (2, 2)] [] rfl rfl rfl (.cons rfl rfl (.one (.same _ (by simp)) rfl) (of_decide_eq_true rfl) (.cons rfl rfl (.one (.ag ⟨.same _ (by simp), .view rfl, trivial⟩) rfl) (of_decide_eq_true rfl) (.cons rfl rfl (.same (by simp)) (of_decide_eq_true rfl) (trivial)))) ⟨⟨_, rfl, .same _ (by simp)⟩, ⟨_, rfl, .ref rfl⟩, ⟨_, rfl, .ref rfl⟩, ⟨_, rfl, .same _ (by simp)⟩, ⟨_, rfl, .same _ (by simp)⟩, trivial⟩) ?_)
      clear hK7 K7
      refine awp_cond rfl (fun hb22 => ?_) (fun hb22 => ?_)
      · replace h := Sh.if_t h hb22
        refine awp_skip ?_
        refine hK6 _ (AWP.weak (Weak.re (fr' := [(0, i64 n_0), (2, .ref 0 0 0), (3, .ref 1 0 0), (4, i64 i21)]) (H' := ⟨3, [(0, (2, [.agg [i64 0, nilS]])), (1, (2, [.agg [i64 n_0, .view 2 0 (List.map u64 gRows20).length]])), (2, (1, List.map u64 gRows20))]⟩) [(0, 0), (1, 1), (2, 2)] [] rfl rfl rfl (.cons rfl rfl (.one (.same _ (by simp)) rfl) (of_decide_eq_true rfl) (.cons rfl rfl (.one (.ag ⟨.same _ (by simp), .view rfl, trivial⟩) rfl) (of_decide_eq_true rfl) (.cons rfl rfl (.same (by simp)) (of_decide_eq_true rfl) (trivial)))) ⟨⟨_, rfl, .same _ (by simp)⟩, ⟨_, rfl, .ref rfl⟩, ⟨_, rfl, .ref rfl⟩, ⟨_, rfl, .same _ (by simp)⟩, trivial⟩) ?_)
        clear hK6 K6
        refine awp_seqK fun K8 hK8 => ?_
        refine awp_block ?_
        refine awp_reg rfl ?_
        refine AR.op rfl (aop_field_ref rfl rfl rfl fd27_1 (by decide)) ?_
        refine AR.op (r := .view 2 0 (List.map u64 gRows20).length) rfl (aop_load_ref rfl rfl rfl rfl sz22 rfl) ?_
        refine AR.op (r := .clip (List.map u64 [0#64])) rfl (aop_buildSlice rfl (xo := [.const (.int .u64 0)]) rfl rfl rfl (by simp [AV.solid]) (by simp [AV.flat]) el22 ze22 (by decide)) ?_
        refine AR.drop (frx := [(0, _), (2, _), (3, _), (4, _), (13, _), (14, _)]) ⟨rfl, rfl, rfl, rfl, rfl, rfl, trivial⟩ ?_
        obtain ⟨l24, hl24, h⟩ := Sh.bind_some' h
        refine AR.op (r := .view 3 0 (List.map u64 l24).length) rfl (t_app_view u64 gRows20 [0#64] l24 hl24 rfl et22 (fun _ => rfl) rfl rfl rfl rfl rfl rfl rfl) ?_
        refine AR.op rfl (aop_field_ref rfl rfl rfl fd27_1 (by decide)) ?_
        refine AR.op rfl (aop_store (e' := .agg [i64 n_0, .view 3 0 (List.map u64 l24).length]) rfl rfl rfl rfl rfl rfl sz22 rfl (of_decide_eq_true rfl) rfl) ?_
        refine AR.nil ?_
        refine hK8 _ (AWP.weak (Weak.re (fr' := [(0, i64 n_0), (2, .ref 0 0 0), (3, .ref 1 0 0), (4, i64 i21)]) (H' := ⟨3, [(0, (2, [.agg [i64 0, nilS]])), (1, (2, [.agg [i64 n_0, .view 2 0 (List.map u64 l24).length]])), (2, (1, List.map u64 l24))]⟩) [(0, 0), (1, 1), (2, 3)] [] rfl rfl rfl (.cons rfl rfl (.one (.same _ (by simp)) rfl) (of_decide_eq_true rfl) (.cons rfl rfl (.one (.ag ⟨.same _ (by simp), .view rfl, trivial⟩) rfl) (of_decide_eq_true rfl) (.cons rfl rfl (.same (by simp)) (of_decide_eq_true rfl) (trivial)))) ⟨⟨_, rfl, .same _ (by simp)⟩, ⟨_, rfl, .ref rfl⟩, ⟨_, rfl, .ref rfl⟩, ⟨_, rfl, .same _ (by simp)⟩, trivial⟩) ?_)
        clear hK8 K8
        refine awp_reg rfl ?_
        refine AR.op (r := i64 i21) rfl (aop_move (.inl rfl) rfl) ?_
        refine AR.op (r := i64 (w64 (i21 + 1))) rfl (aop_add rfl rfl rfl rfl) ?_
        refine AR.op (r := i64 (w64 (i21 + 1))) rfl (aop_move (.inr rfl) rfl) ?_
        refine AR.nil ?_
        replace h := Sh.next_eq h
        exact ⟨_, h, Weak.re (fr' := [(0, i64 n_0), (2, .ref 0 0 0), (3, .ref 1 0 0), (4, i64 (w64 (i21 + 1)))]) (H' := ⟨3, [(0, (2, [.agg [i64 0, nilS]])), (1, (2, [.agg [i64 n_0, .view 2 0 (List.map u64 l24).length]])), (2, (1, List.map u64 l24))]⟩) [(0, 0), (1, 1), (2, 2)] [] rfl rfl rfl (.cons rfl rfl (.one (.same _ (by simp)) rfl) (of_decide_eq_true rfl) (.cons rfl rfl (.one (.ag ⟨.same _ (by simp), .view rfl, trivial⟩) rfl) (of_decide_eq_true rfl) (.cons rfl rfl (.same (by simp)) (of_decide_eq_true rfl) (trivial)))) ⟨⟨_, rfl, .same _ (by simp)⟩, ⟨_, rfl, .ref rfl⟩, ⟨_, rfl, .ref rfl⟩, ⟨_, rfl, .same _ (by simp)⟩, trivial⟩⟩
      · replace h := Sh.if_f h hb22
        refine awp_exit ?_
        replace h := Sh.exit_eq h hx1
        exact hK4 gRows20 _ h (Weak.re (fr' := [(2, .ref 0 0 0), (3, .ref 1 0 0)]) (H' := ⟨3, [(0, (2, [.agg [i64 0, nilS]])), (1, (2, [.agg [i64 n_0, .view 2 0 (List.map u64 gRows20).length]])), (2, (1, List.map u64 gRows20))]⟩) [(0, 0), (1, 1), (2, 2)] [] rfl rfl rfl (.cons rfl rfl (.one (.same _ (by simp)) rfl) (of_decide_eq_true rfl) (.cons rfl rfl (.one (.ag ⟨.same _ (by simp), .view rfl, trivial⟩) rfl) (of_decide_eq_true rfl) (.cons rfl rfl (.same (by simp)) (of_decide_eq_true rfl) (trivial)))) ⟨⟨_, rfl, .ref rfl⟩, ⟨_, rfl, .ref rfl⟩, trivial⟩)
theorem inquestref12_New_ok {W0 : World} (hT : Tab W0) {n_0 : Int} {r : G.inquestref12_G} (h : G.inquestref12_New n_0 = some r) : Fun1 Tryd.prog W0 74 [i64 n_0] (G.inquestref12_G.av r) :=
  (inquestref12_New_own hT h).give (Weak.re [] [] rfl rfl rfl trivial ⟨⟨_, rfl, .ag ⟨.same _ (by simp), .lendAll rfl rfl (by simp), trivial⟩⟩, trivial⟩) (by simp)

end Wk
