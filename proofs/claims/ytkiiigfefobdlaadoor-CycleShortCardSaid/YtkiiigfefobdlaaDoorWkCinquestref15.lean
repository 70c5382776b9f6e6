/- That the functions of a package do what their plain functions say. -/
import Derived.Test.YtkiiigfefobdlaaDoorSh
import Derived.Test.YtkiiigfefobdlaaDoorWkCFacts
import Derived.Test.YtkiiigfefobdlaaDoorWkCinquestref12
open Go Go.Av Go.Proofs
set_option linter.unusedVariables false
namespace Wk
set_option maxHeartbeats 8000000 in
set_option maxRecDepth 20000 in
theorem inquestref15_Is_ok0 {W0 : World} (hT : Tab W0) {g_0 : G.inquestref12_G} {l_1 : List Int} {r : Bool} (h : G.inquestref15_Is g_0 l_1 = some r) : Fun2 Tryd.prog W0 15 [G.inquestref12_G.av g_0, .sl (List.map i64 l_1)] (bl r) .empty := by
  refine fun2_of_awp Tryd.func15 rfl (by kernel_rfl) Tryd.ntmps15 (by simp) ?_
  unfold G.inquestref15_Is at h
  show AWP _ _ _ _ ⟨[(0, G.inquestref12_G.av g_0), (1, .sl (List.map i64 l_1))], .empty⟩ _
  refine awp_seqK fun K1 hK1 => ?_
  refine awp_reg rfl ?_
  refine AR.op (r := .ref 0 0 0) rfl (aop_box 2 [G.inquestref12_G.av g_0] rfl rfl rfl (.inl ⟨rfl, rfl⟩)) ?_
  refine AR.op (r := bl false) rfl (aop_move (.inr rfl) rfl) ?_
  refine AR.nil ?_
  refine hK1 _ (AWP.weak (Weak.re (fr' := [(1, .sl (List.map i64 l_1)), (2, .ref 0 0 0)]) (H' := ⟨1, [(0, (2, [G.inquestref12_G.av g_0]))]⟩) [(0, 0)] [] rfl rfl rfl (.cons rfl rfl (.one (.same _ (by simp)) rfl) (of_decide_eq_true rfl) (trivial)) ⟨⟨.sl (List.map i64 l_1), rfl, .same _ (by simp)⟩, ⟨_, rfl, .ref rfl⟩, trivial⟩) ?_)
  clear hK1 K1
  refine awp_seqK fun K2 hK2 => ?_
  refine awp_reg rfl ?_
  refine AR.op (r := G.inquestref12_G.av g_0) rfl (aop_load_ref rfl rfl rfl rfl sz27 rfl) ?_
  obtain ⟨r78, hr78, h⟩ := Sh.bind_some' h
  refine AR.op (r := bl r78) rfl (aop_call1 rfl rfl (by simp) (inquestref12_Right_ok hT hr78)) ?_
  refine AR.op (r := bl r78) rfl (aop_move (.inr rfl) rfl) ?_
  refine AR.nil ?_
  refine hK2 _ (AWP.weak (Weak.re (fr' := [(1, .sl (List.map i64 l_1)), (2, .ref 0 0 0), (5, bl r78)]) (H' := ⟨1, [(0, (2, [G.inquestref12_G.av g_0]))]⟩) [(0, 0)] [] rfl rfl rfl (.cons rfl rfl (.one (.same _ (by simp)) rfl) (of_decide_eq_true rfl) (trivial)) ⟨⟨.sl (List.map i64 l_1), rfl, .same _ (by simp)⟩, ⟨_, rfl, .ref rfl⟩, ⟨_, rfl, .same _ (by simp)⟩, trivial⟩) ?_)
  clear hK2 K2
  refine awp_seqK fun K3 hK3 => ?_
  refine awp_seqJ (fun (p : Bool) => (⟨[(1, .sl (List.map i64 l_1)), (2, .ref 0 0 0), (18, bl p)], ⟨1, [(0, (2, [G.inquestref12_G.av g_0]))]⟩⟩ : St)) (fun (p : Bool) => G.inquestref15_Is_j1 g_0 l_1 p = some r) ?_ ?_
  · rintro v82 h
    replace h : G.inquestref15_Is_j1 g_0 l_1 v82 = some r := h
    unfold G.inquestref15_Is_j1 at h
    show AWP _ _ _ _ ⟨[(1, .sl (List.map i64 l_1)), (2, .ref 0 0 0), (18, bl v82)], ⟨1, [(0, (2, [G.inquestref12_G.av g_0]))]⟩⟩ _
    refine awp_cond rfl (fun hb83 => ?_) (fun hb83 => ?_)
    · replace h := Sh.if_t h hb83
      refine awp_seqK fun K4 hK4 => ?_
      refine awp_reg rfl ?_
      refine AR.op (r := bl false) rfl (aop_move (.inr rfl) rfl) ?_
      refine AR.nil ?_
      refine hK4 _ (AWP.weak (Weak.re (fr' := [(4, bl false)]) (H' := .empty) [] [] rfl rfl rfl (trivial) ⟨⟨_, rfl, .same _ (by simp)⟩, trivial⟩) ?_)
      clear hK4 K4
      refine awp_ret ?_
      obtain rfl := Option.some.inj h
      refine ⟨.inr rfl, bl false, rfl, ?_⟩
      exact Weak.re [] [] rfl rfl rfl (trivial) ⟨⟨_, rfl, .same _ (by simp)⟩, trivial⟩
    · replace h := Sh.if_f h hb83
      refine awp_skip ?_
      refine hK3 _ (AWP.weak (Weak.re (fr' := [(1, .sl (List.map i64 l_1)), (2, .ref 0 0 0)]) (H' := ⟨1, [(0, (2, [G.inquestref12_G.av g_0]))]⟩) [(0, 0)] [] rfl rfl rfl (.cons rfl rfl (.one (.same _ (by simp)) rfl) (of_decide_eq_true rfl) (trivial)) ⟨⟨.sl (List.map i64 l_1), rfl, .same _ (by simp)⟩, ⟨_, rfl, .ref rfl⟩, trivial⟩) ?_)
      clear hK3 K3
      refine awp_seqJ (fun (p : Unit) => (⟨[(1, .sl (List.map i64 l_1)), (2, .ref 0 0 0)], ⟨1, [(0, (2, [G.inquestref12_G.av g_0]))]⟩⟩ : St)) (fun (p : Unit) => G.inquestref15_Is_j2 g_0 l_1 = some r) ?_ ?_
      · rintro ⟨⟩ h
        replace h : G.inquestref15_Is_j2 g_0 l_1 = some r := h
        unfold G.inquestref15_Is_j2 at h
        show AWP _ _ _ _ ⟨[(1, .sl (List.map i64 l_1)), (2, .ref 0 0 0)], ⟨1, [(0, (2, [G.inquestref12_G.av g_0]))]⟩⟩ _
        refine awp_seqJ (fun (p : Unit) => (⟨[], .empty⟩ : St)) (fun (p : Unit) => G.inquestref15_Is_j3 = some r) ?_ ?_
        · rintro ⟨⟩ h
          replace h : G.inquestref15_Is_j3 = some r := h
          unfold G.inquestref15_Is_j3 at h
          show AWP _ _ _ _ ⟨[], .empty⟩ _
          refine awp_seqK fun K5 hK5 => ?_
          refine awp_reg rfl ?_
          refine AR.op (r := bl true) rfl (aop_move (.inr rfl) rfl) ?_
          refine AR.nil ?_
          refine hK5 _ ?_
          clear hK5 K5
          refine awp_ret ?_
          obtain rfl := Option.some.inj h
          refine ⟨.inr rfl, bl true, rfl, ?_⟩
          exact Weak.re [] [] rfl rfl rfl (trivial) ⟨⟨_, rfl, .same _ (by simp)⟩, trivial⟩
        · intro K6 hK6
          refine awp_seqK fun K7 hK7 => ?_
          refine awp_reg rfl ?_
          refine AR.op (r := i64 0) rfl (aop_move (.inr rfl) rfl) ?_
          refine AR.nil ?_
          refine hK7 _ ?_
          clear hK7 K7
          refine awp_block ?_
          refine awp_iter (fun (p : Int) => G.inquestref15_Is_b1 g_0 l_1 p) (fun (p : Int) => (⟨[(1, .sl (List.map i64 l_1)), (2, .ref 0 0 0), (8, i64 p)], ⟨1, [(0, (2, [G.inquestref12_G.av g_0]))]⟩⟩ : St)) h (Weak.re (fr' := [(1, .sl (List.map i64 l_1)), (2, .ref 0 0 0), (8, i64 0)]) (H' := ⟨1, [(0, (2, [G.inquestref12_G.av g_0]))]⟩) [(0, 0)] [] rfl rfl rfl (.cons rfl rfl (.one (.same _ (by simp)) rfl) (of_decide_eq_true rfl) (trivial)) ⟨⟨.sl (List.map i64 l_1), rfl, .same _ (by simp)⟩, ⟨_, rfl, .ref rfl⟩, ⟨_, rfl, .same _ (by simp)⟩, trivial⟩) ?_
          · skip
            rintro i170 o1 h hx1
            replace h : G.inquestref15_Is_b1 g_0 l_1 i170 = some o1 := h
            unfold G.inquestref15_Is_b1 at h
            show AWP _ _ _ _ ⟨[(1, .sl (List.map i64 l_1)), (2, .ref 0 0 0), (8, i64 i170)], ⟨1, [(0, (2, [G.inquestref12_G.av g_0]))]⟩⟩ _
            refine awp_seqK fun K8 hK8 => ?_
            refine awp_seqK fun K9 hK9 => ?_
            refine awp_reg rfl ?_
            refine AR.op (r := i64 i170) rfl (aop_move (.inl rfl) rfl) ?_
            refine AR.op (r := .sl (List.map i64 l_1)) rfl (aop_move (.inl rfl) rfl) ?_
            refine AR.op (r := i64 (Sh.len l_1)) rfl (t_len_sl i64 l_1 rfl rfl el25) ?_
            refine AR.drop (frx := [(1, _), (2, _), (8, _), (46, _), (48, _)]) ⟨rfl, rfl, rfl, rfl, rfl, trivial⟩ ?_
            refine AR.op (r := bl (decide (i170 < (Sh.len l_1)))) rfl (aop_lss rfl rfl rfl) ?_
            refine AR.nil ?_
            refine hK9 _ (AWP.weak (Weak.re (fr' := [(1, .sl (List.map i64 l_1)), (2, .ref 0 0 0), (8, i64 i170), (49, bl (decide (i170 < (Sh.len l_1))))]) (H' := ⟨1, [(0, (2, [G.inquestref12_G.av g_0]))]⟩) [(0, 0)] [] rfl rfl rfl (.cons rfl rfl (.one (.same _ (by simp)) rfl) (of_decide_eq_true rfl) (trivial)) ⟨⟨.sl (List.map i64 l_1), rfl, .same _ (by simp)⟩, ⟨_, rfl, .ref rfl⟩, ⟨_, rfl, .same _ (by simp)⟩, ⟨_, rfl, .same _ (by simp)⟩, trivial⟩) ?_)
            clear hK9 K9
            refine awp_cond rfl (fun hb171 => ?_) (fun hb171 => ?_)
            · replace h := Sh.if_t h hb171
              refine awp_skip ?_
              refine hK8 _ (AWP.weak (Weak.re (fr' := [(1, .sl (List.map i64 l_1)), (2, .ref 0 0 0), (8, i64 i170)]) (H' := ⟨1, [(0, (2, [G.inquestref12_G.av g_0]))]⟩) [(0, 0)] [] rfl rfl rfl (.cons rfl rfl (.one (.same _ (by simp)) rfl) (of_decide_eq_true rfl) (trivial)) ⟨⟨.sl (List.map i64 l_1), rfl, .same _ (by simp)⟩, ⟨_, rfl, .ref rfl⟩, ⟨_, rfl, .same _ (by simp)⟩, trivial⟩) ?_)
              clear hK8 K8
              refine awp_seqK fun K10 hK10 => ?_
              refine awp_block ?_
              refine awp_seqK fun K11 hK11 => ?_
              refine awp_any (by kernel_rfl) (by kernel_rfl) rfl ?_
              refine ARH.op (r := G.inquestref12_G.av g_0) rfl rfl (aop_load_ref rfl rfl rfl rfl sz27 rfl) ?_
              refine ARH.dry (r := .sl (List.map i64 l_1)) rfl (fun _ => aop_move (.inl rfl) rfl) ?_
              refine ARH.dry (r := i64 i170) rfl (fun _ => aop_move (.inl rfl) rfl) ?_
              refine ARH.drop (frx := [(1, _), (2, _), (8, _), (52, _), (53, _), (54, _)]) ⟨rfl, rfl, rfl, rfl, rfl, rfl, trivial⟩ ?_
              obtain ⟨x184, hx184, h⟩ := Sh.bind_some' h
              obtain ⟨k185, hi185, hl185⟩ := Sh.idx_some hx184
              refine ARH.op rfl rfl (t_index_sl i64 l_1 hi185 hl185 rfl rfl rfl el25 rfl) ?_
              refine ARH.op (r := i64 x184) rfl rfl (aop_load_pp rfl rfl sz3 rfl) ?_
              refine ARH.dry (r := .sl (List.map i64 l_1)) rfl (fun _ => aop_move (.inl rfl) rfl) ?_
              refine ARH.drop (frx := [(1, _), (2, _), (8, _), (52, _), (56, _), (57, _)]) ⟨rfl, rfl, rfl, rfl, rfl, rfl, trivial⟩ ?_
              refine ARH.dry (r := i64 i170) rfl (fun _ => aop_move (.inl rfl) rfl) ?_
              refine ARH.dry (r := i64 (w64 (i170 + 1))) rfl (fun _ => aop_add rfl rfl rfl rfl) ?_
              refine ARH.dry (r := .sl (List.map i64 l_1)) rfl (fun _ => aop_move (.inl rfl) rfl) ?_
              refine ARH.drop (frx := [(1, _), (2, _), (8, _), (52, _), (56, _), (57, _), (59, _), (60, _)]) ⟨rfl, rfl, rfl, rfl, rfl, rfl, rfl, rfl, trivial⟩ ?_
              refine ARH.op (r := i64 (Sh.len l_1)) rfl rfl (t_len_sl i64 l_1 rfl rfl el25) ?_
              obtain ⟨q186, hq186, h⟩ := Sh.bind_some' h
              refine ARH.dry (r := i64 q186) rfl (fun _ => aop_rem rfl rfl rfl (Sh.rem_some hq186).1 (Sh.rem_some hq186).2) ?_
              obtain ⟨x187, hx187, h⟩ := Sh.bind_some' h
              obtain ⟨k188, hi188, hl188⟩ := Sh.idx_some hx187
              refine ARH.op rfl rfl (t_index_sl i64 l_1 hi188 hl188 rfl rfl rfl el25 rfl) ?_
              refine ARH.drop (frx := [(1, _), (2, _), (8, _), (52, _), (56, _), (63, _)]) ⟨rfl, rfl, rfl, rfl, rfl, rfl, trivial⟩ ?_
              refine ARH.op (r := i64 x187) rfl rfl (aop_load_pp rfl rfl sz3 rfl) ?_
              obtain ⟨r189, hr189, h⟩ := Sh.bind_some' h
              refine ARH.op (r := bl r189) rfl rfl (aop_call1 rfl rfl (by simp) (inquestref12_Has_ok hT hr189)) ?_
              refine ARH.dry (r := bl r189) rfl (fun _ => aop_move (.inr rfl) rfl) ?_
              refine ARH.nil ?_
              refine hK11 _ (AWP.weak (Weak.re (fr' := [(1, .sl (List.map i64 l_1)), (2, .ref 0 0 0), (8, i64 i170), (9, bl r189)]) (H' := ⟨1, [(0, (2, [G.inquestref12_G.av g_0]))]⟩) [(0, 0)] [] rfl rfl rfl (.cons rfl rfl (.one (.same _ (by simp)) rfl) (of_decide_eq_true rfl) (trivial)) ⟨⟨.sl (List.map i64 l_1), rfl, .same _ (by simp)⟩, ⟨_, rfl, .ref rfl⟩, ⟨_, rfl, .same _ (by simp)⟩, ⟨_, rfl, .same _ (by simp)⟩, trivial⟩) ?_)
              clear hK11 K11
              refine awp_seqK fun K12 hK12 => ?_
              refine awp_reg rfl ?_
              refine AR.op (r := bl r189) rfl (aop_move (.inl rfl) rfl) ?_
              refine AR.op (r := bl (!r189)) rfl (aop_not rfl rfl) ?_
              refine AR.nil ?_
              refine hK12 _ (AWP.weak (Weak.re (fr' := [(1, .sl (List.map i64 l_1)), (2, .ref 0 0 0), (8, i64 i170), (67, bl (!r189))]) (H' := ⟨1, [(0, (2, [G.inquestref12_G.av g_0]))]⟩) [(0, 0)] [] rfl rfl rfl (.cons rfl rfl (.one (.same _ (by simp)) rfl) (of_decide_eq_true rfl) (trivial)) ⟨⟨.sl (List.map i64 l_1), rfl, .same _ (by simp)⟩, ⟨_, rfl, .ref rfl⟩, ⟨_, rfl, .same _ (by simp)⟩, ⟨_, rfl, .same _ (by simp)⟩, trivial⟩) ?_)
              clear hK12 K12
              refine awp_cond rfl (fun hb190 => ?_) (fun hb190 => ?_)
              · replace h := Sh.if_t h hb190
                refine awp_seqK fun K13 hK13 => ?_
                refine awp_reg rfl ?_
                refine AR.op (r := bl false) rfl (aop_move (.inr rfl) rfl) ?_
                refine AR.nil ?_
                refine hK13 _ (AWP.weak (Weak.re (fr' := [(4, bl false)]) (H' := .empty) [] [] rfl rfl rfl (trivial) ⟨⟨_, rfl, .same _ (by simp)⟩, trivial⟩) ?_)
                clear hK13 K13
                refine awp_ret ?_
                replace h := Sh.exit_eq h hx1
                obtain rfl := Option.some.inj h
                refine ⟨.inr rfl, bl false, rfl, ?_⟩
                exact Weak.re [] [] rfl rfl rfl (trivial) ⟨⟨_, rfl, .same _ (by simp)⟩, trivial⟩
              · replace h := Sh.if_f h hb190
                refine awp_skip ?_
                refine hK10 _ (AWP.weak (Weak.re (fr' := [(1, .sl (List.map i64 l_1)), (2, .ref 0 0 0), (8, i64 i170)]) (H' := ⟨1, [(0, (2, [G.inquestref12_G.av g_0]))]⟩) [(0, 0)] [] rfl rfl rfl (.cons rfl rfl (.one (.same _ (by simp)) rfl) (of_decide_eq_true rfl) (trivial)) ⟨⟨.sl (List.map i64 l_1), rfl, .same _ (by simp)⟩, ⟨_, rfl, .ref rfl⟩, ⟨_, rfl, .same _ (by simp)⟩, trivial⟩) ?_)
                clear hK10 K10
                refine awp_reg rfl ?_
                refine AR.op (r := i64 i170) rfl (aop_move (.inl rfl) rfl) ?_
                refine AR.op (r := i64 (w64 (i170 + 1))) rfl (aop_add rfl rfl rfl rfl) ?_
                refine AR.op (r := i64 (w64 (i170 + 1))) rfl (aop_move (.inr rfl) rfl) ?_
                refine AR.nil ?_
                replace h := Sh.next_eq h
                exact ⟨_, h, Weak.re (fr' := [(1, .sl (List.map i64 l_1)), (2, .ref 0 0 0), (8, i64 (w64 (i170 + 1)))]) (H' := ⟨1, [(0, (2, [G.inquestref12_G.av g_0]))]⟩) [(0, 0)] [] rfl rfl rfl (.cons rfl rfl (.one (.same _ (by simp)) rfl) (of_decide_eq_true rfl) (trivial)) ⟨⟨.sl (List.map i64 l_1), rfl, .same _ (by simp)⟩, ⟨_, rfl, .ref rfl⟩, ⟨_, rfl, .same _ (by simp)⟩, trivial⟩⟩
            · replace h := Sh.if_f h hb171
              refine awp_exit ?_
              replace h := Sh.exit_eq h hx1
              exact hK6 () _ h (Weak.re (fr' := []) (H' := .empty) [] [] rfl rfl rfl (trivial) trivial)
      · intro K14 hK14
        refine awp_seqK fun K15 hK15 => ?_
        refine awp_reg rfl ?_
        refine AR.op (r := i64 0) rfl (aop_move (.inr rfl) rfl) ?_
        refine AR.nil ?_
        refine hK15 _ ?_
        clear hK15 K15
        refine awp_block ?_
        refine awp_iter (fun (p : Int) => G.inquestref15_Is_b2 g_0 l_1 p) (fun (p : Int) => (⟨[(1, .sl (List.map i64 l_1)), (2, .ref 0 0 0), (6, i64 p)], ⟨1, [(0, (2, [G.inquestref12_G.av g_0]))]⟩⟩ : St)) h (Weak.re (fr' := [(1, .sl (List.map i64 l_1)), (2, .ref 0 0 0), (6, i64 0)]) (H' := ⟨1, [(0, (2, [G.inquestref12_G.av g_0]))]⟩) [(0, 0)] [] rfl rfl rfl (.cons rfl rfl (.one (.same _ (by simp)) rfl) (of_decide_eq_true rfl) (trivial)) ⟨⟨.sl (List.map i64 l_1), rfl, .same _ (by simp)⟩, ⟨_, rfl, .ref rfl⟩, ⟨_, rfl, .same _ (by simp)⟩, trivial⟩) ?_
        · skip
          rintro i226 o2 h hx2
          replace h : G.inquestref15_Is_b2 g_0 l_1 i226 = some o2 := h
          unfold G.inquestref15_Is_b2 at h
          show AWP _ _ _ _ ⟨[(1, .sl (List.map i64 l_1)), (2, .ref 0 0 0), (6, i64 i226)], ⟨1, [(0, (2, [G.inquestref12_G.av g_0]))]⟩⟩ _
          refine awp_seqK fun K16 hK16 => ?_
          refine awp_seqK fun K17 hK17 => ?_
          refine awp_reg rfl ?_
          refine AR.op (r := i64 i226) rfl (aop_move (.inl rfl) rfl) ?_
          refine AR.op (r := .sl (List.map i64 l_1)) rfl (aop_move (.inl rfl) rfl) ?_
          refine AR.op (r := i64 (Sh.len l_1)) rfl (t_len_sl i64 l_1 rfl rfl el25) ?_
          refine AR.drop (frx := [(1, _), (2, _), (6, _), (19, _), (21, _)]) ⟨rfl, rfl, rfl, rfl, rfl, trivial⟩ ?_
          refine AR.op (r := bl (decide (i226 < (Sh.len l_1)))) rfl (aop_lss rfl rfl rfl) ?_
          refine AR.nil ?_
          refine hK17 _ (AWP.weak (Weak.re (fr' := [(1, .sl (List.map i64 l_1)), (2, .ref 0 0 0), (6, i64 i226), (22, bl (decide (i226 < (Sh.len l_1))))]) (H' := ⟨1, [(0, (2, [G.inquestref12_G.av g_0]))]⟩) [(0, 0)] [] rfl rfl rfl (.cons rfl rfl (.one (.same _ (by simp)) rfl) (of_decide_eq_true rfl) (trivial)) ⟨⟨.sl (List.map i64 l_1), rfl, .same _ (by simp)⟩, ⟨_, rfl, .ref rfl⟩, ⟨_, rfl, .same _ (by simp)⟩, ⟨_, rfl, .same _ (by simp)⟩, trivial⟩) ?_)
          clear hK17 K17
          refine awp_cond rfl (fun hb227 => ?_) (fun hb227 => ?_)
          · replace h := Sh.if_t h hb227
            refine awp_skip ?_
            refine hK16 _ (AWP.weak (Weak.re (fr' := [(1, .sl (List.map i64 l_1)), (2, .ref 0 0 0), (6, i64 i226)]) (H' := ⟨1, [(0, (2, [G.inquestref12_G.av g_0]))]⟩) [(0, 0)] [] rfl rfl rfl (.cons rfl rfl (.one (.same _ (by simp)) rfl) (of_decide_eq_true rfl) (trivial)) ⟨⟨.sl (List.map i64 l_1), rfl, .same _ (by simp)⟩, ⟨_, rfl, .ref rfl⟩, ⟨_, rfl, .same _ (by simp)⟩, trivial⟩) ?_)
            clear hK16 K16
            refine awp_seqJ (fun (p : Unit) => (⟨[(1, .sl (List.map i64 l_1)), (2, .ref 0 0 0), (6, i64 i226)], ⟨1, [(0, (2, [G.inquestref12_G.av g_0]))]⟩⟩ : St)) (fun (p : Unit) => G.inquestref15_Is_j4 i226 = some o2) ?_ ?_
            · rintro ⟨⟩ h
              replace h : G.inquestref15_Is_j4 i226 = some o2 := h
              unfold G.inquestref15_Is_j4 at h
              show AWP _ _ _ _ ⟨[(1, .sl (List.map i64 l_1)), (2, .ref 0 0 0), (6, i64 i226)], ⟨1, [(0, (2, [G.inquestref12_G.av g_0]))]⟩⟩ _
              refine awp_reg rfl ?_
              refine AR.op (r := i64 i226) rfl (aop_move (.inl rfl) rfl) ?_
              refine AR.op (r := i64 (w64 (i226 + 1))) rfl (aop_add rfl rfl rfl rfl) ?_
              refine AR.op (r := i64 (w64 (i226 + 1))) rfl (aop_move (.inr rfl) rfl) ?_
              refine AR.nil ?_
              replace h := Sh.next_eq h
              exact ⟨_, h, Weak.re (fr' := [(1, .sl (List.map i64 l_1)), (2, .ref 0 0 0), (6, i64 (w64 (i226 + 1)))]) (H' := ⟨1, [(0, (2, [G.inquestref12_G.av g_0]))]⟩) [(0, 0)] [] rfl rfl rfl (.cons rfl rfl (.one (.same _ (by simp)) rfl) (of_decide_eq_true rfl) (trivial)) ⟨⟨.sl (List.map i64 l_1), rfl, .same _ (by simp)⟩, ⟨_, rfl, .ref rfl⟩, ⟨_, rfl, .same _ (by simp)⟩, trivial⟩⟩
            · intro K18 hK18
              refine awp_block ?_
              refine awp_seqK fun K19 hK19 => ?_
              refine awp_seqK fun K20 hK20 => ?_
              refine awp_any (by kernel_rfl) (by kernel_rfl) rfl ?_
              refine ARH.op (r := G.inquestref12_G.av g_0) rfl rfl (aop_load_ref rfl rfl rfl rfl sz27 rfl) ?_
              refine ARH.dry (r := .sl (List.map i64 l_1)) rfl (fun _ => aop_move (.inl rfl) rfl) ?_
              refine ARH.dry (r := i64 i226) rfl (fun _ => aop_move (.inl rfl) rfl) ?_
              refine ARH.drop (frx := [(1, _), (2, _), (6, _), (25, _), (26, _), (27, _)]) ⟨rfl, rfl, rfl, rfl, rfl, rfl, trivial⟩ ?_
              obtain ⟨x251, hx251, h⟩ := Sh.bind_some' h
              obtain ⟨k252, hi252, hl252⟩ := Sh.idx_some hx251
              refine ARH.op rfl rfl (t_index_sl i64 l_1 hi252 hl252 rfl rfl rfl el25 rfl) ?_
              refine ARH.op (r := i64 x251) rfl rfl (aop_load_pp rfl rfl sz3 rfl) ?_
              obtain ⟨r253, hr253, h⟩ := Sh.bind_some' h
              refine ARH.op (r := bl r253) rfl rfl (aop_call1 rfl rfl (by simp) (inquestref12_Node_ok hT hr253)) ?_
              refine ARH.drop (frx := [(1, _), (2, _), (6, _), (30, _)]) ⟨rfl, rfl, rfl, rfl, trivial⟩ ?_
              refine ARH.dry (r := bl (!r253)) rfl (fun _ => aop_not rfl rfl) ?_
              refine ARH.nil ?_
              refine hK20 _ (AWP.weak (Weak.re (fr' := [(1, .sl (List.map i64 l_1)), (2, .ref 0 0 0), (6, i64 i226), (31, bl (!r253))]) (H' := ⟨1, [(0, (2, [G.inquestref12_G.av g_0]))]⟩) [(0, 0)] [] rfl rfl rfl (.cons rfl rfl (.one (.same _ (by simp)) rfl) (of_decide_eq_true rfl) (trivial)) ⟨⟨.sl (List.map i64 l_1), rfl, .same _ (by simp)⟩, ⟨_, rfl, .ref rfl⟩, ⟨_, rfl, .same _ (by simp)⟩, ⟨_, rfl, .same _ (by simp)⟩, trivial⟩) ?_)
              clear hK20 K20
              refine awp_cond rfl (fun hb254 => ?_) (fun hb254 => ?_)
              · replace h := Sh.if_t h hb254
                refine awp_seqK fun K21 hK21 => ?_
                refine awp_reg rfl ?_
                refine AR.op (r := bl false) rfl (aop_move (.inr rfl) rfl) ?_
                refine AR.nil ?_
                refine hK21 _ (AWP.weak (Weak.re (fr' := [(4, bl false)]) (H' := .empty) [] [] rfl rfl rfl (trivial) ⟨⟨_, rfl, .same _ (by simp)⟩, trivial⟩) ?_)
                clear hK21 K21
                refine awp_ret ?_
                replace h := Sh.exit_eq h hx2
                obtain rfl := Option.some.inj h
                refine ⟨.inr rfl, bl false, rfl, ?_⟩
                exact Weak.re [] [] rfl rfl rfl (trivial) ⟨⟨_, rfl, .same _ (by simp)⟩, trivial⟩
              · replace h := Sh.if_f h hb254
                refine awp_skip ?_
                refine hK19 _ (AWP.weak (Weak.re (fr' := [(1, .sl (List.map i64 l_1)), (2, .ref 0 0 0), (6, i64 i226)]) (H' := ⟨1, [(0, (2, [G.inquestref12_G.av g_0]))]⟩) [(0, 0)] [] rfl rfl rfl (.cons rfl rfl (.one (.same _ (by simp)) rfl) (of_decide_eq_true rfl) (trivial)) ⟨⟨.sl (List.map i64 l_1), rfl, .same _ (by simp)⟩, ⟨_, rfl, .ref rfl⟩, ⟨_, rfl, .same _ (by simp)⟩, trivial⟩) ?_)
                clear hK19 K19
                refine awp_seqK fun K22 hK22 => ?_
                refine awp_reg rfl ?_
                refine AR.op (r := i64 0) rfl (aop_move (.inr rfl) rfl) ?_
                refine AR.nil ?_
                refine hK22 _ ?_
                clear hK22 K22
                refine awp_block ?_
                refine awp_iter (fun (p : Int) => G.inquestref15_Is_b3 l_1 i226 p) (fun (p : Int) => (⟨[(1, .sl (List.map i64 l_1)), (2, .ref 0 0 0), (6, i64 i226), (7, i64 p)], ⟨1, [(0, (2, [G.inquestref12_G.av g_0]))]⟩⟩ : St)) h (Weak.re (fr' := [(1, .sl (List.map i64 l_1)), (2, .ref 0 0 0), (6, i64 i226), (7, i64 0)]) (H' := ⟨1, [(0, (2, [G.inquestref12_G.av g_0]))]⟩) [(0, 0)] [] rfl rfl rfl (.cons rfl rfl (.one (.same _ (by simp)) rfl) (of_decide_eq_true rfl) (trivial)) ⟨⟨.sl (List.map i64 l_1), rfl, .same _ (by simp)⟩, ⟨_, rfl, .ref rfl⟩, ⟨_, rfl, .same _ (by simp)⟩, ⟨_, rfl, .same _ (by simp)⟩, trivial⟩) ?_
                · skip
                  rintro k264 o3 h hx3
                  replace h : G.inquestref15_Is_b3 l_1 i226 k264 = some o3 := h
                  unfold G.inquestref15_Is_b3 at h
                  show AWP _ _ _ _ ⟨[(1, .sl (List.map i64 l_1)), (2, .ref 0 0 0), (6, i64 i226), (7, i64 k264)], ⟨1, [(0, (2, [G.inquestref12_G.av g_0]))]⟩⟩ _
                  refine awp_seqK fun K23 hK23 => ?_
                  refine awp_seqK fun K24 hK24 => ?_
                  refine awp_reg rfl ?_
                  refine AR.op (r := i64 k264) rfl (aop_move (.inl rfl) rfl) ?_
                  refine AR.op (r := i64 i226) rfl (aop_move (.inl rfl) rfl) ?_
                  refine AR.op (r := bl (decide (k264 < i226))) rfl (aop_lss rfl rfl rfl) ?_
                  refine AR.nil ?_
                  refine hK24 _ (AWP.weak (Weak.re (fr' := [(1, .sl (List.map i64 l_1)), (2, .ref 0 0 0), (6, i64 i226), (7, i64 k264), (34, bl (decide (k264 < i226)))]) (H' := ⟨1, [(0, (2, [G.inquestref12_G.av g_0]))]⟩) [(0, 0)] [] rfl rfl rfl (.cons rfl rfl (.one (.same _ (by simp)) rfl) (of_decide_eq_true rfl) (trivial)) ⟨⟨.sl (List.map i64 l_1), rfl, .same _ (by simp)⟩, ⟨_, rfl, .ref rfl⟩, ⟨_, rfl, .same _ (by simp)⟩, ⟨_, rfl, .same _ (by simp)⟩, ⟨_, rfl, .same _ (by simp)⟩, trivial⟩) ?_)
                  clear hK24 K24
                  refine awp_cond rfl (fun hb265 => ?_) (fun hb265 => ?_)
                  · replace h := Sh.if_t h hb265
                    refine awp_skip ?_
                    refine hK23 _ (AWP.weak (Weak.re (fr' := [(1, .sl (List.map i64 l_1)), (2, .ref 0 0 0), (6, i64 i226), (7, i64 k264)]) (H' := ⟨1, [(0, (2, [G.inquestref12_G.av g_0]))]⟩) [(0, 0)] [] rfl rfl rfl (.cons rfl rfl (.one (.same _ (by simp)) rfl) (of_decide_eq_true rfl) (trivial)) ⟨⟨.sl (List.map i64 l_1), rfl, .same _ (by simp)⟩, ⟨_, rfl, .ref rfl⟩, ⟨_, rfl, .same _ (by simp)⟩, ⟨_, rfl, .same _ (by simp)⟩, trivial⟩) ?_)
                    clear hK23 K23
                    refine awp_seqK fun K25 hK25 => ?_
                    refine awp_block ?_
                    refine awp_seqK fun K26 hK26 => ?_
                    refine awp_any (by kernel_rfl) (by kernel_rfl) rfl ?_
                    refine ARH.dry (r := .sl (List.map i64 l_1)) rfl (fun _ => aop_move (.inl rfl) rfl) ?_
                    refine ARH.dry (r := i64 k264) rfl (fun _ => aop_move (.inl rfl) rfl) ?_
                    obtain ⟨x274, hx274, h⟩ := Sh.bind_some' h
                    obtain ⟨k275, hi275, hl275⟩ := Sh.idx_some hx274
                    refine ARH.op rfl rfl (t_index_sl i64 l_1 hi275 hl275 rfl rfl rfl el25 rfl) ?_
                    refine ARH.drop (frx := [(1, _), (2, _), (6, _), (7, _), (39, _)]) ⟨rfl, rfl, rfl, rfl, rfl, trivial⟩ ?_
                    refine ARH.op (r := i64 x274) rfl rfl (aop_load_pp rfl rfl sz3 rfl) ?_
                    refine ARH.dry (r := .sl (List.map i64 l_1)) rfl (fun _ => aop_move (.inl rfl) rfl) ?_
                    refine ARH.dry (r := i64 i226) rfl (fun _ => aop_move (.inl rfl) rfl) ?_
                    refine ARH.drop (frx := [(1, _), (2, _), (6, _), (7, _), (40, _), (41, _), (42, _)]) ⟨rfl, rfl, rfl, rfl, rfl, rfl, rfl, trivial⟩ ?_
                    obtain ⟨x276, hx276, h⟩ := Sh.bind_some' h
                    obtain ⟨k277, hi277, hl277⟩ := Sh.idx_some hx276
                    refine ARH.op rfl rfl (t_index_sl i64 l_1 hi277 hl277 rfl rfl rfl el25 rfl) ?_
                    refine ARH.op (r := i64 x276) rfl rfl (aop_load_pp rfl rfl sz3 rfl) ?_
                    refine ARH.dry (r := bl (decide (x274 = x276))) rfl (fun _ => aop_eql rfl rfl rfl) ?_
                    refine ARH.nil ?_
                    refine hK26 _ (AWP.weak (Weak.re (fr' := [(1, .sl (List.map i64 l_1)), (2, .ref 0 0 0), (6, i64 i226), (7, i64 k264), (45, bl (decide (x274 = x276)))]) (H' := ⟨1, [(0, (2, [G.inquestref12_G.av g_0]))]⟩) [(0, 0)] [] rfl rfl rfl (.cons rfl rfl (.one (.same _ (by simp)) rfl) (of_decide_eq_true rfl) (trivial)) ⟨⟨.sl (List.map i64 l_1), rfl, .same _ (by simp)⟩, ⟨_, rfl, .ref rfl⟩, ⟨_, rfl, .same _ (by simp)⟩, ⟨_, rfl, .same _ (by simp)⟩, ⟨_, rfl, .same _ (by simp)⟩, trivial⟩) ?_)
                    clear hK26 K26
                    refine awp_cond rfl (fun hb278 => ?_) (fun hb278 => ?_)
                    · replace h := Sh.if_t h hb278
                      refine awp_seqK fun K27 hK27 => ?_
                      refine awp_reg rfl ?_
                      refine AR.op (r := bl false) rfl (aop_move (.inr rfl) rfl) ?_
                      refine AR.nil ?_
                      refine hK27 _ (AWP.weak (Weak.re (fr' := [(4, bl false)]) (H' := .empty) [] [] rfl rfl rfl (trivial) ⟨⟨_, rfl, .same _ (by simp)⟩, trivial⟩) ?_)
                      clear hK27 K27
                      refine awp_ret ?_
                      replace h := Sh.exit_eq h hx3
                      replace h := Sh.exit_eq h hx2
                      obtain rfl := Option.some.inj h
                      refine ⟨.inr rfl, bl false, rfl, ?_⟩
                      exact Weak.re [] [] rfl rfl rfl (trivial) ⟨⟨_, rfl, .same _ (by simp)⟩, trivial⟩
                    · replace h := Sh.if_f h hb278
                      refine awp_skip ?_
                      refine hK25 _ (AWP.weak (Weak.re (fr' := [(1, .sl (List.map i64 l_1)), (2, .ref 0 0 0), (6, i64 i226), (7, i64 k264)]) (H' := ⟨1, [(0, (2, [G.inquestref12_G.av g_0]))]⟩) [(0, 0)] [] rfl rfl rfl (.cons rfl rfl (.one (.same _ (by simp)) rfl) (of_decide_eq_true rfl) (trivial)) ⟨⟨.sl (List.map i64 l_1), rfl, .same _ (by simp)⟩, ⟨_, rfl, .ref rfl⟩, ⟨_, rfl, .same _ (by simp)⟩, ⟨_, rfl, .same _ (by simp)⟩, trivial⟩) ?_)
                      clear hK25 K25
                      refine awp_reg rfl ?_
                      refine AR.op (r := i64 k264) rfl (aop_move (.inl rfl) rfl) ?_
                      refine AR.op (r := i64 (w64 (k264 + 1))) rfl (aop_add rfl rfl rfl rfl) ?_
                      refine AR.op (r := i64 (w64 (k264 + 1))) rfl (aop_move (.inr rfl) rfl) ?_
                      refine AR.nil ?_
                      replace h := Sh.next_eq h
                      exact ⟨_, h, Weak.re (fr' := [(1, .sl (List.map i64 l_1)), (2, .ref 0 0 0), (6, i64 i226), (7, i64 (w64 (k264 + 1)))]) (H' := ⟨1, [(0, (2, [G.inquestref12_G.av g_0]))]⟩) [(0, 0)] [] rfl rfl rfl (.cons rfl rfl (.one (.same _ (by simp)) rfl) (of_decide_eq_true rfl) (trivial)) ⟨⟨.sl (List.map i64 l_1), rfl, .same _ (by simp)⟩, ⟨_, rfl, .ref rfl⟩, ⟨_, rfl, .same _ (by simp)⟩, ⟨_, rfl, .same _ (by simp)⟩, trivial⟩⟩
                  · replace h := Sh.if_f h hb265
                    refine awp_exit ?_
                    replace h := Sh.exit_eq h hx3
                    exact hK18 () _ h (Weak.re (fr' := [(1, .sl (List.map i64 l_1)), (2, .ref 0 0 0), (6, i64 i226)]) (H' := ⟨1, [(0, (2, [G.inquestref12_G.av g_0]))]⟩) [(0, 0)] [] rfl rfl rfl (.cons rfl rfl (.one (.same _ (by simp)) rfl) (of_decide_eq_true rfl) (trivial)) ⟨⟨.sl (List.map i64 l_1), rfl, .same _ (by simp)⟩, ⟨_, rfl, .ref rfl⟩, ⟨_, rfl, .same _ (by simp)⟩, trivial⟩)
          · replace h := Sh.if_f h hb227
            refine awp_exit ?_
            replace h := Sh.exit_eq h hx2
            exact hK14 () _ h (Weak.re (fr' := [(1, .sl (List.map i64 l_1)), (2, .ref 0 0 0)]) (H' := ⟨1, [(0, (2, [G.inquestref12_G.av g_0]))]⟩) [(0, 0)] [] rfl rfl rfl (.cons rfl rfl (.one (.same _ (by simp)) rfl) (of_decide_eq_true rfl) (trivial)) ⟨⟨.sl (List.map i64 l_1), rfl, .same _ (by simp)⟩, ⟨_, rfl, .ref rfl⟩, trivial⟩)
  · intro K28 hK28
    refine awp_reg rfl ?_
    refine AR.op (r := bl r78) rfl (aop_move (.inl rfl) rfl) ?_
    refine AR.op (r := bl (!r78)) rfl (aop_not rfl rfl) ?_
    refine AR.op (r := bl (!r78)) rfl (aop_move (.inl rfl) rfl) ?_
    refine AR.drop (frx := [(1, _), (2, _), (14, _)]) ⟨rfl, rfl, rfl, trivial⟩ ?_
    rcases Bool.eq_false_or_eq_true (!r78) with hb279 | hb279
    · rw [hb279]
      replace h := Sh.if_t h hb279
      refine AR.skip rfl ?_
      refine AR.skip rfl ?_
      refine AR.skip rfl ?_
      refine AR.drop (frx := [(1, _), (2, _), (14, _), (17, _)]) ⟨rfl, rfl, rfl, rfl, trivial⟩ ?_
      refine AR.op (r := bl true) rfl (aop_pick rfl rfl rfl) ?_
      refine AR.nil ?_
      exact hK28 true _ h (Weak.re (fr' := [(1, .sl (List.map i64 l_1)), (2, .ref 0 0 0), (18, bl true)]) (H' := ⟨1, [(0, (2, [G.inquestref12_G.av g_0]))]⟩) [(0, 0)] [] rfl rfl rfl (.cons rfl rfl (.one (.same _ (by simp)) rfl) (of_decide_eq_true rfl) (trivial)) ⟨⟨.sl (List.map i64 l_1), rfl, .same _ (by simp)⟩, ⟨_, rfl, .ref rfl⟩, ⟨_, rfl, .same _ (by simp)⟩, trivial⟩)
    · rw [hb279]
      replace h := Sh.if_f h hb279
      refine AR.op (r := .sl (List.map i64 l_1)) rfl (aop_move (.inl rfl) rfl) ?_
      refine AR.op (r := i64 (Sh.len l_1)) rfl (t_len_sl i64 l_1 rfl rfl el25) ?_
      refine AR.op (r := bl (decide ((Sh.len l_1) = 0))) rfl (aop_eql rfl rfl rfl) ?_
      refine AR.drop (frx := [(1, _), (2, _), (14, _), (17, _)]) ⟨rfl, rfl, rfl, rfl, trivial⟩ ?_
      refine AR.op (r := bl (decide ((Sh.len l_1) = 0))) rfl (aop_pick rfl rfl rfl) ?_
      refine AR.nil ?_
      exact hK28 (decide ((Sh.len l_1) = 0)) _ h (Weak.re (fr' := [(1, .sl (List.map i64 l_1)), (2, .ref 0 0 0), (18, bl (decide ((Sh.len l_1) = 0)))]) (H' := ⟨1, [(0, (2, [G.inquestref12_G.av g_0]))]⟩) [(0, 0)] [] rfl rfl rfl (.cons rfl rfl (.one (.same _ (by simp)) rfl) (of_decide_eq_true rfl) (trivial)) ⟨⟨.sl (List.map i64 l_1), rfl, .same _ (by simp)⟩, ⟨_, rfl, .ref rfl⟩, ⟨_, rfl, .same _ (by simp)⟩, trivial⟩)
theorem inquestref15_Is_ok {W0 : World} (hT : Tab W0) {g_0 : G.inquestref12_G} {l_1 : List Int} {r : Bool} (h : G.inquestref15_Is g_0 l_1 = some r) : Fun1 Tryd.prog W0 15 [G.inquestref12_G.av g_0, .sl (List.map i64 l_1)] (bl r) := Fun1.two (inquestref15_Is_ok0 hT h) (by simp)


set_option maxHeartbeats 8000000 in
set_option maxRecDepth 20000 in
theorem inquestref15_far_own {W0 : World} (hT : Tab W0) {g_0 : G.inquestref12_G} {v_1 : Int} {r : (List Int)} (h : G.inquestref15_far g_0 v_1 = some r) : Fun2 Tryd.prog W0 41 [G.inquestref12_G.av g_0, i64 v_1] (.view 0 0 (List.map i64 r).length) ⟨1, [(0, (1, List.map i64 r))]⟩ := by
  refine fun2_of_awp Tryd.func41 rfl (by kernel_rfl) Tryd.ntmps41 (by simp) ?_
  unfold G.inquestref15_far at h
  show AWP _ _ _ _ ⟨[(0, G.inquestref12_G.av g_0), (1, i64 v_1)], .empty⟩ _
  refine awp_seqK fun K1 hK1 => ?_
  refine awp_reg rfl ?_
  refine AR.op (r := .ref 0 0 0) rfl (aop_box 2 [G.inquestref12_G.av g_0] rfl rfl rfl (.inl ⟨rfl, rfl⟩)) ?_
  refine AR.op (r := nilS) rfl (aop_move (.inr rfl) rfl) ?_
  refine AR.nil ?_
  refine hK1 _ (AWP.weak (Weak.re (fr' := [(1, i64 v_1), (2, .ref 0 0 0)]) (H' := ⟨1, [(0, (2, [G.inquestref12_G.av g_0]))]⟩) [(0, 0)] [] rfl rfl rfl (.cons rfl rfl (.one (.same _ (by simp)) rfl) (of_decide_eq_true rfl) (trivial)) ⟨⟨_, rfl, .same _ (by simp)⟩, ⟨_, rfl, .ref rfl⟩, trivial⟩) ?_)
  clear hK1 K1
  refine awp_seqK fun K2 hK2 => ?_
  refine awp_reg rfl ?_
  refine AR.op (r := nilS) rfl (aop_move (.inr rfl) rfl) ?_
  refine AR.nil ?_
  refine hK2 _ ?_
  clear hK2 K2
  refine awp_seqJ (fun (p : (List Int)) => (⟨[(2, .ref 0 0 0), (5, .view 1 0 (List.map i64 p).length)], ⟨2, [(0, (2, [G.inquestref12_G.av g_0])), (1, (1, List.map i64 p))]⟩⟩ : St)) (fun (p : (List Int)) => G.inquestref15_far_j1 g_0 p = some r) ?_ ?_
  · rintro d403 h
    replace h : G.inquestref15_far_j1 g_0 d403 = some r := h
    unfold G.inquestref15_far_j1 at h
    show AWP _ _ _ _ ⟨[(2, .ref 0 0 0), (5, .view 1 0 (List.map i64 d403).length)], ⟨2, [(0, (2, [G.inquestref12_G.av g_0])), (1, (1, List.map i64 d403))]⟩⟩ _
    refine awp_seqJ (fun (p : (List Int)) => (⟨[(5, .view 0 0 (List.map i64 p).length)], ⟨1, [(0, (1, List.map i64 p))]⟩⟩ : St)) (fun (p : (List Int)) => G.inquestref15_far_j2 p = some r) ?_ ?_
    · rintro d780 h
      replace h : G.inquestref15_far_j2 d780 = some r := h
      unfold G.inquestref15_far_j2 at h
      show AWP _ _ _ _ ⟨[(5, .view 0 0 (List.map i64 d780).length)], ⟨1, [(0, (1, List.map i64 d780))]⟩⟩ _
      refine awp_seqK fun K3 hK3 => ?_
      refine awp_reg rfl ?_
      refine AR.op (r := .view 0 0 (List.map i64 d780).length) rfl (aop_move (.inl rfl) rfl) ?_
      refine AR.op (r := .view 0 0 (List.map i64 d780).length) rfl (aop_move (.inr rfl) rfl) ?_
      refine AR.nil ?_
      refine hK3 _ (AWP.weak (Weak.re (fr' := [(4, .view 0 0 (List.map i64 d780).length)]) (H' := ⟨1, [(0, (1, List.map i64 d780))]⟩) [(0, 0)] [] rfl rfl rfl (.cons rfl rfl (.same (by simp)) (of_decide_eq_true rfl) (trivial)) ⟨⟨_, rfl, .view rfl⟩, trivial⟩) ?_)
      clear hK3 K3
      refine awp_ret ?_
      obtain rfl := Option.some.inj h
      refine ⟨.inr rfl, .view 0 0 (List.map i64 d780).length, rfl, ?_⟩
      exact Weak.re [(0, 0)] [] rfl rfl rfl (.cons rfl rfl (.same (by simp)) (of_decide_eq_true rfl) (trivial)) ⟨⟨_, rfl, .view rfl⟩, trivial⟩
    · intro K4 hK4
      refine awp_seqK fun K5 hK5 => ?_
      refine awp_reg rfl ?_
      refine AR.op (r := i64 1) rfl (aop_move (.inr rfl) rfl) ?_
      refine AR.nil ?_
      refine hK5 _ ?_
      clear hK5 K5
      refine awp_block ?_
      refine awp_iter (fun (p : (List Int) × Int) => G.inquestref15_far_b1 g_0 p.1 p.2) (fun (p : (List Int) × Int) => (⟨[(2, .ref 0 0 0), (5, .view 1 0 (List.map i64 p.1).length), (9, i64 p.2)], ⟨2, [(0, (2, [G.inquestref12_G.av g_0])), (1, (1, List.map i64 p.1))]⟩⟩ : St)) h (Weak.re (fr' := [(2, .ref 0 0 0), (5, .view 1 0 (List.map i64 d403).length), (9, i64 1)]) (H' := ⟨2, [(0, (2, [G.inquestref12_G.av g_0])), (1, (1, List.map i64 d403))]⟩) [(0, 0), (1, 1)] [] rfl rfl rfl (.cons rfl rfl (.one (.same _ (by simp)) rfl) (of_decide_eq_true rfl) (.cons rfl rfl (.same (by simp)) (of_decide_eq_true rfl) (trivial))) ⟨⟨_, rfl, .ref rfl⟩, ⟨_, rfl, .view rfl⟩, ⟨_, rfl, .same _ (by simp)⟩, trivial⟩) ?_
      · skip
        rintro ⟨d1031, k1032⟩ o1 h hx1
        replace h : G.inquestref15_far_b1 g_0 d1031 k1032 = some o1 := h
        unfold G.inquestref15_far_b1 at h
        show AWP _ _ _ _ ⟨[(2, .ref 0 0 0), (5, .view 1 0 (List.map i64 d1031).length), (9, i64 k1032)], ⟨2, [(0, (2, [G.inquestref12_G.av g_0])), (1, (1, List.map i64 d1031))]⟩⟩ _
        refine awp_seqK fun K6 hK6 => ?_
        refine awp_seqK fun K7 hK7 => ?_
        refine awp_reg rfl ?_
        refine AR.op (r := i64 k1032) rfl (aop_move (.inl rfl) rfl) ?_
        refine AR.op rfl (aop_field_ref rfl rfl rfl fd27_0 (by decide)) ?_
        refine AR.op (r := i64 g_0.N) rfl (aop_load_ref rfl rfl rfl rfl sz3 rfl) ?_
        refine AR.drop (frx := [(2, _), (5, _), (9, _), (28, _), (30, _)]) ⟨rfl, rfl, rfl, rfl, rfl, trivial⟩ ?_
        refine AR.op (r := bl (decide (k1032 < g_0.N))) rfl (aop_lss rfl rfl rfl) ?_
        refine AR.nil ?_
        refine hK7 _ (AWP.weak (Weak.re (fr' := [(2, .ref 0 0 0), (5, .view 1 0 (List.map i64 d1031).length), (9, i64 k1032), (31, bl (decide (k1032 < g_0.N)))]) (H' := ⟨2, [(0, (2, [G.inquestref12_G.av g_0])), (1, (1, List.map i64 d1031))]⟩) [(0, 0), (1, 1)] [] rfl rfl rfl (.cons rfl rfl (.one (.same _ (by simp)) rfl) (of_decide_eq_true rfl) (.cons rfl rfl (.same (by simp)) (of_decide_eq_true rfl) (trivial))) ⟨⟨_, rfl, .ref rfl⟩, ⟨_, rfl, .view rfl⟩, ⟨_, rfl, .same _ (by simp)⟩, ⟨_, rfl, .same _ (by simp)⟩, trivial⟩) ?_)
        clear hK7 K7
        refine awp_cond rfl (fun hb1033 => ?_) (fun hb1033 => ?_)
        · replace h := Sh.if_t h hb1033
          refine awp_skip ?_
          refine hK6 _ (AWP.weak (Weak.re (fr' := [(2, .ref 0 0 0), (5, .view 1 0 (List.map i64 d1031).length), (9, i64 k1032)]) (H' := ⟨2, [(0, (2, [G.inquestref12_G.av g_0])), (1, (1, List.map i64 d1031))]⟩) [(0, 0), (1, 1)] [] rfl rfl rfl (.cons rfl rfl (.one (.same _ (by simp)) rfl) (of_decide_eq_true rfl) (.cons rfl rfl (.same (by simp)) (of_decide_eq_true rfl) (trivial))) ⟨⟨_, rfl, .ref rfl⟩, ⟨_, rfl, .view rfl⟩, ⟨_, rfl, .same _ (by simp)⟩, trivial⟩) ?_)
          clear hK6 K6
          refine awp_seqJ (fun (p : (List Int)) => (⟨[(2, .ref 0 0 0), (5, .view 1 0 (List.map i64 p).length), (9, i64 k1032)], ⟨2, [(0, (2, [G.inquestref12_G.av g_0])), (1, (1, List.map i64 p))]⟩⟩ : St)) (fun (p : (List Int)) => G.inquestref15_far_j3 k1032 p = some o1) ?_ ?_
          · rintro d1158 h
            replace h : G.inquestref15_far_j3 k1032 d1158 = some o1 := h
            unfold G.inquestref15_far_j3 at h
            show AWP _ _ _ _ ⟨[(2, .ref 0 0 0), (5, .view 1 0 (List.map i64 d1158).length), (9, i64 k1032)], ⟨2, [(0, (2, [G.inquestref12_G.av g_0])), (1, (1, List.map i64 d1158))]⟩⟩ _
            refine awp_reg rfl ?_
            refine AR.op (r := i64 k1032) rfl (aop_move (.inl rfl) rfl) ?_
            refine AR.op (r := i64 (w64 (k1032 + 1))) rfl (aop_add rfl rfl rfl rfl) ?_
            refine AR.op (r := i64 (w64 (k1032 + 1))) rfl (aop_move (.inr rfl) rfl) ?_
            refine AR.nil ?_
            replace h := Sh.next_eq h
            exact ⟨_, h, Weak.re (fr' := [(2, .ref 0 0 0), (5, .view 1 0 (List.map i64 d1158).length), (9, i64 (w64 (k1032 + 1)))]) (H' := ⟨2, [(0, (2, [G.inquestref12_G.av g_0])), (1, (1, List.map i64 d1158))]⟩) [(0, 0), (1, 1)] [] rfl rfl rfl (.cons rfl rfl (.one (.same _ (by simp)) rfl) (of_decide_eq_true rfl) (.cons rfl rfl (.same (by simp)) (of_decide_eq_true rfl) (trivial))) ⟨⟨_, rfl, .ref rfl⟩, ⟨_, rfl, .view rfl⟩, ⟨_, rfl, .same _ (by simp)⟩, trivial⟩⟩
          · intro K8 hK8
            refine awp_block ?_
            refine awp_seqK fun K9 hK9 => ?_
            refine awp_reg rfl ?_
            refine AR.op (r := i64 0) rfl (aop_move (.inr rfl) rfl) ?_
            refine AR.nil ?_
            refine hK9 _ ?_
            clear hK9 K9
            refine awp_block ?_
            refine awp_iter (fun (p : (List Int) × Int) => G.inquestref15_far_b2 g_0 k1032 p.1 p.2) (fun (p : (List Int) × Int) => (⟨[(2, .ref 0 0 0), (5, .view 1 0 (List.map i64 p.1).length), (9, i64 k1032), (10, i64 p.2)], ⟨2, [(0, (2, [G.inquestref12_G.av g_0])), (1, (1, List.map i64 p.1))]⟩⟩ : St)) h (Weak.re (fr' := [(2, .ref 0 0 0), (5, .view 1 0 (List.map i64 d1031).length), (9, i64 k1032), (10, i64 0)]) (H' := ⟨2, [(0, (2, [G.inquestref12_G.av g_0])), (1, (1, List.map i64 d1031))]⟩) [(0, 0), (1, 1)] [] rfl rfl rfl (.cons rfl rfl (.one (.same _ (by simp)) rfl) (of_decide_eq_true rfl) (.cons rfl rfl (.same (by simp)) (of_decide_eq_true rfl) (trivial))) ⟨⟨_, rfl, .ref rfl⟩, ⟨_, rfl, .view rfl⟩, ⟨_, rfl, .same _ (by simp)⟩, ⟨_, rfl, .same _ (by simp)⟩, trivial⟩) ?_
            · skip
              rintro ⟨d1241, x1242⟩ o2 h hx2
              replace h : G.inquestref15_far_b2 g_0 k1032 d1241 x1242 = some o2 := h
              unfold G.inquestref15_far_b2 at h
              show AWP _ _ _ _ ⟨[(2, .ref 0 0 0), (5, .view 1 0 (List.map i64 d1241).length), (9, i64 k1032), (10, i64 x1242)], ⟨2, [(0, (2, [G.inquestref12_G.av g_0])), (1, (1, List.map i64 d1241))]⟩⟩ _
              refine awp_seqK fun K10 hK10 => ?_
              refine awp_seqK fun K11 hK11 => ?_
              refine awp_reg rfl ?_
              refine AR.op (r := i64 x1242) rfl (aop_move (.inl rfl) rfl) ?_
              refine AR.op rfl (aop_field_ref rfl rfl rfl fd27_0 (by decide)) ?_
              refine AR.op (r := i64 g_0.N) rfl (aop_load_ref rfl rfl rfl rfl sz3 rfl) ?_
              refine AR.drop (frx := [(2, _), (5, _), (9, _), (10, _), (34, _), (36, _)]) ⟨rfl, rfl, rfl, rfl, rfl, rfl, trivial⟩ ?_
              refine AR.op (r := bl (decide (x1242 < g_0.N))) rfl (aop_lss rfl rfl rfl) ?_
              refine AR.nil ?_
              refine hK11 _ (AWP.weak (Weak.re (fr' := [(2, .ref 0 0 0), (5, .view 1 0 (List.map i64 d1241).length), (9, i64 k1032), (10, i64 x1242), (37, bl (decide (x1242 < g_0.N)))]) (H' := ⟨2, [(0, (2, [G.inquestref12_G.av g_0])), (1, (1, List.map i64 d1241))]⟩) [(0, 0), (1, 1)] [] rfl rfl rfl (.cons rfl rfl (.one (.same _ (by simp)) rfl) (of_decide_eq_true rfl) (.cons rfl rfl (.same (by simp)) (of_decide_eq_true rfl) (trivial))) ⟨⟨_, rfl, .ref rfl⟩, ⟨_, rfl, .view rfl⟩, ⟨_, rfl, .same _ (by simp)⟩, ⟨_, rfl, .same _ (by simp)⟩, ⟨_, rfl, .same _ (by simp)⟩, trivial⟩) ?_)
              clear hK11 K11
              refine awp_cond rfl (fun hb1243 => ?_) (fun hb1243 => ?_)
              · replace h := Sh.if_t h hb1243
                refine awp_skip ?_
                refine hK10 _ (AWP.weak (Weak.re (fr' := [(2, .ref 0 0 0), (5, .view 1 0 (List.map i64 d1241).length), (9, i64 k1032), (10, i64 x1242)]) (H' := ⟨2, [(0, (2, [G.inquestref12_G.av g_0])), (1, (1, List.map i64 d1241))]⟩) [(0, 0), (1, 1)] [] rfl rfl rfl (.cons rfl rfl (.one (.same _ (by simp)) rfl) (of_decide_eq_true rfl) (.cons rfl rfl (.same (by simp)) (of_decide_eq_true rfl) (trivial))) ⟨⟨_, rfl, .ref rfl⟩, ⟨_, rfl, .view rfl⟩, ⟨_, rfl, .same _ (by simp)⟩, ⟨_, rfl, .same _ (by simp)⟩, trivial⟩) ?_)
                clear hK10 K10
                refine awp_seqJ (fun (p : (List Int)) => (⟨[(2, .ref 0 0 0), (5, .view 1 0 (List.map i64 p).length), (9, i64 k1032), (10, i64 x1242)], ⟨2, [(0, (2, [G.inquestref12_G.av g_0])), (1, (1, List.map i64 p))]⟩⟩ : St)) (fun (p : (List Int)) => G.inquestref15_far_j4 x1242 p = some o2) ?_ ?_
                · rintro d1284 h
                  replace h : G.inquestref15_far_j4 x1242 d1284 = some o2 := h
                  unfold G.inquestref15_far_j4 at h
                  show AWP _ _ _ _ ⟨[(2, .ref 0 0 0), (5, .view 1 0 (List.map i64 d1284).length), (9, i64 k1032), (10, i64 x1242)], ⟨2, [(0, (2, [G.inquestref12_G.av g_0])), (1, (1, List.map i64 d1284))]⟩⟩ _
                  refine awp_reg rfl ?_
                  refine AR.op (r := i64 x1242) rfl (aop_move (.inl rfl) rfl) ?_
                  refine AR.op (r := i64 (w64 (x1242 + 1))) rfl (aop_add rfl rfl rfl rfl) ?_
                  refine AR.op (r := i64 (w64 (x1242 + 1))) rfl (aop_move (.inr rfl) rfl) ?_
                  refine AR.nil ?_
                  replace h := Sh.next_eq h
                  exact ⟨_, h, Weak.re (fr' := [(2, .ref 0 0 0), (5, .view 1 0 (List.map i64 d1284).length), (9, i64 k1032), (10, i64 (w64 (x1242 + 1)))]) (H' := ⟨2, [(0, (2, [G.inquestref12_G.av g_0])), (1, (1, List.map i64 d1284))]⟩) [(0, 0), (1, 1)] [] rfl rfl rfl (.cons rfl rfl (.one (.same _ (by simp)) rfl) (of_decide_eq_true rfl) (.cons rfl rfl (.same (by simp)) (of_decide_eq_true rfl) (trivial))) ⟨⟨_, rfl, .ref rfl⟩, ⟨_, rfl, .view rfl⟩, ⟨_, rfl, .same _ (by simp)⟩, ⟨_, rfl, .same _ (by simp)⟩, trivial⟩⟩
                · intro K12 hK12
                  refine awp_block ?_
                  refine awp_seqK fun K13 hK13 => ?_
                  refine awp_reg rfl ?_
                  refine AR.op (r := i64 0) rfl (aop_move (.inr rfl) rfl) ?_
                  refine AR.nil ?_
                  refine hK13 _ ?_
                  clear hK13 K13
                  refine awp_block ?_
                  refine awp_iter (fun (p : (List Int) × Int) => G.inquestref15_far_b3 g_0 k1032 x1242 p.1 p.2) (fun (p : (List Int) × Int) => (⟨[(2, .ref 0 0 0), (5, .view 1 0 (List.map i64 p.1).length), (9, i64 k1032), (10, i64 x1242), (11, i64 p.2)], ⟨2, [(0, (2, [G.inquestref12_G.av g_0])), (1, (1, List.map i64 p.1))]⟩⟩ : St)) h (Weak.re (fr' := [(2, .ref 0 0 0), (5, .view 1 0 (List.map i64 d1241).length), (9, i64 k1032), (10, i64 x1242), (11, i64 0)]) (H' := ⟨2, [(0, (2, [G.inquestref12_G.av g_0])), (1, (1, List.map i64 d1241))]⟩) [(0, 0), (1, 1)] [] rfl rfl rfl (.cons rfl rfl (.one (.same _ (by simp)) rfl) (of_decide_eq_true rfl) (.cons rfl rfl (.same (by simp)) (of_decide_eq_true rfl) (trivial))) ⟨⟨_, rfl, .ref rfl⟩, ⟨_, rfl, .view rfl⟩, ⟨_, rfl, .same _ (by simp)⟩, ⟨_, rfl, .same _ (by simp)⟩, ⟨_, rfl, .same _ (by simp)⟩, trivial⟩) ?_
                  · skip
                    rintro ⟨d1311, y1312⟩ o3 h hx3
                    replace h : G.inquestref15_far_b3 g_0 k1032 x1242 d1311 y1312 = some o3 := h
                    unfold G.inquestref15_far_b3 at h
                    show AWP _ _ _ _ ⟨[(2, .ref 0 0 0), (5, .view 1 0 (List.map i64 d1311).length), (9, i64 k1032), (10, i64 x1242), (11, i64 y1312)], ⟨2, [(0, (2, [G.inquestref12_G.av g_0])), (1, (1, List.map i64 d1311))]⟩⟩ _
                    refine awp_seqK fun K14 hK14 => ?_
                    refine awp_seqJ (fun (p : Bool) => (⟨[(2, .ref 0 0 0), (5, .view 1 0 (List.map i64 d1311).length), (9, i64 k1032), (10, i64 x1242), (11, i64 y1312), (50, bl p)], ⟨2, [(0, (2, [G.inquestref12_G.av g_0])), (1, (1, List.map i64 d1311))]⟩⟩ : St)) (fun (p : Bool) => G.inquestref15_far_j5 g_0 k1032 x1242 d1311 y1312 p = some o3) ?_ ?_
                    · rintro v1320 h
                      replace h : G.inquestref15_far_j5 g_0 k1032 x1242 d1311 y1312 v1320 = some o3 := h
                      unfold G.inquestref15_far_j5 at h
                      show AWP _ _ _ _ ⟨[(2, .ref 0 0 0), (5, .view 1 0 (List.map i64 d1311).length), (9, i64 k1032), (10, i64 x1242), (11, i64 y1312), (50, bl v1320)], ⟨2, [(0, (2, [G.inquestref12_G.av g_0])), (1, (1, List.map i64 d1311))]⟩⟩ _
                      refine awp_cond rfl (fun hb1321 => ?_) (fun hb1321 => ?_)
                      · replace h := Sh.if_t h hb1321
                        refine awp_skip ?_
                        refine hK14 _ (AWP.weak (Weak.re (fr' := [(2, .ref 0 0 0), (5, .view 1 0 (List.map i64 d1311).length), (9, i64 k1032), (10, i64 x1242), (11, i64 y1312)]) (H' := ⟨2, [(0, (2, [G.inquestref12_G.av g_0])), (1, (1, List.map i64 d1311))]⟩) [(0, 0), (1, 1)] [] rfl rfl rfl (.cons rfl rfl (.one (.same _ (by simp)) rfl) (of_decide_eq_true rfl) (.cons rfl rfl (.same (by simp)) (of_decide_eq_true rfl) (trivial))) ⟨⟨_, rfl, .ref rfl⟩, ⟨_, rfl, .view rfl⟩, ⟨_, rfl, .same _ (by simp)⟩, ⟨_, rfl, .same _ (by simp)⟩, ⟨_, rfl, .same _ (by simp)⟩, trivial⟩) ?_)
                        clear hK14 K14
                        refine awp_seqJ (fun (p : (List Int)) => (⟨[(2, .ref 0 0 0), (5, .view 1 0 (List.map i64 p).length), (9, i64 k1032), (10, i64 x1242), (11, i64 y1312)], ⟨2, [(0, (2, [G.inquestref12_G.av g_0])), (1, (1, List.map i64 p))]⟩⟩ : St)) (fun (p : (List Int)) => G.inquestref15_far_j6 y1312 p = some o3) ?_ ?_
                        · rintro d1329 h
                          replace h : G.inquestref15_far_j6 y1312 d1329 = some o3 := h
                          unfold G.inquestref15_far_j6 at h
                          show AWP _ _ _ _ ⟨[(2, .ref 0 0 0), (5, .view 1 0 (List.map i64 d1329).length), (9, i64 k1032), (10, i64 x1242), (11, i64 y1312)], ⟨2, [(0, (2, [G.inquestref12_G.av g_0])), (1, (1, List.map i64 d1329))]⟩⟩ _
                          refine awp_reg rfl ?_
                          refine AR.op (r := i64 y1312) rfl (aop_move (.inl rfl) rfl) ?_
                          refine AR.op (r := i64 (w64 (y1312 + 1))) rfl (aop_add rfl rfl rfl rfl) ?_
                          refine AR.op (r := i64 (w64 (y1312 + 1))) rfl (aop_move (.inr rfl) rfl) ?_
                          refine AR.nil ?_
                          replace h := Sh.next_eq h
                          exact ⟨_, h, Weak.re (fr' := [(2, .ref 0 0 0), (5, .view 1 0 (List.map i64 d1329).length), (9, i64 k1032), (10, i64 x1242), (11, i64 (w64 (y1312 + 1)))]) (H' := ⟨2, [(0, (2, [G.inquestref12_G.av g_0])), (1, (1, List.map i64 d1329))]⟩) [(0, 0), (1, 1)] [] rfl rfl rfl (.cons rfl rfl (.one (.same _ (by simp)) rfl) (of_decide_eq_true rfl) (.cons rfl rfl (.same (by simp)) (of_decide_eq_true rfl) (trivial))) ⟨⟨_, rfl, .ref rfl⟩, ⟨_, rfl, .view rfl⟩, ⟨_, rfl, .same _ (by simp)⟩, ⟨_, rfl, .same _ (by simp)⟩, ⟨_, rfl, .same _ (by simp)⟩, trivial⟩⟩
                        · intro K15 hK15
                          refine awp_block ?_
                          refine awp_seqK fun K16 hK16 => ?_
                          refine awp_reg rfl ?_
                          refine AR.op (r := G.inquestref12_G.av g_0) rfl (aop_load_ref rfl rfl rfl rfl sz27 rfl) ?_
                          refine AR.op (r := i64 x1242) rfl (aop_move (.inl rfl) rfl) ?_
                          refine AR.op (r := i64 y1312) rfl (aop_move (.inl rfl) rfl) ?_
                          refine AR.drop (frx := [(2, _), (5, _), (9, _), (10, _), (11, _), (53, _), (54, _), (55, _)]) ⟨rfl, rfl, rfl, rfl, rfl, rfl, rfl, rfl, trivial⟩ ?_
                          obtain ⟨r1331, hr1331, h⟩ := Sh.bind_some' h
                          refine AR.op (r := bl r1331) rfl (aop_call1 rfl rfl (by simp) (inquestref12_Has_ok hT hr1331)) ?_
                          refine AR.op (r := bl r1331) rfl (aop_move (.inr rfl) rfl) ?_
                          refine AR.nil ?_
                          refine hK16 _ (AWP.weak (Weak.re (fr' := [(2, .ref 0 0 0), (5, .view 1 0 (List.map i64 d1311).length), (9, i64 k1032), (10, i64 x1242), (11, i64 y1312), (12, bl r1331)]) (H' := ⟨2, [(0, (2, [G.inquestref12_G.av g_0])), (1, (1, List.map i64 d1311))]⟩) [(0, 0), (1, 1)] [] rfl rfl rfl (.cons rfl rfl (.one (.same _ (by simp)) rfl) (of_decide_eq_true rfl) (.cons rfl rfl (.same (by simp)) (of_decide_eq_true rfl) (trivial))) ⟨⟨_, rfl, .ref rfl⟩, ⟨_, rfl, .view rfl⟩, ⟨_, rfl, .same _ (by simp)⟩, ⟨_, rfl, .same _ (by simp)⟩, ⟨_, rfl, .same _ (by simp)⟩, ⟨_, rfl, .same _ (by simp)⟩, trivial⟩) ?_)
                          clear hK16 K16
                          refine awp_seqJ (fun (p : Bool) => (⟨[(2, .ref 0 0 0), (5, .view 1 0 (List.map i64 d1311).length), (9, i64 k1032), (10, i64 x1242), (11, i64 y1312), (65, bl p)], ⟨2, [(0, (2, [G.inquestref12_G.av g_0])), (1, (1, List.map i64 d1311))]⟩⟩ : St)) (fun (p : Bool) => G.inquestref15_far_j7 k1032 x1242 d1311 y1312 p = some o3) ?_ ?_
                          · rintro v1335 h
                            replace h : G.inquestref15_far_j7 k1032 x1242 d1311 y1312 v1335 = some o3 := h
                            unfold G.inquestref15_far_j7 at h
                            show AWP _ _ _ _ ⟨[(2, .ref 0 0 0), (5, .view 1 0 (List.map i64 d1311).length), (9, i64 k1032), (10, i64 x1242), (11, i64 y1312), (65, bl v1335)], ⟨2, [(0, (2, [G.inquestref12_G.av g_0])), (1, (1, List.map i64 d1311))]⟩⟩ _
                            refine awp_cond rfl (fun hb1336 => ?_) (fun hb1336 => ?_)
                            · replace h := Sh.if_t h hb1336
                              refine awp_reg rfl ?_
                              refine AR.op (r := .view 1 0 (List.map i64 d1311).length) rfl (aop_move (.inl rfl) rfl) ?_
                              refine AR.op (r := i64 x1242) rfl (aop_move (.inl rfl) rfl) ?_
                              refine AR.op (r := i64 k1032) rfl (aop_move (.inl rfl) rfl) ?_
                              refine AR.drop (frx := [(2, _), (5, _), (9, _), (10, _), (11, _), (66, _), (67, _), (68, _)]) ⟨rfl, rfl, rfl, rfl, rfl, rfl, rfl, rfl, trivial⟩ ?_
                              refine AR.op (r := i64 (w64 (k1032 + 1))) rfl (aop_add rfl rfl rfl rfl) ?_
                              obtain ⟨x1337, hx1337, h⟩ := Sh.bind_some' h
                              obtain ⟨k1338, hi1338, hl1338⟩ := Sh.idx_some hx1337
                              refine AR.op (r := .ref 1 k1338 0) rfl (t_index_view i64 d1311 hi1338 hl1338 rfl rfl rfl rfl rfl el25 rfl) ?_
                              refine AR.op rfl (t_store_el i64 d1311 (w64 (k1032 + 1)) hi1338 hl1338 rfl rfl rfl rfl rfl sz3 rfl (of_decide_eq_true rfl) rfl) ?_
                              refine AR.nil ?_
                              exact hK15 (Sh.set d1311 x1242 (w64 (k1032 + 1))) _ h (Weak.re (fr' := [(2, .ref 0 0 0), (5, .view 1 0 (List.map i64 (Sh.set d1311 x1242 (w64 (k1032 + 1)))).length), (9, i64 k1032), (10, i64 x1242), (11, i64 y1312)]) (H' := ⟨2, [(0, (2, [G.inquestref12_G.av g_0])), (1, (1, List.map i64 (Sh.set d1311 x1242 (w64 (k1032 + 1)))))]⟩) [(0, 0), (1, 1)] [] rfl rfl rfl (.cons rfl rfl (.one (.same _ (by simp)) rfl) (of_decide_eq_true rfl) (.cons rfl rfl (.same (by simp)) (of_decide_eq_true rfl) (trivial))) ⟨⟨_, rfl, .ref rfl⟩, ⟨_, rfl, .viewL rfl (by simp [])⟩, ⟨_, rfl, .same _ (by simp)⟩, ⟨_, rfl, .same _ (by simp)⟩, ⟨_, rfl, .same _ (by simp)⟩, trivial⟩)
                            · replace h := Sh.if_f h hb1336
                              refine awp_skip ?_
                              exact hK15 d1311 _ h (Weak.re (fr' := [(2, .ref 0 0 0), (5, .view 1 0 (List.map i64 d1311).length), (9, i64 k1032), (10, i64 x1242), (11, i64 y1312)]) (H' := ⟨2, [(0, (2, [G.inquestref12_G.av g_0])), (1, (1, List.map i64 d1311))]⟩) [(0, 0), (1, 1)] [] rfl rfl rfl (.cons rfl rfl (.one (.same _ (by simp)) rfl) (of_decide_eq_true rfl) (.cons rfl rfl (.same (by simp)) (of_decide_eq_true rfl) (trivial))) ⟨⟨_, rfl, .ref rfl⟩, ⟨_, rfl, .view rfl⟩, ⟨_, rfl, .same _ (by simp)⟩, ⟨_, rfl, .same _ (by simp)⟩, ⟨_, rfl, .same _ (by simp)⟩, trivial⟩)
                          · intro K17 hK17
                            refine awp_reg rfl ?_
                            refine AR.op (r := bl r1331) rfl (aop_move (.inl rfl) rfl) ?_
                            refine AR.op (r := bl r1331) rfl (aop_move (.inl rfl) rfl) ?_
                            rcases Bool.eq_false_or_eq_true (r1331) with hb1339 | hb1339
                            · rw [hb1339]
                              replace h := Sh.if_t h hb1339
                              refine AR.op (r := .view 1 0 (List.map i64 d1311).length) rfl (aop_move (.inl rfl) rfl) ?_
                              refine AR.drop (frx := [(2, _), (5, _), (9, _), (10, _), (11, _), (58, _), (59, _)]) ⟨rfl, rfl, rfl, rfl, rfl, rfl, rfl, trivial⟩ ?_
                              refine AR.op (r := i64 y1312) rfl (aop_move (.inl rfl) rfl) ?_
                              obtain ⟨x1340, hx1340, h⟩ := Sh.bind_some' h
                              obtain ⟨k1341, hi1341, hl1341⟩ := Sh.idx_some hx1340
                              refine AR.op (r := .ref 1 k1341 0) rfl (t_index_view i64 d1311 hi1341 hl1341 rfl rfl rfl rfl rfl el25 rfl) ?_
                              refine AR.op (r := i64 x1340) rfl (t_load_el i64 d1311 hl1341 rfl rfl rfl sz3 rfl) ?_
                              refine AR.drop (frx := [(2, _), (5, _), (9, _), (10, _), (11, _), (58, _), (59, _), (60, _), (61, _), (62, _)]) ⟨rfl, rfl, rfl, rfl, rfl, rfl, rfl, rfl, rfl, rfl, trivial⟩ ?_
                              refine AR.op (r := i64 k1032) rfl (aop_move (.inl rfl) rfl) ?_
                              refine AR.op (r := bl (decide (x1340 = k1032))) rfl (aop_eql rfl rfl rfl) ?_
                              refine AR.op (r := bl (decide (x1340 = k1032))) rfl (aop_pick rfl rfl rfl) ?_
                              refine AR.nil ?_
                              exact hK17 (decide (x1340 = k1032)) _ h (Weak.re (fr' := [(2, .ref 0 0 0), (5, .view 1 0 (List.map i64 d1311).length), (9, i64 k1032), (10, i64 x1242), (11, i64 y1312), (65, bl (decide (x1340 = k1032)))]) (H' := ⟨2, [(0, (2, [G.inquestref12_G.av g_0])), (1, (1, List.map i64 d1311))]⟩) [(0, 0), (1, 1)] [] rfl rfl rfl (.cons rfl rfl (.one (.same _ (by simp)) rfl) (of_decide_eq_true rfl) (.cons rfl rfl (.same (by simp)) (of_decide_eq_true rfl) (trivial))) ⟨⟨_, rfl, .ref rfl⟩, ⟨_, rfl, .view rfl⟩, ⟨_, rfl, .same _ (by simp)⟩, ⟨_, rfl, .same _ (by simp)⟩, ⟨_, rfl, .same _ (by simp)⟩, ⟨_, rfl, .same _ (by simp)⟩, trivial⟩)
                            · rw [hb1339]
                              replace h := Sh.if_f h hb1339
                              refine AR.skip rfl ?_
                              refine AR.drop (frx := [(2, _), (5, _), (9, _), (10, _), (11, _), (58, _), (59, _)]) ⟨rfl, rfl, rfl, rfl, rfl, rfl, rfl, trivial⟩ ?_
                              refine AR.skip rfl ?_
                              refine AR.skip rfl ?_
                              refine AR.skip rfl ?_
                              refine AR.drop (frx := [(2, _), (5, _), (9, _), (10, _), (11, _), (58, _), (59, _), (60, _), (61, _), (62, _)]) ⟨rfl, rfl, rfl, rfl, rfl, rfl, rfl, rfl, rfl, rfl, trivial⟩ ?_
                              refine AR.skip rfl ?_
                              refine AR.skip rfl ?_
                              refine AR.op (r := bl false) rfl (aop_pick rfl rfl rfl) ?_
                              refine AR.nil ?_
                              exact hK17 false _ h (Weak.re (fr' := [(2, .ref 0 0 0), (5, .view 1 0 (List.map i64 d1311).length), (9, i64 k1032), (10, i64 x1242), (11, i64 y1312), (65, bl false)]) (H' := ⟨2, [(0, (2, [G.inquestref12_G.av g_0])), (1, (1, List.map i64 d1311))]⟩) [(0, 0), (1, 1)] [] rfl rfl rfl (.cons rfl rfl (.one (.same _ (by simp)) rfl) (of_decide_eq_true rfl) (.cons rfl rfl (.same (by simp)) (of_decide_eq_true rfl) (trivial))) ⟨⟨_, rfl, .ref rfl⟩, ⟨_, rfl, .view rfl⟩, ⟨_, rfl, .same _ (by simp)⟩, ⟨_, rfl, .same _ (by simp)⟩, ⟨_, rfl, .same _ (by simp)⟩, ⟨_, rfl, .same _ (by simp)⟩, trivial⟩)
                      · replace h := Sh.if_f h hb1321
                        refine awp_exit ?_
                        replace h := Sh.exit_eq h hx3
                        exact hK12 d1311 _ h (Weak.re (fr' := [(2, .ref 0 0 0), (5, .view 1 0 (List.map i64 d1311).length), (9, i64 k1032), (10, i64 x1242)]) (H' := ⟨2, [(0, (2, [G.inquestref12_G.av g_0])), (1, (1, List.map i64 d1311))]⟩) [(0, 0), (1, 1)] [] rfl rfl rfl (.cons rfl rfl (.one (.same _ (by simp)) rfl) (of_decide_eq_true rfl) (.cons rfl rfl (.same (by simp)) (of_decide_eq_true rfl) (trivial))) ⟨⟨_, rfl, .ref rfl⟩, ⟨_, rfl, .view rfl⟩, ⟨_, rfl, .same _ (by simp)⟩, ⟨_, rfl, .same _ (by simp)⟩, trivial⟩)
                    · intro K18 hK18
                      refine awp_reg rfl ?_
                      refine AR.op (r := i64 y1312) rfl (aop_move (.inl rfl) rfl) ?_
                      refine AR.op rfl (aop_field_ref rfl rfl rfl fd27_0 (by decide)) ?_
                      refine AR.op (r := i64 g_0.N) rfl (aop_load_ref rfl rfl rfl rfl sz3 rfl) ?_
                      refine AR.drop (frx := [(2, _), (5, _), (9, _), (10, _), (11, _), (40, _), (42, _)]) ⟨rfl, rfl, rfl, rfl, rfl, rfl, rfl, trivial⟩ ?_
                      refine AR.op (r := bl (decide (y1312 < g_0.N))) rfl (aop_lss rfl rfl rfl) ?_
                      refine AR.op (r := bl (decide (y1312 < g_0.N))) rfl (aop_move (.inl rfl) rfl) ?_
                      rcases Bool.eq_false_or_eq_true (decide (y1312 < g_0.N)) with hb1342 | hb1342
                      · rw [hb1342]
                        replace h := Sh.if_t h hb1342
                        refine AR.op (r := .view 1 0 (List.map i64 d1311).length) rfl (aop_move (.inl rfl) rfl) ?_
                        refine AR.drop (frx := [(2, _), (5, _), (9, _), (10, _), (11, _), (44, _), (45, _)]) ⟨rfl, rfl, rfl, rfl, rfl, rfl, rfl, trivial⟩ ?_
                        refine AR.op (r := i64 x1242) rfl (aop_move (.inl rfl) rfl) ?_
                        obtain ⟨x1343, hx1343, h⟩ := Sh.bind_some' h
                        obtain ⟨k1344, hi1344, hl1344⟩ := Sh.idx_some hx1343
                        refine AR.op (r := .ref 1 k1344 0) rfl (t_index_view i64 d1311 hi1344 hl1344 rfl rfl rfl rfl rfl el25 rfl) ?_
                        refine AR.op (r := i64 x1343) rfl (t_load_el i64 d1311 hl1344 rfl rfl rfl sz3 rfl) ?_
                        refine AR.drop (frx := [(2, _), (5, _), (9, _), (10, _), (11, _), (44, _), (45, _), (46, _), (47, _), (48, _)]) ⟨rfl, rfl, rfl, rfl, rfl, rfl, rfl, rfl, rfl, rfl, trivial⟩ ?_
                        refine AR.op (r := bl (decide (x1343 = 0))) rfl (aop_eql rfl rfl rfl) ?_
                        refine AR.op (r := bl (decide (x1343 = 0))) rfl (aop_pick rfl rfl rfl) ?_
                        refine AR.nil ?_
                        exact hK18 (decide (x1343 = 0)) _ h (Weak.re (fr' := [(2, .ref 0 0 0), (5, .view 1 0 (List.map i64 d1311).length), (9, i64 k1032), (10, i64 x1242), (11, i64 y1312), (50, bl (decide (x1343 = 0)))]) (H' := ⟨2, [(0, (2, [G.inquestref12_G.av g_0])), (1, (1, List.map i64 d1311))]⟩) [(0, 0), (1, 1)] [] rfl rfl rfl (.cons rfl rfl (.one (.same _ (by simp)) rfl) (of_decide_eq_true rfl) (.cons rfl rfl (.same (by simp)) (of_decide_eq_true rfl) (trivial))) ⟨⟨_, rfl, .ref rfl⟩, ⟨_, rfl, .view rfl⟩, ⟨_, rfl, .same _ (by simp)⟩, ⟨_, rfl, .same _ (by simp)⟩, ⟨_, rfl, .same _ (by simp)⟩, ⟨_, rfl, .same _ (by simp)⟩, trivial⟩)
                      · rw [hb1342]
                        replace h := Sh.if_f h hb1342
                        refine AR.skip rfl ?_
                        refine AR.drop (frx := [(2, _), (5, _), (9, _), (10, _), (11, _), (44, _), (45, _)]) ⟨rfl, rfl, rfl, rfl, rfl, rfl, rfl, trivial⟩ ?_
                        refine AR.skip rfl ?_
                        refine AR.skip rfl ?_
                        refine AR.skip rfl ?_
                        refine AR.drop (frx := [(2, _), (5, _), (9, _), (10, _), (11, _), (44, _), (45, _), (46, _), (47, _), (48, _)]) ⟨rfl, rfl, rfl, rfl, rfl, rfl, rfl, rfl, rfl, rfl, trivial⟩ ?_
                        refine AR.skip rfl ?_
                        refine AR.op (r := bl false) rfl (aop_pick rfl rfl rfl) ?_
                        refine AR.nil ?_
                        exact hK18 false _ h (Weak.re (fr' := [(2, .ref 0 0 0), (5, .view 1 0 (List.map i64 d1311).length), (9, i64 k1032), (10, i64 x1242), (11, i64 y1312), (50, bl false)]) (H' := ⟨2, [(0, (2, [G.inquestref12_G.av g_0])), (1, (1, List.map i64 d1311))]⟩) [(0, 0), (1, 1)] [] rfl rfl rfl (.cons rfl rfl (.one (.same _ (by simp)) rfl) (of_decide_eq_true rfl) (.cons rfl rfl (.same (by simp)) (of_decide_eq_true rfl) (trivial))) ⟨⟨_, rfl, .ref rfl⟩, ⟨_, rfl, .view rfl⟩, ⟨_, rfl, .same _ (by simp)⟩, ⟨_, rfl, .same _ (by simp)⟩, ⟨_, rfl, .same _ (by simp)⟩, ⟨_, rfl, .same _ (by simp)⟩, trivial⟩)
              · replace h := Sh.if_f h hb1243
                refine awp_exit ?_
                replace h := Sh.exit_eq h hx2
                exact hK8 d1241 _ h (Weak.re (fr' := [(2, .ref 0 0 0), (5, .view 1 0 (List.map i64 d1241).length), (9, i64 k1032)]) (H' := ⟨2, [(0, (2, [G.inquestref12_G.av g_0])), (1, (1, List.map i64 d1241))]⟩) [(0, 0), (1, 1)] [] rfl rfl rfl (.cons rfl rfl (.one (.same _ (by simp)) rfl) (of_decide_eq_true rfl) (.cons rfl rfl (.same (by simp)) (of_decide_eq_true rfl) (trivial))) ⟨⟨_, rfl, .ref rfl⟩, ⟨_, rfl, .view rfl⟩, ⟨_, rfl, .same _ (by simp)⟩, trivial⟩)
        · replace h := Sh.if_f h hb1033
          refine awp_exit ?_
          replace h := Sh.exit_eq h hx1
          exact hK4 d1031 _ h (Weak.re (fr' := [(5, .view 0 0 (List.map i64 d1031).length)]) (H' := ⟨1, [(0, (1, List.map i64 d1031))]⟩) [(0, 1)] [] rfl rfl rfl (.cons rfl rfl (.same (by simp)) (of_decide_eq_true rfl) (trivial)) ⟨⟨_, rfl, .view rfl⟩, trivial⟩)
  · intro K19 hK19
    refine awp_seqK fun K20 hK20 => ?_
    refine awp_reg rfl ?_
    refine AR.op (r := i64 0) rfl (aop_move (.inr rfl) rfl) ?_
    refine AR.nil ?_
    refine hK20 _ ?_
    clear hK20 K20
    refine awp_block ?_
    refine awp_iter (fun (p : (List Int) × Int) => G.inquestref15_far_b4 g_0 v_1 p.1 p.2) (fun (p : (List Int) × Int) => (⟨[(1, i64 v_1), (2, .ref 0 0 0), (5, .view 1 0 (List.map i64 p.1).length), (6, i64 p.2)], ⟨2, [(0, (2, [G.inquestref12_G.av g_0])), (1, (1, List.map i64 p.1))]⟩⟩ : St)) h (Weak.re (fr' := [(1, i64 v_1), (2, .ref 0 0 0), (5, .view 1 0 (List.map i64 []).length), (6, i64 0)]) (H' := ⟨2, [(0, (2, [G.inquestref12_G.av g_0])), (1, (1, List.map i64 []))]⟩) [(0, 0)] [1] rfl rfl rfl (.cons rfl rfl (.one (.same _ (by simp)) rfl) (of_decide_eq_true rfl) (.fresh (by simp) (of_decide_eq_true rfl) (trivial))) ⟨⟨_, rfl, .same _ (by simp)⟩, ⟨_, rfl, .ref rfl⟩, ⟨_, rfl, .nil (by simp)⟩, ⟨_, rfl, .same _ (by simp)⟩, trivial⟩) ?_
    · skip
      rintro ⟨d1353, x1354⟩ o4 h hx4
      replace h : G.inquestref15_far_b4 g_0 v_1 d1353 x1354 = some o4 := h
      unfold G.inquestref15_far_b4 at h
      show AWP _ _ _ _ ⟨[(1, i64 v_1), (2, .ref 0 0 0), (5, .view 1 0 (List.map i64 d1353).length), (6, i64 x1354)], ⟨2, [(0, (2, [G.inquestref12_G.av g_0])), (1, (1, List.map i64 d1353))]⟩⟩ _
      refine awp_seqK fun K21 hK21 => ?_
      refine awp_seqK fun K22 hK22 => ?_
      refine awp_reg rfl ?_
      refine AR.op (r := i64 x1354) rfl (aop_move (.inl rfl) rfl) ?_
      refine AR.op rfl (aop_field_ref rfl rfl rfl fd27_0 (by decide)) ?_
      refine AR.op (r := i64 g_0.N) rfl (aop_load_ref rfl rfl rfl rfl sz3 rfl) ?_
      refine AR.drop (frx := [(1, _), (2, _), (5, _), (6, _), (13, _), (15, _)]) ⟨rfl, rfl, rfl, rfl, rfl, rfl, trivial⟩ ?_
      refine AR.op (r := bl (decide (x1354 < g_0.N))) rfl (aop_lss rfl rfl rfl) ?_
      refine AR.nil ?_
      refine hK22 _ (AWP.weak (Weak.re (fr' := [(1, i64 v_1), (2, .ref 0 0 0), (5, .view 1 0 (List.map i64 d1353).length), (6, i64 x1354), (16, bl (decide (x1354 < g_0.N)))]) (H' := ⟨2, [(0, (2, [G.inquestref12_G.av g_0])), (1, (1, List.map i64 d1353))]⟩) [(0, 0), (1, 1)] [] rfl rfl rfl (.cons rfl rfl (.one (.same _ (by simp)) rfl) (of_decide_eq_true rfl) (.cons rfl rfl (.same (by simp)) (of_decide_eq_true rfl) (trivial))) ⟨⟨_, rfl, .same _ (by simp)⟩, ⟨_, rfl, .ref rfl⟩, ⟨_, rfl, .view rfl⟩, ⟨_, rfl, .same _ (by simp)⟩, ⟨_, rfl, .same _ (by simp)⟩, trivial⟩) ?_)
      clear hK22 K22
      refine awp_cond rfl (fun hb1355 => ?_) (fun hb1355 => ?_)
      · replace h := Sh.if_t h hb1355
        refine awp_skip ?_
        refine hK21 _ (AWP.weak (Weak.re (fr' := [(1, i64 v_1), (2, .ref 0 0 0), (5, .view 1 0 (List.map i64 d1353).length), (6, i64 x1354)]) (H' := ⟨2, [(0, (2, [G.inquestref12_G.av g_0])), (1, (1, List.map i64 d1353))]⟩) [(0, 0), (1, 1)] [] rfl rfl rfl (.cons rfl rfl (.one (.same _ (by simp)) rfl) (of_decide_eq_true rfl) (.cons rfl rfl (.same (by simp)) (of_decide_eq_true rfl) (trivial))) ⟨⟨_, rfl, .same _ (by simp)⟩, ⟨_, rfl, .ref rfl⟩, ⟨_, rfl, .view rfl⟩, ⟨_, rfl, .same _ (by simp)⟩, trivial⟩) ?_)
        clear hK21 K21
        refine awp_seqK fun K23 hK23 => ?_
        refine awp_block ?_
        refine awp_seqK fun K24 hK24 => ?_
        refine awp_reg rfl ?_
        refine AR.op (r := i64 0) rfl (aop_move (.inr rfl) rfl) ?_
        refine AR.nil ?_
        refine hK24 _ ?_
        clear hK24 K24
        refine awp_seqK fun K25 hK25 => ?_
        refine awp_reg rfl ?_
        refine AR.op (r := G.inquestref12_G.av g_0) rfl (aop_load_ref rfl rfl rfl rfl sz27 rfl) ?_
        refine AR.op (r := i64 x1354) rfl (aop_move (.inl rfl) rfl) ?_
        refine AR.op (r := i64 v_1) rfl (aop_move (.inl rfl) rfl) ?_
        refine AR.drop (frx := [(1, _), (2, _), (5, _), (6, _), (7, _), (19, _), (20, _), (21, _)]) ⟨rfl, rfl, rfl, rfl, rfl, rfl, rfl, rfl, trivial⟩ ?_
        obtain ⟨r1360, hr1360, h⟩ := Sh.bind_some' h
        refine AR.op (r := bl r1360) rfl (aop_call1 rfl rfl (by simp) (inquestref12_Has_ok hT hr1360)) ?_
        refine AR.op (r := bl r1360) rfl (aop_move (.inr rfl) rfl) ?_
        refine AR.nil ?_
        refine hK25 _ (AWP.weak (Weak.re (fr' := [(1, i64 v_1), (2, .ref 0 0 0), (5, .view 1 0 (List.map i64 d1353).length), (6, i64 x1354), (7, i64 0), (8, bl r1360)]) (H' := ⟨2, [(0, (2, [G.inquestref12_G.av g_0])), (1, (1, List.map i64 d1353))]⟩) [(0, 0), (1, 1)] [] rfl rfl rfl (.cons rfl rfl (.one (.same _ (by simp)) rfl) (of_decide_eq_true rfl) (.cons rfl rfl (.same (by simp)) (of_decide_eq_true rfl) (trivial))) ⟨⟨_, rfl, .same _ (by simp)⟩, ⟨_, rfl, .ref rfl⟩, ⟨_, rfl, .view rfl⟩, ⟨_, rfl, .same _ (by simp)⟩, ⟨_, rfl, .same _ (by simp)⟩, ⟨_, rfl, .same _ (by simp)⟩, trivial⟩) ?_)
        clear hK25 K25
        refine awp_seqJ (fun (p : Int) => (⟨[(1, i64 v_1), (2, .ref 0 0 0), (5, .view 1 0 (List.map i64 d1353).length), (6, i64 x1354), (7, i64 p)], ⟨2, [(0, (2, [G.inquestref12_G.av g_0])), (1, (1, List.map i64 d1353))]⟩⟩ : St)) (fun (p : Int) => G.inquestref15_far_j8 d1353 x1354 p = some o4) ?_ ?_
        · rintro n1361 h
          replace h : G.inquestref15_far_j8 d1353 x1354 n1361 = some o4 := h
          unfold G.inquestref15_far_j8 at h
          show AWP _ _ _ _ ⟨[(1, i64 v_1), (2, .ref 0 0 0), (5, .view 1 0 (List.map i64 d1353).length), (6, i64 x1354), (7, i64 n1361)], ⟨2, [(0, (2, [G.inquestref12_G.av g_0])), (1, (1, List.map i64 d1353))]⟩⟩ _
          refine awp_reg rfl ?_
          refine AR.op (r := .view 1 0 (List.map i64 d1353).length) rfl (aop_move (.inl rfl) rfl) ?_
          refine AR.op (r := i64 n1361) rfl (aop_move (.inl rfl) rfl) ?_
          refine AR.op (r := .clip (List.map i64 [n1361])) rfl (aop_buildSlice rfl (xo := [.tmp 25]) rfl rfl rfl (by simp [AV.solid]) (by simp [AV.flat]) el25 ze25 (by decide)) ?_
          refine AR.drop (frx := [(1, _), (2, _), (6, _), (24, _), (26, _)]) ⟨rfl, rfl, rfl, rfl, rfl, trivial⟩ ?_
          obtain ⟨d1362, hd1362, h⟩ := Sh.bind_some' h
          refine AR.op (r := .view 2 0 (List.map i64 d1362).length) rfl (t_app_view i64 d1353 [n1361] d1362 hd1362 rfl et25 (fun _ => rfl) rfl rfl rfl rfl rfl rfl rfl) ?_
          refine AR.op (r := .view 2 0 (List.map i64 d1362).length) rfl (aop_move (.inr rfl) rfl) ?_
          refine AR.nil ?_
          refine hK23 _ (AWP.weak (Weak.re (fr' := [(1, i64 v_1), (2, .ref 0 0 0), (6, i64 x1354), (5, .view 1 0 (List.map i64 d1362).length)]) (H' := ⟨2, [(0, (2, [G.inquestref12_G.av g_0])), (1, (1, List.map i64 d1362))]⟩) [(0, 0), (1, 2)] [] rfl rfl rfl (.cons rfl rfl (.one (.same _ (by simp)) rfl) (of_decide_eq_true rfl) (.cons rfl rfl (.same (by simp)) (of_decide_eq_true rfl) (trivial))) ⟨⟨_, rfl, .same _ (by simp)⟩, ⟨_, rfl, .ref rfl⟩, ⟨_, rfl, .same _ (by simp)⟩, ⟨_, rfl, .view rfl⟩, trivial⟩) ?_)
          clear hK23 K23
          refine awp_reg rfl ?_
          refine AR.op (r := i64 x1354) rfl (aop_move (.inl rfl) rfl) ?_
          refine AR.op (r := i64 (w64 (x1354 + 1))) rfl (aop_add rfl rfl rfl rfl) ?_
          refine AR.op (r := i64 (w64 (x1354 + 1))) rfl (aop_move (.inr rfl) rfl) ?_
          refine AR.nil ?_
          replace h := Sh.next_eq h
          exact ⟨_, h, Weak.re (fr' := [(1, i64 v_1), (2, .ref 0 0 0), (5, .view 1 0 (List.map i64 d1362).length), (6, i64 (w64 (x1354 + 1)))]) (H' := ⟨2, [(0, (2, [G.inquestref12_G.av g_0])), (1, (1, List.map i64 d1362))]⟩) [(0, 0), (1, 1)] [] rfl rfl rfl (.cons rfl rfl (.one (.same _ (by simp)) rfl) (of_decide_eq_true rfl) (.cons rfl rfl (.same (by simp)) (of_decide_eq_true rfl) (trivial))) ⟨⟨_, rfl, .same _ (by simp)⟩, ⟨_, rfl, .ref rfl⟩, ⟨_, rfl, .view rfl⟩, ⟨_, rfl, .same _ (by simp)⟩, trivial⟩⟩
        · intro K26 hK26
          refine awp_seqK fun K27 hK27 => ?_
          refine awp_reg rfl ?_
          refine AR.op (r := bl r1360) rfl (aop_move (.inl rfl) rfl) ?_
          refine AR.nil ?_
          refine hK27 _ (AWP.weak (Weak.re (fr' := [(1, i64 v_1), (2, .ref 0 0 0), (5, .view 1 0 (List.map i64 d1353).length), (6, i64 x1354), (7, i64 0), (23, bl r1360)]) (H' := ⟨2, [(0, (2, [G.inquestref12_G.av g_0])), (1, (1, List.map i64 d1353))]⟩) [(0, 0), (1, 1)] [] rfl rfl rfl (.cons rfl rfl (.one (.same _ (by simp)) rfl) (of_decide_eq_true rfl) (.cons rfl rfl (.same (by simp)) (of_decide_eq_true rfl) (trivial))) ⟨⟨_, rfl, .same _ (by simp)⟩, ⟨_, rfl, .ref rfl⟩, ⟨_, rfl, .view rfl⟩, ⟨_, rfl, .same _ (by simp)⟩, ⟨_, rfl, .same _ (by simp)⟩, ⟨_, rfl, .same _ (by simp)⟩, trivial⟩) ?_)
          clear hK27 K27
          refine awp_cond rfl (fun hb1363 => ?_) (fun hb1363 => ?_)
          · replace h := Sh.if_t h hb1363
            refine awp_reg rfl ?_
            refine AR.op (r := i64 1) rfl (aop_move (.inr rfl) rfl) ?_
            refine AR.nil ?_
            exact hK26 1 _ h (Weak.re (fr' := [(1, i64 v_1), (2, .ref 0 0 0), (5, .view 1 0 (List.map i64 d1353).length), (6, i64 x1354), (7, i64 1)]) (H' := ⟨2, [(0, (2, [G.inquestref12_G.av g_0])), (1, (1, List.map i64 d1353))]⟩) [(0, 0), (1, 1)] [] rfl rfl rfl (.cons rfl rfl (.one (.same _ (by simp)) rfl) (of_decide_eq_true rfl) (.cons rfl rfl (.same (by simp)) (of_decide_eq_true rfl) (trivial))) ⟨⟨_, rfl, .same _ (by simp)⟩, ⟨_, rfl, .ref rfl⟩, ⟨_, rfl, .view rfl⟩, ⟨_, rfl, .same _ (by simp)⟩, ⟨_, rfl, .same _ (by simp)⟩, trivial⟩)
          · replace h := Sh.if_f h hb1363
            refine awp_skip ?_
            exact hK26 0 _ h (Weak.re (fr' := [(1, i64 v_1), (2, .ref 0 0 0), (5, .view 1 0 (List.map i64 d1353).length), (6, i64 x1354), (7, i64 0)]) (H' := ⟨2, [(0, (2, [G.inquestref12_G.av g_0])), (1, (1, List.map i64 d1353))]⟩) [(0, 0), (1, 1)] [] rfl rfl rfl (.cons rfl rfl (.one (.same _ (by simp)) rfl) (of_decide_eq_true rfl) (.cons rfl rfl (.same (by simp)) (of_decide_eq_true rfl) (trivial))) ⟨⟨_, rfl, .same _ (by simp)⟩, ⟨_, rfl, .ref rfl⟩, ⟨_, rfl, .view rfl⟩, ⟨_, rfl, .same _ (by simp)⟩, ⟨_, rfl, .same _ (by simp)⟩, trivial⟩)
      · replace h := Sh.if_f h hb1355
        refine awp_exit ?_
        replace h := Sh.exit_eq h hx4
        exact hK19 d1353 _ h (Weak.re (fr' := [(2, .ref 0 0 0), (5, .view 1 0 (List.map i64 d1353).length)]) (H' := ⟨2, [(0, (2, [G.inquestref12_G.av g_0])), (1, (1, List.map i64 d1353))]⟩) [(0, 0), (1, 1)] [] rfl rfl rfl (.cons rfl rfl (.one (.same _ (by simp)) rfl) (of_decide_eq_true rfl) (.cons rfl rfl (.same (by simp)) (of_decide_eq_true rfl) (trivial))) ⟨⟨_, rfl, .ref rfl⟩, ⟨_, rfl, .view rfl⟩, trivial⟩)
theorem inquestref15_far_ok {W0 : World} (hT : Tab W0) {g_0 : G.inquestref12_G} {v_1 : Int} {r : (List Int)} (h : G.inquestref15_far g_0 v_1 = some r) : Fun1 Tryd.prog W0 41 [G.inquestref12_G.av g_0, i64 v_1] (.sl (List.map i64 r)) :=
  (inquestref15_far_own hT h).give (Weak.re [] [] rfl rfl rfl trivial ⟨⟨_, rfl, .lendAll rfl rfl (by simp)⟩, trivial⟩) (by simp)


set_option maxHeartbeats 8000000 in
set_option maxRecDepth 20000 in
theorem inquestref15_Find_own {W0 : World} (hT : Tab W0) {g_0 : G.inquestref12_G} {r : (List Int)} (h : G.inquestref15_Find g_0 = some r) : Fun2 Tryd.prog W0 18 [G.inquestref12_G.av g_0] (.view 0 0 (List.map i64 r).length) ⟨1, [(0, (1, List.map i64 r))]⟩ := by
  refine fun2_of_awp Tryd.func18 rfl (by kernel_rfl) Tryd.ntmps18 (by simp) ?_
  unfold G.inquestref15_Find at h
  show AWP _ _ _ _ ⟨[(0, G.inquestref12_G.av g_0)], .empty⟩ _
  refine awp_seqK fun K1 hK1 => ?_
  refine awp_reg rfl ?_
  refine AR.op (r := .ref 0 0 0) rfl (aop_box 2 [G.inquestref12_G.av g_0] rfl rfl rfl (.inl ⟨rfl, rfl⟩)) ?_
  refine AR.op (r := nilS) rfl (aop_move (.inr rfl) rfl) ?_
  refine AR.nil ?_
  refine hK1 _ (AWP.weak (Weak.re (fr' := [(1, .ref 0 0 0)]) (H' := ⟨1, [(0, (2, [G.inquestref12_G.av g_0]))]⟩) [(0, 0)] [] rfl rfl rfl (.cons rfl rfl (.one (.same _ (by simp)) rfl) (of_decide_eq_true rfl) (trivial)) ⟨⟨_, rfl, .ref rfl⟩, trivial⟩) ?_)
  clear hK1 K1
  refine awp_seqK fun K2 hK2 => ?_
  refine awp_reg rfl ?_
  refine AR.op (r := G.inquestref12_G.av g_0) rfl (aop_load_ref rfl rfl rfl rfl sz27 rfl) ?_
  obtain ⟨r245, hr245, h⟩ := Sh.bind_some' h
  refine AR.op (r := bl r245) rfl (aop_call1 rfl rfl (by simp) (inquestref12_Right_ok hT hr245)) ?_
  refine AR.op (r := bl r245) rfl (aop_move (.inr rfl) rfl) ?_
  refine AR.nil ?_
  refine hK2 _ (AWP.weak (Weak.re (fr' := [(1, .ref 0 0 0), (3, bl r245)]) (H' := ⟨1, [(0, (2, [G.inquestref12_G.av g_0]))]⟩) [(0, 0)] [] rfl rfl rfl (.cons rfl rfl (.one (.same _ (by simp)) rfl) (of_decide_eq_true rfl) (trivial)) ⟨⟨_, rfl, .ref rfl⟩, ⟨_, rfl, .same _ (by simp)⟩, trivial⟩) ?_)
  clear hK2 K2
  refine awp_seqK fun K3 hK3 => ?_
  refine awp_seqK fun K4 hK4 => ?_
  refine awp_reg rfl ?_
  refine AR.op (r := bl r245) rfl (aop_move (.inl rfl) rfl) ?_
  refine AR.op (r := bl (!r245)) rfl (aop_not rfl rfl) ?_
  refine AR.nil ?_
  refine hK4 _ (AWP.weak (Weak.re (fr' := [(1, .ref 0 0 0), (15, bl (!r245))]) (H' := ⟨1, [(0, (2, [G.inquestref12_G.av g_0]))]⟩) [(0, 0)] [] rfl rfl rfl (.cons rfl rfl (.one (.same _ (by simp)) rfl) (of_decide_eq_true rfl) (trivial)) ⟨⟨_, rfl, .ref rfl⟩, ⟨_, rfl, .same _ (by simp)⟩, trivial⟩) ?_)
  clear hK4 K4
  refine awp_cond rfl (fun hb246 => ?_) (fun hb246 => ?_)
  · replace h := Sh.if_t h hb246
    refine awp_seqK fun K5 hK5 => ?_
    refine awp_reg rfl ?_
    refine AR.op (r := nilS) rfl (aop_move (.inr rfl) rfl) ?_
    refine AR.nil ?_
    refine hK5 _ (AWP.weak (Weak.re (fr' := [(2, nilS)]) (H' := .empty) [] [] rfl rfl rfl (trivial) ⟨⟨_, rfl, .same _ (by simp)⟩, trivial⟩) ?_)
    clear hK5 K5
    refine awp_ret ?_
    obtain rfl := Option.some.inj h
    refine ⟨.inr rfl, nilS, rfl, ?_⟩
    exact Weak.re [] [0] rfl rfl rfl (.fresh (by simp) (of_decide_eq_true rfl) (trivial)) ⟨⟨_, rfl, .nil (by simp)⟩, trivial⟩
  · replace h := Sh.if_f h hb246
    refine awp_skip ?_
    refine hK3 _ (AWP.weak (Weak.re (fr' := [(1, .ref 0 0 0)]) (H' := ⟨1, [(0, (2, [G.inquestref12_G.av g_0]))]⟩) [(0, 0)] [] rfl rfl rfl (.cons rfl rfl (.one (.same _ (by simp)) rfl) (of_decide_eq_true rfl) (trivial)) ⟨⟨_, rfl, .ref rfl⟩, trivial⟩) ?_)
    clear hK3 K3
    refine awp_seqJ (fun (p : Unit) => (⟨[], .empty⟩ : St)) (fun (p : Unit) => G.inquestref15_Find_j1 = some r) ?_ ?_
    · rintro ⟨⟩ h
      replace h : G.inquestref15_Find_j1 = some r := h
      unfold G.inquestref15_Find_j1 at h
      show AWP _ _ _ _ ⟨[], .empty⟩ _
      refine awp_seqK fun K6 hK6 => ?_
      refine awp_reg rfl ?_
      refine AR.op (r := nilS) rfl (aop_move (.inr rfl) rfl) ?_
      refine AR.nil ?_
      refine hK6 _ ?_
      clear hK6 K6
      refine awp_ret ?_
      obtain rfl := Option.some.inj h
      refine ⟨.inr rfl, nilS, rfl, ?_⟩
      exact Weak.re [] [0] rfl rfl rfl (.fresh (by simp) (of_decide_eq_true rfl) (trivial)) ⟨⟨_, rfl, .nil (by simp)⟩, trivial⟩
    · intro K7 hK7
      refine awp_seqK fun K8 hK8 => ?_
      refine awp_reg rfl ?_
      refine AR.op (r := i64 0) rfl (aop_move (.inr rfl) rfl) ?_
      refine AR.nil ?_
      refine hK8 _ ?_
      clear hK8 K8
      refine awp_block ?_
      refine awp_iter (fun (p : Int) => G.inquestref15_Find_b1 g_0 p) (fun (p : Int) => (⟨[(1, .ref 0 0 0), (4, i64 p)], ⟨1, [(0, (2, [G.inquestref12_G.av g_0]))]⟩⟩ : St)) h (Weak.re (fr' := [(1, .ref 0 0 0), (4, i64 0)]) (H' := ⟨1, [(0, (2, [G.inquestref12_G.av g_0]))]⟩) [(0, 0)] [] rfl rfl rfl (.cons rfl rfl (.one (.same _ (by simp)) rfl) (of_decide_eq_true rfl) (trivial)) ⟨⟨_, rfl, .ref rfl⟩, ⟨_, rfl, .same _ (by simp)⟩, trivial⟩) ?_
      · skip
        rintro v650 o1 h hx1
        replace h : G.inquestref15_Find_b1 g_0 v650 = some o1 := h
        unfold G.inquestref15_Find_b1 at h
        show AWP _ _ _ _ ⟨[(1, .ref 0 0 0), (4, i64 v650)], ⟨1, [(0, (2, [G.inquestref12_G.av g_0]))]⟩⟩ _
        refine awp_seqK fun K9 hK9 => ?_
        refine awp_seqK fun K10 hK10 => ?_
        refine awp_reg rfl ?_
        refine AR.op (r := i64 v650) rfl (aop_move (.inl rfl) rfl) ?_
        refine AR.op rfl (aop_field_ref rfl rfl rfl fd27_0 (by decide)) ?_
        refine AR.op (r := i64 g_0.N) rfl (aop_load_ref rfl rfl rfl rfl sz3 rfl) ?_
        refine AR.drop (frx := [(1, _), (4, _), (16, _), (18, _)]) ⟨rfl, rfl, rfl, rfl, trivial⟩ ?_
        refine AR.op (r := bl (decide (v650 < g_0.N))) rfl (aop_lss rfl rfl rfl) ?_
        refine AR.nil ?_
        refine hK10 _ (AWP.weak (Weak.re (fr' := [(1, .ref 0 0 0), (4, i64 v650), (19, bl (decide (v650 < g_0.N)))]) (H' := ⟨1, [(0, (2, [G.inquestref12_G.av g_0]))]⟩) [(0, 0)] [] rfl rfl rfl (.cons rfl rfl (.one (.same _ (by simp)) rfl) (of_decide_eq_true rfl) (trivial)) ⟨⟨_, rfl, .ref rfl⟩, ⟨_, rfl, .same _ (by simp)⟩, ⟨_, rfl, .same _ (by simp)⟩, trivial⟩) ?_)
        clear hK10 K10
        refine awp_cond rfl (fun hb651 => ?_) (fun hb651 => ?_)
        · replace h := Sh.if_t h hb651
          refine awp_skip ?_
          refine hK9 _ (AWP.weak (Weak.re (fr' := [(1, .ref 0 0 0), (4, i64 v650)]) (H' := ⟨1, [(0, (2, [G.inquestref12_G.av g_0]))]⟩) [(0, 0)] [] rfl rfl rfl (.cons rfl rfl (.one (.same _ (by simp)) rfl) (of_decide_eq_true rfl) (trivial)) ⟨⟨_, rfl, .ref rfl⟩, ⟨_, rfl, .same _ (by simp)⟩, trivial⟩) ?_)
          clear hK9 K9
          refine awp_seqJ (fun (p : Unit) => (⟨[(1, .ref 0 0 0), (4, i64 v650)], ⟨1, [(0, (2, [G.inquestref12_G.av g_0]))]⟩⟩ : St)) (fun (p : Unit) => G.inquestref15_Find_j2 v650 = some o1) ?_ ?_
          · rintro ⟨⟩ h
            replace h : G.inquestref15_Find_j2 v650 = some o1 := h
            unfold G.inquestref15_Find_j2 at h
            show AWP _ _ _ _ ⟨[(1, .ref 0 0 0), (4, i64 v650)], ⟨1, [(0, (2, [G.inquestref12_G.av g_0]))]⟩⟩ _
            refine awp_reg rfl ?_
            refine AR.op (r := i64 v650) rfl (aop_move (.inl rfl) rfl) ?_
            refine AR.op (r := i64 (w64 (v650 + 1))) rfl (aop_add rfl rfl rfl rfl) ?_
            refine AR.op (r := i64 (w64 (v650 + 1))) rfl (aop_move (.inr rfl) rfl) ?_
            refine AR.nil ?_
            replace h := Sh.next_eq h
            exact ⟨_, h, Weak.re (fr' := [(1, .ref 0 0 0), (4, i64 (w64 (v650 + 1)))]) (H' := ⟨1, [(0, (2, [G.inquestref12_G.av g_0]))]⟩) [(0, 0)] [] rfl rfl rfl (.cons rfl rfl (.one (.same _ (by simp)) rfl) (of_decide_eq_true rfl) (trivial)) ⟨⟨_, rfl, .ref rfl⟩, ⟨_, rfl, .same _ (by simp)⟩, trivial⟩⟩
          · intro K11 hK11
            refine awp_block ?_
            refine awp_seqK fun K12 hK12 => ?_
            refine awp_reg rfl ?_
            refine AR.op (r := G.inquestref12_G.av g_0) rfl (aop_load_ref rfl rfl rfl rfl sz27 rfl) ?_
            refine AR.op (r := i64 v650) rfl (aop_move (.inl rfl) rfl) ?_
            obtain ⟨r733, hr733, h⟩ := Sh.bind_some' h
            refine AR.op (r := .sl (List.map i64 r733)) rfl (aop_call1 rfl rfl (by simp) (inquestref15_far_ok hT hr733)) ?_
            refine AR.drop (frx := [(1, _), (4, _), (24, _)]) ⟨rfl, rfl, rfl, trivial⟩ ?_
            refine AR.op (r := .sl (List.map i64 r733)) rfl (aop_move (.inr rfl) rfl) ?_
            refine AR.nil ?_
            refine hK12 _ (AWP.weak (Weak.re (fr' := [(1, .ref 0 0 0), (4, i64 v650), (5, .sl (List.map i64 r733))]) (H' := ⟨1, [(0, (2, [G.inquestref12_G.av g_0]))]⟩) [(0, 0)] [] rfl rfl rfl (.cons rfl rfl (.one (.same _ (by simp)) rfl) (of_decide_eq_true rfl) (trivial)) ⟨⟨_, rfl, .ref rfl⟩, ⟨_, rfl, .same _ (by simp)⟩, ⟨.sl (List.map i64 r733), rfl, .same _ (by simp)⟩, trivial⟩) ?_)
            clear hK12 K12
            refine awp_seqK fun K13 hK13 => ?_
            refine awp_seqK fun K14 hK14 => ?_
            refine awp_reg rfl ?_
            refine AR.op (r := .sl (List.map i64 r733)) rfl (aop_move (.inl rfl) rfl) ?_
            refine AR.op (r := i64 v650) rfl (aop_move (.inl rfl) rfl) ?_
            obtain ⟨x738, hx738, h⟩ := Sh.bind_some' h
            obtain ⟨k739, hi739, hl739⟩ := Sh.idx_some hx738
            refine AR.op rfl (t_index_sl i64 r733 hi739 hl739 rfl rfl rfl el25 rfl) ?_
            refine AR.drop (frx := [(1, _), (4, _), (5, _), (27, _)]) ⟨rfl, rfl, rfl, rfl, trivial⟩ ?_
            refine AR.op (r := i64 x738) rfl (aop_load_pp rfl rfl sz3 rfl) ?_
            refine AR.op (r := bl (decide (x738 = 0))) rfl (aop_eql rfl rfl rfl) ?_
            refine AR.nil ?_
            refine hK14 _ (AWP.weak (Weak.re (fr' := [(1, .ref 0 0 0), (4, i64 v650), (5, .sl (List.map i64 r733)), (29, bl (decide (x738 = 0)))]) (H' := ⟨1, [(0, (2, [G.inquestref12_G.av g_0]))]⟩) [(0, 0)] [] rfl rfl rfl (.cons rfl rfl (.one (.same _ (by simp)) rfl) (of_decide_eq_true rfl) (trivial)) ⟨⟨_, rfl, .ref rfl⟩, ⟨_, rfl, .same _ (by simp)⟩, ⟨.sl (List.map i64 r733), rfl, .same _ (by simp)⟩, ⟨_, rfl, .same _ (by simp)⟩, trivial⟩) ?_)
            clear hK14 K14
            refine awp_cond rfl (fun hb740 => ?_) (fun hb740 => ?_)
            · replace h := Sh.if_t h hb740
              refine awp_exit ?_
              exact hK11 () _ h (Weak.re (fr' := [(1, .ref 0 0 0), (4, i64 v650)]) (H' := ⟨1, [(0, (2, [G.inquestref12_G.av g_0]))]⟩) [(0, 0)] [] rfl rfl rfl (.cons rfl rfl (.one (.same _ (by simp)) rfl) (of_decide_eq_true rfl) (trivial)) ⟨⟨_, rfl, .ref rfl⟩, ⟨_, rfl, .same _ (by simp)⟩, trivial⟩)
            · replace h := Sh.if_f h hb740
              refine awp_skip ?_
              refine hK13 _ (AWP.weak (Weak.re (fr' := [(1, .ref 0 0 0), (4, i64 v650), (5, .sl (List.map i64 r733))]) (H' := ⟨1, [(0, (2, [G.inquestref12_G.av g_0]))]⟩) [(0, 0)] [] rfl rfl rfl (.cons rfl rfl (.one (.same _ (by simp)) rfl) (of_decide_eq_true rfl) (trivial)) ⟨⟨_, rfl, .ref rfl⟩, ⟨_, rfl, .same _ (by simp)⟩, ⟨.sl (List.map i64 r733), rfl, .same _ (by simp)⟩, trivial⟩) ?_)
              clear hK13 K13
              refine awp_seqK fun K15 hK15 => ?_
              refine awp_reg rfl ?_
              refine AR.op (r := i64 v650) rfl (aop_move (.inl rfl) rfl) ?_
              refine AR.op (r := .view 1 0 (List.map i64 [v650]).length) rfl (t_buildV i64 [v650] rfl (xo := [.tmp 30]) rfl rfl rfl (by simp [AV.solid]) (by simp [AV.flat]) el25 ze25 (by decide)) ?_
              refine AR.op (r := .view 1 0 (List.map i64 [v650]).length) rfl (aop_move (.inr rfl) rfl) ?_
              refine AR.nil ?_
              refine hK15 _ (AWP.weak (Weak.re (fr' := [(1, .ref 0 0 0), (4, i64 v650), (5, .sl (List.map i64 r733)), (6, .view 1 0 (List.map i64 [v650]).length)]) (H' := ⟨2, [(0, (2, [G.inquestref12_G.av g_0])), (1, (1, List.map i64 [v650]))]⟩) [(0, 0), (1, 1)] [] rfl rfl rfl (.cons rfl rfl (.one (.same _ (by simp)) rfl) (of_decide_eq_true rfl) (.cons rfl rfl (.same (by simp)) (of_decide_eq_true rfl) (trivial))) ⟨⟨_, rfl, .ref rfl⟩, ⟨_, rfl, .same _ (by simp)⟩, ⟨.sl (List.map i64 r733), rfl, .same _ (by simp)⟩, ⟨_, rfl, .view rfl⟩, trivial⟩) ?_)
              clear hK15 K15
              refine awp_seqK fun K16 hK16 => ?_
              refine awp_reg rfl ?_
              refine AR.op (r := i64 v650) rfl (aop_move (.inl rfl) rfl) ?_
              refine AR.op (r := i64 v650) rfl (aop_move (.inr rfl) rfl) ?_
              refine AR.nil ?_
              refine hK16 _ (AWP.weak (Weak.re (fr' := [(1, .ref 0 0 0), (4, i64 v650), (5, .sl (List.map i64 r733)), (6, .view 1 0 (List.map i64 [v650]).length), (7, i64 v650)]) (H' := ⟨2, [(0, (2, [G.inquestref12_G.av g_0])), (1, (1, List.map i64 [v650]))]⟩) [(0, 0), (1, 1)] [] rfl rfl rfl (.cons rfl rfl (.one (.same _ (by simp)) rfl) (of_decide_eq_true rfl) (.cons rfl rfl (.same (by simp)) (of_decide_eq_true rfl) (trivial))) ⟨⟨_, rfl, .ref rfl⟩, ⟨_, rfl, .same _ (by simp)⟩, ⟨.sl (List.map i64 r733), rfl, .same _ (by simp)⟩, ⟨_, rfl, .view rfl⟩, ⟨_, rfl, .same _ (by simp)⟩, trivial⟩) ?_)
              clear hK16 K16
              refine awp_seqJ (fun (p : (List Int)) => (⟨[(6, .view 0 0 (List.map i64 p).length)], ⟨1, [(0, (1, List.map i64 p))]⟩⟩ : St)) (fun (p : (List Int)) => G.inquestref15_Find_j3 p = some o1) ?_ ?_
              · rintro out818 h
                replace h : G.inquestref15_Find_j3 out818 = some o1 := h
                unfold G.inquestref15_Find_j3 at h
                show AWP _ _ _ _ ⟨[(6, .view 0 0 (List.map i64 out818).length)], ⟨1, [(0, (1, List.map i64 out818))]⟩⟩ _
                refine awp_seqK fun K17 hK17 => ?_
                refine awp_reg rfl ?_
                refine AR.op (r := .view 0 0 (List.map i64 out818).length) rfl (aop_move (.inl rfl) rfl) ?_
                refine AR.op (r := .view 0 0 (List.map i64 out818).length) rfl (aop_move (.inr rfl) rfl) ?_
                refine AR.nil ?_
                refine hK17 _ (AWP.weak (Weak.re (fr' := [(2, .view 0 0 (List.map i64 out818).length)]) (H' := ⟨1, [(0, (1, List.map i64 out818))]⟩) [(0, 0)] [] rfl rfl rfl (.cons rfl rfl (.same (by simp)) (of_decide_eq_true rfl) (trivial)) ⟨⟨_, rfl, .view rfl⟩, trivial⟩) ?_)
                clear hK17 K17
                refine awp_ret ?_
                replace h := Sh.exit_eq h hx1
                obtain rfl := Option.some.inj h
                refine ⟨.inr rfl, .view 0 0 (List.map i64 out818).length, rfl, ?_⟩
                exact Weak.re [(0, 0)] [] rfl rfl rfl (.cons rfl rfl (.same (by simp)) (of_decide_eq_true rfl) (trivial)) ⟨⟨_, rfl, .view rfl⟩, trivial⟩
              · intro K18 hK18
                refine awp_seqK fun K19 hK19 => ?_
                refine awp_reg rfl ?_
                refine AR.op (r := .sl (List.map i64 r733)) rfl (aop_move (.inl rfl) rfl) ?_
                refine AR.op (r := i64 v650) rfl (aop_move (.inl rfl) rfl) ?_
                obtain ⟨x821, hx821, h⟩ := Sh.bind_some' h
                obtain ⟨k822, hi822, hl822⟩ := Sh.idx_some hx821
                refine AR.op rfl (t_index_sl i64 r733 hi822 hl822 rfl rfl rfl el25 rfl) ?_
                refine AR.drop (frx := [(1, _), (5, _), (6, _), (7, _), (35, _)]) ⟨rfl, rfl, rfl, rfl, rfl, trivial⟩ ?_
                refine AR.op (r := i64 x821) rfl (aop_load_pp rfl rfl sz3 rfl) ?_
                refine AR.op (r := i64 (w64 (x821 - 1))) rfl (aop_sub rfl rfl rfl rfl) ?_
                refine AR.op (r := i64 (w64 (x821 - 1))) rfl (aop_move (.inr rfl) rfl) ?_
                refine AR.nil ?_
                refine hK19 _ (AWP.weak (Weak.re (fr' := [(1, .ref 0 0 0), (5, .sl (List.map i64 r733)), (6, .view 1 0 (List.map i64 [v650]).length), (7, i64 v650), (8, i64 (w64 (x821 - 1)))]) (H' := ⟨2, [(0, (2, [G.inquestref12_G.av g_0])), (1, (1, List.map i64 [v650]))]⟩) [(0, 0), (1, 1)] [] rfl rfl rfl (.cons rfl rfl (.one (.same _ (by simp)) rfl) (of_decide_eq_true rfl) (.cons rfl rfl (.same (by simp)) (of_decide_eq_true rfl) (trivial))) ⟨⟨_, rfl, .ref rfl⟩, ⟨.sl (List.map i64 r733), rfl, .same _ (by simp)⟩, ⟨_, rfl, .view rfl⟩, ⟨_, rfl, .same _ (by simp)⟩, ⟨_, rfl, .same _ (by simp)⟩, trivial⟩) ?_)
                clear hK19 K19
                refine awp_block ?_
                refine awp_iter (fun (p : (List Int) × Int × Int) => G.inquestref15_Find_b2 g_0 r733 p.1 p.2.1 p.2.2) (fun (p : (List Int) × Int × Int) => (⟨[(1, .ref 0 0 0), (5, .sl (List.map i64 r733)), (6, .view 1 0 (List.map i64 p.1).length), (7, i64 p.2.1), (8, i64 p.2.2)], ⟨2, [(0, (2, [G.inquestref12_G.av g_0])), (1, (1, List.map i64 p.1))]⟩⟩ : St)) h (Weak.re (fr' := [(1, .ref 0 0 0), (5, .sl (List.map i64 r733)), (6, .view 1 0 (List.map i64 [v650]).length), (7, i64 v650), (8, i64 (w64 (x821 - 1)))]) (H' := ⟨2, [(0, (2, [G.inquestref12_G.av g_0])), (1, (1, List.map i64 [v650]))]⟩) [(0, 0), (1, 1)] [] rfl rfl rfl (.cons rfl rfl (.one (.same _ (by simp)) rfl) (of_decide_eq_true rfl) (.cons rfl rfl (.same (by simp)) (of_decide_eq_true rfl) (trivial))) ⟨⟨_, rfl, .ref rfl⟩, ⟨.sl (List.map i64 r733), rfl, .same _ (by simp)⟩, ⟨_, rfl, .view rfl⟩, ⟨_, rfl, .same _ (by simp)⟩, ⟨_, rfl, .same _ (by simp)⟩, trivial⟩) ?_
                · skip
                  rintro ⟨out872, x873, left874⟩ o2 h hx2
                  replace h : G.inquestref15_Find_b2 g_0 r733 out872 x873 left874 = some o2 := h
                  unfold G.inquestref15_Find_b2 at h
                  show AWP _ _ _ _ ⟨[(1, .ref 0 0 0), (5, .sl (List.map i64 r733)), (6, .view 1 0 (List.map i64 out872).length), (7, i64 x873), (8, i64 left874)], ⟨2, [(0, (2, [G.inquestref12_G.av g_0])), (1, (1, List.map i64 out872))]⟩⟩ _
                  refine awp_seqK fun K20 hK20 => ?_
                  refine awp_seqK fun K21 hK21 => ?_
                  refine awp_reg rfl ?_
                  refine AR.op (r := i64 left874) rfl (aop_move (.inl rfl) rfl) ?_
                  refine AR.op (r := bl (decide ((0 : Int) < left874))) rfl (aop_gtr rfl rfl rfl) ?_
                  refine AR.nil ?_
                  refine hK21 _ (AWP.weak (Weak.re (fr' := [(1, .ref 0 0 0), (5, .sl (List.map i64 r733)), (6, .view 1 0 (List.map i64 out872).length), (7, i64 x873), (8, i64 left874), (39, bl (decide ((0 : Int) < left874)))]) (H' := ⟨2, [(0, (2, [G.inquestref12_G.av g_0])), (1, (1, List.map i64 out872))]⟩) [(0, 0), (1, 1)] [] rfl rfl rfl (.cons rfl rfl (.one (.same _ (by simp)) rfl) (of_decide_eq_true rfl) (.cons rfl rfl (.same (by simp)) (of_decide_eq_true rfl) (trivial))) ⟨⟨_, rfl, .ref rfl⟩, ⟨.sl (List.map i64 r733), rfl, .same _ (by simp)⟩, ⟨_, rfl, .view rfl⟩, ⟨_, rfl, .same _ (by simp)⟩, ⟨_, rfl, .same _ (by simp)⟩, ⟨_, rfl, .same _ (by simp)⟩, trivial⟩) ?_)
                  clear hK21 K21
                  refine awp_cond rfl (fun hb875 => ?_) (fun hb875 => ?_)
                  · replace h := Sh.if_t h hb875
                    refine awp_skip ?_
                    refine hK20 _ (AWP.weak (Weak.re (fr' := [(1, .ref 0 0 0), (5, .sl (List.map i64 r733)), (6, .view 1 0 (List.map i64 out872).length), (7, i64 x873), (8, i64 left874)]) (H' := ⟨2, [(0, (2, [G.inquestref12_G.av g_0])), (1, (1, List.map i64 out872))]⟩) [(0, 0), (1, 1)] [] rfl rfl rfl (.cons rfl rfl (.one (.same _ (by simp)) rfl) (of_decide_eq_true rfl) (.cons rfl rfl (.same (by simp)) (of_decide_eq_true rfl) (trivial))) ⟨⟨_, rfl, .ref rfl⟩, ⟨.sl (List.map i64 r733), rfl, .same _ (by simp)⟩, ⟨_, rfl, .view rfl⟩, ⟨_, rfl, .same _ (by simp)⟩, ⟨_, rfl, .same _ (by simp)⟩, trivial⟩) ?_)
                    clear hK20 K20
                    refine awp_seqJ (fun (p : Int × (List Int)) => (⟨[(1, .ref 0 0 0), (5, .sl (List.map i64 r733)), (8, i64 left874), (7, i64 p.1), (6, .view 1 0 (List.map i64 p.2).length)], ⟨2, [(0, (2, [G.inquestref12_G.av g_0])), (1, (1, List.map i64 p.2))]⟩⟩ : St)) (fun (p : Int × (List Int)) => G.inquestref15_Find_j4 left874 p.1 p.2 = some o2) ?_ ?_
                    · rintro ⟨x899, out900⟩ h
                      replace h : G.inquestref15_Find_j4 left874 x899 out900 = some o2 := h
                      unfold G.inquestref15_Find_j4 at h
                      show AWP _ _ _ _ ⟨[(1, .ref 0 0 0), (5, .sl (List.map i64 r733)), (8, i64 left874), (7, i64 x899), (6, .view 1 0 (List.map i64 out900).length)], ⟨2, [(0, (2, [G.inquestref12_G.av g_0])), (1, (1, List.map i64 out900))]⟩⟩ _
                      refine awp_reg rfl ?_
                      refine AR.op (r := i64 left874) rfl (aop_move (.inl rfl) rfl) ?_
                      refine AR.op (r := i64 (w64 (left874 - 1))) rfl (aop_sub rfl rfl rfl rfl) ?_
                      refine AR.op (r := i64 (w64 (left874 - 1))) rfl (aop_move (.inr rfl) rfl) ?_
                      refine AR.nil ?_
                      replace h := Sh.next_eq h
                      exact ⟨_, h, Weak.re (fr' := [(1, .ref 0 0 0), (5, .sl (List.map i64 r733)), (6, .view 1 0 (List.map i64 out900).length), (7, i64 x899), (8, i64 (w64 (left874 - 1)))]) (H' := ⟨2, [(0, (2, [G.inquestref12_G.av g_0])), (1, (1, List.map i64 out900))]⟩) [(0, 0), (1, 1)] [] rfl rfl rfl (.cons rfl rfl (.one (.same _ (by simp)) rfl) (of_decide_eq_true rfl) (.cons rfl rfl (.same (by simp)) (of_decide_eq_true rfl) (trivial))) ⟨⟨_, rfl, .ref rfl⟩, ⟨.sl (List.map i64 r733), rfl, .same _ (by simp)⟩, ⟨_, rfl, .view rfl⟩, ⟨_, rfl, .same _ (by simp)⟩, ⟨_, rfl, .same _ (by simp)⟩, trivial⟩⟩
                    · intro K22 hK22
                      refine awp_block ?_
                      refine awp_seqK fun K23 hK23 => ?_
                      refine awp_reg rfl ?_
                      refine AR.op (r := i64 (-1)) rfl (aop_move (.inr rfl) rfl) ?_
                      refine AR.nil ?_
                      refine hK23 _ ?_
                      clear hK23 K23
                      refine awp_seqJ (fun (p : Int) => (⟨[(1, .ref 0 0 0), (5, .sl (List.map i64 r733)), (6, .view 1 0 (List.map i64 out872).length), (8, i64 left874), (9, i64 p)], ⟨2, [(0, (2, [G.inquestref12_G.av g_0])), (1, (1, List.map i64 out872))]⟩⟩ : St)) (fun (p : Int) => G.inquestref15_Find_j5 out872 left874 p = some o2) ?_ ?_
                      · rintro next923 h
                        replace h : G.inquestref15_Find_j5 out872 left874 next923 = some o2 := h
                        unfold G.inquestref15_Find_j5 at h
                        show AWP _ _ _ _ ⟨[(1, .ref 0 0 0), (5, .sl (List.map i64 r733)), (6, .view 1 0 (List.map i64 out872).length), (8, i64 left874), (9, i64 next923)], ⟨2, [(0, (2, [G.inquestref12_G.av g_0])), (1, (1, List.map i64 out872))]⟩⟩ _
                        refine awp_seqK fun K24 hK24 => ?_
                        refine awp_reg rfl ?_
                        refine AR.op (r := i64 next923) rfl (aop_move (.inl rfl) rfl) ?_
                        refine AR.op (r := i64 next923) rfl (aop_move (.inr rfl) rfl) ?_
                        refine AR.nil ?_
                        refine hK24 _ (AWP.weak (Weak.re (fr' := [(1, .ref 0 0 0), (5, .sl (List.map i64 r733)), (6, .view 1 0 (List.map i64 out872).length), (8, i64 left874), (7, i64 next923)]) (H' := ⟨2, [(0, (2, [G.inquestref12_G.av g_0])), (1, (1, List.map i64 out872))]⟩) [(0, 0), (1, 1)] [] rfl rfl rfl (.cons rfl rfl (.one (.same _ (by simp)) rfl) (of_decide_eq_true rfl) (.cons rfl rfl (.same (by simp)) (of_decide_eq_true rfl) (trivial))) ⟨⟨_, rfl, .ref rfl⟩, ⟨.sl (List.map i64 r733), rfl, .same _ (by simp)⟩, ⟨_, rfl, .view rfl⟩, ⟨_, rfl, .same _ (by simp)⟩, ⟨_, rfl, .same _ (by simp)⟩, trivial⟩) ?_)
                        clear hK24 K24
                        refine awp_reg rfl ?_
                        refine AR.op (r := .view 1 0 (List.map i64 out872).length) rfl (aop_move (.inl rfl) rfl) ?_
                        refine AR.op (r := i64 next923) rfl (aop_move (.inl rfl) rfl) ?_
                        refine AR.op (r := .clip (List.map i64 [next923])) rfl (aop_buildSlice rfl (xo := [.tmp 65]) rfl rfl rfl (by simp [AV.solid]) (by simp [AV.flat]) el25 ze25 (by decide)) ?_
                        refine AR.drop (frx := [(1, _), (5, _), (8, _), (7, _), (64, _), (66, _)]) ⟨rfl, rfl, rfl, rfl, rfl, rfl, trivial⟩ ?_
                        obtain ⟨out924, hout924, h⟩ := Sh.bind_some' h
                        refine AR.op (r := .view 2 0 (List.map i64 out924).length) rfl (t_app_view i64 out872 [next923] out924 hout924 rfl et25 (fun _ => rfl) rfl rfl rfl rfl rfl rfl rfl) ?_
                        refine AR.op (r := .view 2 0 (List.map i64 out924).length) rfl (aop_move (.inr rfl) rfl) ?_
                        refine AR.nil ?_
                        exact hK22 (next923, out924) _ h (Weak.re (fr' := [(1, .ref 0 0 0), (5, .sl (List.map i64 r733)), (8, i64 left874), (7, i64 next923), (6, .view 1 0 (List.map i64 out924).length)]) (H' := ⟨2, [(0, (2, [G.inquestref12_G.av g_0])), (1, (1, List.map i64 out924))]⟩) [(0, 0), (1, 2)] [] rfl rfl rfl (.cons rfl rfl (.one (.same _ (by simp)) rfl) (of_decide_eq_true rfl) (.cons rfl rfl (.same (by simp)) (of_decide_eq_true rfl) (trivial))) ⟨⟨_, rfl, .ref rfl⟩, ⟨.sl (List.map i64 r733), rfl, .same _ (by simp)⟩, ⟨_, rfl, .same _ (by simp)⟩, ⟨_, rfl, .same _ (by simp)⟩, ⟨_, rfl, .view rfl⟩, trivial⟩)
                      · intro K25 hK25
                        refine awp_seqK fun K26 hK26 => ?_
                        refine awp_reg rfl ?_
                        refine AR.op rfl (aop_field_ref rfl rfl rfl fd27_0 (by decide)) ?_
                        refine AR.op (r := i64 g_0.N) rfl (aop_load_ref rfl rfl rfl rfl sz3 rfl) ?_
                        refine AR.op (r := i64 (w64 (g_0.N - 1))) rfl (aop_sub rfl rfl rfl rfl) ?_
                        refine AR.drop (frx := [(1, _), (5, _), (6, _), (7, _), (8, _), (9, _), (44, _)]) ⟨rfl, rfl, rfl, rfl, rfl, rfl, rfl, trivial⟩ ?_
                        refine AR.op (r := i64 (w64 (g_0.N - 1))) rfl (aop_move (.inr rfl) rfl) ?_
                        refine AR.nil ?_
                        refine hK26 _ (AWP.weak (Weak.re (fr' := [(1, .ref 0 0 0), (5, .sl (List.map i64 r733)), (6, .view 1 0 (List.map i64 out872).length), (7, i64 x873), (8, i64 left874), (9, i64 (-1)), (10, i64 (w64 (g_0.N - 1)))]) (H' := ⟨2, [(0, (2, [G.inquestref12_G.av g_0])), (1, (1, List.map i64 out872))]⟩) [(0, 0), (1, 1)] [] rfl rfl rfl (.cons rfl rfl (.one (.same _ (by simp)) rfl) (of_decide_eq_true rfl) (.cons rfl rfl (.same (by simp)) (of_decide_eq_true rfl) (trivial))) ⟨⟨_, rfl, .ref rfl⟩, ⟨.sl (List.map i64 r733), rfl, .same _ (by simp)⟩, ⟨_, rfl, .view rfl⟩, ⟨_, rfl, .same _ (by simp)⟩, ⟨_, rfl, .same _ (by simp)⟩, ⟨_, rfl, .same _ (by simp)⟩, ⟨_, rfl, .same _ (by simp)⟩, trivial⟩) ?_)
                        clear hK26 K26
                        refine awp_block ?_
                        refine awp_iter (fun (p : Int × Int) => G.inquestref15_Find_b3 g_0 r733 out872 x873 left874 p.1 p.2) (fun (p : Int × Int) => (⟨[(1, .ref 0 0 0), (5, .sl (List.map i64 r733)), (6, .view 1 0 (List.map i64 out872).length), (7, i64 x873), (8, i64 left874), (9, i64 p.1), (10, i64 p.2)], ⟨2, [(0, (2, [G.inquestref12_G.av g_0])), (1, (1, List.map i64 out872))]⟩⟩ : St)) h (Weak.re (fr' := [(1, .ref 0 0 0), (5, .sl (List.map i64 r733)), (6, .view 1 0 (List.map i64 out872).length), (7, i64 x873), (8, i64 left874), (9, i64 (-1)), (10, i64 (w64 (g_0.N - 1)))]) (H' := ⟨2, [(0, (2, [G.inquestref12_G.av g_0])), (1, (1, List.map i64 out872))]⟩) [(0, 0), (1, 1)] [] rfl rfl rfl (.cons rfl rfl (.one (.same _ (by simp)) rfl) (of_decide_eq_true rfl) (.cons rfl rfl (.same (by simp)) (of_decide_eq_true rfl) (trivial))) ⟨⟨_, rfl, .ref rfl⟩, ⟨.sl (List.map i64 r733), rfl, .same _ (by simp)⟩, ⟨_, rfl, .view rfl⟩, ⟨_, rfl, .same _ (by simp)⟩, ⟨_, rfl, .same _ (by simp)⟩, ⟨_, rfl, .same _ (by simp)⟩, ⟨_, rfl, .same _ (by simp)⟩, trivial⟩) ?_
                        · skip
                          rintro ⟨next939, y940⟩ o3 h hx3
                          replace h : G.inquestref15_Find_b3 g_0 r733 out872 x873 left874 next939 y940 = some o3 := h
                          unfold G.inquestref15_Find_b3 at h
                          show AWP _ _ _ _ ⟨[(1, .ref 0 0 0), (5, .sl (List.map i64 r733)), (6, .view 1 0 (List.map i64 out872).length), (7, i64 x873), (8, i64 left874), (9, i64 next939), (10, i64 y940)], ⟨2, [(0, (2, [G.inquestref12_G.av g_0])), (1, (1, List.map i64 out872))]⟩⟩ _
                          refine awp_seqK fun K27 hK27 => ?_
                          refine awp_seqK fun K28 hK28 => ?_
                          refine awp_reg rfl ?_
                          refine AR.op (r := i64 y940) rfl (aop_move (.inl rfl) rfl) ?_
                          refine AR.op (r := bl (decide ((0 : Int) ≤ y940))) rfl (aop_geq rfl rfl rfl) ?_
                          refine AR.nil ?_
                          refine hK28 _ (AWP.weak (Weak.re (fr' := [(1, .ref 0 0 0), (5, .sl (List.map i64 r733)), (6, .view 1 0 (List.map i64 out872).length), (7, i64 x873), (8, i64 left874), (9, i64 next939), (10, i64 y940), (46, bl (decide ((0 : Int) ≤ y940)))]) (H' := ⟨2, [(0, (2, [G.inquestref12_G.av g_0])), (1, (1, List.map i64 out872))]⟩) [(0, 0), (1, 1)] [] rfl rfl rfl (.cons rfl rfl (.one (.same _ (by simp)) rfl) (of_decide_eq_true rfl) (.cons rfl rfl (.same (by simp)) (of_decide_eq_true rfl) (trivial))) ⟨⟨_, rfl, .ref rfl⟩, ⟨.sl (List.map i64 r733), rfl, .same _ (by simp)⟩, ⟨_, rfl, .view rfl⟩, ⟨_, rfl, .same _ (by simp)⟩, ⟨_, rfl, .same _ (by simp)⟩, ⟨_, rfl, .same _ (by simp)⟩, ⟨_, rfl, .same _ (by simp)⟩, ⟨_, rfl, .same _ (by simp)⟩, trivial⟩) ?_)
                          clear hK28 K28
                          refine awp_cond rfl (fun hb941 => ?_) (fun hb941 => ?_)
                          · replace h := Sh.if_t h hb941
                            refine awp_skip ?_
                            refine hK27 _ (AWP.weak (Weak.re (fr' := [(1, .ref 0 0 0), (5, .sl (List.map i64 r733)), (6, .view 1 0 (List.map i64 out872).length), (7, i64 x873), (8, i64 left874), (9, i64 next939), (10, i64 y940)]) (H' := ⟨2, [(0, (2, [G.inquestref12_G.av g_0])), (1, (1, List.map i64 out872))]⟩) [(0, 0), (1, 1)] [] rfl rfl rfl (.cons rfl rfl (.one (.same _ (by simp)) rfl) (of_decide_eq_true rfl) (.cons rfl rfl (.same (by simp)) (of_decide_eq_true rfl) (trivial))) ⟨⟨_, rfl, .ref rfl⟩, ⟨.sl (List.map i64 r733), rfl, .same _ (by simp)⟩, ⟨_, rfl, .view rfl⟩, ⟨_, rfl, .same _ (by simp)⟩, ⟨_, rfl, .same _ (by simp)⟩, ⟨_, rfl, .same _ (by simp)⟩, ⟨_, rfl, .same _ (by simp)⟩, trivial⟩) ?_)
                            clear hK27 K27
                            refine awp_seqJ (fun (p : Int) => (⟨[(1, .ref 0 0 0), (5, .sl (List.map i64 r733)), (6, .view 1 0 (List.map i64 out872).length), (7, i64 x873), (8, i64 left874), (9, i64 p), (10, i64 y940)], ⟨2, [(0, (2, [G.inquestref12_G.av g_0])), (1, (1, List.map i64 out872))]⟩⟩ : St)) (fun (p : Int) => G.inquestref15_Find_j6 y940 p = some o3) ?_ ?_
                            · rintro next947 h
                              replace h : G.inquestref15_Find_j6 y940 next947 = some o3 := h
                              unfold G.inquestref15_Find_j6 at h
                              show AWP _ _ _ _ ⟨[(1, .ref 0 0 0), (5, .sl (List.map i64 r733)), (6, .view 1 0 (List.map i64 out872).length), (7, i64 x873), (8, i64 left874), (9, i64 next947), (10, i64 y940)], ⟨2, [(0, (2, [G.inquestref12_G.av g_0])), (1, (1, List.map i64 out872))]⟩⟩ _
                              refine awp_reg rfl ?_
                              refine AR.op (r := i64 y940) rfl (aop_move (.inl rfl) rfl) ?_
                              refine AR.op (r := i64 (w64 (y940 - 1))) rfl (aop_sub rfl rfl rfl rfl) ?_
                              refine AR.op (r := i64 (w64 (y940 - 1))) rfl (aop_move (.inr rfl) rfl) ?_
                              refine AR.nil ?_
                              replace h := Sh.next_eq h
                              exact ⟨_, h, Weak.re (fr' := [(1, .ref 0 0 0), (5, .sl (List.map i64 r733)), (6, .view 1 0 (List.map i64 out872).length), (7, i64 x873), (8, i64 left874), (9, i64 next947), (10, i64 (w64 (y940 - 1)))]) (H' := ⟨2, [(0, (2, [G.inquestref12_G.av g_0])), (1, (1, List.map i64 out872))]⟩) [(0, 0), (1, 1)] [] rfl rfl rfl (.cons rfl rfl (.one (.same _ (by simp)) rfl) (of_decide_eq_true rfl) (.cons rfl rfl (.same (by simp)) (of_decide_eq_true rfl) (trivial))) ⟨⟨_, rfl, .ref rfl⟩, ⟨.sl (List.map i64 r733), rfl, .same _ (by simp)⟩, ⟨_, rfl, .view rfl⟩, ⟨_, rfl, .same _ (by simp)⟩, ⟨_, rfl, .same _ (by simp)⟩, ⟨_, rfl, .same _ (by simp)⟩, ⟨_, rfl, .same _ (by simp)⟩, trivial⟩⟩
                            · intro K29 hK29
                              refine awp_block ?_
                              refine awp_seqK fun K30 hK30 => ?_
                              refine awp_reg rfl ?_
                              refine AR.op (r := G.inquestref12_G.av g_0) rfl (aop_load_ref rfl rfl rfl rfl sz27 rfl) ?_
                              refine AR.op (r := i64 x873) rfl (aop_move (.inl rfl) rfl) ?_
                              refine AR.op (r := i64 y940) rfl (aop_move (.inl rfl) rfl) ?_
                              refine AR.drop (frx := [(1, _), (5, _), (6, _), (7, _), (8, _), (9, _), (10, _), (49, _), (50, _), (51, _)]) ⟨rfl, rfl, rfl, rfl, rfl, rfl, rfl, rfl, rfl, rfl, trivial⟩ ?_
                              obtain ⟨r949, hr949, h⟩ := Sh.bind_some' h
                              refine AR.op (r := bl r949) rfl (aop_call1 rfl rfl (by simp) (inquestref12_Has_ok hT hr949)) ?_
                              refine AR.op (r := bl r949) rfl (aop_move (.inr rfl) rfl) ?_
                              refine AR.nil ?_
                              refine hK30 _ (AWP.weak (Weak.re (fr' := [(1, .ref 0 0 0), (5, .sl (List.map i64 r733)), (6, .view 1 0 (List.map i64 out872).length), (7, i64 x873), (8, i64 left874), (9, i64 next939), (10, i64 y940), (11, bl r949)]) (H' := ⟨2, [(0, (2, [G.inquestref12_G.av g_0])), (1, (1, List.map i64 out872))]⟩) [(0, 0), (1, 1)] [] rfl rfl rfl (.cons rfl rfl (.one (.same _ (by simp)) rfl) (of_decide_eq_true rfl) (.cons rfl rfl (.same (by simp)) (of_decide_eq_true rfl) (trivial))) ⟨⟨_, rfl, .ref rfl⟩, ⟨.sl (List.map i64 r733), rfl, .same _ (by simp)⟩, ⟨_, rfl, .view rfl⟩, ⟨_, rfl, .same _ (by simp)⟩, ⟨_, rfl, .same _ (by simp)⟩, ⟨_, rfl, .same _ (by simp)⟩, ⟨_, rfl, .same _ (by simp)⟩, ⟨_, rfl, .same _ (by simp)⟩, trivial⟩) ?_)
                              clear hK30 K30
                              refine awp_seqJ (fun (p : Bool) => (⟨[(1, .ref 0 0 0), (5, .sl (List.map i64 r733)), (6, .view 1 0 (List.map i64 out872).length), (7, i64 x873), (8, i64 left874), (9, i64 next939), (10, i64 y940), (61, bl p)], ⟨2, [(0, (2, [G.inquestref12_G.av g_0])), (1, (1, List.map i64 out872))]⟩⟩ : St)) (fun (p : Bool) => G.inquestref15_Find_j7 next939 y940 p = some o3) ?_ ?_
                              · rintro v953 h
                                replace h : G.inquestref15_Find_j7 next939 y940 v953 = some o3 := h
                                unfold G.inquestref15_Find_j7 at h
                                show AWP _ _ _ _ ⟨[(1, .ref 0 0 0), (5, .sl (List.map i64 r733)), (6, .view 1 0 (List.map i64 out872).length), (7, i64 x873), (8, i64 left874), (9, i64 next939), (10, i64 y940), (61, bl v953)], ⟨2, [(0, (2, [G.inquestref12_G.av g_0])), (1, (1, List.map i64 out872))]⟩⟩ _
                                refine awp_cond rfl (fun hb954 => ?_) (fun hb954 => ?_)
                                · replace h := Sh.if_t h hb954
                                  refine awp_reg rfl ?_
                                  refine AR.op (r := i64 y940) rfl (aop_move (.inl rfl) rfl) ?_
                                  refine AR.op (r := i64 y940) rfl (aop_move (.inr rfl) rfl) ?_
                                  refine AR.nil ?_
                                  exact hK29 y940 _ h (Weak.re (fr' := [(1, .ref 0 0 0), (5, .sl (List.map i64 r733)), (6, .view 1 0 (List.map i64 out872).length), (7, i64 x873), (8, i64 left874), (9, i64 y940), (10, i64 y940)]) (H' := ⟨2, [(0, (2, [G.inquestref12_G.av g_0])), (1, (1, List.map i64 out872))]⟩) [(0, 0), (1, 1)] [] rfl rfl rfl (.cons rfl rfl (.one (.same _ (by simp)) rfl) (of_decide_eq_true rfl) (.cons rfl rfl (.same (by simp)) (of_decide_eq_true rfl) (trivial))) ⟨⟨_, rfl, .ref rfl⟩, ⟨.sl (List.map i64 r733), rfl, .same _ (by simp)⟩, ⟨_, rfl, .view rfl⟩, ⟨_, rfl, .same _ (by simp)⟩, ⟨_, rfl, .same _ (by simp)⟩, ⟨_, rfl, .same _ (by simp)⟩, ⟨_, rfl, .same _ (by simp)⟩, trivial⟩)
                                · replace h := Sh.if_f h hb954
                                  refine awp_skip ?_
                                  exact hK29 next939 _ h (Weak.re (fr' := [(1, .ref 0 0 0), (5, .sl (List.map i64 r733)), (6, .view 1 0 (List.map i64 out872).length), (7, i64 x873), (8, i64 left874), (9, i64 next939), (10, i64 y940)]) (H' := ⟨2, [(0, (2, [G.inquestref12_G.av g_0])), (1, (1, List.map i64 out872))]⟩) [(0, 0), (1, 1)] [] rfl rfl rfl (.cons rfl rfl (.one (.same _ (by simp)) rfl) (of_decide_eq_true rfl) (.cons rfl rfl (.same (by simp)) (of_decide_eq_true rfl) (trivial))) ⟨⟨_, rfl, .ref rfl⟩, ⟨.sl (List.map i64 r733), rfl, .same _ (by simp)⟩, ⟨_, rfl, .view rfl⟩, ⟨_, rfl, .same _ (by simp)⟩, ⟨_, rfl, .same _ (by simp)⟩, ⟨_, rfl, .same _ (by simp)⟩, ⟨_, rfl, .same _ (by simp)⟩, trivial⟩)
                              · intro K31 hK31
                                refine awp_reg rfl ?_
                                refine AR.op (r := bl r949) rfl (aop_move (.inl rfl) rfl) ?_
                                refine AR.op (r := bl r949) rfl (aop_move (.inl rfl) rfl) ?_
                                rcases Bool.eq_false_or_eq_true (r949) with hb955 | hb955
                                · rw [hb955]
                                  replace h := Sh.if_t h hb955
                                  refine AR.op (r := .sl (List.map i64 r733)) rfl (aop_move (.inl rfl) rfl) ?_
                                  refine AR.drop (frx := [(1, _), (5, _), (6, _), (7, _), (8, _), (9, _), (10, _), (54, _), (55, _)]) ⟨rfl, rfl, rfl, rfl, rfl, rfl, rfl, rfl, rfl, trivial⟩ ?_
                                  refine AR.op (r := i64 y940) rfl (aop_move (.inl rfl) rfl) ?_
                                  obtain ⟨x956, hx956, h⟩ := Sh.bind_some' h
                                  obtain ⟨k957, hi957, hl957⟩ := Sh.idx_some hx956
                                  refine AR.op rfl (t_index_sl i64 r733 hi957 hl957 rfl rfl rfl el25 rfl) ?_
                                  refine AR.op (r := i64 x956) rfl (aop_load_pp rfl rfl sz3 rfl) ?_
                                  refine AR.drop (frx := [(1, _), (5, _), (6, _), (7, _), (8, _), (9, _), (10, _), (54, _), (55, _), (56, _), (57, _), (58, _)]) ⟨rfl, rfl, rfl, rfl, rfl, rfl, rfl, rfl, rfl, rfl, rfl, rfl, trivial⟩ ?_
                                  refine AR.op (r := i64 left874) rfl (aop_move (.inl rfl) rfl) ?_
                                  refine AR.op (r := bl (decide (x956 = left874))) rfl (aop_eql rfl rfl rfl) ?_
                                  refine AR.op (r := bl (decide (x956 = left874))) rfl (aop_pick rfl rfl rfl) ?_
                                  refine AR.nil ?_
                                  exact hK31 (decide (x956 = left874)) _ h (Weak.re (fr' := [(1, .ref 0 0 0), (5, .sl (List.map i64 r733)), (6, .view 1 0 (List.map i64 out872).length), (7, i64 x873), (8, i64 left874), (9, i64 next939), (10, i64 y940), (61, bl (decide (x956 = left874)))]) (H' := ⟨2, [(0, (2, [G.inquestref12_G.av g_0])), (1, (1, List.map i64 out872))]⟩) [(0, 0), (1, 1)] [] rfl rfl rfl (.cons rfl rfl (.one (.same _ (by simp)) rfl) (of_decide_eq_true rfl) (.cons rfl rfl (.same (by simp)) (of_decide_eq_true rfl) (trivial))) ⟨⟨_, rfl, .ref rfl⟩, ⟨.sl (List.map i64 r733), rfl, .same _ (by simp)⟩, ⟨_, rfl, .view rfl⟩, ⟨_, rfl, .same _ (by simp)⟩, ⟨_, rfl, .same _ (by simp)⟩, ⟨_, rfl, .same _ (by simp)⟩, ⟨_, rfl, .same _ (by simp)⟩, ⟨_, rfl, .same _ (by simp)⟩, trivial⟩)
                                · rw [hb955]
                                  replace h := Sh.if_f h hb955
                                  refine AR.skip rfl ?_
                                  refine AR.drop (frx := [(1, _), (5, _), (6, _), (7, _), (8, _), (9, _), (10, _), (54, _), (55, _)]) ⟨rfl, rfl, rfl, rfl, rfl, rfl, rfl, rfl, rfl, trivial⟩ ?_
                                  refine AR.skip rfl ?_
                                  refine AR.skip rfl ?_
                                  refine AR.skip rfl ?_
                                  refine AR.drop (frx := [(1, _), (5, _), (6, _), (7, _), (8, _), (9, _), (10, _), (54, _), (55, _), (56, _), (57, _), (58, _)]) ⟨rfl, rfl, rfl, rfl, rfl, rfl, rfl, rfl, rfl, rfl, rfl, rfl, trivial⟩ ?_
                                  refine AR.skip rfl ?_
                                  refine AR.skip rfl ?_
                                  refine AR.op (r := bl false) rfl (aop_pick rfl rfl rfl) ?_
                                  refine AR.nil ?_
                                  exact hK31 false _ h (Weak.re (fr' := [(1, .ref 0 0 0), (5, .sl (List.map i64 r733)), (6, .view 1 0 (List.map i64 out872).length), (7, i64 x873), (8, i64 left874), (9, i64 next939), (10, i64 y940), (61, bl false)]) (H' := ⟨2, [(0, (2, [G.inquestref12_G.av g_0])), (1, (1, List.map i64 out872))]⟩) [(0, 0), (1, 1)] [] rfl rfl rfl (.cons rfl rfl (.one (.same _ (by simp)) rfl) (of_decide_eq_true rfl) (.cons rfl rfl (.same (by simp)) (of_decide_eq_true rfl) (trivial))) ⟨⟨_, rfl, .ref rfl⟩, ⟨.sl (List.map i64 r733), rfl, .same _ (by simp)⟩, ⟨_, rfl, .view rfl⟩, ⟨_, rfl, .same _ (by simp)⟩, ⟨_, rfl, .same _ (by simp)⟩, ⟨_, rfl, .same _ (by simp)⟩, ⟨_, rfl, .same _ (by simp)⟩, ⟨_, rfl, .same _ (by simp)⟩, trivial⟩)
                          · replace h := Sh.if_f h hb941
                            refine awp_exit ?_
                            replace h := Sh.exit_eq h hx3
                            exact hK25 next939 _ h (Weak.re (fr' := [(1, .ref 0 0 0), (5, .sl (List.map i64 r733)), (6, .view 1 0 (List.map i64 out872).length), (8, i64 left874), (9, i64 next939)]) (H' := ⟨2, [(0, (2, [G.inquestref12_G.av g_0])), (1, (1, List.map i64 out872))]⟩) [(0, 0), (1, 1)] [] rfl rfl rfl (.cons rfl rfl (.one (.same _ (by simp)) rfl) (of_decide_eq_true rfl) (.cons rfl rfl (.same (by simp)) (of_decide_eq_true rfl) (trivial))) ⟨⟨_, rfl, .ref rfl⟩, ⟨.sl (List.map i64 r733), rfl, .same _ (by simp)⟩, ⟨_, rfl, .view rfl⟩, ⟨_, rfl, .same _ (by simp)⟩, ⟨_, rfl, .same _ (by simp)⟩, trivial⟩)
                  · replace h := Sh.if_f h hb875
                    refine awp_exit ?_
                    replace h := Sh.exit_eq h hx2
                    exact hK18 out872 _ h (Weak.re (fr' := [(6, .view 0 0 (List.map i64 out872).length)]) (H' := ⟨1, [(0, (1, List.map i64 out872))]⟩) [(0, 1)] [] rfl rfl rfl (.cons rfl rfl (.same (by simp)) (of_decide_eq_true rfl) (trivial)) ⟨⟨_, rfl, .view rfl⟩, trivial⟩)
        · replace h := Sh.if_f h hb651
          refine awp_exit ?_
          replace h := Sh.exit_eq h hx1
          exact hK7 () _ h (Weak.re (fr' := []) (H' := .empty) [] [] rfl rfl rfl (trivial) trivial)
theorem inquestref15_Find_ok {W0 : World} (hT : Tab W0) {g_0 : G.inquestref12_G} {r : (List Int)} (h : G.inquestref15_Find g_0 = some r) : Fun1 Tryd.prog W0 18 [G.inquestref12_G.av g_0] (.sl (List.map i64 r)) :=
  (inquestref15_Find_own hT h).give (Weak.re [] [] rfl rfl rfl trivial ⟨⟨_, rfl, .lendAll rfl rfl (by simp)⟩, trivial⟩) (by simp)

end Wk
