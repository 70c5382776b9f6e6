/- That the functions of a package do what their plain functions say. -/
import Derived.Test.YtkiiigfefobdlaaDoorSh
import Derived.Test.YtkiiigfefobdlaaDoorWkCFacts
open Go Go.Av Go.Proofs
set_option linter.unusedVariables false
namespace Wk
set_option maxHeartbeats 8000000 in
set_option maxRecDepth 20000 in
theorem inquestref07_Ints_ok0 {W0 : World} (hT : Tab W0) {a_0 : List Int} {b_1 : List Int} {r : Bool} (h : G.inquestref07_Ints a_0 b_1 = some r) : Fun2 Tryd.prog W0 16 [.sl (List.map i64 a_0), .sl (List.map i64 b_1)] (bl r) .empty := by
  refine fun2_of_awp Tryd.func16 rfl (by kernel_rfl) Tryd.ntmps16 (by simp) ?_
  unfold G.inquestref07_Ints at h
  show AWP _ _ _ _ ⟨[(0, .sl (List.map i64 a_0)), (1, .sl (List.map i64 b_1))], .empty⟩ _
  refine awp_seqK fun K1 hK1 => ?_
  refine awp_reg rfl ?_
  refine AR.op (r := bl false) rfl (aop_move (.inr rfl) rfl) ?_
  refine AR.nil ?_
  refine hK1 _ (AWP.weak (Weak.kp (fr' := [(0, .sl (List.map i64 a_0)), (1, .sl (List.map i64 b_1))]) ⟨rfl, rfl, trivial⟩) ?_)
  clear hK1 K1
  refine awp_seqK fun K2 hK2 => ?_
  refine awp_seqK fun K3 hK3 => ?_
  refine awp_reg rfl ?_
  refine AR.op (r := .sl (List.map i64 a_0)) rfl (aop_move (.inl rfl) rfl) ?_
  refine AR.op (r := i64 (Sh.len a_0)) rfl (t_len_sl i64 a_0 rfl rfl el25) ?_
  refine AR.op (r := .sl (List.map i64 b_1)) rfl (aop_move (.inl rfl) rfl) ?_
  refine AR.drop (frx := [(0, _), (1, _), (7, _), (8, _)]) ⟨rfl, rfl, rfl, rfl, trivial⟩ ?_
  refine AR.op (r := i64 (Sh.len b_1)) rfl (t_len_sl i64 b_1 rfl rfl el25) ?_
  refine AR.op (r := bl (decide ((Sh.len a_0) ≠ (Sh.len b_1)))) rfl (aop_neq rfl rfl rfl) ?_
  refine AR.nil ?_
  refine hK3 _ (AWP.weak (Weak.kp (fr' := [(0, .sl (List.map i64 a_0)), (1, .sl (List.map i64 b_1)), (10, bl (decide ((Sh.len a_0) ≠ (Sh.len b_1))))]) ⟨rfl, rfl, rfl, trivial⟩) ?_)
  clear hK3 K3
  refine awp_cond rfl (fun hb15 => ?_) (fun hb15 => ?_)
  · replace h := Sh.if_t h hb15
    refine awp_seqK fun K4 hK4 => ?_
    refine awp_reg rfl ?_
    refine AR.op (r := bl false) rfl (aop_move (.inr rfl) rfl) ?_
    refine AR.nil ?_
    refine hK4 _ (AWP.weak (Weak.kp (fr' := [(4, bl false)]) ⟨rfl, trivial⟩) ?_)
    clear hK4 K4
    refine awp_ret ?_
    obtain rfl := Option.some.inj h
    refine ⟨.inr rfl, bl false, rfl, ?_⟩
    exact Weak.re [] [] rfl rfl rfl (trivial) ⟨⟨_, rfl, .same _ (by simp)⟩, trivial⟩
  · replace h := Sh.if_f h hb15
    refine awp_skip ?_
    refine hK2 _ (AWP.weak (Weak.kp (fr' := [(0, .sl (List.map i64 a_0)), (1, .sl (List.map i64 b_1))]) ⟨rfl, rfl, trivial⟩) ?_)
    clear hK2 K2
    refine awp_seqJ (fun (p : Unit) => (⟨[], .empty⟩ : St)) (fun (p : Unit) => G.inquestref07_Ints_j1 = some r) ?_ ?_
    · rintro ⟨⟩ h
      replace h : G.inquestref07_Ints_j1 = some r := h
      unfold G.inquestref07_Ints_j1 at h
      show AWP _ _ _ _ ⟨[], .empty⟩ _
      refine awp_seqK fun K5 hK5 => ?_
      refine awp_reg rfl ?_
      refine AR.op (r := bl true) rfl (aop_move (.inr rfl) rfl) ?_
      refine AR.nil ?_
      refine hK5 _ ?_
      clear hK5 K5
      refine awp_ret ?_
      obtain rfl := Option.some.inj h
      refine ⟨.inr rfl, bl true, rfl, ?_⟩
      exact Weak.re [] [] rfl rfl rfl (trivial) ⟨⟨_, rfl, .same _ (by simp)⟩, trivial⟩
    · intro K6 hK6
      refine awp_seqK fun K7 hK7 => ?_
      refine awp_reg rfl ?_
      refine AR.op (r := i64 0) rfl (aop_move (.inr rfl) rfl) ?_
      refine AR.nil ?_
      refine hK7 _ ?_
      clear hK7 K7
      refine awp_block ?_
      refine awp_iter (fun (p : Int) => G.inquestref07_Ints_b1 a_0 b_1 p) (fun (p : Int) => (⟨[(0, .sl (List.map i64 a_0)), (1, .sl (List.map i64 b_1)), (5, i64 p)], .empty⟩ : St)) h (Weak.kp (fr' := [(0, .sl (List.map i64 a_0)), (1, .sl (List.map i64 b_1)), (5, i64 0)]) ⟨rfl, rfl, rfl, trivial⟩) ?_
      · skip
        rintro i39 o1 h hx1
        replace h : G.inquestref07_Ints_b1 a_0 b_1 i39 = some o1 := h
        unfold G.inquestref07_Ints_b1 at h
        show AWP _ _ _ _ ⟨[(0, .sl (List.map i64 a_0)), (1, .sl (List.map i64 b_1)), (5, i64 i39)], .empty⟩ _
        refine awp_seqK fun K8 hK8 => ?_
        refine awp_seqK fun K9 hK9 => ?_
        refine awp_reg rfl ?_
        refine AR.op (r := i64 i39) rfl (aop_move (.inl rfl) rfl) ?_
        refine AR.op (r := .sl (List.map i64 a_0)) rfl (aop_move (.inl rfl) rfl) ?_
        refine AR.op (r := i64 (Sh.len a_0)) rfl (t_len_sl i64 a_0 rfl rfl el25) ?_
        refine AR.drop (frx := [(0, _), (1, _), (5, _), (11, _), (13, _)]) ⟨rfl, rfl, rfl, rfl, rfl, trivial⟩ ?_
        refine AR.op (r := bl (decide (i39 < (Sh.len a_0)))) rfl (aop_lss rfl rfl rfl) ?_
        refine AR.nil ?_
        refine hK9 _ (AWP.weak (Weak.kp (fr' := [(0, .sl (List.map i64 a_0)), (1, .sl (List.map i64 b_1)), (5, i64 i39), (14, bl (decide (i39 < (Sh.len a_0))))]) ⟨rfl, rfl, rfl, rfl, trivial⟩) ?_)
        clear hK9 K9
        refine awp_cond rfl (fun hb40 => ?_) (fun hb40 => ?_)
        · replace h := Sh.if_t h hb40
          refine awp_skip ?_
          refine hK8 _ (AWP.weak (Weak.kp (fr' := [(0, .sl (List.map i64 a_0)), (1, .sl (List.map i64 b_1)), (5, i64 i39)]) ⟨rfl, rfl, rfl, trivial⟩) ?_)
          clear hK8 K8
          refine awp_seqK fun K10 hK10 => ?_
          refine awp_block ?_
          refine awp_seqK fun K11 hK11 => ?_
          refine awp_any (by kernel_rfl) (by kernel_rfl) rfl ?_
          refine ARH.dry (r := .sl (List.map i64 a_0)) rfl (fun _ => aop_move (.inl rfl) rfl) ?_
          refine ARH.dry (r := i64 i39) rfl (fun _ => aop_move (.inl rfl) rfl) ?_
          obtain ⟨x49, hx49, h⟩ := Sh.bind_some' h
          obtain ⟨k50, hi50, hl50⟩ := Sh.idx_some hx49
          refine ARH.op rfl rfl (t_index_sl i64 a_0 hi50 hl50 rfl rfl rfl el25 rfl) ?_
          refine ARH.drop (frx := [(0, _), (1, _), (5, _), (19, _)]) ⟨rfl, rfl, rfl, rfl, trivial⟩ ?_
          refine ARH.op (r := i64 x49) rfl rfl (aop_load_pp rfl rfl sz3 rfl) ?_
          refine ARH.dry (r := .sl (List.map i64 b_1)) rfl (fun _ => aop_move (.inl rfl) rfl) ?_
          refine ARH.dry (r := i64 i39) rfl (fun _ => aop_move (.inl rfl) rfl) ?_
          refine ARH.drop (frx := [(0, _), (1, _), (5, _), (20, _), (21, _), (22, _)]) ⟨rfl, rfl, rfl, rfl, rfl, rfl, trivial⟩ ?_
          obtain ⟨x51, hx51, h⟩ := Sh.bind_some' h
          obtain ⟨k52, hi52, hl52⟩ := Sh.idx_some hx51
          refine ARH.op rfl rfl (t_index_sl i64 b_1 hi52 hl52 rfl rfl rfl el25 rfl) ?_
          refine ARH.op (r := i64 x51) rfl rfl (aop_load_pp rfl rfl sz3 rfl) ?_
          refine ARH.dry (r := bl (decide (x49 ≠ x51))) rfl (fun _ => aop_neq rfl rfl rfl) ?_
          refine ARH.nil ?_
          refine hK11 _ (AWP.weak (Weak.kp (fr' := [(0, .sl (List.map i64 a_0)), (1, .sl (List.map i64 b_1)), (5, i64 i39), (25, bl (decide (x49 ≠ x51)))]) ⟨rfl, rfl, rfl, rfl, trivial⟩) ?_)
          clear hK11 K11
          refine awp_cond rfl (fun hb53 => ?_) (fun hb53 => ?_)
          · replace h := Sh.if_t h hb53
            refine awp_seqK fun K12 hK12 => ?_
            refine awp_reg rfl ?_
            refine AR.op (r := bl false) rfl (aop_move (.inr rfl) rfl) ?_
            refine AR.nil ?_
            refine hK12 _ (AWP.weak (Weak.kp (fr' := [(4, bl false)]) ⟨rfl, trivial⟩) ?_)
            clear hK12 K12
            refine awp_ret ?_
            replace h := Sh.exit_eq h hx1
            obtain rfl := Option.some.inj h
            refine ⟨.inr rfl, bl false, rfl, ?_⟩
            exact Weak.re [] [] rfl rfl rfl (trivial) ⟨⟨_, rfl, .same _ (by simp)⟩, trivial⟩
          · replace h := Sh.if_f h hb53
            refine awp_skip ?_
            refine hK10 _ (AWP.weak (Weak.kp (fr' := [(0, .sl (List.map i64 a_0)), (1, .sl (List.map i64 b_1)), (5, i64 i39)]) ⟨rfl, rfl, rfl, trivial⟩) ?_)
            clear hK10 K10
            refine awp_reg rfl ?_
            refine AR.op (r := i64 i39) rfl (aop_move (.inl rfl) rfl) ?_
            refine AR.op (r := i64 (w64 (i39 + 1))) rfl (aop_add rfl rfl rfl rfl) ?_
            refine AR.op (r := i64 (w64 (i39 + 1))) rfl (aop_move (.inr rfl) rfl) ?_
            refine AR.nil ?_
            replace h := Sh.next_eq h
            exact ⟨_, h, Weak.re (fr' := [(0, .sl (List.map i64 a_0)), (1, .sl (List.map i64 b_1)), (5, i64 (w64 (i39 + 1)))]) (H' := .empty) [] [] rfl rfl rfl (trivial) ⟨⟨.sl (List.map i64 a_0), rfl, .same _ (by simp)⟩, ⟨.sl (List.map i64 b_1), rfl, .same _ (by simp)⟩, ⟨_, rfl, .same _ (by simp)⟩, trivial⟩⟩
        · replace h := Sh.if_f h hb40
          refine awp_exit ?_
          replace h := Sh.exit_eq h hx1
          exact hK6 () _ h (Weak.kp (fr' := []) trivial)
theorem inquestref07_Ints_ok {W0 : World} (hT : Tab W0) {a_0 : List Int} {b_1 : List Int} {r : Bool} (h : G.inquestref07_Ints a_0 b_1 = some r) : Fun1 Tryd.prog W0 16 [.sl (List.map i64 a_0), .sl (List.map i64 b_1)] (bl r) := Fun1.two (inquestref07_Ints_ok0 hT h) (by simp)

end Wk
