/- That a statement does what its plain function says. -/
import Derived.Test.YtmnmbaehidfebaaWkFinquestlaw24
open Go Go.Av Go.Proofs
set_option linter.unusedVariables false
set_option maxHeartbeats 8000000
set_option maxRecDepth 20000
namespace Wk
theorem inquestlaw24_RefuteSound_ok0 {W0 : World} (hT : Tab W0) {x_0 : G.inquestlaw24_Case} {r : Bool} (h : G.inquestlaw24_RefuteSound x_0 = some r) : Fun2 Try.prog W0 4 [G.inquestlaw24_Case.av x_0] (bl r) .empty := by
 refine fun2_of_awp Try.func4 rfl (by kernel_rfl) Try.ntmps4 (by simp) ?_
 unfold G.inquestlaw24_RefuteSound at h
 show AWP _ _ _ _ ⟨[(0, G.inquestlaw24_Case.av x_0)], .empty⟩ _
 refine awp_seqK fun K1 hK1 => awp_reg rfl <| AR.op (r := .ref 0 0 0) rfl (aop_box 4 [G.inquestlaw24_Case.av x_0] rfl rfl rfl (.inl ⟨rfl, rfl⟩)) <| AR.op rfl (aop_move (.inr rfl) rfl) <| AR.nil <| hK1 _ (AWP.weak (Weak.e (fr' := [(1, .pp [.sl (List.map G.api_Txn.av x_0.H.Txns), i64 x_0.Level, .sl (List.map G.api_Choice.av x_0.L), .sl (List.map G.refute_Node.av x_0.Tree)] 0)]) (H' := .empty) ⟨⟨_, rfl, .frzA rfl rfl rfl rfl (by simp)⟩, trivial⟩) ?_)
 refine awp_seqK fun K2 hK2 => awp_reg rfl ?_
 obtain ⟨r12, hr12, h⟩ := Sh.bind_some' h
 refine AR.op (r := bl r12) rfl (aop_call1 rfl rfl (by simp) (inquestlaw24_awake_ok hT hr12)) <| AR.op rfl (aop_move (.inr rfl) rfl) <| AR.nil <| hK2 _ (AWP.weak (Weak.kt [1, 3] rfl) ?_)
 refine awp_seqK fun K3 hK3 => awp_seqK fun K4 hK4 => awp_reg rfl <| AR.op rfl (aop_move (.inl rfl) rfl) <| AR.op (r := bl (!r12)) rfl (aop_not rfl rfl) <| AR.nil <| hK4 _ (AWP.weak (Weak.kt [1, 9] rfl) ?_)
 refine awp_cond rfl (fun hb13 => ?_) (fun hb13 => ?_)
 ·replace h := Sh.if_t h hb13
  refine awp_seqK fun K5 hK5 => awp_reg rfl <| AR.op rfl (aop_move (.inr rfl) rfl) <| AR.nil <| hK5 _ (AWP.weak (Weak.kt [2] rfl) ?_)
  refine awp_ret ?_
  obtain rfl := Option.some.inj h
  refine ⟨.inr rfl, bl false, rfl, ?_⟩
  exact Weak.e ⟨.k, trivial⟩
 ·replace h := Sh.if_f h hb13
  refine awp_skip <| hK3 _ (AWP.weak (Weak.kt [1] rfl) ?_)
  refine awp_seqK fun K6 hK6 => awp_reg rfl <| AR.op (r := G.inquestlaw24_Case.av x_0) rfl (aop_load_pp rfl rfl sz28 rfl) ?_
  obtain ⟨r15, hr15, h⟩ := Sh.bind_some' h
  refine AR.op (r := bl r15) rfl (aop_call1 rfl rfl (by simp) (inquestlaw24_few_ok hT hr15)) <| AR.op rfl (aop_move (.inr rfl) rfl) <| AR.nil <| hK6 _ (AWP.weak (Weak.kt [1, 4] rfl) ?_)
  refine awp_seqK fun K7 hK7 => awp_seqK fun K8 hK8 => awp_reg rfl <| AR.op rfl (aop_move (.inl rfl) rfl) <| AR.op (r := bl (!r15)) rfl (aop_not rfl rfl) <| AR.nil <| hK8 _ (AWP.weak (Weak.kt [1, 13] rfl) ?_)
  refine awp_cond rfl (fun hb16 => ?_) (fun hb16 => ?_)
  ·replace h := Sh.if_t h hb16
   refine awp_seqK fun K9 hK9 => awp_reg rfl <| AR.op rfl (aop_move (.inr rfl) rfl) <| AR.nil <| hK9 _ (AWP.weak (Weak.kt [2] rfl) ?_)
   refine awp_ret ?_
   obtain rfl := Option.some.inj h
   refine ⟨.inr rfl, bl true, rfl, ?_⟩
   exact Weak.e ⟨.k, trivial⟩
  ·replace h := Sh.if_f h hb16
   refine awp_skip <| hK7 _ (AWP.weak (Weak.kt [1] rfl) ?_)
   refine awp_seqK fun K10 hK10 => awp_reg rfl <| AR.op rfl (aop_field_pp rfl rfl fd28_0 (by decide)) <| AR.op (r := G.api_Hist.av x_0.H) rfl (aop_load_pp rfl rfl sz24 rfl) ?_
   obtain ⟨r18, hr18, h⟩ := Sh.bind_some' h
   refine AR.op (r := bl r18) rfl (aop_call1 rfl rfl (by simp) (inquestref22_Small_ok hT hr18)) <| AR.keep [1, 16] rfl <| AR.op rfl (aop_move (.inr rfl) rfl) <| AR.nil <| hK10 _ (AWP.weak (Weak.kt [1, 5] rfl) ?_)
   refine awp_seqK fun K11 hK11 => awp_seqJ (fun (p : Bool) => (⟨[(1, .pp [.sl (List.map G.api_Txn.av x_0.H.Txns), i64 x_0.Level, .sl (List.map G.api_Choice.av x_0.L), .sl (List.map G.refute_Node.av x_0.Tree)] 0), (38, bl p)], .empty⟩ : St)) (fun (p : Bool) => G.inquestlaw24_RefuteSound_j1 x_0 p = some r) ?_ ?_
   ·rintro v30 h
    replace h : G.inquestlaw24_RefuteSound_j1 x_0 v30 = some r := h
    unfold G.inquestlaw24_RefuteSound_j1 at h
    refine awp_cond rfl (fun hb31 => ?_) (fun hb31 => ?_)
    ·replace h := Sh.if_t h hb31
     refine awp_seqK fun K12 hK12 => awp_reg rfl <| AR.op rfl (aop_move (.inr rfl) rfl) <| AR.nil <| hK12 _ (AWP.weak (Weak.kt [2] rfl) ?_)
     refine awp_ret ?_
     obtain rfl := Option.some.inj h
     refine ⟨.inr rfl, bl true, rfl, ?_⟩
     exact Weak.e ⟨.k, trivial⟩
    ·replace h := Sh.if_f h hb31
     refine awp_skip <| hK11 _ (AWP.weak (Weak.kt [1] rfl) ?_)
     refine awp_seqK fun K13 hK13 => awp_reg rfl <| AR.op rfl (aop_field_pp rfl rfl fd28_0 (by decide)) <| AR.op (r := G.api_Hist.av x_0.H) rfl (aop_load_pp rfl rfl sz24 rfl) <| AR.op rfl (aop_field_pp rfl rfl fd28_1 (by decide)) <| AR.keep [40, 41] rfl <| AR.op (r := i64 x_0.Level) rfl (aop_load_pp rfl rfl sz3 rfl) ?_
     obtain ⟨r33, hr33, h⟩ := Sh.bind_some' h
     refine AR.op (r := bl r33) rfl (aop_call1 rfl rfl (by simp) (inquestref21_Has_ok hT hr33)) <| AR.op rfl (aop_move (.inr rfl) rfl) <| AR.nil <| hK13 _ (AWP.weak (Weak.kt [6] rfl) ?_)
     refine awp_seqK fun K14 hK14 => awp_reg rfl <| AR.op rfl (aop_move (.inl rfl) rfl) <| AR.op (r := bl (!r33)) rfl (aop_not rfl rfl) <| AR.op rfl (aop_move (.inr rfl) rfl) <| AR.nil <| hK14 _ (AWP.weak (Weak.kt [2] rfl) ?_)
     refine awp_ret ?_
     obtain rfl := Option.some.inj h
     refine ⟨.inr rfl, bl (!r33), rfl, ?_⟩
     exact Weak.e ⟨.k, trivial⟩
   ·intro K15 hK15
    refine awp_reg rfl <| AR.op rfl (aop_move (.inl rfl) rfl) <| AR.op (r := bl (!r18)) rfl (aop_not rfl rfl) <| AR.op rfl (aop_move (.inl rfl) rfl) <| AR.keep [1, 19] rfl ?_
    rcases Bool.eq_false_or_eq_true (!r18) with hb34 | hb34
    ·rw [hb34]
     replace h := Sh.if_t h hb34
     refine AR.skip rfl <| AR.skip rfl <| AR.skip rfl <| AR.keep [1, 19, 22] rfl <| AR.skip rfl <| AR.skip rfl <| AR.skip rfl <| AR.keep [1, 19, 23, 25] rfl ?_
     refine AR.skip rfl <| AR.skip rfl <| AR.op rfl (aop_pick rfl rfl rfl) <| AR.keep [1, 28] rfl <| AR.op rfl (aop_move (.inl rfl) rfl) <| AR.skip rfl <| AR.skip rfl <| AR.keep [1, 29, 31] rfl ?_
     refine AR.skip rfl <| AR.skip rfl <| AR.skip rfl <| AR.keep [1, 29, 31, 33, 34] rfl <| AR.skip rfl <| AR.skip rfl <| AR.skip rfl <| AR.keep [1, 29, 37] rfl ?_
     refine AR.op rfl (aop_pick rfl rfl rfl) <| AR.nil ?_
     exact hK15 true _ h (Weak.kt [1, 38] rfl)
    ·rw [hb34]
     replace h := Sh.if_f h hb34
     refine AR.op rfl (aop_field_pp rfl rfl fd28_1 (by decide)) <| AR.op (r := i64 x_0.Level) rfl (aop_load_pp rfl rfl sz3 rfl) <| AR.op (r := bl (decide (x_0.Level ≠ 0))) rfl (aop_neq rfl rfl rfl) <| AR.keep [1, 19, 22] rfl <| AR.op rfl (aop_move (.inl rfl) rfl) ?_
     rcases Bool.eq_false_or_eq_true (decide (x_0.Level ≠ 0)) with hb35 | hb35
     ·rw [hb35]
      replace h := Sh.if_t h hb35
      refine AR.op rfl (aop_field_pp rfl rfl fd28_1 (by decide)) <| AR.op (r := i64 x_0.Level) rfl (aop_load_pp rfl rfl sz3 rfl) <| AR.keep [1, 19, 23, 25] rfl <| AR.op (r := bl (decide (x_0.Level ≠ 1))) rfl (aop_neq rfl rfl rfl) <| AR.op rfl (aop_pick rfl rfl rfl) <| AR.op rfl (aop_pick rfl rfl rfl) <| AR.keep [1, 28] rfl <| AR.op rfl (aop_move (.inl rfl) rfl) ?_
      rcases Bool.eq_false_or_eq_true (decide (x_0.Level ≠ 1)) with hb36 | hb36
      ·rw [hb36]
       replace h := Sh.if_t h hb36
       refine AR.skip rfl <| AR.skip rfl <| AR.keep [1, 29, 31] rfl <| AR.skip rfl <| AR.skip rfl <| AR.skip rfl <| AR.keep [1, 29, 31, 33, 34] rfl <| AR.skip rfl ?_
       refine AR.skip rfl <| AR.skip rfl <| AR.keep [1, 29, 37] rfl <| AR.op rfl (aop_pick rfl rfl rfl) <| AR.nil ?_
       exact hK15 true _ h (Weak.kt [1, 38] rfl)
      ·rw [hb36]
       replace h := Sh.if_f h hb36
       refine AR.op rfl (aop_field_pp rfl rfl fd28_0 (by decide)) <| AR.op (r := G.api_Hist.av x_0.H) rfl (aop_load_pp rfl rfl sz24 rfl) <| AR.keep [1, 29, 31] rfl <| AR.op rfl (aop_field_pp rfl rfl fd28_1 (by decide)) <| AR.op (r := i64 x_0.Level) rfl (aop_load_pp rfl rfl sz3 rfl) <| AR.op rfl (aop_field_pp rfl rfl fd28_3 (by decide)) <| AR.keep [1, 29, 31, 33, 34] rfl <| AR.op (r := .sl (List.map G.refute_Node.av x_0.Tree)) rfl (aop_load_pp rfl rfl sz26 rfl) ?_
       obtain ⟨r37, hr37, h⟩ := Sh.bind_some' h
       refine AR.op (r := bl r37) rfl (aop_callN rfl (ys := [G.api_Hist.av x_0.H, i64 x_0.Level, nilS, .sl (List.map G.refute_Node.av x_0.Tree)]) (xs := [G.api_Hist.av x_0.H, i64 x_0.Level, .sl (List.map G.api_Choice.av []), .sl (List.map G.refute_Node.av x_0.Tree)]) rfl (Weak.e (fr' := argsFr 0 [G.api_Hist.av x_0.H, i64 x_0.Level, .sl (List.map G.api_Choice.av []), .sl (List.map G.refute_Node.av x_0.Tree)]) (H' := .empty) ⟨⟨G.api_Hist.av x_0.H, rfl, .sm⟩, .k, ⟨_, rfl, .nilsl⟩, ⟨.sl (List.map G.refute_Node.av x_0.Tree), rfl, .sm⟩, trivial⟩) rfl (by simp) (refute_Check_ok hT hr37)) <| AR.op (r := bl (!r37)) rfl (aop_not rfl rfl) <| AR.keep [1, 29, 37] rfl <| AR.op rfl (aop_pick rfl rfl rfl) <| AR.nil ?_
       exact hK15 (!r37) _ h (Weak.kt [1, 38] rfl)
     ·rw [hb35]
      replace h := Sh.if_f h hb35
      refine AR.skip rfl <| AR.skip rfl <| AR.keep [1, 19, 23, 25] rfl <| AR.skip rfl <| AR.op rfl (aop_pick rfl rfl rfl) <| AR.op rfl (aop_pick rfl rfl rfl) <| AR.keep [1, 28] rfl <| AR.op rfl (aop_move (.inl rfl) rfl) ?_
      refine AR.op rfl (aop_field_pp rfl rfl fd28_0 (by decide)) <| AR.op (r := G.api_Hist.av x_0.H) rfl (aop_load_pp rfl rfl sz24 rfl) <| AR.keep [1, 29, 31] rfl <| AR.op rfl (aop_field_pp rfl rfl fd28_1 (by decide)) <| AR.op (r := i64 x_0.Level) rfl (aop_load_pp rfl rfl sz3 rfl) <| AR.op rfl (aop_field_pp rfl rfl fd28_3 (by decide)) <| AR.keep [1, 29, 31, 33, 34] rfl <| AR.op (r := .sl (List.map G.refute_Node.av x_0.Tree)) rfl (aop_load_pp rfl rfl sz26 rfl) ?_
      obtain ⟨r38, hr38, h⟩ := Sh.bind_some' h
      refine AR.op (r := bl r38) rfl (aop_callN rfl (ys := [G.api_Hist.av x_0.H, i64 x_0.Level, nilS, .sl (List.map G.refute_Node.av x_0.Tree)]) (xs := [G.api_Hist.av x_0.H, i64 x_0.Level, .sl (List.map G.api_Choice.av []), .sl (List.map G.refute_Node.av x_0.Tree)]) rfl (Weak.e (fr' := argsFr 0 [G.api_Hist.av x_0.H, i64 x_0.Level, .sl (List.map G.api_Choice.av []), .sl (List.map G.refute_Node.av x_0.Tree)]) (H' := .empty) ⟨⟨G.api_Hist.av x_0.H, rfl, .sm⟩, .k, ⟨_, rfl, .nilsl⟩, ⟨.sl (List.map G.refute_Node.av x_0.Tree), rfl, .sm⟩, trivial⟩) rfl (by simp) (refute_Check_ok hT hr38)) <| AR.op (r := bl (!r38)) rfl (aop_not rfl rfl) <| AR.keep [1, 29, 37] rfl <| AR.op rfl (aop_pick rfl rfl rfl) <| AR.nil ?_
      exact hK15 (!r38) _ h (Weak.kt [1, 38] rfl)
theorem inquestlaw24_RefuteSound_ok {W0 : World} (hT : Tab W0) {x_0 : G.inquestlaw24_Case} {r : Bool} (h : G.inquestlaw24_RefuteSound x_0 = some r) : Fun1 Try.prog W0 4 [G.inquestlaw24_Case.av x_0] (bl r) := Fun1.two (inquestlaw24_RefuteSound_ok0 hT h) (by simp)

end Wk
