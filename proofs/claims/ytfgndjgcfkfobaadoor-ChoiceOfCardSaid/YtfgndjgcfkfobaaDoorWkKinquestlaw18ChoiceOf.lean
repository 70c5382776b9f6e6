/- That a statement does what its plain function says. -/
import Derived.Test.YtfgndjgcfkfobaaDoorWkKinquestlaw18
open Go Go.Av Go.Proofs
set_option linter.unusedVariables false
set_option maxHeartbeats 8000000
set_option maxRecDepth 20000
namespace Wk
theorem inquestlaw18_ChoiceOf_ok0 {W0 : World} (hT : Tab W0) {h_0 : G.api_Hist} {order_1 : List Int} {r : Bool} (h : G.inquestlaw18_ChoiceOf h_0 order_1 = some r) : Fun2 Tryd.prog W0 9 [G.api_Hist.av h_0, .sl (List.map i64 order_1)] (bl r) .empty := by
 refine fun2_of_awp Tryd.func9 rfl (by kernel_rfl) Tryd.ntmps9 (by simp) ?_
 unfold G.inquestlaw18_ChoiceOf at h
 show AWP _ _ _ _ ⟨[(0, G.api_Hist.av h_0), (1, .sl (List.map i64 order_1))], .empty⟩ _
 refine awp_seqK fun K1 hK1 => awp_reg rfl <| AR.op (r := .ref 0 0 0) rfl (aop_box 1 [G.api_Hist.av h_0] rfl rfl rfl (.inl ⟨rfl, rfl⟩)) <| AR.op rfl (aop_move (.inr rfl) rfl) <| AR.nil <| hK1 _ (AWP.weak (Weak.e (fr' := [(1, .sl (List.map i64 order_1)), (2, .pp [.sl (List.map G.api_Txn.av h_0.Txns)] 0)]) (H' := .empty) ⟨⟨.sl (List.map i64 order_1), rfl, .sm⟩, ⟨_, rfl, .frzA rfl rfl rfl rfl (by simp)⟩, trivial⟩) ?_)
 refine awp_seqK fun K2 hK2 => awp_reg rfl ?_
 obtain ⟨r18, hr18, h⟩ := Sh.bind_some' h
 refine AR.op (r := bl r18) rfl (aop_call1 rfl rfl (by simp) (inquestlaw18_awake_ok hT hr18)) <| AR.op rfl (aop_move (.inr rfl) rfl) <| AR.nil <| hK2 _ (AWP.weak (Weak.kt [1, 2, 5] rfl) ?_)
 refine awp_seqK fun K3 hK3 => awp_seqK fun K4 hK4 => awp_reg rfl <| AR.op rfl (aop_move (.inl rfl) rfl) <| AR.op (r := bl (!r18)) rfl (aop_not rfl rfl) <| AR.nil <| hK4 _ (AWP.weak (Weak.kt [1, 2, 14] rfl) ?_)
 refine awp_cond rfl (fun hb19 => ?_) (fun hb19 => ?_)
 ·replace h := Sh.if_t h hb19
  refine awp_seqK fun K5 hK5 => awp_reg rfl <| AR.op rfl (aop_move (.inr rfl) rfl) <| AR.nil <| hK5 _ (AWP.weak (Weak.kt [4] rfl) ?_)
  refine awp_ret ?_
  obtain rfl := Option.some.inj h
  refine ⟨.inr rfl, bl false, rfl, ?_⟩
  exact Weak.e ⟨.k, trivial⟩
 ·replace h := Sh.if_f h hb19
  refine awp_skip <| hK3 _ (AWP.weak (Weak.kt [1, 2] rfl) ?_)
  refine awp_seqK fun K6 hK6 => awp_reg rfl <| AR.op (r := G.api_Hist.av h_0) rfl (aop_load_pp rfl rfl sz24 rfl) ?_
  obtain ⟨r21, hr21, h⟩ := Sh.bind_some' h
  refine AR.op (r := bl r21) rfl (aop_call1 rfl rfl (by simp) (inquestref08_Few_ok hT hr21)) <| AR.op rfl (aop_move (.inr rfl) rfl) <| AR.nil <| hK6 _ (AWP.weak (Weak.kt [1, 2, 6] rfl) ?_)
  refine awp_seqK fun K7 hK7 => awp_seqJ (fun (p : Bool) => (⟨[(1, .sl (List.map i64 order_1)), (2, .pp [.sl (List.map G.api_Txn.av h_0.Txns)] 0), (23, bl p)], .empty⟩ : St)) (fun (p : Bool) => G.inquestlaw18_ChoiceOf_j1 h_0 order_1 p = some r) ?_ ?_
  ·rintro v25 h
   replace h : G.inquestlaw18_ChoiceOf_j1 h_0 order_1 v25 = some r := h
   unfold G.inquestlaw18_ChoiceOf_j1 at h
   show AWP _ _ _ _ ⟨[(1, .sl (List.map i64 order_1)), (2, .pp [.sl (List.map G.api_Txn.av h_0.Txns)] 0), (23, bl v25)], .empty⟩ _
   refine awp_cond rfl (fun hb26 => ?_) (fun hb26 => ?_)
   ·replace h := Sh.if_t h hb26
    refine awp_seqK fun K8 hK8 => awp_reg rfl <| AR.op rfl (aop_move (.inr rfl) rfl) <| AR.nil <| hK8 _ (AWP.weak (Weak.kt [4] rfl) ?_)
    refine awp_ret ?_
    obtain rfl := Option.some.inj h
    refine ⟨.inr rfl, bl true, rfl, ?_⟩
    exact Weak.e ⟨.k, trivial⟩
   ·replace h := Sh.if_f h hb26
    refine awp_skip <| hK7 _ (AWP.weak (Weak.kt [1, 2] rfl) ?_)
    refine awp_seqK fun K9 hK9 => awp_reg rfl <| AR.op (r := G.api_Hist.av h_0) rfl (aop_load_pp rfl rfl sz24 rfl) <| AR.op rfl (aop_move (.inl rfl) rfl) ?_
    obtain ⟨r28, hr28, h⟩ := Sh.bind_some' h
    refine AR.op (r := .sl (List.map G.api_Choice.av r28)) rfl (aop_call1 rfl rfl (by simp) (choice_Of_ok hT hr28)) <| AR.keep [1, 2, 26] rfl <| AR.op rfl (aop_move (.inr rfl) rfl) <| AR.nil <| hK9 _ (AWP.weak (Weak.kt [1, 2, 7] rfl) ?_)
    refine awp_seqK fun K10 hK10 => awp_seqK fun K11 hK11 => awp_reg rfl <| AR.op rfl (aop_move (.inl rfl) rfl) <| AR.op (r := G.api_Hist.av h_0) rfl (aop_load_pp rfl rfl sz24 rfl) <| AR.op rfl (aop_move (.inl rfl) rfl) <| AR.keep [1, 2, 7, 27, 28, 29] rfl ?_
    obtain ⟨r33, hr33, h⟩ := Sh.bind_some' h
    refine AR.op (r := .sl (List.map G.api_Choice.av r33)) rfl (aop_call1 rfl rfl (by simp) (inquestref18_Of_ok hT hr33)) ?_
    obtain ⟨r34, hr34, h⟩ := Sh.bind_some' h
    refine AR.op (r := bl r34) rfl (aop_call1 rfl rfl (by simp) (inquestref09_Choices_ok hT hr34)) <| AR.op (r := bl (!r34)) rfl (aop_not rfl rfl) <| AR.nil <| hK11 _ (AWP.weak (Weak.kt [1, 2, 7, 32] rfl) ?_)
    refine awp_cond rfl (fun hb35 => ?_) (fun hb35 => ?_)
    ·replace h := Sh.if_t h hb35
     refine awp_seqK fun K12 hK12 => awp_reg rfl <| AR.op rfl (aop_move (.inr rfl) rfl) <| AR.nil <| hK12 _ (AWP.weak (Weak.kt [4] rfl) ?_)
     refine awp_ret ?_
     obtain rfl := Option.some.inj h
     refine ⟨.inr rfl, bl false, rfl, ?_⟩
     exact Weak.e ⟨.k, trivial⟩
    ·replace h := Sh.if_f h hb35
     refine awp_skip <| hK10 _ (AWP.weak (Weak.kt [1, 2, 7] rfl) ?_)
     refine awp_seqK fun K13 hK13 => awp_reg rfl <| AR.op (r := G.api_Hist.av h_0) rfl (aop_load_pp rfl rfl sz24 rfl) ?_
     obtain ⟨r37, hr37, h⟩ := Sh.bind_some' h
     refine AR.op (r := bl r37) rfl (aop_call1 rfl rfl (by simp) (inquestref08_Right_ok hT hr37)) <| AR.op rfl (aop_move (.inr rfl) rfl) <| AR.nil <| hK13 _ (AWP.weak (Weak.kt [1, 2, 7, 8] rfl) ?_)
     refine awp_seqK fun K14 hK14 => awp_reg rfl <| AR.op rfl (aop_move (.inl rfl) rfl) <| AR.op rfl (aop_field_pp rfl rfl fd24_0 (by decide)) <| AR.op (r := .sl (List.map G.api_Txn.av h_0.Txns)) rfl (aop_load_pp rfl rfl sz22 rfl) <| AR.keep [2, 7, 8, 35, 37] rfl <| AR.op rfl (t_len_sl G.api_Txn.av h_0.Txns rfl rfl el22) ?_
     obtain ⟨r39, hr39, h⟩ := Sh.bind_some' h
     refine AR.op (r := bl r39) rfl (aop_call1 rfl rfl (by simp) (inquestref18_Perm_ok hT hr39)) <| AR.op rfl (aop_move (.inr rfl) rfl) <| AR.nil <| hK14 _ (AWP.weak (Weak.kt [2, 7, 8, 9] rfl) ?_)
     refine awp_seqK fun K15 hK15 => awp_seqJ (fun (p : Bool) => (⟨[(2, .pp [.sl (List.map G.api_Txn.av h_0.Txns)] 0), (7, .sl (List.map G.api_Choice.av r28)), (50, bl p)], .empty⟩ : St)) (fun (p : Bool) => G.inquestlaw18_ChoiceOf_j2 h_0 r28 p = some r) ?_ ?_
     ·rintro v45 h
      replace h : G.inquestlaw18_ChoiceOf_j2 h_0 r28 v45 = some r := h
      unfold G.inquestlaw18_ChoiceOf_j2 at h
      show AWP _ _ _ _ ⟨[(2, .pp [.sl (List.map G.api_Txn.av h_0.Txns)] 0), (7, .sl (List.map G.api_Choice.av r28)), (50, bl v45)], .empty⟩ _
      refine awp_cond rfl (fun hb46 => ?_) (fun hb46 => ?_)
      ·replace h := Sh.if_t h hb46
       refine awp_seqK fun K16 hK16 => awp_reg rfl <| AR.op rfl (aop_move (.inr rfl) rfl) <| AR.nil <| hK16 _ (AWP.weak (Weak.kt [4] rfl) ?_)
       refine awp_ret ?_
       obtain rfl := Option.some.inj h
       refine ⟨.inr rfl, bl true, rfl, ?_⟩
       exact Weak.e ⟨.k, trivial⟩
      ·replace h := Sh.if_f h hb46
       refine awp_skip <| hK15 _ (AWP.weak (Weak.kt [2, 7] rfl) ?_)
       refine awp_seqK fun K17 hK17 => awp_reg rfl <| AR.op (r := G.api_Hist.av h_0) rfl (aop_load_pp rfl rfl sz24 rfl) <| AR.op rfl (aop_move (.inl rfl) rfl) ?_
       obtain ⟨r48, hr48, h⟩ := Sh.bind_some' h
       refine AR.op (r := .tuple [G.api_Choice.av r48.1, bl r48.2]) rfl (aop_call1 rfl rfl (by simp) (choice_Open_ok hT hr48)) <| AR.keep [2, 7, 54] rfl <| AR.op rfl (aop_move (.inl rfl) rfl) <| AR.op (r := G.api_Choice.av r48.1) rfl (aop_extract rfl rfl rfl) <| AR.op (r := bl r48.2) rfl (aop_extract rfl rfl rfl) <| AR.keep [2, 7, 55, 56] rfl <| AR.op (r := .ref 0 0 0) rfl (aop_alloc 3 [.agg [i64 0, i64 0, i64 0]] rfl zr54 (by kernel_rfl) (.inl ⟨rfl, rfl⟩)) <| AR.op rfl (aop_store (e' := G.api_Choice.av r48.1) rfl rfl rfl rfl rfl rfl sz54 rfl dt rfl) ?_
       refine AR.op rfl (aop_move (.inr rfl) rfl) <| AR.nil <| hK17 _ (AWP.weak (Weak.e (fr' := [(2, .pp [.sl (List.map G.api_Txn.av h_0.Txns)] 0), (7, .sl (List.map G.api_Choice.av r28)), (11, bl r48.2)]) (H' := .empty) ⟨.k, ⟨.sl (List.map G.api_Choice.av r28), rfl, .sm⟩, .k, trivial⟩) ?_)
       refine awp_seqK fun K18 hK18 => awp_reg rfl <| AR.op (r := G.api_Hist.av h_0) rfl (aop_load_pp rfl rfl sz24 rfl) <| AR.op rfl (aop_move (.inl rfl) rfl) ?_
       obtain ⟨r51, hr51, h⟩ := Sh.bind_some' h
       refine AR.op (r := bl r51) rfl (aop_call1 rfl rfl (by simp) (choice_Right_ok hT hr51)) <| AR.keep [11, 59] rfl <| AR.op rfl (aop_move (.inl rfl) rfl) ?_
       rcases Bool.eq_false_or_eq_true (r51) with hb52 | hb52
       ·rw [hb52]
        replace h := Sh.if_t h hb52
        refine AR.op rfl (aop_move (.inl rfl) rfl) <| AR.op (r := bl (!r48.2)) rfl (aop_not rfl rfl) <| AR.keep [60, 62] rfl <| AR.op rfl (aop_pick rfl rfl rfl) <| AR.op rfl (aop_move (.inr rfl) rfl) <| AR.nil <| hK18 _ (AWP.weak (Weak.kt [4] rfl) ?_)
        refine awp_ret ?_
        obtain rfl := Option.some.inj h
        refine ⟨.inr rfl, bl (!r48.2), rfl, ?_⟩
        exact Weak.e ⟨.k, trivial⟩
       ·rw [hb52]
        replace h := Sh.if_f h hb52
        refine AR.skip rfl <| AR.skip rfl <| AR.keep [60, 62] rfl <| AR.op rfl (aop_pick rfl rfl rfl) <| AR.op rfl (aop_move (.inr rfl) rfl) <| AR.nil <| hK18 _ (AWP.weak (Weak.kt [4] rfl) ?_)
        refine awp_ret ?_
        obtain rfl := Option.some.inj h
        refine ⟨.inr rfl, bl false, rfl, ?_⟩
        exact Weak.e ⟨.k, trivial⟩
     ·intro K19 hK19
      refine awp_reg rfl <| AR.op rfl (aop_move (.inl rfl) rfl) <| AR.op (r := bl (!r37)) rfl (aop_not rfl rfl) <| AR.op rfl (aop_move (.inl rfl) rfl) <| AR.keep [2, 7, 9, 42] rfl ?_
      rcases Bool.eq_false_or_eq_true (!r37) with hb53 | hb53
      ·rw [hb53]
       replace h := Sh.if_t h hb53
       refine AR.skip rfl <| AR.skip rfl <| AR.op rfl (aop_pick rfl rfl rfl) <| AR.keep [2, 7, 45] rfl <| AR.op rfl (aop_move (.inl rfl) rfl) <| AR.skip rfl <| AR.skip rfl <| AR.keep [2, 7, 46, 48] rfl ?_
       refine AR.skip rfl <| AR.op rfl (aop_pick rfl rfl rfl) <| AR.nil ?_
       exact hK19 true _ h (Weak.kt [2, 7, 50] rfl)
      ·rw [hb53]
       replace h := Sh.if_f h hb53
       refine AR.op rfl (aop_move (.inl rfl) rfl) <| AR.op (r := bl (!r39)) rfl (aop_not rfl rfl) <| AR.op rfl (aop_pick rfl rfl rfl) <| AR.keep [2, 7, 45] rfl <| AR.op rfl (aop_move (.inl rfl) rfl) ?_
       rcases Bool.eq_false_or_eq_true (!r39) with hb54 | hb54
       ·rw [hb54]
        replace h := Sh.if_t h hb54
        refine AR.skip rfl <| AR.skip rfl <| AR.keep [2, 7, 46, 48] rfl <| AR.skip rfl <| AR.op rfl (aop_pick rfl rfl rfl) <| AR.nil ?_
        exact hK19 true _ h (Weak.kt [2, 7, 50] rfl)
       ·rw [hb54]
        replace h := Sh.if_f h hb54
        refine AR.op rfl (aop_move (.inl rfl) rfl) <| AR.op rfl (t_len_sl G.api_Choice.av r28 rfl rfl el51) <| AR.keep [2, 7, 46, 48] rfl <| AR.op rfl (aop_gtr rfl rfl rfl) <| AR.op rfl (aop_pick rfl rfl rfl) <| AR.nil ?_
        exact hK19 (decide ((20000 : Int) < (Sh.len r28))) _ h (Weak.e (fr' := [(2, .pp [.sl (List.map G.api_Txn.av h_0.Txns)] 0), (7, .sl (List.map G.api_Choice.av r28)), (50, bl (decide ((20000 : Int) < (Sh.len r28))))]) (H' := .empty) ⟨.k, ⟨.sl (List.map G.api_Choice.av r28), rfl, .sm⟩, .k, trivial⟩)
  ·intro K20 hK20
   refine awp_reg rfl <| AR.op rfl (aop_move (.inl rfl) rfl) <| AR.op (r := bl (!r21)) rfl (aop_not rfl rfl) <| AR.op rfl (aop_move (.inl rfl) rfl) <| AR.keep [1, 2, 19] rfl ?_
   rcases Bool.eq_false_or_eq_true (!r21) with hb55 | hb55
   ·rw [hb55]
    replace h := Sh.if_t h hb55
    refine AR.skip rfl <| AR.skip rfl <| AR.skip rfl <| AR.keep [1, 2, 19, 22] rfl <| AR.op rfl (aop_pick rfl rfl rfl) <| AR.nil ?_
    exact hK20 true _ h (Weak.kt [1, 2, 23] rfl)
   ·rw [hb55]
    replace h := Sh.if_f h hb55
    refine AR.op rfl (aop_move (.inl rfl) rfl) <| AR.op rfl (t_len_sl i64 order_1 rfl rfl el37) <| AR.op rfl (aop_gtr rfl rfl rfl) <| AR.keep [1, 2, 19, 22] rfl <| AR.op rfl (aop_pick rfl rfl rfl) <| AR.nil ?_
    exact hK20 (decide ((60 : Int) < (Sh.len order_1))) _ h (Weak.e (fr' := [(1, .sl (List.map i64 order_1)), (2, .pp [.sl (List.map G.api_Txn.av h_0.Txns)] 0), (23, bl (decide ((60 : Int) < (Sh.len order_1))))]) (H' := .empty) ⟨⟨.sl (List.map i64 order_1), rfl, .sm⟩, .k, .k, trivial⟩)
theorem inquestlaw18_ChoiceOf_ok {W0 : World} (hT : Tab W0) {h_0 : G.api_Hist} {order_1 : List Int} {r : Bool} (h : G.inquestlaw18_ChoiceOf h_0 order_1 = some r) : Fun1 Tryd.prog W0 9 [G.api_Hist.av h_0, .sl (List.map i64 order_1)] (bl r) := Fun1.two (inquestlaw18_ChoiceOf_ok0 hT h) (by simp)

end Wk
