/- That the functions of a package do what their plain functions say. -/
import Derived.Test.YtdeepljikmgjjaaSh
import Derived.Test.YtdeepljikmgjjaaWkSFacts
open Go Go.Av Go.Proofs
set_option linter.unusedVariables false
set_option maxHeartbeats 8000000
set_option maxRecDepth 20000
namespace Wk
theorem inquestref08_Few_ok0 {W0 : World} (hT : Tab W0) {h_0 : G.api_Hist} {many_1 : Int} {r : Bool} (h : G.inquestref08_Few h_0 many_1 = some r) : Fun2 Try.prog W0 8 [G.api_Hist.av h_0, i64 many_1] (bl r) .empty := by
 refine fun2_of_awp Try.func8 rfl (by kernel_rfl) Try.ntmps8 (by simp) ?_
 unfold G.inquestref08_Few at h
 show AWP _ _ _ _ ⟨[(0, G.api_Hist.av h_0), (1, i64 many_1)], .empty⟩ _
 refine awp_seqK fun K1 hK1 => awp_reg rfl <| AR.op (r := .ref 0 0 0) rfl (aop_box 1 [G.api_Hist.av h_0] rfl rfl rfl (.inl ⟨rfl, rfl⟩)) <| AR.op rfl (aop_move (.inr rfl) rfl) <| AR.nil <| hK1 _ (AWP.weak (Weak.e (fr' := [(1, i64 many_1), (2, .pp [.sl (List.map G.api_Txn.av h_0.Txns)] 0)]) (H' := .empty) ⟨.k, ⟨_, rfl, .frzA rfl rfl rfl rfl (by simp)⟩, trivial⟩) ?_)
 refine awp_seqK fun K2 hK2 => awp_seqK fun K3 hK3 => awp_reg rfl <| AR.op rfl (aop_field_pp rfl rfl fd24_0 (by decide)) <| AR.op (r := .sl (List.map G.api_Txn.av h_0.Txns)) rfl (aop_load_pp rfl rfl sz22 rfl) <| AR.op rfl (t_len_sl G.api_Txn.av h_0.Txns rfl rfl el22) <| AR.keep [1, 2, 8] rfl <| AR.op rfl (aop_move (.inl rfl) rfl) ?_
 refine AR.op rfl (aop_gtr rfl rfl rfl) <| AR.nil <| hK3 _ (AWP.weak (Weak.kt [2, 10] rfl) ?_)
 refine awp_cond rfl (fun hb21 => ?_) (fun hb21 => ?_)
 ·replace h := Sh.if_t h hb21
  refine awp_seqK fun K4 hK4 => awp_reg rfl <| AR.op rfl (aop_move (.inr rfl) rfl) <| AR.nil <| hK4 _ (AWP.weak (Weak.kt [4] rfl) ?_)
  refine awp_ret ?_
  obtain rfl := Option.some.inj h
  refine ⟨.inr rfl, bl false, rfl, ?_⟩
  exact Weak.e ⟨.k, trivial⟩
 ·replace h := Sh.if_f h hb21
  refine awp_skip <| hK2 _ (AWP.weak (Weak.kt [2] rfl) ?_)
  refine awp_seqJ (fun (p : Unit) => (⟨[], .empty⟩ : St)) (fun (p : Unit) => G.inquestref08_Few_j1 = some r) ?_ ?_
  ·rintro ⟨⟩ h
   replace h : G.inquestref08_Few_j1 = some r := h
   unfold G.inquestref08_Few_j1 at h
   refine awp_seqK fun K5 hK5 => awp_reg rfl <| AR.op rfl (aop_move (.inr rfl) rfl) <| AR.nil <| hK5 _ ?_
   refine awp_ret ?_
   obtain rfl := Option.some.inj h
   refine ⟨.inr rfl, bl true, rfl, ?_⟩
   exact Weak.e ⟨.k, trivial⟩
  ·intro K6 hK6
   refine awp_seqK fun K7 hK7 => awp_reg rfl <| AR.op rfl (aop_move (.inr rfl) rfl) <| AR.nil <| hK7 _ ?_
   refine awp_block <| awp_iter (fun (p : Int) => G.inquestref08_Few_b1 h_0 p) (fun (p : Int) => (⟨[(2, .pp [.sl (List.map G.api_Txn.av h_0.Txns)] 0), (5, i64 p)], .empty⟩ : St)) h (Weak.kt [2, 5] rfl) ?_
   ·skip
    rintro i55 o1 h hx1
    replace h : G.inquestref08_Few_b1 h_0 i55 = some o1 := h
    unfold G.inquestref08_Few_b1 at h
    refine awp_seqK fun K8 hK8 => awp_seqK fun K9 hK9 => awp_reg rfl <| AR.op rfl (aop_move (.inl rfl) rfl) <| AR.op rfl (aop_field_pp rfl rfl fd24_0 (by decide)) <| AR.op (r := .sl (List.map G.api_Txn.av h_0.Txns)) rfl (aop_load_pp rfl rfl sz22 rfl) <| AR.keep [2, 5, 11, 13] rfl <| AR.op rfl (t_len_sl G.api_Txn.av h_0.Txns rfl rfl el22) ?_
    refine AR.op rfl (aop_lss rfl rfl rfl) <| AR.nil <| hK9 _ (AWP.weak (Weak.kt [2, 5, 15] rfl) ?_)
    refine awp_cond rfl (fun hb56 => ?_) (fun hb56 => ?_)
    ·replace h := Sh.if_t h hb56
     refine awp_skip <| hK8 _ (AWP.weak (Weak.kt [2, 5] rfl) ?_)
     refine awp_seqK fun K10 hK10 => awp_block <| awp_seqJ (fun (p : Bool) => (⟨[(2, .pp [.sl (List.map G.api_Txn.av h_0.Txns)] 0), (5, i64 i55), (35, bl p)], .empty⟩ : St)) (fun (p : Bool) => G.inquestref08_Few_j2 i55 p = some o1) ?_ ?_
     ·rintro v68 h
      replace h : G.inquestref08_Few_j2 i55 v68 = some o1 := h
      unfold G.inquestref08_Few_j2 at h
      refine awp_cond rfl (fun hb69 => ?_) (fun hb69 => ?_)
      ·replace h := Sh.if_t h hb69
       refine awp_seqK fun K11 hK11 => awp_reg rfl <| AR.op rfl (aop_move (.inr rfl) rfl) <| AR.nil <| hK11 _ (AWP.weak (Weak.kt [4] rfl) ?_)
       refine awp_ret ?_
       replace h := Sh.exit_eq h hx1
       obtain rfl := Option.some.inj h
       refine ⟨.inr rfl, bl false, rfl, ?_⟩
       exact Weak.e ⟨.k, trivial⟩
      ·replace h := Sh.if_f h hb69
       refine awp_skip <| hK10 _ (AWP.weak (Weak.kt [2, 5] rfl) ?_)
       refine awp_reg rfl <| AR.op rfl (aop_move (.inl rfl) rfl) <| AR.op rfl (aop_add rfl rfl rfl rfl) <| AR.op rfl (aop_move (.inr rfl) rfl) <| AR.nil ?_
       replace h := Sh.next_eq h
       exact ⟨_, h, Weak.kt [2, 5] rfl⟩
     ·intro K12 hK12
      refine awp_reg rfl <| AR.op rfl (aop_field_pp rfl rfl fd24_0 (by decide)) <| AR.op (r := .sl (List.map G.api_Txn.av h_0.Txns)) rfl (aop_load_pp rfl rfl sz22 rfl) <| AR.op rfl (aop_move (.inl rfl) rfl) <| AR.keep [2, 5, 19, 20] rfl ?_
      obtain ⟨x70, hx70, h⟩ := Sh.bind_some' h
      obtain ⟨k71, hi71, hl71⟩ := Sh.idx_some hx70
      refine AR.op rfl (t_index_sl G.api_Txn.av h_0.Txns hi71 hl71 rfl rfl rfl el22 rfl) <| AR.op rfl (aop_field_pp rfl rfl fd58_1 (by decide)) <| AR.op (r := .sl (List.map i64 x70.Writes)) rfl (aop_load_pp rfl rfl sz36 rfl) <| AR.keep [2, 5, 23] rfl <| AR.op rfl (t_len_sl i64 x70.Writes rfl rfl el36) <| AR.op rfl (aop_gtr rfl rfl rfl) <| AR.op rfl (aop_move (.inl rfl) rfl) <| AR.keep [2, 5, 26] rfl ?_
      rcases Bool.eq_false_or_eq_true (decide ((20 : Int) < (Sh.len x70.Writes))) with hb72 | hb72
      ·rw [hb72]
       replace h := Sh.if_t h hb72
       refine AR.skip rfl <| AR.skip rfl <| AR.skip rfl <| AR.keep [2, 5, 26, 27, 28, 29] rfl <| AR.skip rfl <| AR.skip rfl <| AR.skip rfl <| AR.keep [2, 5, 26, 27, 28, 29, 30, 31, 32] rfl ?_
       refine AR.skip rfl <| AR.skip rfl <| AR.op rfl (aop_pick rfl rfl rfl) <| AR.nil ?_
       exact hK12 true _ h (Weak.kt [2, 5, 35] rfl)
      ·rw [hb72]
       replace h := Sh.if_f h hb72
       refine AR.op rfl (aop_field_pp rfl rfl fd24_0 (by decide)) <| AR.op (r := .sl (List.map G.api_Txn.av h_0.Txns)) rfl (aop_load_pp rfl rfl sz22 rfl) <| AR.op rfl (aop_move (.inl rfl) rfl) <| AR.keep [2, 5, 26, 27, 28, 29] rfl ?_
       obtain ⟨x73, hx73, h⟩ := Sh.bind_some' h
       obtain ⟨k74, hi74, hl74⟩ := Sh.idx_some hx73
       refine AR.op rfl (t_index_sl G.api_Txn.av h_0.Txns hi74 hl74 rfl rfl rfl el22 rfl) <| AR.op rfl (aop_field_pp rfl rfl fd58_2 (by decide)) <| AR.op (r := .sl (List.map G.api_Take.av x73.Reads)) rfl (aop_load_pp rfl rfl sz56 rfl) <| AR.keep [2, 5, 26, 27, 28, 29, 30, 31, 32] rfl <| AR.op rfl (t_len_sl G.api_Take.av x73.Reads rfl rfl el56) <| AR.op rfl (aop_gtr rfl rfl rfl) <| AR.op rfl (aop_pick rfl rfl rfl) <| AR.nil ?_
       exact hK12 (decide ((20 : Int) < (Sh.len x73.Reads))) _ h (Weak.kt [2, 5, 35] rfl)
    ·replace h := Sh.if_f h hb56
     refine awp_exit ?_
     replace h := Sh.exit_eq h hx1
     exact hK6 () _ h (Weak.kt [] rfl)
theorem inquestref08_Few_ok {W0 : World} (hT : Tab W0) {h_0 : G.api_Hist} {many_1 : Int} {r : Bool} (h : G.inquestref08_Few h_0 many_1 = some r) : Fun1 Try.prog W0 8 [G.api_Hist.av h_0, i64 many_1] (bl r) := Fun1.two (inquestref08_Few_ok0 hT h) (by simp)

end Wk
