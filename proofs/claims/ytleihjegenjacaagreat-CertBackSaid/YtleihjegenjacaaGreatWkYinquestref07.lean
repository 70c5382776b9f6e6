/- That the functions of a package do what their plain functions say. -/
import Derived.Test.YtleihjegenjacaaGreatSh
import Derived.Test.YtleihjegenjacaaGreatWkYFacts
open Go Go.Av Go.Proofs
set_option linter.unusedVariables false
set_option maxHeartbeats 8000000
set_option maxRecDepth 20000
namespace Wk
theorem inquestref07_Ints_ok0 {W0 : World} (hT : Tab W0) {a_0 : List Int} {b_1 : List Int} {r : Bool} (h : G.inquestref07_Ints a_0 b_1 = some r) : Fun2 Tryz.prog W0 42 [.sl (List.map i64 a_0), .sl (List.map i64 b_1)] (bl r) .empty := by
 refine fun2_of_awp Tryz.func42 rfl (by kernel_rfl) Tryz.ntmps42 (by simp) ?_
 unfold G.inquestref07_Ints at h
 show AWP _ _ _ _ ⟨[(0, .sl (List.map i64 a_0)), (1, .sl (List.map i64 b_1))], .empty⟩ _
 refine awp_seqK fun K1 hK1 => awp_reg rfl <| AR.op rfl (aop_move (.inr rfl) rfl) <| AR.nil <| hK1 _ (AWP.weak (Weak.kt [0, 1] rfl) ?_)
 refine awp_seqK fun K2 hK2 => awp_seqK fun K3 hK3 => awp_reg rfl <| AR.op rfl (aop_move (.inl rfl) rfl) <| AR.op rfl (t_len_sl i64 a_0 rfl rfl el25) <| AR.op rfl (aop_move (.inl rfl) rfl) <| AR.keep [0, 1, 7, 8] rfl <| AR.op rfl (t_len_sl i64 b_1 rfl rfl el25) ?_
 refine AR.op (r := bl (decide ((Sh.len a_0) ≠ (Sh.len b_1)))) rfl (aop_neq rfl rfl rfl) <| AR.nil <| hK3 _ (AWP.weak (Weak.kt [0, 1, 10] rfl) ?_)
 refine awp_cond rfl (fun hb15 => ?_) (fun hb15 => ?_)
 ·replace h := Sh.if_t h hb15
  refine awp_seqK fun K4 hK4 => awp_reg rfl <| AR.op rfl (aop_move (.inr rfl) rfl) <| AR.nil <| hK4 _ (AWP.weak (Weak.kt [4] rfl) ?_)
  refine awp_ret ?_
  obtain rfl := Option.some.inj h
  refine ⟨.inr rfl, bl false, rfl, ?_⟩
  exact Weak.e ⟨.k, trivial⟩
 ·replace h := Sh.if_f h hb15
  refine awp_skip <| hK2 _ (AWP.weak (Weak.kt [0, 1] rfl) ?_)
  refine awp_seqJ (fun (p : Unit) => (⟨[], .empty⟩ : St)) (fun (p : Unit) => G.inquestref07_Ints_j1 = some r) ?_ ?_
  ·rintro ⟨⟩ h
   replace h : G.inquestref07_Ints_j1 = some r := h
   unfold G.inquestref07_Ints_j1 at h
   refine awp_seqK fun K5 hK5 => awp_reg rfl <| AR.op rfl (aop_move (.inr rfl) rfl) <| AR.nil <| hK5 _ ?_
   refine awp_ret ?_
   obtain rfl := Option.some.inj h
   refine ⟨.inr rfl, bl true, rfl, ?_⟩
   exact Weak.e ⟨.k, trivial⟩
  ·intro K6 hK6
   refine awp_seqK fun K7 hK7 => awp_reg rfl <| AR.op rfl (aop_move (.inr rfl) rfl) <| AR.nil <| hK7 _ ?_
   refine awp_block <| awp_iter (fun (p : Int) => G.inquestref07_Ints_b1 a_0 b_1 p) (fun (p : Int) => (⟨[(0, .sl (List.map i64 a_0)), (1, .sl (List.map i64 b_1)), (5, i64 p)], .empty⟩ : St)) h (Weak.kt [0, 1, 5] rfl) ?_
   ·skip
    rintro i39 o1 h hx1
    replace h : G.inquestref07_Ints_b1 a_0 b_1 i39 = some o1 := h
    unfold G.inquestref07_Ints_b1 at h
    refine awp_seqK fun K8 hK8 => awp_seqK fun K9 hK9 => awp_reg rfl <| AR.op rfl (aop_move (.inl rfl) rfl) <| AR.op rfl (aop_move (.inl rfl) rfl) <| AR.op rfl (t_len_sl i64 a_0 rfl rfl el25) <| AR.keep [0, 1, 5, 11, 13] rfl <| AR.op rfl (aop_lss rfl rfl rfl) ?_
    refine AR.nil <| hK9 _ (AWP.weak (Weak.kt [0, 1, 5, 14] rfl) ?_)
    refine awp_cond rfl (fun hb40 => ?_) (fun hb40 => ?_)
    ·replace h := Sh.if_t h hb40
     refine awp_skip <| hK8 _ (AWP.weak (Weak.kt [0, 1, 5] rfl) ?_)
     refine awp_seqK fun K10 hK10 => awp_block <| awp_seqK fun K11 hK11 => awp_any [(true, false), (true, false), (true, false), (true, false), (true, false), (true, false), (true, false), (true, false), (true, false)] (by kernel_rfl) (by kernel_rfl) rfl ?_
     refine ARH.dry rfl (fun _ => aop_move (.inl rfl) rfl) <| ARH.dry rfl (fun _ => aop_move (.inl rfl) rfl) ?_
     obtain ⟨x49, hx49, h⟩ := Sh.bind_some' h
     obtain ⟨k50, hi50, hl50⟩ := Sh.idx_some hx49
     refine ARH.dry rfl (fun _ => t_index_sl i64 a_0 hi50 hl50 rfl rfl rfl el25 rfl) <| ARH.keep [0, 1, 5, 19] rfl <| ARH.dry (r := i64 x49) rfl (fun _ => aop_load_pp rfl rfl sz3 rfl) <| ARH.dry rfl (fun _ => aop_move (.inl rfl) rfl) <| ARH.dry rfl (fun _ => aop_move (.inl rfl) rfl) <| ARH.keep [0, 1, 5, 20, 21, 22] rfl ?_
     obtain ⟨x51, hx51, h⟩ := Sh.bind_some' h
     obtain ⟨k52, hi52, hl52⟩ := Sh.idx_some hx51
     refine ARH.dry rfl (fun _ => t_index_sl i64 b_1 hi52 hl52 rfl rfl rfl el25 rfl) <| ARH.dry (r := i64 x51) rfl (fun _ => aop_load_pp rfl rfl sz3 rfl) <| ARH.dry (r := bl (decide (x49 ≠ x51))) rfl (fun _ => aop_neq rfl rfl rfl) <| ARH.nil <| hK11 _ (AWP.weak (Weak.kt [0, 1, 5, 25] rfl) ?_)
     refine awp_cond rfl (fun hb53 => ?_) (fun hb53 => ?_)
     ·replace h := Sh.if_t h hb53
      refine awp_seqK fun K12 hK12 => awp_reg rfl <| AR.op rfl (aop_move (.inr rfl) rfl) <| AR.nil <| hK12 _ (AWP.weak (Weak.kt [4] rfl) ?_)
      refine awp_ret ?_
      replace h := Sh.exit_eq h hx1
      obtain rfl := Option.some.inj h
      refine ⟨.inr rfl, bl false, rfl, ?_⟩
      exact Weak.e ⟨.k, trivial⟩
     ·replace h := Sh.if_f h hb53
      refine awp_skip <| hK10 _ (AWP.weak (Weak.kt [0, 1, 5] rfl) ?_)
      refine awp_reg rfl <| AR.op rfl (aop_move (.inl rfl) rfl) <| AR.op rfl (aop_add rfl rfl rfl rfl) <| AR.op rfl (aop_move (.inr rfl) rfl) <| AR.nil ?_
      replace h := Sh.next_eq h
      exact ⟨_, h, Weak.kt [0, 1, 5] rfl⟩
    ·replace h := Sh.if_f h hb40
     refine awp_exit ?_
     replace h := Sh.exit_eq h hx1
     exact hK6 () _ h (Weak.kt [] rfl)
theorem inquestref07_Ints_ok {W0 : World} (hT : Tab W0) {a_0 : List Int} {b_1 : List Int} {r : Bool} (h : G.inquestref07_Ints a_0 b_1 = some r) : Fun1 Tryz.prog W0 42 [.sl (List.map i64 a_0), .sl (List.map i64 b_1)] (bl r) := Fun1.two (inquestref07_Ints_ok0 hT h) (by simp)

end Wk
