/- That the functions of a package do what their plain functions say. -/
import Derived.Test.YtleihjegenjacaaGreatSh
import Derived.Test.YtleihjegenjacaaGreatWkYFacts
import Derived.Test.YtleihjegenjacaaGreatWkYinquestref07
import Derived.Test.YtleihjegenjacaaGreatWkYinquestref21
import Derived.Test.YtleihjegenjacaaGreatWkYinquestref24
open Go Go.Av Go.Proofs
set_option linter.unusedVariables false
set_option maxHeartbeats 8000000
set_option maxRecDepth 20000
namespace Wk
theorem inquestref27_Same_ok0 {W0 : World} (hT : Tab W0) {a_0 : G.inquestref27_C} {b_1 : G.inquestref27_C} {r : Bool} (h : G.inquestref27_Same a_0 b_1 = some r) : Fun2 Tryz.prog W0 19 [G.inquestref27_C.av a_0, G.inquestref27_C.av b_1] (bl r) .empty := by
 refine fun2_of_awp Tryz.func19 rfl (by kernel_rfl) Tryz.ntmps19 (by simp) ?_
 unfold G.inquestref27_Same at h
 show AWP _ _ _ _ ⟨[(0, G.inquestref27_C.av a_0), (1, G.inquestref27_C.av b_1)], .empty⟩ _
 refine awp_seqK fun K1 hK1 => awp_reg rfl <| AR.op (r := .ref 0 0 0) rfl (aop_box 5 [G.inquestref27_C.av a_0] rfl rfl rfl (.inl ⟨rfl, rfl⟩)) <| AR.op (r := .ref 1 0 0) rfl (aop_box 5 [G.inquestref27_C.av b_1] rfl rfl rfl (.inl ⟨rfl, rfl⟩)) <| AR.op rfl (aop_move (.inr rfl) rfl) <| AR.nil <| hK1 _ (AWP.weak (Weak.e (fr' := [(2, .pp [i64 a_0.Level, bl a_0.Yes, .sl (List.map i64 a_0.Order), .sl (List.map G.inquestref21_R.av a_0.Rows), .sl (List.map G.inquestref24_N.av a_0.Tree)] 0), (3, .pp [i64 b_1.Level, bl b_1.Yes, .sl (List.map i64 b_1.Order), .sl (List.map G.inquestref21_R.av b_1.Rows), .sl (List.map G.inquestref24_N.av b_1.Tree)] 0)]) (H' := .empty) ⟨⟨_, rfl, .frzA rfl rfl rfl rfl (by simp)⟩, ⟨_, rfl, .frzA rfl rfl rfl rfl (by simp)⟩, trivial⟩) ?_)
 refine awp_seqK fun K2 hK2 => awp_reg rfl <| AR.op rfl (aop_field_pp rfl rfl fd36_2 (by decide)) <| AR.op (r := .sl (List.map i64 a_0.Order)) rfl (aop_load_pp rfl rfl sz25 rfl) <| AR.op rfl (aop_field_pp rfl rfl fd36_2 (by decide)) <| AR.keep [2, 3, 9, 10] rfl <| AR.op (r := .sl (List.map i64 b_1.Order)) rfl (aop_load_pp rfl rfl sz25 rfl) ?_
 obtain ⟨r10, hr10, h⟩ := Sh.bind_some' h
 refine AR.op (r := bl r10) rfl (aop_call1 rfl rfl (by simp) (inquestref07_Ints_ok hT hr10)) <| AR.op rfl (aop_move (.inr rfl) rfl) <| AR.nil <| hK2 _ (AWP.weak (Weak.kt [2, 3, 5] rfl) ?_)
 refine awp_seqK fun K3 hK3 => awp_reg rfl <| AR.op rfl (aop_field_pp rfl rfl fd36_3 (by decide)) <| AR.op (r := .sl (List.map G.inquestref21_R.av a_0.Rows)) rfl (aop_load_pp rfl rfl sz33 rfl) <| AR.op rfl (aop_field_pp rfl rfl fd36_3 (by decide)) <| AR.keep [2, 3, 5, 14, 15] rfl <| AR.op (r := .sl (List.map G.inquestref21_R.av b_1.Rows)) rfl (aop_load_pp rfl rfl sz33 rfl) ?_
 obtain ⟨r12, hr12, h⟩ := Sh.bind_some' h
 refine AR.op (r := bl r12) rfl (aop_call1 rfl rfl (by simp) (inquestref21_Same_ok hT hr12)) <| AR.op rfl (aop_move (.inr rfl) rfl) <| AR.nil <| hK3 _ (AWP.weak (Weak.kt [2, 3, 5, 6] rfl) ?_)
 refine awp_seqK fun K4 hK4 => awp_reg rfl <| AR.op rfl (aop_field_pp rfl rfl fd36_4 (by decide)) <| AR.op (r := .sl (List.map G.inquestref24_N.av a_0.Tree)) rfl (aop_load_pp rfl rfl sz34 rfl) <| AR.op rfl (aop_field_pp rfl rfl fd36_4 (by decide)) <| AR.keep [2, 3, 5, 6, 19, 20] rfl <| AR.op (r := .sl (List.map G.inquestref24_N.av b_1.Tree)) rfl (aop_load_pp rfl rfl sz34 rfl) ?_
 obtain ⟨r14, hr14, h⟩ := Sh.bind_some' h
 refine AR.op (r := bl r14) rfl (aop_call1 rfl rfl (by simp) (inquestref24_Same_ok hT hr14)) <| AR.op rfl (aop_move (.inr rfl) rfl) <| AR.nil <| hK4 _ (AWP.weak (Weak.kt [2, 3, 5, 6, 7] rfl) ?_)
 refine awp_seqK fun K5 hK5 => awp_reg rfl <| AR.op rfl (aop_field_pp rfl rfl fd36_0 (by decide)) <| AR.op (r := i64 a_0.Level) rfl (aop_load_pp rfl rfl sz3 rfl) <| AR.op rfl (aop_field_pp rfl rfl fd36_0 (by decide)) <| AR.keep [2, 3, 5, 6, 7, 24, 25] rfl <| AR.op (r := i64 b_1.Level) rfl (aop_load_pp rfl rfl sz3 rfl) <| AR.op (r := bl (decide (a_0.Level = b_1.Level))) rfl (aop_eql rfl rfl rfl) ?_
 refine AR.op rfl (aop_move (.inl rfl) rfl) <| AR.keep [2, 3, 5, 6, 7, 28] rfl ?_
 rcases Bool.eq_false_or_eq_true (decide (a_0.Level = b_1.Level)) with hb19 | hb19
 ·rw [hb19]
  replace h := Sh.if_t h hb19
  refine AR.op rfl (aop_field_pp rfl rfl fd36_1 (by decide)) <| AR.op (r := bl a_0.Yes) rfl (aop_load_pp rfl rfl sz4 rfl) <| AR.op rfl (aop_field_pp rfl rfl fd36_1 (by decide)) <| AR.keep [5, 6, 7, 28, 30, 31] rfl <| AR.op (r := bl b_1.Yes) rfl (aop_load_pp rfl rfl sz4 rfl) <| AR.op (r := bl (a_0.Yes == b_1.Yes)) rfl (aop_eqb rfl rfl rfl Tryz.underlying4) <| AR.op rfl (aop_pick rfl rfl rfl) <| AR.keep [5, 6, 7, 34] rfl ?_
  refine AR.op rfl (aop_move (.inl rfl) rfl) ?_
  rcases Bool.eq_false_or_eq_true (a_0.Yes == b_1.Yes) with hb20 | hb20
  ·rw [hb20]
   replace h := Sh.if_t h hb20
   refine AR.op rfl (aop_move (.inl rfl) rfl) <| AR.op rfl (aop_pick rfl rfl rfl) <| AR.keep [6, 7, 37] rfl <| AR.op rfl (aop_move (.inl rfl) rfl) ?_
   rcases Bool.eq_false_or_eq_true (r10) with hb21 | hb21
   ·rw [hb21]
    replace h := Sh.if_t h hb21
    refine AR.op rfl (aop_move (.inl rfl) rfl) <| AR.op rfl (aop_pick rfl rfl rfl) <| AR.keep [7, 40] rfl <| AR.op rfl (aop_move (.inl rfl) rfl) ?_
    rcases Bool.eq_false_or_eq_true (r12) with hb22 | hb22
    ·rw [hb22]
     replace h := Sh.if_t h hb22
     refine AR.op rfl (aop_move (.inl rfl) rfl) <| AR.op rfl (aop_pick rfl rfl rfl) <| AR.keep [43] rfl <| AR.op rfl (aop_move (.inr rfl) rfl) <| AR.nil <| hK5 _ (AWP.weak (Weak.kt [4] rfl) ?_)
     refine awp_ret ?_
     obtain rfl := Option.some.inj h
     refine ⟨.inr rfl, bl r14, rfl, ?_⟩
     exact Weak.e ⟨.k, trivial⟩
    ·rw [hb22]
     replace h := Sh.if_f h hb22
     refine AR.skip rfl <| AR.op rfl (aop_pick rfl rfl rfl) <| AR.keep [43] rfl <| AR.op rfl (aop_move (.inr rfl) rfl) <| AR.nil <| hK5 _ (AWP.weak (Weak.kt [4] rfl) ?_)
     refine awp_ret ?_
     obtain rfl := Option.some.inj h
     refine ⟨.inr rfl, bl false, rfl, ?_⟩
     exact Weak.e ⟨.k, trivial⟩
   ·rw [hb21]
    replace h := Sh.if_f h hb21
    refine AR.skip rfl <| AR.op rfl (aop_pick rfl rfl rfl) <| AR.keep [7, 40] rfl <| AR.op rfl (aop_move (.inl rfl) rfl) <| AR.skip rfl <| AR.op rfl (aop_pick rfl rfl rfl) <| AR.keep [43] rfl <| AR.op rfl (aop_move (.inr rfl) rfl) ?_
    refine AR.nil <| hK5 _ (AWP.weak (Weak.kt [4] rfl) ?_)
    refine awp_ret ?_
    obtain rfl := Option.some.inj h
    refine ⟨.inr rfl, bl false, rfl, ?_⟩
    exact Weak.e ⟨.k, trivial⟩
  ·rw [hb20]
   replace h := Sh.if_f h hb20
   refine AR.skip rfl <| AR.op rfl (aop_pick rfl rfl rfl) <| AR.keep [6, 7, 37] rfl <| AR.op rfl (aop_move (.inl rfl) rfl) <| AR.skip rfl <| AR.op rfl (aop_pick rfl rfl rfl) <| AR.keep [7, 40] rfl <| AR.op rfl (aop_move (.inl rfl) rfl) ?_
   refine AR.skip rfl <| AR.op rfl (aop_pick rfl rfl rfl) <| AR.keep [43] rfl <| AR.op rfl (aop_move (.inr rfl) rfl) <| AR.nil <| hK5 _ (AWP.weak (Weak.kt [4] rfl) ?_)
   refine awp_ret ?_
   obtain rfl := Option.some.inj h
   refine ⟨.inr rfl, bl false, rfl, ?_⟩
   exact Weak.e ⟨.k, trivial⟩
 ·rw [hb19]
  replace h := Sh.if_f h hb19
  refine AR.skip rfl <| AR.skip rfl <| AR.skip rfl <| AR.keep [5, 6, 7, 28, 30, 31] rfl <| AR.skip rfl <| AR.skip rfl <| AR.op rfl (aop_pick rfl rfl rfl) <| AR.keep [5, 6, 7, 34] rfl ?_
  refine AR.op rfl (aop_move (.inl rfl) rfl) <| AR.skip rfl <| AR.op rfl (aop_pick rfl rfl rfl) <| AR.keep [6, 7, 37] rfl <| AR.op rfl (aop_move (.inl rfl) rfl) <| AR.skip rfl <| AR.op rfl (aop_pick rfl rfl rfl) <| AR.keep [7, 40] rfl ?_
  refine AR.op rfl (aop_move (.inl rfl) rfl) <| AR.skip rfl <| AR.op rfl (aop_pick rfl rfl rfl) <| AR.keep [43] rfl <| AR.op rfl (aop_move (.inr rfl) rfl) <| AR.nil <| hK5 _ (AWP.weak (Weak.kt [4] rfl) ?_)
  refine awp_ret ?_
  obtain rfl := Option.some.inj h
  refine ⟨.inr rfl, bl false, rfl, ?_⟩
  exact Weak.e ⟨.k, trivial⟩
theorem inquestref27_Same_ok {W0 : World} (hT : Tab W0) {a_0 : G.inquestref27_C} {b_1 : G.inquestref27_C} {r : Bool} (h : G.inquestref27_Same a_0 b_1 = some r) : Fun1 Tryz.prog W0 19 [G.inquestref27_C.av a_0, G.inquestref27_C.av b_1] (bl r) := Fun1.two (inquestref27_Same_ok0 hT h) (by simp)

end Wk
