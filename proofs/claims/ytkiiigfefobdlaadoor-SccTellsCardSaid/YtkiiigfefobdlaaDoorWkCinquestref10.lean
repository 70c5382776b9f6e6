/- That the functions of a package do what their plain functions say. -/
import Derived.Test.YtkiiigfefobdlaaDoorSh
import Derived.Test.YtkiiigfefobdlaaDoorWkCFacts
open Go Go.Av Go.Proofs
set_option linter.unusedVariables false
set_option maxHeartbeats 8000000
set_option maxRecDepth 20000
namespace Wk
theorem inquestref10_In_ok0 {W0 : World} (hT : Tab W0) {i_0 : Int} {r : Bool} (h : G.inquestref10_In i_0 = some r) : Fun2 Tryd.prog W0 58 [i64 i_0] (bl r) .empty := by
 refine fun2_of_awp Tryd.func58 rfl (by kernel_rfl) Tryd.ntmps58 (by simp) ?_
 unfold G.inquestref10_In at h
 show AWP _ _ _ _ ⟨[(0, i64 i_0)], .empty⟩ _
 refine awp_seqK fun K1 hK1 => awp_reg rfl <| AR.op rfl (aop_move (.inr rfl) rfl) <| AR.nil <| hK1 _ (AWP.weak (Weak.kt [0] rfl) ?_)
 refine awp_seqK fun K2 hK2 => awp_reg rfl <| AR.op rfl (aop_move (.inl rfl) rfl) <| AR.op rfl (aop_geq rfl rfl rfl) <| AR.op rfl (aop_move (.inl rfl) rfl) <| AR.keep [0, 5] rfl ?_
 rcases Bool.eq_false_or_eq_true (decide ((0 : Int) ≤ i_0)) with hb4 | hb4
 ·rw [hb4]
  replace h := Sh.if_t h hb4
  refine AR.op rfl (aop_move (.inl rfl) rfl) <| AR.op rfl (aop_leq rfl rfl rfl) <| AR.op rfl (aop_pick rfl rfl rfl) <| AR.keep [8] rfl <| AR.op rfl (aop_move (.inr rfl) rfl) <| AR.nil <| hK2 _ (AWP.weak (Weak.kt [2] rfl) ?_)
  refine awp_ret ?_
  obtain rfl := Option.some.inj h
  refine ⟨.inr rfl, bl (decide (i_0 ≤ 63)), rfl, ?_⟩
  exact Weak.e ⟨.k, trivial⟩
 ·rw [hb4]
  replace h := Sh.if_f h hb4
  refine AR.skip rfl <| AR.skip rfl <| AR.op rfl (aop_pick rfl rfl rfl) <| AR.keep [8] rfl <| AR.op rfl (aop_move (.inr rfl) rfl) <| AR.nil <| hK2 _ (AWP.weak (Weak.kt [2] rfl) ?_)
  refine awp_ret ?_
  obtain rfl := Option.some.inj h
  refine ⟨.inr rfl, bl false, rfl, ?_⟩
  exact Weak.e ⟨.k, trivial⟩
theorem inquestref10_In_ok {W0 : World} (hT : Tab W0) {i_0 : Int} {r : Bool} (h : G.inquestref10_In i_0 = some r) : Fun1 Tryd.prog W0 58 [i64 i_0] (bl r) := Fun1.two (inquestref10_In_ok0 hT h) (by simp)


theorem inquestref10_Power_ok0 {W0 : World} (hT : Tab W0) {i_0 : Int} {r : (BitVec 64)} (h : G.inquestref10_Power i_0 = some r) : Fun2 Tryd.prog W0 59 [i64 i_0] (u64 r) .empty := by
 refine fun2_of_awp Tryd.func59 rfl (by kernel_rfl) Tryd.ntmps59 (by simp) ?_
 unfold G.inquestref10_Power at h
 show AWP _ _ _ _ ⟨[(0, i64 i_0)], .empty⟩ _
 refine awp_seqK fun K1 hK1 => awp_reg rfl <| AR.op rfl (aop_move (.inr rfl) rfl) <| AR.nil <| hK1 _ (AWP.weak (Weak.kt [0] rfl) ?_)
 refine awp_seqK fun K2 hK2 => awp_reg rfl <| AR.op rfl (aop_move (.inr rfl) rfl) <| AR.nil <| hK2 _ ?_
 refine awp_seqJ (fun (p : (BitVec 64)) => (⟨[(3, u64 p)], .empty⟩ : St)) (fun (p : (BitVec 64)) => G.inquestref10_Power_j1 p = some r) ?_ ?_
 ·rintro n9 h
  replace h : G.inquestref10_Power_j1 n9 = some r := h
  unfold G.inquestref10_Power_j1 at h
  refine awp_seqK fun K3 hK3 => awp_reg rfl <| AR.op rfl (aop_move (.inl rfl) rfl) <| AR.op rfl (aop_move (.inr rfl) rfl) <| AR.nil <| hK3 _ (AWP.weak (Weak.kt [2] rfl) ?_)
  refine awp_ret ?_
  obtain rfl := Option.some.inj h
  refine ⟨.inr rfl, u64 n9, rfl, ?_⟩
  exact Weak.e ⟨.k, trivial⟩
 ·intro K4 hK4
  refine awp_seqK fun K5 hK5 => awp_reg rfl <| AR.op rfl (aop_move (.inr rfl) rfl) <| AR.nil <| hK5 _ ?_
  refine awp_block <| awp_iter (fun (p : (BitVec 64) × Int) => G.inquestref10_Power_b1 i_0 p.1 p.2) (fun (p : (BitVec 64) × Int) => (⟨[(0, i64 i_0), (3, u64 p.1), (4, i64 p.2)], .empty⟩ : St)) h (Weak.kt [0, 3, 4] rfl) ?_
  ·skip
   rintro ⟨n12, k13⟩ o1 h hx1
   replace h : G.inquestref10_Power_b1 i_0 n12 k13 = some o1 := h
   unfold G.inquestref10_Power_b1 at h
   refine awp_seqK fun K6 hK6 => awp_seqK fun K7 hK7 => awp_reg rfl <| AR.op rfl (aop_move (.inl rfl) rfl) <| AR.op rfl (aop_move (.inl rfl) rfl) <| AR.op rfl (aop_lss rfl rfl rfl) <| AR.nil <| hK7 _ (AWP.weak (Weak.kt [0, 3, 4, 7] rfl) ?_)
   refine awp_cond rfl (fun hb14 => ?_) (fun hb14 => ?_)
   ·replace h := Sh.if_t h hb14
    refine awp_skip <| hK6 _ (AWP.weak (Weak.kt [0, 3, 4] rfl) ?_)
    refine awp_seqK fun K8 hK8 => awp_block <| awp_reg rfl <| AR.op rfl (aop_move (.inl rfl) rfl) <| AR.op rfl (aop_move (.inl rfl) rfl) <| AR.op (r := u64 (n12 + n12)) rfl (aop_add64 (a := n12) (b := n12) rfl rfl rfl) <| AR.keep [0, 4, 12] rfl <| AR.op rfl (aop_move (.inr rfl) rfl) ?_
    refine AR.nil <| hK8 _ (AWP.weak (Weak.kt [0, 4, 3] rfl) ?_)
    refine awp_reg rfl <| AR.op rfl (aop_move (.inl rfl) rfl) <| AR.op rfl (aop_add rfl rfl rfl rfl) <| AR.op rfl (aop_move (.inr rfl) rfl) <| AR.nil ?_
    replace h := Sh.next_eq h
    exact ⟨_, h, Weak.kt [0, 3, 4] rfl⟩
   ·replace h := Sh.if_f h hb14
    refine awp_exit ?_
    replace h := Sh.exit_eq h hx1
    exact hK4 n12 _ h (Weak.kt [3] rfl)
theorem inquestref10_Power_ok {W0 : World} (hT : Tab W0) {i_0 : Int} {r : (BitVec 64)} (h : G.inquestref10_Power i_0 = some r) : Fun1 Tryd.prog W0 59 [i64 i_0] (u64 r) := Fun1.two (inquestref10_Power_ok0 hT h) (by simp)


theorem inquestref10_Has_ok0 {W0 : World} (hT : Tab W0) {s_0 : BitVec 64} {i_1 : Int} {r : Bool} (h : G.inquestref10_Has s_0 i_1 = some r) : Fun2 Tryd.prog W0 34 [u64 s_0, i64 i_1] (bl r) .empty := by
 refine fun2_of_awp Tryd.func34 rfl (by kernel_rfl) Tryd.ntmps34 (by simp) ?_
 unfold G.inquestref10_Has at h
 show AWP _ _ _ _ ⟨[(0, u64 s_0), (1, i64 i_1)], .empty⟩ _
 refine awp_seqK fun K1 hK1 => awp_reg rfl <| AR.op rfl (aop_move (.inr rfl) rfl) <| AR.nil <| hK1 _ (AWP.weak (Weak.kt [0, 1] rfl) ?_)
 refine awp_seqK fun K2 hK2 => awp_seqK fun K3 hK3 => awp_reg rfl <| AR.op rfl (aop_move (.inl rfl) rfl) ?_
 obtain ⟨r7, hr7, h⟩ := Sh.bind_some' h
 refine AR.op (r := bl r7) rfl (aop_call1 rfl rfl (by simp) (inquestref10_In_ok hT hr7)) <| AR.op (r := bl (!r7)) rfl (aop_not rfl rfl) <| AR.nil <| hK3 _ (AWP.weak (Weak.kt [0, 1, 7] rfl) ?_)
 refine awp_cond rfl (fun hb8 => ?_) (fun hb8 => ?_)
 ·replace h := Sh.if_t h hb8
  refine awp_seqK fun K4 hK4 => awp_reg rfl <| AR.op rfl (aop_move (.inr rfl) rfl) <| AR.nil <| hK4 _ (AWP.weak (Weak.kt [4] rfl) ?_)
  refine awp_ret ?_
  obtain rfl := Option.some.inj h
  refine ⟨.inr rfl, bl false, rfl, ?_⟩
  exact Weak.e ⟨.k, trivial⟩
 ·replace h := Sh.if_f h hb8
  refine awp_skip <| hK2 _ (AWP.weak (Weak.kt [0, 1] rfl) ?_)
  refine awp_seqK fun K5 hK5 => awp_reg rfl <| AR.op rfl (aop_move (.inl rfl) rfl) <| AR.op rfl (aop_move (.inl rfl) rfl) ?_
  obtain ⟨r12, hr12, h⟩ := Sh.bind_some' h
  refine AR.op (r := u64 r12) rfl (aop_call1 rfl rfl (by simp) (inquestref10_Power_ok hT hr12)) <| AR.keep [8, 10] rfl ?_
  obtain ⟨q13, hq13, h⟩ := Sh.bind_some' h
  refine AR.op (r := u64 q13) rfl (t_udiv hq13 rfl rfl rfl) ?_
  obtain ⟨q14, hq14, h⟩ := Sh.bind_some' h
  refine AR.op (r := u64 q14) rfl (t_umod hq14 rfl rfl rfl) <| AR.op (r := bl (decide (q14 = 1#64))) rfl (aop_eql64 (a := q14) (b := 1#64) rfl rfl rfl) <| AR.keep [13] rfl <| AR.op rfl (aop_move (.inr rfl) rfl) <| AR.nil <| hK5 _ (AWP.weak (Weak.kt [4] rfl) ?_)
  refine awp_ret ?_
  obtain rfl := Option.some.inj h
  refine ⟨.inr rfl, bl (decide (q14 = 1#64)), rfl, ?_⟩
  exact Weak.e ⟨.k, trivial⟩
theorem inquestref10_Has_ok {W0 : World} (hT : Tab W0) {s_0 : BitVec 64} {i_1 : Int} {r : Bool} (h : G.inquestref10_Has s_0 i_1 = some r) : Fun1 Tryd.prog W0 34 [u64 s_0, i64 i_1] (bl r) := Fun1.two (inquestref10_Has_ok0 hT h) (by simp)


theorem inquestref10_With_ok0 {W0 : World} (hT : Tab W0) {s_0 : BitVec 64} {i_1 : Int} {r : (BitVec 64)} (h : G.inquestref10_With s_0 i_1 = some r) : Fun2 Tryd.prog W0 75 [u64 s_0, i64 i_1] (u64 r) .empty := by
 refine fun2_of_awp Tryd.func75 rfl (by kernel_rfl) Tryd.ntmps75 (by simp) ?_
 unfold G.inquestref10_With at h
 show AWP _ _ _ _ ⟨[(0, u64 s_0), (1, i64 i_1)], .empty⟩ _
 refine awp_seqK fun K1 hK1 => awp_reg rfl <| AR.op rfl (aop_move (.inr rfl) rfl) <| AR.nil <| hK1 _ (AWP.weak (Weak.kt [0, 1] rfl) ?_)
 refine awp_seqK fun K2 hK2 => awp_reg rfl <| AR.op rfl (aop_move (.inl rfl) rfl) <| AR.op rfl (aop_move (.inl rfl) rfl) ?_
 obtain ⟨r7, hr7, h⟩ := Sh.bind_some' h
 refine AR.op (r := bl r7) rfl (aop_call1 rfl rfl (by simp) (inquestref10_Has_ok hT hr7)) <| AR.keep [0, 1, 8] rfl <| AR.op rfl (aop_move (.inr rfl) rfl) <| AR.nil <| hK2 _ (AWP.weak (Weak.kt [0, 1, 5] rfl) ?_)
 refine awp_seqK fun K3 hK3 => awp_seqJ (fun (p : Bool) => (⟨[(0, u64 s_0), (1, i64 i_1), (14, bl p)], .empty⟩ : St)) (fun (p : Bool) => G.inquestref10_With_j1 s_0 i_1 p = some r) ?_ ?_
 ·rintro v13 h
  replace h : G.inquestref10_With_j1 s_0 i_1 v13 = some r := h
  unfold G.inquestref10_With_j1 at h
  refine awp_cond rfl (fun hb14 => ?_) (fun hb14 => ?_)
  ·replace h := Sh.if_t h hb14
   refine awp_seqK fun K4 hK4 => awp_reg rfl <| AR.op rfl (aop_move (.inl rfl) rfl) <| AR.op rfl (aop_move (.inr rfl) rfl) <| AR.nil <| hK4 _ (AWP.weak (Weak.kt [4] rfl) ?_)
   refine awp_ret ?_
   obtain rfl := Option.some.inj h
   refine ⟨.inr rfl, u64 s_0, rfl, ?_⟩
   exact Weak.e ⟨.k, trivial⟩
  ·replace h := Sh.if_f h hb14
   refine awp_skip <| hK3 _ (AWP.weak (Weak.kt [0, 1] rfl) ?_)
   refine awp_seqK fun K5 hK5 => awp_reg rfl <| AR.op rfl (aop_move (.inl rfl) rfl) <| AR.op rfl (aop_move (.inl rfl) rfl) ?_
   obtain ⟨r16, hr16, h⟩ := Sh.bind_some' h
   refine AR.op (r := u64 r16) rfl (aop_call1 rfl rfl (by simp) (inquestref10_Power_ok hT hr16)) <| AR.keep [16, 18] rfl <| AR.op (r := u64 (s_0 + r16)) rfl (aop_add64 (a := s_0) (b := r16) rfl rfl rfl) <| AR.op rfl (aop_move (.inr rfl) rfl) <| AR.nil <| hK5 _ (AWP.weak (Weak.kt [4] rfl) ?_)
   refine awp_ret ?_
   obtain rfl := Option.some.inj h
   refine ⟨.inr rfl, u64 (s_0 + r16), rfl, ?_⟩
   exact Weak.e ⟨.k, trivial⟩
 ·intro K6 hK6
  refine awp_reg rfl <| AR.op rfl (aop_move (.inl rfl) rfl) <| AR.op rfl (aop_move (.inl rfl) rfl) ?_
  rcases Bool.eq_false_or_eq_true (r7) with hb17 | hb17
  ·rw [hb17]
   replace h := Sh.if_t h hb17
   refine AR.skip rfl <| AR.keep [0, 1, 10, 11] rfl <| AR.skip rfl <| AR.skip rfl <| AR.op rfl (aop_pick rfl rfl rfl) <| AR.nil ?_
   exact hK6 true _ h (Weak.kt [0, 1, 14] rfl)
  ·rw [hb17]
   replace h := Sh.if_f h hb17
   refine AR.op rfl (aop_move (.inl rfl) rfl) <| AR.keep [0, 1, 10, 11] rfl ?_
   obtain ⟨r18, hr18, h⟩ := Sh.bind_some' h
   refine AR.op (r := bl r18) rfl (aop_call1 rfl rfl (by simp) (inquestref10_In_ok hT hr18)) <| AR.op (r := bl (!r18)) rfl (aop_not rfl rfl) <| AR.op rfl (aop_pick rfl rfl rfl) <| AR.nil ?_
   exact hK6 (!r18) _ h (Weak.kt [0, 1, 14] rfl)
theorem inquestref10_With_ok {W0 : World} (hT : Tab W0) {s_0 : BitVec 64} {i_1 : Int} {r : (BitVec 64)} (h : G.inquestref10_With s_0 i_1 = some r) : Fun1 Tryd.prog W0 75 [u64 s_0, i64 i_1] (u64 r) := Fun1.two (inquestref10_With_ok0 hT h) (by simp)

end Wk
