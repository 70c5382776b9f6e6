/- That the functions of a package do what their plain functions say. -/
import Derived.Test.YtmnmbaehidfebaaSh
import Derived.Test.YtmnmbaehidfebaaWkFFacts
import Derived.Test.YtmnmbaehidfebaaWkFinquestref08
import Derived.Test.YtmnmbaehidfebaaWkFinquestref18
import Derived.Test.YtmnmbaehidfebaaWkFinquestref19
open Go Go.Av Go.Proofs
set_option linter.unusedVariables false
set_option maxHeartbeats 8000000
set_option maxRecDepth 20000
namespace Wk
theorem inquestref24_End_step_ok {W0 : World} (hT : Tab W0) {self : (List G.inquestref24_N) → Int → Option (Int)} (ih : ∀ {tree_0 : List G.inquestref24_N} {at_1 : Int} {r : Int}, self tree_0 at_1 = some r → Fun1 Try.prog W0 55 [.sl (List.map G.inquestref24_N.av tree_0), i64 at_1] (i64 r)) {tree_0 : List G.inquestref24_N} {at_1 : Int} {r : Int} (h : G.inquestref24_End_step self tree_0 at_1 = some r) : Fun2 Try.prog W0 55 [.sl (List.map G.inquestref24_N.av tree_0), i64 at_1] (i64 r) .empty := by
 refine fun2_of_awp Try.func55 rfl (by kernel_rfl) Try.ntmps55 (by simp) ?_
 unfold G.inquestref24_End_step at h
 show AWP _ _ _ _ ⟨[(0, .sl (List.map G.inquestref24_N.av tree_0)), (1, i64 at_1)], .empty⟩ _
 refine awp_seqK fun K1 hK1 => awp_reg rfl <| AR.op rfl (aop_move (.inr rfl) rfl) <| AR.nil <| hK1 _ (AWP.weak (Weak.kt [0, 1] rfl) ?_)
 refine awp_seqK fun K2 hK2 => awp_seqJ (fun (p : Bool) => (⟨[(0, .sl (List.map G.inquestref24_N.av tree_0)), (1, i64 at_1), (14, bl p)], .empty⟩ : St)) (fun (p : Bool) => G.inquestref24_End_j1 self tree_0 at_1 p = some r) ?_ ?_
 ·rintro v10 h
  replace h : G.inquestref24_End_j1 self tree_0 at_1 v10 = some r := h
  unfold G.inquestref24_End_j1 at h
  refine awp_cond rfl (fun hb11 => ?_) (fun hb11 => ?_)
  ·replace h := Sh.if_t h hb11
   refine awp_seqK fun K3 hK3 => awp_reg rfl <| AR.op rfl (aop_move (.inr rfl) rfl) <| AR.nil <| hK3 _ (AWP.weak (Weak.kt [4] rfl) ?_)
   refine awp_ret ?_
   obtain rfl := Option.some.inj h
   refine ⟨.inr rfl, i64 (-1), rfl, ?_⟩
   exact Weak.e ⟨.k, trivial⟩
  ·replace h := Sh.if_f h hb11
   refine awp_skip <| hK2 _ (AWP.weak (Weak.kt [0, 1] rfl) ?_)
   refine awp_seqK fun K4 hK4 => awp_seqK fun K5 hK5 => awp_reg rfl <| AR.op rfl (aop_move (.inl rfl) rfl) <| AR.op rfl (aop_move (.inl rfl) rfl) ?_
   obtain ⟨x16, hx16, h⟩ := Sh.bind_some' h
   obtain ⟨k17, hi17, hl17⟩ := Sh.idx_some hx16
   refine AR.op rfl (t_index_sl G.inquestref24_N.av tree_0 hi17 hl17 rfl rfl rfl el31 rfl) <| AR.keep [0, 1, 17] rfl <| AR.op rfl (aop_field_pp rfl rfl fd74_1 (by decide)) <| AR.op (r := .sl (List.map i64 x16.Cycle)) rfl (aop_load_pp rfl rfl sz44 rfl) <| AR.op rfl (t_len_sl i64 x16.Cycle rfl rfl el44) <| AR.keep [0, 1, 20] rfl <| AR.op rfl (aop_gtr rfl rfl rfl) <| AR.nil ?_
   refine hK5 _ (AWP.weak (Weak.kt [0, 1, 21] rfl) ?_)
   refine awp_cond rfl (fun hb18 => ?_) (fun hb18 => ?_)
   ·replace h := Sh.if_t h hb18
    refine awp_seqK fun K6 hK6 => awp_reg rfl <| AR.op rfl (aop_move (.inl rfl) rfl) <| AR.op rfl (aop_add rfl rfl rfl rfl) <| AR.op rfl (aop_move (.inr rfl) rfl) <| AR.nil <| hK6 _ (AWP.weak (Weak.kt [4] rfl) ?_)
    refine awp_ret ?_
    obtain rfl := Option.some.inj h
    refine ⟨.inr rfl, i64 (w64 (at_1 + 1)), rfl, ?_⟩
    exact Weak.e ⟨.k, trivial⟩
   ·replace h := Sh.if_f h hb18
    refine awp_skip <| hK4 _ (AWP.weak (Weak.kt [0, 1] rfl) ?_)
    refine awp_seqK fun K7 hK7 => awp_reg rfl <| AR.op rfl (aop_move (.inl rfl) rfl) <| AR.op rfl (aop_move (.inl rfl) rfl) <| AR.op rfl (aop_add rfl rfl rfl rfl) <| AR.keep [0, 24, 26] rfl ?_
    obtain ⟨r20, hr20, h⟩ := Sh.bind_some' h
    refine AR.op (r := i64 r20) rfl (aop_call1 rfl rfl (by simp) (ih hr20)) <| AR.op rfl (aop_move (.inr rfl) rfl) <| AR.nil <| hK7 _ (AWP.weak (Weak.kt [0, 5] rfl) ?_)
    refine awp_seqK fun K8 hK8 => awp_reg rfl <| AR.op rfl (aop_move (.inl rfl) rfl) <| AR.op rfl (aop_move (.inl rfl) rfl) ?_
    obtain ⟨r22, hr22, h⟩ := Sh.bind_some' h
    refine AR.op (r := i64 r22) rfl (aop_call1 rfl rfl (by simp) (ih hr22)) <| AR.keep [30] rfl <| AR.op rfl (aop_move (.inr rfl) rfl) <| AR.nil <| hK8 _ (AWP.weak (Weak.kt [6] rfl) ?_)
    refine awp_seqK fun K9 hK9 => awp_reg rfl <| AR.op rfl (aop_move (.inl rfl) rfl) <| AR.op rfl (aop_move (.inr rfl) rfl) <| AR.nil <| hK9 _ (AWP.weak (Weak.kt [4] rfl) ?_)
    refine awp_ret ?_
    obtain rfl := Option.some.inj h
    refine ⟨.inr rfl, i64 r22, rfl, ?_⟩
    exact Weak.e ⟨.k, trivial⟩
 ·intro K10 hK10
  refine awp_reg rfl <| AR.op rfl (aop_move (.inl rfl) rfl) <| AR.op rfl (aop_lss rfl rfl rfl) <| AR.op rfl (aop_move (.inl rfl) rfl) <| AR.keep [0, 1, 9] rfl ?_
  rcases Bool.eq_false_or_eq_true (decide (at_1 < 0)) with hb23 | hb23
  ·rw [hb23]
   replace h := Sh.if_t h hb23
   refine AR.skip rfl <| AR.skip rfl <| AR.skip rfl <| AR.keep [0, 1, 9, 10, 12] rfl <| AR.skip rfl <| AR.op rfl (aop_pick rfl rfl rfl) <| AR.nil ?_
   exact hK10 true _ h (Weak.kt [0, 1, 14] rfl)
  ·rw [hb23]
   replace h := Sh.if_f h hb23
   refine AR.op rfl (aop_move (.inl rfl) rfl) <| AR.op rfl (aop_move (.inl rfl) rfl) <| AR.op rfl (t_len_sl G.inquestref24_N.av tree_0 rfl rfl el31) <| AR.keep [0, 1, 9, 10, 12] rfl <| AR.op rfl (aop_geq rfl rfl rfl) <| AR.op rfl (aop_pick rfl rfl rfl) <| AR.nil ?_
   exact hK10 (decide ((Sh.len tree_0) ≤ at_1)) _ h (Weak.kt [0, 1, 14] rfl)
theorem inquestref24_End_fuel {W0 : World} (hT : Tab W0) : ∀ (n : Nat) {tree_0 : List G.inquestref24_N} {at_1 : Int} {r : Int}, G.inquestref24_End_n n tree_0 at_1 = some r → Fun1 Try.prog W0 55 [.sl (List.map G.inquestref24_N.av tree_0), i64 at_1] (i64 r) := by
 intro n
 induction n with
 | zero => intro _ _ _ h; cases h
 | succ n ih => intro _ _ _ h; exact Fun1.two (inquestref24_End_step_ok hT ih h) (by simp)
theorem inquestref24_End_ok {W0 : World} (hT : Tab W0) {tree_0 : List G.inquestref24_N} {at_1 : Int} {r : Int} (h : G.inquestref24_End tree_0 at_1 = some r) : Fun1 Try.prog W0 55 [.sl (List.map G.inquestref24_N.av tree_0), i64 at_1] (i64 r) := inquestref24_End_fuel hT _ h


theorem inquestref24_Is_ok0 {W0 : World} (hT : Tab W0) {tree_0 : List G.inquestref24_N} {r : Bool} (h : G.inquestref24_Is tree_0 = some r) : Fun2 Try.prog W0 37 [.sl (List.map G.inquestref24_N.av tree_0)] (bl r) .empty := by
 refine fun2_of_awp Try.func37 rfl (by kernel_rfl) Try.ntmps37 (by simp) ?_
 unfold G.inquestref24_Is at h
 show AWP _ _ _ _ ⟨[(0, .sl (List.map G.inquestref24_N.av tree_0))], .empty⟩ _
 refine awp_seqK fun K1 hK1 => awp_reg rfl <| AR.op rfl (aop_move (.inr rfl) rfl) <| AR.nil <| hK1 _ (AWP.weak (Weak.kt [0] rfl) ?_)
 refine awp_seqK fun K2 hK2 => awp_reg rfl <| AR.op rfl (aop_move (.inl rfl) rfl) ?_
 obtain ⟨r5, hr5, h⟩ := Sh.bind_some' h
 refine AR.op (r := i64 r5) rfl (aop_call1 rfl rfl (by simp) (inquestref24_End_ok hT hr5)) <| AR.op rfl (aop_move (.inr rfl) rfl) <| AR.nil <| hK2 _ (AWP.weak (Weak.kt [0, 3] rfl) ?_)
 refine awp_seqK fun K3 hK3 => awp_reg rfl <| AR.op rfl (aop_move (.inl rfl) rfl) <| AR.op rfl (t_len_sl G.inquestref24_N.av tree_0 rfl rfl el31) <| AR.op rfl (aop_gtr rfl rfl rfl) <| AR.keep [0, 3, 8] rfl <| AR.op rfl (aop_move (.inl rfl) rfl) ?_
 rcases Bool.eq_false_or_eq_true (decide ((0 : Int) < (Sh.len tree_0))) with hb7 | hb7
 ·rw [hb7]
  replace h := Sh.if_t h hb7
  refine AR.op rfl (aop_move (.inl rfl) rfl) <| AR.op rfl (aop_move (.inl rfl) rfl) <| AR.keep [9, 10, 11] rfl <| AR.op rfl (t_len_sl G.inquestref24_N.av tree_0 rfl rfl el31) <| AR.op (r := bl (decide (r5 = (Sh.len tree_0)))) rfl (aop_eql rfl rfl rfl) <| AR.op rfl (aop_pick rfl rfl rfl) <| AR.keep [14] rfl <| AR.op rfl (aop_move (.inr rfl) rfl) ?_
  refine AR.nil <| hK3 _ (AWP.weak (Weak.kt [2] rfl) ?_)
  refine awp_ret ?_
  obtain rfl := Option.some.inj h
  refine ⟨.inr rfl, bl (decide (r5 = (Sh.len tree_0))), rfl, ?_⟩
  exact Weak.e ⟨.k, trivial⟩
 ·rw [hb7]
  replace h := Sh.if_f h hb7
  refine AR.skip rfl <| AR.skip rfl <| AR.keep [9, 10, 11] rfl <| AR.skip rfl <| AR.skip rfl <| AR.op rfl (aop_pick rfl rfl rfl) <| AR.keep [14] rfl <| AR.op rfl (aop_move (.inr rfl) rfl) ?_
  refine AR.nil <| hK3 _ (AWP.weak (Weak.kt [2] rfl) ?_)
  refine awp_ret ?_
  obtain rfl := Option.some.inj h
  refine ⟨.inr rfl, bl false, rfl, ?_⟩
  exact Weak.e ⟨.k, trivial⟩
theorem inquestref24_Is_ok {W0 : World} (hT : Tab W0) {tree_0 : List G.inquestref24_N} {r : Bool} (h : G.inquestref24_Is tree_0 = some r) : Fun1 Try.prog W0 37 [.sl (List.map G.inquestref24_N.av tree_0)] (bl r) := Fun1.two (inquestref24_Is_ok0 hT h) (by simp)


theorem inquestref24_deep_step_ok {W0 : World} (hT : Tab W0) {self : (List G.inquestref24_N) → Int → Option (Int)} (ih : ∀ {tree_0 : List G.inquestref24_N} {at_1 : Int} {r : Int}, self tree_0 at_1 = some r → Fun1 Try.prog W0 38 [.sl (List.map G.inquestref24_N.av tree_0), i64 at_1] (i64 r)) {tree_0 : List G.inquestref24_N} {at_1 : Int} {r : Int} (h : G.inquestref24_deep_step self tree_0 at_1 = some r) : Fun2 Try.prog W0 38 [.sl (List.map G.inquestref24_N.av tree_0), i64 at_1] (i64 r) .empty := by
 refine fun2_of_awp Try.func38 rfl (by kernel_rfl) Try.ntmps38 (by simp) ?_
 unfold G.inquestref24_deep_step at h
 show AWP _ _ _ _ ⟨[(0, .sl (List.map G.inquestref24_N.av tree_0)), (1, i64 at_1)], .empty⟩ _
 refine awp_seqK fun K1 hK1 => awp_reg rfl <| AR.op rfl (aop_move (.inr rfl) rfl) <| AR.nil <| hK1 _ (AWP.weak (Weak.kt [0, 1] rfl) ?_)
 refine awp_seqK fun K2 hK2 => awp_seqK fun K3 hK3 => awp_reg rfl <| AR.op rfl (aop_move (.inl rfl) rfl) <| AR.op rfl (aop_move (.inl rfl) rfl) ?_
 obtain ⟨x10, hx10, h⟩ := Sh.bind_some' h
 obtain ⟨k11, hi11, hl11⟩ := Sh.idx_some hx10
 refine AR.op rfl (t_index_sl G.inquestref24_N.av tree_0 hi11 hl11 rfl rfl rfl el31 rfl) <| AR.keep [0, 1, 9] rfl <| AR.op rfl (aop_field_pp rfl rfl fd74_1 (by decide)) <| AR.op (r := .sl (List.map i64 x10.Cycle)) rfl (aop_load_pp rfl rfl sz44 rfl) <| AR.op rfl (t_len_sl i64 x10.Cycle rfl rfl el44) <| AR.keep [0, 1, 12] rfl <| AR.op rfl (aop_gtr rfl rfl rfl) <| AR.nil ?_
 refine hK3 _ (AWP.weak (Weak.kt [0, 1, 13] rfl) ?_)
 refine awp_cond rfl (fun hb12 => ?_) (fun hb12 => ?_)
 ·replace h := Sh.if_t h hb12
  refine awp_seqK fun K4 hK4 => awp_reg rfl <| AR.op rfl (aop_move (.inr rfl) rfl) <| AR.nil <| hK4 _ (AWP.weak (Weak.kt [4] rfl) ?_)
  refine awp_ret ?_
  obtain rfl := Option.some.inj h
  refine ⟨.inr rfl, i64 0, rfl, ?_⟩
  exact Weak.e ⟨.k, trivial⟩
 ·replace h := Sh.if_f h hb12
  refine awp_skip <| hK2 _ (AWP.weak (Weak.kt [0, 1] rfl) ?_)
  refine awp_seqK fun K5 hK5 => awp_reg rfl <| AR.op rfl (aop_move (.inl rfl) rfl) <| AR.op rfl (aop_move (.inl rfl) rfl) <| AR.op rfl (aop_add rfl rfl rfl rfl) <| AR.keep [0, 1, 14, 16] rfl ?_
  obtain ⟨r14, hr14, h⟩ := Sh.bind_some' h
  refine AR.op (r := i64 r14) rfl (aop_call1 rfl rfl (by simp) (ih hr14)) <| AR.op rfl (aop_move (.inr rfl) rfl) <| AR.nil <| hK5 _ (AWP.weak (Weak.kt [0, 1, 5] rfl) ?_)
  refine awp_seqK fun K6 hK6 => awp_reg rfl <| AR.op rfl (aop_move (.inl rfl) rfl) <| AR.op rfl (aop_move (.inl rfl) rfl) <| AR.op rfl (aop_move (.inl rfl) rfl) <| AR.keep [5, 18, 19, 20] rfl <| AR.op rfl (aop_add rfl rfl rfl rfl) ?_
  obtain ⟨r17, hr17, h⟩ := Sh.bind_some' h
  refine AR.op (r := i64 r17) rfl (aop_call1 rfl rfl (by simp) (inquestref24_End_ok hT hr17)) ?_
  obtain ⟨r18, hr18, h⟩ := Sh.bind_some' h
  refine AR.op (r := i64 r18) rfl (aop_call1 rfl rfl (by simp) (ih hr18)) <| AR.keep [5, 23] rfl <| AR.op rfl (aop_move (.inr rfl) rfl) <| AR.nil <| hK6 _ (AWP.weak (Weak.kt [5, 6] rfl) ?_)
  refine awp_seqK fun K7 hK7 => awp_reg rfl <| AR.op rfl (aop_move (.inl rfl) rfl) <| AR.op rfl (aop_move (.inl rfl) rfl) <| AR.op (r := i64 (Sh.max r14 r18)) rfl (aop_max2 rfl rfl rfl) <| AR.keep [26] rfl <| AR.op rfl (aop_add rfl rfl rfl rfl) <| AR.op rfl (aop_move (.inr rfl) rfl) ?_
  refine AR.nil <| hK7 _ (AWP.weak (Weak.kt [4] rfl) ?_)
  refine awp_ret ?_
  obtain rfl := Option.some.inj h
  refine ⟨.inr rfl, i64 (w64 (1 + (Sh.max r14 r18))), rfl, ?_⟩
  exact Weak.e ⟨.k, trivial⟩
theorem inquestref24_deep_fuel {W0 : World} (hT : Tab W0) : ∀ (n : Nat) {tree_0 : List G.inquestref24_N} {at_1 : Int} {r : Int}, G.inquestref24_deep_n n tree_0 at_1 = some r → Fun1 Try.prog W0 38 [.sl (List.map G.inquestref24_N.av tree_0), i64 at_1] (i64 r) := by
 intro n
 induction n with
 | zero => intro _ _ _ h; cases h
 | succ n ih => intro _ _ _ h; exact Fun1.two (inquestref24_deep_step_ok hT ih h) (by simp)
theorem inquestref24_deep_ok {W0 : World} (hT : Tab W0) {tree_0 : List G.inquestref24_N} {at_1 : Int} {r : Int} (h : G.inquestref24_deep tree_0 at_1 = some r) : Fun1 Try.prog W0 38 [.sl (List.map G.inquestref24_N.av tree_0), i64 at_1] (i64 r) := inquestref24_deep_fuel hT _ h


theorem inquestref24_Shape_ok0 {W0 : World} (hT : Tab W0) {tree_0 : List G.inquestref24_N} {r : Int × Int × Bool} (h : G.inquestref24_Shape tree_0 = some r) : Fun2 Try.prog W0 15 [.sl (List.map G.inquestref24_N.av tree_0)] (.tuple [i64 r.1, i64 r.2.1, bl r.2.2]) .empty := by
 refine fun2_of_awp Try.func15 rfl (by kernel_rfl) Try.ntmps15 (by simp) ?_
 unfold G.inquestref24_Shape at h
 show AWP _ _ _ _ ⟨[(0, .sl (List.map G.inquestref24_N.av tree_0))], .empty⟩ _
 refine awp_seqK fun K1 hK1 => awp_reg rfl <| AR.op rfl (aop_move (.inr rfl) rfl) <| AR.op rfl (aop_move (.inr rfl) rfl) <| AR.op rfl (aop_move (.inr rfl) rfl) <| AR.nil <| hK1 _ (AWP.weak (Weak.kt [0] rfl) ?_)
 refine awp_seqK fun K2 hK2 => awp_reg rfl <| AR.op rfl (aop_move (.inl rfl) rfl) ?_
 obtain ⟨r17, hr17, h⟩ := Sh.bind_some' h
 refine AR.op (r := bl r17) rfl (aop_call1 rfl rfl (by simp) (inquestref24_Is_ok hT hr17)) <| AR.op rfl (aop_move (.inr rfl) rfl) <| AR.nil <| hK2 _ (AWP.weak (Weak.kt [0, 5] rfl) ?_)
 refine awp_seqK fun K3 hK3 => awp_seqK fun K4 hK4 => awp_reg rfl <| AR.op rfl (aop_move (.inl rfl) rfl) <| AR.op (r := bl (!r17)) rfl (aop_not rfl rfl) <| AR.nil <| hK4 _ (AWP.weak (Weak.kt [0, 11] rfl) ?_)
 refine awp_cond rfl (fun hb18 => ?_) (fun hb18 => ?_)
 ·replace h := Sh.if_t h hb18
  refine awp_seqK fun K5 hK5 => awp_reg rfl <| AR.op rfl (aop_move (.inr rfl) rfl) <| AR.op rfl (aop_move (.inr rfl) rfl) <| AR.op rfl (aop_move (.inr rfl) rfl) <| AR.nil <| hK5 _ (AWP.weak (Weak.kt [2, 3, 4] rfl) ?_)
  refine awp_ret ?_
  obtain rfl := Option.some.inj h
  refine ⟨.inr rfl, .tuple [i64 0, i64 0, bl false], rfl, ?_⟩
  exact Weak.e ⟨⟨.tuple [i64 0, i64 0, bl false], rfl, .tp ⟨.sm, .sm, .sm, trivial⟩⟩, trivial⟩
 ·replace h := Sh.if_f h hb18
  refine awp_skip <| hK3 _ (AWP.weak (Weak.kt [0] rfl) ?_)
  refine awp_seqK fun K6 hK6 => awp_reg rfl <| AR.op rfl (aop_move (.inr rfl) rfl) <| AR.nil <| hK6 _ ?_
  refine awp_seqJ (fun (p : Int) => (⟨[(0, .sl (List.map G.inquestref24_N.av tree_0)), (6, i64 p)], .empty⟩ : St)) (fun (p : Int) => G.inquestref24_Shape_j1 tree_0 p = some r) ?_ ?_
  ·rintro leaves32 h
   replace h : G.inquestref24_Shape_j1 tree_0 leaves32 = some r := h
   unfold G.inquestref24_Shape_j1 at h
   refine awp_seqK fun K7 hK7 => awp_reg rfl <| AR.op rfl (aop_move (.inl rfl) rfl) <| AR.op rfl (aop_move (.inl rfl) rfl) ?_
   obtain ⟨r34, hr34, h⟩ := Sh.bind_some' h
   refine AR.op (r := i64 r34) rfl (aop_call1 rfl rfl (by simp) (inquestref24_deep_ok hT hr34)) <| AR.keep [27, 29] rfl <| AR.op rfl (aop_move (.inr rfl) rfl) <| AR.op rfl (aop_move (.inr rfl) rfl) <| AR.op rfl (aop_move (.inr rfl) rfl) <| AR.nil <| hK7 _ (AWP.weak (Weak.kt [2, 3, 4] rfl) ?_)
   refine awp_ret ?_
   obtain rfl := Option.some.inj h
   refine ⟨.inr rfl, .tuple [i64 leaves32, i64 r34, bl true], rfl, ?_⟩
   exact Weak.e ⟨⟨.tuple [i64 leaves32, i64 r34, bl true], rfl, .tp ⟨.sm, .sm, .sm, trivial⟩⟩, trivial⟩
  ·intro K8 hK8
   refine awp_seqK fun K9 hK9 => awp_reg rfl <| AR.op rfl (aop_move (.inr rfl) rfl) <| AR.nil <| hK9 _ ?_
   refine awp_block <| awp_iter (fun (p : Int × Int) => G.inquestref24_Shape_b1 tree_0 p.1 p.2) (fun (p : Int × Int) => (⟨[(0, .sl (List.map G.inquestref24_N.av tree_0)), (6, i64 p.1), (7, i64 p.2)], .empty⟩ : St)) h (Weak.kt [0, 6, 7] rfl) ?_
   ·skip
    rintro ⟨leaves43, i44⟩ o1 h hx1
    replace h : G.inquestref24_Shape_b1 tree_0 leaves43 i44 = some o1 := h
    unfold G.inquestref24_Shape_b1 at h
    refine awp_seqK fun K10 hK10 => awp_seqK fun K11 hK11 => awp_reg rfl <| AR.op rfl (aop_move (.inl rfl) rfl) <| AR.op rfl (aop_move (.inl rfl) rfl) <| AR.op rfl (t_len_sl G.inquestref24_N.av tree_0 rfl rfl el31) <| AR.keep [0, 6, 7, 12, 14] rfl <| AR.op rfl (aop_lss rfl rfl rfl) ?_
    refine AR.nil <| hK11 _ (AWP.weak (Weak.kt [0, 6, 7, 15] rfl) ?_)
    refine awp_cond rfl (fun hb45 => ?_) (fun hb45 => ?_)
    ·replace h := Sh.if_t h hb45
     refine awp_skip <| hK10 _ (AWP.weak (Weak.kt [0, 6, 7] rfl) ?_)
     refine awp_seqJ (fun (p : Int) => (⟨[(0, .sl (List.map G.inquestref24_N.av tree_0)), (6, i64 p), (7, i64 i44)], .empty⟩ : St)) (fun (p : Int) => G.inquestref24_Shape_j2 i44 p = some o1) ?_ ?_
     ·rintro leaves48 h
      replace h : G.inquestref24_Shape_j2 i44 leaves48 = some o1 := h
      unfold G.inquestref24_Shape_j2 at h
      refine awp_reg rfl <| AR.op rfl (aop_move (.inl rfl) rfl) <| AR.op rfl (aop_add rfl rfl rfl rfl) <| AR.op rfl (aop_move (.inr rfl) rfl) <| AR.nil ?_
      replace h := Sh.next_eq h
      exact ⟨_, h, Weak.kt [0, 6, 7] rfl⟩
     ·intro K12 hK12
      refine awp_block <| awp_seqK fun K13 hK13 => awp_reg rfl <| AR.op rfl (aop_move (.inl rfl) rfl) <| AR.op rfl (aop_move (.inl rfl) rfl) ?_
      obtain ⟨x51, hx51, h⟩ := Sh.bind_some' h
      obtain ⟨k52, hi52, hl52⟩ := Sh.idx_some hx51
      refine AR.op rfl (t_index_sl G.inquestref24_N.av tree_0 hi52 hl52 rfl rfl rfl el31 rfl) <| AR.keep [0, 6, 7, 20] rfl <| AR.op rfl (aop_field_pp rfl rfl fd74_1 (by decide)) <| AR.op (r := .sl (List.map i64 x51.Cycle)) rfl (aop_load_pp rfl rfl sz44 rfl) <| AR.op rfl (t_len_sl i64 x51.Cycle rfl rfl el44) <| AR.keep [0, 6, 7, 23] rfl <| AR.op rfl (aop_gtr rfl rfl rfl) <| AR.nil ?_
      refine hK13 _ (AWP.weak (Weak.kt [0, 6, 7, 24] rfl) ?_)
      refine awp_cond rfl (fun hb53 => ?_) (fun hb53 => ?_)
      ·replace h := Sh.if_t h hb53
       refine awp_reg rfl <| AR.op rfl (aop_move (.inl rfl) rfl) <| AR.op rfl (aop_add rfl rfl rfl rfl) <| AR.op rfl (aop_move (.inr rfl) rfl) <| AR.nil ?_
       exact hK12 (w64 (leaves43 + 1)) _ h (Weak.kt [0, 6, 7] rfl)
      ·replace h := Sh.if_f h hb53
       refine awp_skip ?_
       exact hK12 leaves43 _ h (Weak.kt [0, 6, 7] rfl)
    ·replace h := Sh.if_f h hb45
     refine awp_exit ?_
     replace h := Sh.exit_eq h hx1
     exact hK8 leaves43 _ h (Weak.kt [0, 6] rfl)
theorem inquestref24_Shape_ok {W0 : World} (hT : Tab W0) {tree_0 : List G.inquestref24_N} {r : Int × Int × Bool} (h : G.inquestref24_Shape tree_0 = some r) : Fun1 Try.prog W0 15 [.sl (List.map G.inquestref24_N.av tree_0)] (.tuple [i64 r.1, i64 r.2.1, bl r.2.2]) := Fun1.two (inquestref24_Shape_ok0 hT h) (by simp)


theorem inquestref24_holds_step_ok {W0 : World} (hT : Tab W0) {self : G.api_Hist → Int → (List G.api_Choice) → (List G.inquestref24_N) → Int → Option (Bool)} (ih : ∀ {h_0 : G.api_Hist} {level_1 : Int} {l_2 : List G.api_Choice} {tree_3 : List G.inquestref24_N} {at_4 : Int} {r : Bool}, self h_0 level_1 l_2 tree_3 at_4 = some r → Fun1 Try.prog W0 42 [G.api_Hist.av h_0, i64 level_1, .sl (List.map G.api_Choice.av l_2), .sl (List.map G.inquestref24_N.av tree_3), i64 at_4] (bl r)) {h_0 : G.api_Hist} {level_1 : Int} {l_2 : List G.api_Choice} {tree_3 : List G.inquestref24_N} {at_4 : Int} {r : Bool} (h : G.inquestref24_holds_step self h_0 level_1 l_2 tree_3 at_4 = some r) : Fun2 Try.prog W0 42 [G.api_Hist.av h_0, i64 level_1, .sl (List.map G.api_Choice.av l_2), .sl (List.map G.inquestref24_N.av tree_3), i64 at_4] (bl r) .empty := by
 refine fun2_of_awp Try.func42 rfl (by kernel_rfl) Try.ntmps42 (by simp) ?_
 unfold G.inquestref24_holds_step at h
 show AWP _ _ _ _ ⟨[(0, G.api_Hist.av h_0), (1, i64 level_1), (2, .sl (List.map G.api_Choice.av l_2)), (3, .sl (List.map G.inquestref24_N.av tree_3)), (4, i64 at_4)], .empty⟩ _
 refine awp_seqK fun K1 hK1 => awp_reg rfl <| AR.op (r := .ref 0 0 0) rfl (aop_box 1 [G.api_Hist.av h_0] rfl rfl rfl (.inl ⟨rfl, rfl⟩)) <| AR.op rfl (aop_move (.inr rfl) rfl) <| AR.nil <| hK1 _ (AWP.weak (Weak.e (fr' := [(1, i64 level_1), (2, .sl (List.map G.api_Choice.av l_2)), (3, .sl (List.map G.inquestref24_N.av tree_3)), (4, i64 at_4), (5, .pp [.sl (List.map G.api_Txn.av h_0.Txns)] 0)]) (H' := .empty) ⟨.k, ⟨.sl (List.map G.api_Choice.av l_2), rfl, .sm⟩, ⟨.sl (List.map G.inquestref24_N.av tree_3), rfl, .sm⟩, .k, ⟨_, rfl, .frzA rfl rfl rfl rfl (by simp)⟩, trivial⟩) ?_)
 refine awp_seqK fun K2 hK2 => awp_reg rfl <| AR.op rfl (aop_move (.inl rfl) rfl) <| AR.op rfl (aop_move (.inl rfl) rfl) ?_
 obtain ⟨x17, hx17, h⟩ := Sh.bind_some' h
 obtain ⟨k18, hi18, hl18⟩ := Sh.idx_some hx17
 refine AR.op rfl (t_index_sl G.inquestref24_N.av tree_3 hi18 hl18 rfl rfl rfl el31 rfl) <| AR.keep [1, 2, 3, 4, 5, 19] rfl <| AR.op (r := G.inquestref24_N.av x17) rfl (aop_load_pp rfl rfl sz74 rfl) <| AR.op (r := .ref 0 0 0) rfl (aop_alloc 4 [.agg [i64 0, i64 0, i64 0, nilS]] rfl zr74 (by kernel_rfl) (.inl ⟨rfl, rfl⟩)) <| AR.op rfl (aop_store (e' := G.inquestref24_N.av x17) rfl rfl rfl rfl rfl rfl sz74 rfl dt rfl) <| AR.nil <| hK2 _ (AWP.weak (Weak.e (fr' := [(1, i64 level_1), (2, .sl (List.map G.api_Choice.av l_2)), (3, .sl (List.map G.inquestref24_N.av tree_3)), (4, i64 at_4), (5, .pp [.sl (List.map G.api_Txn.av h_0.Txns)] 0), (11, .pp [i64 x17.C.Key, i64 x17.C.A, i64 x17.C.B, .sl (List.map i64 x17.Cycle)] 0)]) (H' := .empty) ⟨.k, ⟨.sl (List.map G.api_Choice.av l_2), rfl, .sm⟩, ⟨.sl (List.map G.inquestref24_N.av tree_3), rfl, .sm⟩, .k, .k, ⟨_, rfl, .frzA rfl rfl rfl rfl (by simp)⟩, trivial⟩) ?_)
 refine awp_seqK fun K3 hK3 => awp_seqK fun K4 hK4 => awp_reg rfl <| AR.op rfl (aop_field_pp rfl rfl fd74_1 (by decide)) <| AR.op (r := .sl (List.map i64 x17.Cycle)) rfl (aop_load_pp rfl rfl sz44 rfl) <| AR.op rfl (t_len_sl i64 x17.Cycle rfl rfl el44) <| AR.keep [1, 2, 3, 4, 5, 11, 23] rfl <| AR.op rfl (aop_gtr rfl rfl rfl) ?_
 refine AR.nil <| hK4 _ (AWP.weak (Weak.kt [1, 2, 3, 4, 5, 11, 24] rfl) ?_)
 refine awp_cond rfl (fun hb22 => ?_) (fun hb22 => ?_)
 ·replace h := Sh.if_t h hb22
  refine awp_seqK fun K5 hK5 => awp_reg rfl <| AR.op (r := G.api_Hist.av h_0) rfl (aop_load_pp rfl rfl sz24 rfl) <| AR.op rfl (aop_move (.inl rfl) rfl) <| AR.op rfl (aop_move (.inl rfl) rfl) <| AR.keep [11, 25, 26, 27] rfl <| AR.op rfl (aop_field_pp rfl rfl fd74_1 (by decide)) <| AR.op (r := .sl (List.map i64 x17.Cycle)) rfl (aop_load_pp rfl rfl sz44 rfl) ?_
  obtain ⟨r24, hr24, h⟩ := Sh.bind_some' h
  refine AR.op (r := bl r24) rfl (aop_call1 rfl rfl (by simp) (inquestref19_Cycle_ok hT hr24)) <| AR.keep [11, 30] rfl <| AR.op rfl (aop_move (.inr rfl) rfl) <| AR.nil <| hK5 _ (AWP.weak (Weak.kt [11, 12] rfl) ?_)
  refine awp_seqK fun K6 hK6 => awp_reg rfl <| AR.op rfl (aop_move (.inl rfl) rfl) <| AR.op rfl (aop_move (.inl rfl) rfl) ?_
  rcases Bool.eq_false_or_eq_true (r24) with hb26 | hb26
  ·rw [hb26]
   replace h := Sh.if_t h hb26
   refine AR.op rfl (aop_field_pp rfl rfl fd74_0 (by decide)) <| AR.keep [32, 33] rfl <| AR.op (r := G.api_Choice.av x17.C) rfl (aop_load_pp rfl rfl sz42 rfl) <| AR.op (r := .agg [i64 0, i64 0, i64 0]) rfl (aop_build rfl bd42 rfl rfl rfl) <| AR.op (r := bl (decide (x17.C = (G.api_Choice.mk 0 0 0)))) rfl (t_eq_api_Choice (a := x17.C) (b := (G.api_Choice.mk 0 0 0)) rfl rfl rfl) <| AR.keep [32, 36] rfl <| AR.op rfl (aop_pick rfl rfl rfl) <| AR.op rfl (aop_move (.inr rfl) rfl) ?_
   refine AR.nil <| hK6 _ (AWP.weak (Weak.kt [10] rfl) ?_)
   refine awp_ret ?_
   obtain rfl := Option.some.inj h
   refine ⟨.inr rfl, bl (decide (x17.C = (G.api_Choice.mk 0 0 0))), rfl, ?_⟩
   exact Weak.e ⟨.k, trivial⟩
  ·rw [hb26]
   replace h := Sh.if_f h hb26
   refine AR.skip rfl <| AR.keep [32, 33] rfl <| AR.skip rfl <| AR.skip rfl <| AR.skip rfl <| AR.keep [32, 36] rfl <| AR.op rfl (aop_pick rfl rfl rfl) <| AR.op rfl (aop_move (.inr rfl) rfl) ?_
   refine AR.nil <| hK6 _ (AWP.weak (Weak.kt [10] rfl) ?_)
   refine awp_ret ?_
   obtain rfl := Option.some.inj h
   refine ⟨.inr rfl, bl false, rfl, ?_⟩
   exact Weak.e ⟨.k, trivial⟩
 ·replace h := Sh.if_f h hb22
  refine awp_skip <| hK3 _ (AWP.weak (Weak.kt [1, 2, 3, 4, 5, 11] rfl) ?_)
  refine awp_seqK fun K7 hK7 => awp_reg rfl <| AR.op (r := G.api_Hist.av h_0) rfl (aop_load_pp rfl rfl sz24 rfl) <| AR.op rfl (aop_field_pp rfl rfl fd74_0 (by decide)) <| AR.op (r := G.api_Choice.av x17.C) rfl (aop_load_pp rfl rfl sz42 rfl) <| AR.keep [1, 2, 3, 4, 5, 11, 38, 40] rfl ?_
  obtain ⟨r28, hr28, h⟩ := Sh.bind_some' h
  refine AR.op (r := bl r28) rfl (aop_call1 rfl rfl (by simp) (inquestref18_One_ok hT hr28)) <| AR.op rfl (aop_move (.inr rfl) rfl) <| AR.nil <| hK7 _ (AWP.weak (Weak.kt [1, 2, 3, 4, 5, 11, 13] rfl) ?_)
  refine awp_seqK fun K8 hK8 => awp_seqK fun K9 hK9 => awp_reg rfl <| AR.op rfl (aop_move (.inl rfl) rfl) <| AR.op (r := bl (!r28)) rfl (aop_not rfl rfl) <| AR.nil <| hK9 _ (AWP.weak (Weak.kt [1, 2, 3, 4, 5, 11, 43] rfl) ?_)
  refine awp_cond rfl (fun hb29 => ?_) (fun hb29 => ?_)
  ·replace h := Sh.if_t h hb29
   refine awp_seqK fun K10 hK10 => awp_reg rfl <| AR.op rfl (aop_move (.inr rfl) rfl) <| AR.nil <| hK10 _ (AWP.weak (Weak.kt [10] rfl) ?_)
   refine awp_ret ?_
   obtain rfl := Option.some.inj h
   refine ⟨.inr rfl, bl false, rfl, ?_⟩
   exact Weak.e ⟨.k, trivial⟩
  ·replace h := Sh.if_f h hb29
   refine awp_skip <| hK8 _ (AWP.weak (Weak.kt [1, 2, 3, 4, 5, 11] rfl) ?_)
   refine awp_seqK fun K11 hK11 => awp_reg rfl <| AR.op rfl (aop_move (.inr rfl) rfl) <| AR.nil <| hK11 _ ?_
   refine awp_seqK fun K12 hK12 => awp_reg rfl <| AR.op rfl (aop_move (.inl rfl) rfl) <| AR.op rfl (aop_move (.inl rfl) rfl) ?_
   obtain ⟨more31, hmore31, h⟩ := Sh.bind_some' h
   refine AR.op (r := .view 0 0 (List.map G.api_Choice.av more31).length) rfl (t_app_nil G.api_Choice.av l_2 more31 hmore31 et25 (fun _ => rfl) rfl rfl rfl rfl rfl) <| AR.keep [1, 2, 3, 4, 5, 11, 46] rfl <| AR.op rfl (aop_move (.inr rfl) rfl) <| AR.nil <| hK12 _ (AWP.weak (Weak.kt [1, 2, 3, 4, 5, 11, 14] rfl) ?_)
   refine awp_seqK fun K13 hK13 => awp_reg rfl <| AR.op rfl (aop_move (.inl rfl) rfl) <| AR.op rfl (aop_field_pp rfl rfl fd74_0 (by decide)) <| AR.op (r := G.api_Choice.av x17.C) rfl (aop_load_pp rfl rfl sz42 rfl) <| AR.keep [1, 2, 3, 4, 5, 11, 47, 49] rfl <| AR.op (r := .clip (List.map G.api_Choice.av ([x17.C] : List G.api_Choice))) rfl (aop_buildSlice rfl (xo := [.tmp 49]) rfl rfl rfl (by simp) (by simp) el25 ze25 (by decide)) ?_
   obtain ⟨more33, hmore33, h⟩ := Sh.bind_some' h
   refine AR.op (r := .view 1 0 (List.map G.api_Choice.av more33).length) rfl (t_app_view G.api_Choice.av more31 ([x17.C] : List G.api_Choice) more33 hmore33 rfl et25 (fun _ => rfl) rfl rfl rfl rfl rfl rfl rfl) <| AR.op rfl (aop_move (.inr rfl) rfl) <| AR.nil <| hK13 _ (AWP.weak (Weak.re (fr' := [(1, i64 level_1), (2, .sl (List.map G.api_Choice.av l_2)), (3, .sl (List.map G.inquestref24_N.av tree_3)), (4, i64 at_4), (5, .pp [.sl (List.map G.api_Txn.av h_0.Txns)] 0), (11, .pp [i64 x17.C.Key, i64 x17.C.A, i64 x17.C.B, .sl (List.map i64 x17.Cycle)] 0), (14, .view 0 0 (List.map G.api_Choice.av more33).length)]) (H' := ⟨1, [(0, (3, List.map G.api_Choice.av more33))], []⟩) [(0, 1)] [] rfl rfl rfl (.cons rfl rfl (.same (by simp)) dt trivial) ⟨.k, ⟨.sl (List.map G.api_Choice.av l_2), rfl, .sm⟩, ⟨.sl (List.map G.inquestref24_N.av tree_3), rfl, .sm⟩, .k, .k, .k, ⟨_, rfl, .view rfl⟩, trivial⟩) ?_)
   refine awp_seqK fun K14 hK14 => awp_reg rfl <| AR.op (r := G.api_Hist.av h_0) rfl (aop_load_pp rfl rfl sz24 rfl) <| AR.op rfl (aop_move (.inl rfl) rfl) <| AR.op rfl (aop_move (.inl rfl) rfl) <| AR.keep [1, 2, 3, 4, 5, 11, 14, 52, 53, 54] rfl <| AR.op rfl (aop_move (.inl rfl) rfl) <| AR.op rfl (aop_move (.inl rfl) rfl) ?_
   refine AR.op rfl (aop_add rfl rfl rfl rfl) <| AR.keep [1, 2, 3, 4, 5, 11, 14, 52, 53, 54, 55, 57] rfl ?_
   obtain ⟨r35, hr35, h⟩ := Sh.bind_some' h
   refine AR.op (r := bl r35) rfl (aop_callL rfl (ys := [G.api_Hist.av h_0, i64 level_1, .view 0 0 (List.map G.api_Choice.av more33).length, .sl (List.map G.inquestref24_N.av tree_3), i64 (w64 (at_4 + 1))]) (xs := [G.api_Hist.av h_0, i64 level_1, .sl (List.map G.api_Choice.av more33), .sl (List.map G.inquestref24_N.av tree_3), i64 (w64 (at_4 + 1))]) rfl (Weak.e (fr' := argsFr 0 [G.api_Hist.av h_0, i64 level_1, .sl (List.map G.api_Choice.av more33), .sl (List.map G.inquestref24_N.av tree_3), i64 (w64 (at_4 + 1))]) (H' := .empty) ⟨⟨G.api_Hist.av h_0, rfl, .sm⟩, .k, ⟨_, rfl, .lendAll rfl rfl (by simp)⟩, ⟨.sl (List.map G.inquestref24_N.av tree_3), rfl, .sm⟩, .k, trivial⟩) rfl (ih hr35) (by simp)) <| AR.op rfl (aop_move (.inr rfl) rfl) <| AR.nil <| hK14 _ (AWP.weak (Weak.kt [1, 2, 3, 4, 5, 11, 14, 15] rfl) ?_)
   refine awp_seqK fun K15 hK15 => awp_seqK fun K16 hK16 => awp_reg rfl <| AR.op rfl (aop_move (.inl rfl) rfl) <| AR.op (r := bl (!r35)) rfl (aop_not rfl rfl) <| AR.nil <| hK16 _ (AWP.weak (Weak.kt [1, 2, 3, 4, 5, 11, 14, 60] rfl) ?_)
   refine awp_cond rfl (fun hb36 => ?_) (fun hb36 => ?_)
   ·replace h := Sh.if_t h hb36
    refine awp_seqK fun K17 hK17 => awp_reg rfl <| AR.op rfl (aop_move (.inr rfl) rfl) <| AR.nil <| hK17 _ (AWP.weak (Weak.e (fr' := [(10, bl false)]) (H' := .empty) ⟨.k, trivial⟩) ?_)
    refine awp_ret ?_
    obtain rfl := Option.some.inj h
    refine ⟨.inr rfl, bl false, rfl, ?_⟩
    exact Weak.e ⟨.k, trivial⟩
   ·replace h := Sh.if_f h hb36
    refine awp_skip <| hK15 _ (AWP.weak (Weak.kt [1, 2, 3, 4, 5, 11, 14] rfl) ?_)
    refine awp_seqK fun K18 hK18 => awp_reg rfl <| AR.op rfl (aop_move (.inl rfl) rfl) <| AR.op rfl (aop_move (.inl rfl) rfl) <| AR.op rfl (t_len_sl G.api_Choice.av l_2 rfl rfl el25) <| AR.keep [1, 3, 4, 5, 11, 14, 61, 63] rfl <| AR.op rfl (aop_field_pp rfl rfl fd74_0 (by decide)) <| AR.op (r := G.api_Choice.av x17.C) rfl (aop_load_pp rfl rfl sz42 rfl) ?_
    obtain ⟨r40, hr40, h⟩ := Sh.bind_some' h
    refine AR.op (r := G.api_Choice.av r40) rfl (aop_call1 rfl rfl (by simp) (inquestref18_Back_ok hT hr40)) <| AR.keep [1, 3, 4, 5, 14, 61, 63, 66] rfl ?_
    obtain ⟨x41, hx41, h⟩ := Sh.bind_some' h
    obtain ⟨k42, hi42, hl42⟩ := Sh.idx_some hx41
    refine AR.op (r := .ref 0 k42 0) rfl (t_index_view G.api_Choice.av more33 hi42 hl42 rfl rfl rfl rfl rfl el25 rfl) <| AR.op rfl (t_store_el G.api_Choice.av more33 r40 hi42 hl42 rfl rfl rfl rfl rfl sz42 rfl dt rfl) <| AR.nil <| hK18 _ (AWP.weak (Weak.e (fr' := [(1, i64 level_1), (3, .sl (List.map G.inquestref24_N.av tree_3)), (4, i64 at_4), (5, .pp [.sl (List.map G.api_Txn.av h_0.Txns)] 0), (14, .sl (List.map G.api_Choice.av (Sh.set more33 (Sh.len l_2) r40)))]) (H' := .empty) ⟨.k, ⟨.sl (List.map G.inquestref24_N.av tree_3), rfl, .sm⟩, .k, .k, ⟨_, rfl, .lendL rfl rfl (by simp []) (by simp)⟩, trivial⟩) ?_)
    refine awp_seqK fun K19 hK19 => awp_any [(true, false), (true, false), (true, false), (true, false), (true, false), (true, false), (true, false), (true, false), (true, false), (true, false)] (by kernel_rfl) (by kernel_rfl) rfl ?_
    refine ARH.dry (r := G.api_Hist.av h_0) rfl (fun _ => aop_load_pp rfl rfl sz24 rfl) <| ARH.dry rfl (fun _ => aop_move (.inl rfl) rfl) <| ARH.dry rfl (fun _ => aop_move (.inl rfl) rfl) <| ARH.keep [3, 4, 68, 69, 70] rfl <| ARH.dry rfl (fun _ => aop_move (.inl rfl) rfl) <| ARH.dry rfl (fun _ => aop_move (.inl rfl) rfl) <| ARH.dry rfl (fun _ => aop_move (.inl rfl) rfl) <| ARH.keep [68, 69, 70, 71, 72, 73] rfl ?_
    refine ARH.dry rfl (fun _ => aop_add rfl rfl rfl rfl) ?_
    obtain ⟨r45, hr45, h⟩ := Sh.bind_some' h
    refine ARH.dry (r := i64 r45) rfl (fun _ => aop_call1 rfl rfl (by simp) (inquestref24_End_ok hT hr45)) ?_
    obtain ⟨r46, hr46, h⟩ := Sh.bind_some' h
    refine ARH.dry (r := bl r46) rfl (fun _ => aop_call1 rfl rfl (by simp) (ih hr46)) <| ARH.keep [76] rfl <| ARH.dry rfl (fun _ => aop_move (.inr rfl) rfl) <| ARH.nil <| hK19 _ (AWP.weak (Weak.kt [16] rfl) ?_)
    refine awp_seqK fun K20 hK20 => awp_reg rfl <| AR.op rfl (aop_move (.inl rfl) rfl) <| AR.op rfl (aop_move (.inr rfl) rfl) <| AR.nil <| hK20 _ (AWP.weak (Weak.kt [10] rfl) ?_)
    refine awp_ret ?_
    obtain rfl := Option.some.inj h
    refine ⟨.inr rfl, bl r46, rfl, ?_⟩
    exact Weak.e ⟨.k, trivial⟩
theorem inquestref24_holds_fuel {W0 : World} (hT : Tab W0) : ∀ (n : Nat) {h_0 : G.api_Hist} {level_1 : Int} {l_2 : List G.api_Choice} {tree_3 : List G.inquestref24_N} {at_4 : Int} {r : Bool}, G.inquestref24_holds_n n h_0 level_1 l_2 tree_3 at_4 = some r → Fun1 Try.prog W0 42 [G.api_Hist.av h_0, i64 level_1, .sl (List.map G.api_Choice.av l_2), .sl (List.map G.inquestref24_N.av tree_3), i64 at_4] (bl r) := by
 intro n
 induction n with
 | zero => intro _ _ _ _ _ _ h; cases h
 | succ n ih => intro _ _ _ _ _ _ h; exact Fun1.two (inquestref24_holds_step_ok hT ih h) (by simp)
theorem inquestref24_holds_ok {W0 : World} (hT : Tab W0) {h_0 : G.api_Hist} {level_1 : Int} {l_2 : List G.api_Choice} {tree_3 : List G.inquestref24_N} {at_4 : Int} {r : Bool} (h : G.inquestref24_holds h_0 level_1 l_2 tree_3 at_4 = some r) : Fun1 Try.prog W0 42 [G.api_Hist.av h_0, i64 level_1, .sl (List.map G.api_Choice.av l_2), .sl (List.map G.inquestref24_N.av tree_3), i64 at_4] (bl r) := inquestref24_holds_fuel hT _ h


theorem inquestref24_Check_ok0 {W0 : World} (hT : Tab W0) {h_0 : G.api_Hist} {level_1 : Int} {l_2 : List G.api_Choice} {tree_3 : List G.inquestref24_N} {r : Bool} (h : G.inquestref24_Check h_0 level_1 l_2 tree_3 = some r) : Fun2 Try.prog W0 17 [G.api_Hist.av h_0, i64 level_1, .sl (List.map G.api_Choice.av l_2), .sl (List.map G.inquestref24_N.av tree_3)] (bl r) .empty := by
 refine fun2_of_awp Try.func17 rfl (by kernel_rfl) Try.ntmps17 (by simp) ?_
 unfold G.inquestref24_Check at h
 show AWP _ _ _ _ ⟨[(0, G.api_Hist.av h_0), (1, i64 level_1), (2, .sl (List.map G.api_Choice.av l_2)), (3, .sl (List.map G.inquestref24_N.av tree_3))], .empty⟩ _
 refine awp_seqK fun K1 hK1 => awp_reg rfl <| AR.op (r := .ref 0 0 0) rfl (aop_box 1 [G.api_Hist.av h_0] rfl rfl rfl (.inl ⟨rfl, rfl⟩)) <| AR.op rfl (aop_move (.inr rfl) rfl) <| AR.nil <| hK1 _ (AWP.weak (Weak.e (fr' := [(1, i64 level_1), (2, .sl (List.map G.api_Choice.av l_2)), (3, .sl (List.map G.inquestref24_N.av tree_3)), (4, .pp [.sl (List.map G.api_Txn.av h_0.Txns)] 0)]) (H' := .empty) ⟨.k, ⟨.sl (List.map G.api_Choice.av l_2), rfl, .sm⟩, ⟨.sl (List.map G.inquestref24_N.av tree_3), rfl, .sm⟩, ⟨_, rfl, .frzA rfl rfl rfl rfl (by simp)⟩, trivial⟩) ?_)
 refine awp_seqK fun K2 hK2 => awp_reg rfl <| AR.op (r := G.api_Hist.av h_0) rfl (aop_load_pp rfl rfl sz24 rfl) ?_
 obtain ⟨r9, hr9, h⟩ := Sh.bind_some' h
 refine AR.op (r := bl r9) rfl (aop_call1 rfl rfl (by simp) (inquestref08_Right_ok hT hr9)) <| AR.op rfl (aop_move (.inr rfl) rfl) <| AR.nil <| hK2 _ (AWP.weak (Weak.kt [1, 2, 3, 4, 9] rfl) ?_)
 refine awp_seqK fun K3 hK3 => awp_reg rfl <| AR.op rfl (aop_move (.inl rfl) rfl) ?_
 obtain ⟨r11, hr11, h⟩ := Sh.bind_some' h
 refine AR.op (r := bl r11) rfl (aop_call1 rfl rfl (by simp) (inquestref24_Is_ok hT hr11)) <| AR.op rfl (aop_move (.inr rfl) rfl) <| AR.nil <| hK3 _ (AWP.weak (Weak.kt [1, 2, 3, 4, 9, 10] rfl) ?_)
 refine awp_seqK fun K4 hK4 => awp_seqJ (fun (p : Bool) => (⟨[(1, i64 level_1), (2, .sl (List.map G.api_Choice.av l_2)), (3, .sl (List.map G.inquestref24_N.av tree_3)), (4, .pp [.sl (List.map G.api_Txn.av h_0.Txns)] 0), (29, bl p)], .empty⟩ : St)) (fun (p : Bool) => G.inquestref24_Check_j1 h_0 level_1 l_2 tree_3 p = some r) ?_ ?_
 ·rintro v19 h
  replace h : G.inquestref24_Check_j1 h_0 level_1 l_2 tree_3 v19 = some r := h
  unfold G.inquestref24_Check_j1 at h
  refine awp_cond rfl (fun hb20 => ?_) (fun hb20 => ?_)
  ·replace h := Sh.if_t h hb20
   refine awp_seqK fun K5 hK5 => awp_reg rfl <| AR.op rfl (aop_move (.inr rfl) rfl) <| AR.nil <| hK5 _ (AWP.weak (Weak.kt [8] rfl) ?_)
   refine awp_ret ?_
   obtain rfl := Option.some.inj h
   refine ⟨.inr rfl, bl false, rfl, ?_⟩
   exact Weak.e ⟨.k, trivial⟩
  ·replace h := Sh.if_f h hb20
   refine awp_skip <| hK4 _ (AWP.weak (Weak.kt [1, 2, 3, 4] rfl) ?_)
   refine awp_seqK fun K6 hK6 => awp_reg rfl <| AR.op (r := G.api_Hist.av h_0) rfl (aop_load_pp rfl rfl sz24 rfl) <| AR.op rfl (aop_move (.inl rfl) rfl) <| AR.op rfl (aop_move (.inl rfl) rfl) <| AR.keep [3, 30, 31, 32] rfl <| AR.op rfl (aop_move (.inl rfl) rfl) ?_
   obtain ⟨r22, hr22, h⟩ := Sh.bind_some' h
   refine AR.op (r := bl r22) rfl (aop_call1 rfl rfl (by simp) (inquestref24_holds_ok hT hr22)) <| AR.op rfl (aop_move (.inr rfl) rfl) <| AR.nil <| hK6 _ (AWP.weak (Weak.kt [11] rfl) ?_)
   refine awp_seqK fun K7 hK7 => awp_reg rfl <| AR.op rfl (aop_move (.inl rfl) rfl) <| AR.op rfl (aop_move (.inr rfl) rfl) <| AR.nil <| hK7 _ (AWP.weak (Weak.kt [8] rfl) ?_)
   refine awp_ret ?_
   obtain rfl := Option.some.inj h
   refine ⟨.inr rfl, bl r22, rfl, ?_⟩
   exact Weak.e ⟨.k, trivial⟩
 ·intro K8 hK8
  refine awp_reg rfl <| AR.op rfl (aop_move (.inl rfl) rfl) <| AR.op (r := bl (!r9)) rfl (aop_not rfl rfl) <| AR.op rfl (aop_move (.inl rfl) rfl) <| AR.keep [1, 2, 3, 4, 10, 18] rfl ?_
  rcases Bool.eq_false_or_eq_true (!r9) with hb23 | hb23
  ·rw [hb23]
   replace h := Sh.if_t h hb23
   refine AR.skip rfl <| AR.skip rfl <| AR.op rfl (aop_pick rfl rfl rfl) <| AR.keep [1, 2, 3, 4, 21] rfl <| AR.op rfl (aop_move (.inl rfl) rfl) <| AR.skip rfl <| AR.skip rfl <| AR.keep [1, 2, 3, 4, 22, 24] rfl ?_
   refine AR.skip rfl <| AR.skip rfl <| AR.skip rfl <| AR.keep [1, 2, 3, 4, 22, 25, 27] rfl <| AR.skip rfl <| AR.op rfl (aop_pick rfl rfl rfl) <| AR.nil ?_
   exact hK8 true _ h (Weak.kt [1, 2, 3, 4, 29] rfl)
  ·rw [hb23]
   replace h := Sh.if_f h hb23
   refine AR.op rfl (aop_move (.inl rfl) rfl) <| AR.op (r := bl (!r11)) rfl (aop_not rfl rfl) <| AR.op rfl (aop_pick rfl rfl rfl) <| AR.keep [1, 2, 3, 4, 21] rfl <| AR.op rfl (aop_move (.inl rfl) rfl) ?_
   rcases Bool.eq_false_or_eq_true (!r11) with hb24 | hb24
   ·rw [hb24]
    replace h := Sh.if_t h hb24
    refine AR.skip rfl <| AR.skip rfl <| AR.keep [1, 2, 3, 4, 22, 24] rfl <| AR.skip rfl <| AR.skip rfl <| AR.skip rfl <| AR.keep [1, 2, 3, 4, 22, 25, 27] rfl <| AR.skip rfl ?_
    refine AR.op rfl (aop_pick rfl rfl rfl) <| AR.nil ?_
    exact hK8 true _ h (Weak.kt [1, 2, 3, 4, 29] rfl)
   ·rw [hb24]
    replace h := Sh.if_f h hb24
    refine AR.op rfl (aop_move (.inl rfl) rfl) <| AR.op (r := bl (decide (level_1 ≠ 0))) rfl (aop_neq rfl rfl rfl) <| AR.keep [1, 2, 3, 4, 22, 24] rfl <| AR.op rfl (aop_move (.inl rfl) rfl) ?_
    rcases Bool.eq_false_or_eq_true (decide (level_1 ≠ 0)) with hb25 | hb25
    ·rw [hb25]
     replace h := Sh.if_t h hb25
     refine AR.op rfl (aop_move (.inl rfl) rfl) <| AR.op (r := bl (decide (level_1 ≠ 1))) rfl (aop_neq rfl rfl rfl) <| AR.keep [1, 2, 3, 4, 22, 25, 27] rfl <| AR.op rfl (aop_pick rfl rfl rfl) <| AR.op rfl (aop_pick rfl rfl rfl) <| AR.nil ?_
     exact hK8 (decide (level_1 ≠ 1)) _ h (Weak.kt [1, 2, 3, 4, 29] rfl)
    ·rw [hb25]
     replace h := Sh.if_f h hb25
     refine AR.skip rfl <| AR.skip rfl <| AR.keep [1, 2, 3, 4, 22, 25, 27] rfl <| AR.op rfl (aop_pick rfl rfl rfl) <| AR.op rfl (aop_pick rfl rfl rfl) <| AR.nil ?_
     exact hK8 false _ h (Weak.kt [1, 2, 3, 4, 29] rfl)
theorem inquestref24_Check_ok {W0 : World} (hT : Tab W0) {h_0 : G.api_Hist} {level_1 : Int} {l_2 : List G.api_Choice} {tree_3 : List G.inquestref24_N} {r : Bool} (h : G.inquestref24_Check h_0 level_1 l_2 tree_3 = some r) : Fun1 Try.prog W0 17 [G.api_Hist.av h_0, i64 level_1, .sl (List.map G.api_Choice.av l_2), .sl (List.map G.inquestref24_N.av tree_3)] (bl r) := Fun1.two (inquestref24_Check_ok0 hT h) (by simp)

end Wk
