/- That a statement does what its plain function says. -/
import Derived.Test.YtmnmbaehidfebaaWkFinquestlaw24
open Go Go.Av Go.Proofs
set_option linter.unusedVariables false
set_option maxHeartbeats 8000000
set_option maxRecDepth 20000
namespace Wk
theorem inquestlaw24_RefuteTells_ok0 {W0 : World} (hT : Tab W0) {x_0 : G.inquestlaw24_Case} {r : Bool} (h : G.inquestlaw24_RefuteTells x_0 = some r) : Fun2 Try.prog W0 3 [G.inquestlaw24_Case.av x_0] (bl r) .empty := by
 refine fun2_of_awp Try.func3 rfl (by kernel_rfl) Try.ntmps3 (by simp) ?_
 unfold G.inquestlaw24_RefuteTells at h
 show AWP _ _ _ _ ⟨[(0, G.inquestlaw24_Case.av x_0)], .empty⟩ _
 refine awp_seqK fun K1 hK1 => awp_reg rfl <| AR.op (r := .ref 0 0 0) rfl (aop_box 4 [G.inquestlaw24_Case.av x_0] rfl rfl rfl (.inl ⟨rfl, rfl⟩)) <| AR.op rfl (aop_move (.inr rfl) rfl) <| AR.nil <| hK1 _ (AWP.weak (Weak.e (fr' := [(1, .pp [.sl (List.map G.api_Txn.av x_0.H.Txns), i64 x_0.Level, .sl (List.map G.api_Choice.av x_0.L), .sl (List.map G.refute_Node.av x_0.Tree)] 0)]) (H' := .empty) ⟨⟨_, rfl, .frzA rfl rfl rfl rfl (by simp)⟩, trivial⟩) ?_)
 refine awp_seqK fun K2 hK2 => awp_reg rfl ?_
 obtain ⟨r13, hr13, h⟩ := Sh.bind_some' h
 refine AR.op (r := bl r13) rfl (aop_call1 rfl rfl (by simp) (inquestlaw24_awake_ok hT hr13)) <| AR.op rfl (aop_move (.inr rfl) rfl) <| AR.nil <| hK2 _ (AWP.weak (Weak.kt [1, 3] rfl) ?_)
 refine awp_seqK fun K3 hK3 => awp_seqK fun K4 hK4 => awp_reg rfl <| AR.op rfl (aop_move (.inl rfl) rfl) <| AR.op (r := bl (!r13)) rfl (aop_not rfl rfl) <| AR.nil <| hK4 _ (AWP.weak (Weak.kt [1, 14] rfl) ?_)
 refine awp_cond rfl (fun hb14 => ?_) (fun hb14 => ?_)
 ·replace h := Sh.if_t h hb14
  refine awp_seqK fun K5 hK5 => awp_reg rfl <| AR.op rfl (aop_move (.inr rfl) rfl) <| AR.nil <| hK5 _ (AWP.weak (Weak.kt [2] rfl) ?_)
  refine awp_ret ?_
  obtain rfl := Option.some.inj h
  refine ⟨.inr rfl, bl false, rfl, ?_⟩
  exact Weak.e ⟨.k, trivial⟩
 ·replace h := Sh.if_f h hb14
  refine awp_skip <| hK3 _ (AWP.weak (Weak.kt [1] rfl) ?_)
  refine awp_seqK fun K6 hK6 => awp_reg rfl <| AR.op (r := G.inquestlaw24_Case.av x_0) rfl (aop_load_pp rfl rfl sz28 rfl) ?_
  obtain ⟨r16, hr16, h⟩ := Sh.bind_some' h
  refine AR.op (r := bl r16) rfl (aop_call1 rfl rfl (by simp) (inquestlaw24_few_ok hT hr16)) <| AR.op rfl (aop_move (.inr rfl) rfl) <| AR.nil <| hK6 _ (AWP.weak (Weak.kt [1, 4] rfl) ?_)
  refine awp_seqK fun K7 hK7 => awp_seqK fun K8 hK8 => awp_reg rfl <| AR.op rfl (aop_move (.inl rfl) rfl) <| AR.op (r := bl (!r16)) rfl (aop_not rfl rfl) <| AR.nil <| hK8 _ (AWP.weak (Weak.kt [1, 18] rfl) ?_)
  refine awp_cond rfl (fun hb17 => ?_) (fun hb17 => ?_)
  ·replace h := Sh.if_t h hb17
   refine awp_seqK fun K9 hK9 => awp_reg rfl <| AR.op rfl (aop_move (.inr rfl) rfl) <| AR.nil <| hK9 _ (AWP.weak (Weak.kt [2] rfl) ?_)
   refine awp_ret ?_
   obtain rfl := Option.some.inj h
   refine ⟨.inr rfl, bl true, rfl, ?_⟩
   exact Weak.e ⟨.k, trivial⟩
  ·replace h := Sh.if_f h hb17
   refine awp_skip <| hK7 _ (AWP.weak (Weak.kt [1] rfl) ?_)
   refine awp_seqK fun K10 hK10 => awp_reg rfl <| AR.op rfl (aop_field_pp rfl rfl fd28_3 (by decide)) <| AR.op (r := .sl (List.map G.refute_Node.av x_0.Tree)) rfl (aop_load_pp rfl rfl sz26 rfl) ?_
   obtain ⟨r19, hr19, h⟩ := Sh.bind_some' h
   refine AR.op (r := .sl (List.map G.inquestref24_N.av r19)) rfl (aop_call1 rfl rfl (by simp) (inquestlaw24_Plain_ok hT hr19)) <| AR.keep [1, 21] rfl <| AR.op rfl (aop_move (.inr rfl) rfl) <| AR.nil <| hK10 _ (AWP.weak (Weak.kt [1, 5] rfl) ?_)
   refine awp_seqK fun K11 hK11 => awp_reg rfl <| AR.op rfl (aop_field_pp rfl rfl fd28_3 (by decide)) <| AR.op (r := .sl (List.map G.refute_Node.av x_0.Tree)) rfl (aop_load_pp rfl rfl sz26 rfl) ?_
   obtain ⟨r21, hr21, h⟩ := Sh.bind_some' h
   refine AR.op (r := .tuple [i64 r21.1, i64 r21.2.1, bl r21.2.2]) rfl (aop_call1 rfl rfl (by simp) (refute_Shape_ok hT hr21)) <| AR.keep [1, 5, 25] rfl <| AR.op rfl (aop_move (.inl rfl) rfl) <| AR.op (r := i64 r21.1) rfl (aop_extract rfl rfl rfl) <| AR.op (r := i64 r21.2.1) rfl (aop_extract rfl rfl rfl) <| AR.keep [1, 5, 22, 26, 27] rfl <| AR.op (r := bl r21.2.2) rfl (aop_extract rfl rfl rfl) <| AR.op rfl (aop_move (.inr rfl) rfl) ?_
   refine AR.op rfl (aop_move (.inr rfl) rfl) <| AR.keep [1, 5, 28, 6, 7] rfl <| AR.op rfl (aop_move (.inr rfl) rfl) <| AR.nil <| hK11 _ (AWP.weak (Weak.kt [1, 5, 6, 7, 8] rfl) ?_)
   refine awp_seqK fun K12 hK12 => awp_reg rfl <| AR.op rfl (aop_move (.inl rfl) rfl) ?_
   obtain ⟨r23, hr23, h⟩ := Sh.bind_some' h
   refine AR.op (r := .tuple [i64 r23.1, i64 r23.2.1, bl r23.2.2]) rfl (aop_call1 rfl rfl (by simp) (inquestref24_Shape_ok hT hr23)) <| AR.op rfl (aop_move (.inl rfl) rfl) <| AR.keep [1, 5, 6, 7, 8, 29] rfl <| AR.op (r := i64 r23.1) rfl (aop_extract rfl rfl rfl) <| AR.op (r := i64 r23.2.1) rfl (aop_extract rfl rfl rfl) <| AR.op (r := bl r23.2.2) rfl (aop_extract rfl rfl rfl) <| AR.keep [1, 5, 6, 7, 8, 32, 33, 34] rfl <| AR.op rfl (aop_move (.inr rfl) rfl) ?_
   refine AR.op rfl (aop_move (.inr rfl) rfl) <| AR.op rfl (aop_move (.inr rfl) rfl) <| AR.nil <| hK12 _ (AWP.weak (Weak.kt [1, 5, 6, 7, 8, 9, 10, 11] rfl) ?_)
   refine awp_seqK fun K13 hK13 => awp_any [(true, false), (true, false), (true, false), (true, false), (true, false), (true, false), (true, false), (true, false), (true, false), (true, false), (true, false), (true, false), (true, false), (true, false), (true, false), (true, false), (true, false), (true, false), (true, false), (true, false), (true, false), (true, false), (true, false), (true, false), (true, false), (true, false), (true, false), (true, false), (true, false), (true, false), (true, false), (true, false), (true, false), (true, false)] (by kernel_rfl) (by kernel_rfl) rfl ?_
   refine ARH.dry rfl (fun _ => aop_move (.inl rfl) rfl) <| ARH.dry rfl (fun _ => aop_move (.inl rfl) rfl) <| ARH.dry (r := bl (decide (r21.1 = r23.1))) rfl (fun _ => aop_eql rfl rfl rfl) <| ARH.keep [1, 5, 7, 8, 10, 11, 37] rfl <| ARH.dry rfl (fun _ => aop_move (.inl rfl) rfl) ?_
   rcases Bool.eq_false_or_eq_true (decide (r21.1 = r23.1)) with hb29 | hb29
   ·rw [hb29]
    replace h := Sh.if_t h hb29
    refine ARH.dry rfl (fun _ => aop_move (.inl rfl) rfl) <| ARH.dry rfl (fun _ => aop_move (.inl rfl) rfl) <| ARH.keep [1, 5, 8, 11, 38, 39, 40] rfl <| ARH.dry (r := bl (decide (r21.2.1 = r23.2.1))) rfl (fun _ => aop_eql rfl rfl rfl) <| ARH.dry rfl (fun _ => aop_pick rfl rfl rfl) <| ARH.dry rfl (fun _ => aop_move (.inl rfl) rfl) <| ARH.keep [1, 5, 8, 11, 43] rfl ?_
    rcases Bool.eq_false_or_eq_true (decide (r21.2.1 = r23.2.1)) with hb30 | hb30
    ·rw [hb30]
     replace h := Sh.if_t h hb30
     refine ARH.dry rfl (fun _ => aop_move (.inl rfl) rfl) <| ARH.dry rfl (fun _ => aop_move (.inl rfl) rfl) <| ARH.dry (r := bl (r21.2.2 == r23.2.2)) rfl (fun _ => aop_eqb rfl rfl rfl Try.underlying4) <| ARH.keep [1, 5, 43, 46] rfl <| ARH.dry rfl (fun _ => aop_pick rfl rfl rfl) <| ARH.dry rfl (fun _ => aop_move (.inl rfl) rfl) ?_
     rcases Bool.eq_false_or_eq_true (r21.2.2 == r23.2.2) with hb31 | hb31
     ·rw [hb31]
      replace h := Sh.if_t h hb31
      refine ARH.dry rfl (fun _ => aop_field_pp rfl rfl fd28_0 (by decide)) <| ARH.keep [1, 5, 48, 49] rfl <| ARH.dry (r := G.api_Hist.av x_0.H) rfl (fun _ => aop_load_pp rfl rfl sz24 rfl) <| ARH.dry rfl (fun _ => aop_field_pp rfl rfl fd28_1 (by decide)) <| ARH.dry (r := i64 x_0.Level) rfl (fun _ => aop_load_pp rfl rfl sz3 rfl) <| ARH.keep [1, 5, 48, 50, 52] rfl <| ARH.dry rfl (fun _ => aop_field_pp rfl rfl fd28_2 (by decide)) <| ARH.dry (r := .sl (List.map G.api_Choice.av x_0.L)) rfl (fun _ => aop_load_pp rfl rfl sz25 rfl) ?_
      refine ARH.dry rfl (fun _ => aop_field_pp rfl rfl fd28_3 (by decide)) <| ARH.keep [1, 5, 48, 50, 52, 54, 55] rfl <| ARH.dry (r := .sl (List.map G.refute_Node.av x_0.Tree)) rfl (fun _ => aop_load_pp rfl rfl sz26 rfl) ?_
      obtain ⟨r32, hr32, h⟩ := Sh.bind_some' h
      refine ARH.dry (r := bl r32) rfl (fun _ => aop_call1 rfl rfl (by simp) (refute_Check_ok hT hr32)) <| ARH.dry rfl (fun _ => aop_field_pp rfl rfl fd28_0 (by decide)) <| ARH.keep [1, 5, 48, 57, 58] rfl <| ARH.dry (r := G.api_Hist.av x_0.H) rfl (fun _ => aop_load_pp rfl rfl sz24 rfl) <| ARH.dry rfl (fun _ => aop_field_pp rfl rfl fd28_1 (by decide)) <| ARH.dry (r := i64 x_0.Level) rfl (fun _ => aop_load_pp rfl rfl sz3 rfl) <| ARH.keep [1, 5, 48, 57, 59, 61] rfl <| ARH.dry rfl (fun _ => aop_field_pp rfl rfl fd28_2 (by decide)) ?_
      refine ARH.dry (r := .sl (List.map G.api_Choice.av x_0.L)) rfl (fun _ => aop_load_pp rfl rfl sz25 rfl) <| ARH.dry rfl (fun _ => aop_move (.inl rfl) rfl) <| ARH.keep [48, 57, 59, 61, 63, 64] rfl ?_
      obtain ⟨r33, hr33, h⟩ := Sh.bind_some' h
      refine ARH.dry (r := bl r33) rfl (fun _ => aop_call1 rfl rfl (by simp) (inquestref24_Check_ok hT hr33)) <| ARH.dry (r := bl (r32 == r33)) rfl (fun _ => aop_eqb rfl rfl rfl Try.underlying4) <| ARH.dry rfl (fun _ => aop_pick rfl rfl rfl) <| ARH.keep [67] rfl <| ARH.dry rfl (fun _ => aop_move (.inr rfl) rfl) <| ARH.nil <| hK13 _ (AWP.weak (Weak.kt [2] rfl) ?_)
      refine awp_ret ?_
      obtain rfl := Option.some.inj h
      refine ⟨.inr rfl, bl (r32 == r33), rfl, ?_⟩
      exact Weak.e ⟨.k, trivial⟩
     ·rw [hb31]
      replace h := Sh.if_f h hb31
      refine ARH.skip rfl <| ARH.keep [1, 5, 48, 49] rfl <| ARH.skip rfl <| ARH.skip rfl <| ARH.skip rfl <| ARH.keep [1, 5, 48, 50, 52] rfl <| ARH.skip rfl <| ARH.skip rfl ?_
      refine ARH.skip rfl <| ARH.keep [1, 5, 48, 50, 52, 54, 55] rfl <| ARH.skip rfl <| ARH.skip rfl <| ARH.skip rfl <| ARH.keep [1, 5, 48, 57, 58] rfl <| ARH.skip rfl <| ARH.skip rfl ?_
      refine ARH.skip rfl <| ARH.keep [1, 5, 48, 57, 59, 61] rfl <| ARH.skip rfl <| ARH.skip rfl <| ARH.skip rfl <| ARH.keep [48, 57, 59, 61, 63, 64] rfl <| ARH.skip rfl <| ARH.skip rfl ?_
      refine ARH.dry rfl (fun _ => aop_pick rfl rfl rfl) <| ARH.keep [67] rfl <| ARH.dry rfl (fun _ => aop_move (.inr rfl) rfl) <| ARH.nil <| hK13 _ (AWP.weak (Weak.kt [2] rfl) ?_)
      refine awp_ret ?_
      obtain rfl := Option.some.inj h
      refine ⟨.inr rfl, bl false, rfl, ?_⟩
      exact Weak.e ⟨.k, trivial⟩
    ·rw [hb30]
     replace h := Sh.if_f h hb30
     refine ARH.skip rfl <| ARH.skip rfl <| ARH.skip rfl <| ARH.keep [1, 5, 43, 46] rfl <| ARH.dry rfl (fun _ => aop_pick rfl rfl rfl) <| ARH.dry rfl (fun _ => aop_move (.inl rfl) rfl) <| ARH.skip rfl <| ARH.keep [1, 5, 48, 49] rfl ?_
     refine ARH.skip rfl <| ARH.skip rfl <| ARH.skip rfl <| ARH.keep [1, 5, 48, 50, 52] rfl <| ARH.skip rfl <| ARH.skip rfl <| ARH.skip rfl <| ARH.keep [1, 5, 48, 50, 52, 54, 55] rfl ?_
     refine ARH.skip rfl <| ARH.skip rfl <| ARH.skip rfl <| ARH.keep [1, 5, 48, 57, 58] rfl <| ARH.skip rfl <| ARH.skip rfl <| ARH.skip rfl <| ARH.keep [1, 5, 48, 57, 59, 61] rfl ?_
     refine ARH.skip rfl <| ARH.skip rfl <| ARH.skip rfl <| ARH.keep [48, 57, 59, 61, 63, 64] rfl <| ARH.skip rfl <| ARH.skip rfl <| ARH.dry rfl (fun _ => aop_pick rfl rfl rfl) <| ARH.keep [67] rfl ?_
     refine ARH.dry rfl (fun _ => aop_move (.inr rfl) rfl) <| ARH.nil <| hK13 _ (AWP.weak (Weak.kt [2] rfl) ?_)
     refine awp_ret ?_
     obtain rfl := Option.some.inj h
     refine ⟨.inr rfl, bl false, rfl, ?_⟩
     exact Weak.e ⟨.k, trivial⟩
   ·rw [hb29]
    replace h := Sh.if_f h hb29
    refine ARH.skip rfl <| ARH.skip rfl <| ARH.keep [1, 5, 8, 11, 38, 39, 40] rfl <| ARH.skip rfl <| ARH.dry rfl (fun _ => aop_pick rfl rfl rfl) <| ARH.dry rfl (fun _ => aop_move (.inl rfl) rfl) <| ARH.keep [1, 5, 8, 11, 43] rfl <| ARH.skip rfl ?_
    refine ARH.skip rfl <| ARH.skip rfl <| ARH.keep [1, 5, 43, 46] rfl <| ARH.dry rfl (fun _ => aop_pick rfl rfl rfl) <| ARH.dry rfl (fun _ => aop_move (.inl rfl) rfl) <| ARH.skip rfl <| ARH.keep [1, 5, 48, 49] rfl <| ARH.skip rfl ?_
    refine ARH.skip rfl <| ARH.skip rfl <| ARH.keep [1, 5, 48, 50, 52] rfl <| ARH.skip rfl <| ARH.skip rfl <| ARH.skip rfl <| ARH.keep [1, 5, 48, 50, 52, 54, 55] rfl <| ARH.skip rfl ?_
    refine ARH.skip rfl <| ARH.skip rfl <| ARH.keep [1, 5, 48, 57, 58] rfl <| ARH.skip rfl <| ARH.skip rfl <| ARH.skip rfl <| ARH.keep [1, 5, 48, 57, 59, 61] rfl <| ARH.skip rfl ?_
    refine ARH.skip rfl <| ARH.skip rfl <| ARH.keep [48, 57, 59, 61, 63, 64] rfl <| ARH.skip rfl <| ARH.skip rfl <| ARH.dry rfl (fun _ => aop_pick rfl rfl rfl) <| ARH.keep [67] rfl <| ARH.dry rfl (fun _ => aop_move (.inr rfl) rfl) ?_
    refine ARH.nil <| hK13 _ (AWP.weak (Weak.kt [2] rfl) ?_)
    refine awp_ret ?_
    obtain rfl := Option.some.inj h
    refine ⟨.inr rfl, bl false, rfl, ?_⟩
    exact Weak.e ⟨.k, trivial⟩
theorem inquestlaw24_RefuteTells_ok {W0 : World} (hT : Tab W0) {x_0 : G.inquestlaw24_Case} {r : Bool} (h : G.inquestlaw24_RefuteTells x_0 = some r) : Fun1 Try.prog W0 3 [G.inquestlaw24_Case.av x_0] (bl r) := Fun1.two (inquestlaw24_RefuteTells_ok0 hT h) (by simp)

end Wk
