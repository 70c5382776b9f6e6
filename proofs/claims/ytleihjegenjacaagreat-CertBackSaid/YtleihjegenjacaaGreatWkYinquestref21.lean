/- That the functions of a package do what their plain functions say. -/
import Derived.Test.YtleihjegenjacaaGreatSh
import Derived.Test.YtleihjegenjacaaGreatWkYFacts
open Go Go.Av Go.Proofs
set_option linter.unusedVariables false
set_option maxHeartbeats 8000000
set_option maxRecDepth 20000
namespace Wk
theorem inquestref21_Same_ok0 {W0 : World} (hT : Tab W0) {a_0 : List G.inquestref21_R} {b_1 : List G.inquestref21_R} {r : Bool} (h : G.inquestref21_Same a_0 b_1 = some r) : Fun2 Tryz.prog W0 43 [.sl (List.map G.inquestref21_R.av a_0), .sl (List.map G.inquestref21_R.av b_1)] (bl r) .empty := by
 refine fun2_of_awp Tryz.func43 rfl (by kernel_rfl) Tryz.ntmps43 (by simp) ?_
 unfold G.inquestref21_Same at h
 show AWP _ _ _ _ ⟨[(0, .sl (List.map G.inquestref21_R.av a_0)), (1, .sl (List.map G.inquestref21_R.av b_1))], .empty⟩ _
 refine awp_seqK fun K1 hK1 => awp_reg rfl <| AR.op rfl (aop_move (.inr rfl) rfl) <| AR.nil <| hK1 _ (AWP.weak (Weak.kt [0, 1] rfl) ?_)
 refine awp_seqK fun K2 hK2 => awp_seqK fun K3 hK3 => awp_reg rfl <| AR.op rfl (aop_move (.inl rfl) rfl) <| AR.op rfl (t_len_sl G.inquestref21_R.av a_0 rfl rfl el33) <| AR.op rfl (aop_move (.inl rfl) rfl) <| AR.keep [0, 1, 8, 9] rfl <| AR.op rfl (t_len_sl G.inquestref21_R.av b_1 rfl rfl el33) ?_
 refine AR.op (r := bl (decide ((Sh.len a_0) ≠ (Sh.len b_1)))) rfl (aop_neq rfl rfl rfl) <| AR.nil <| hK3 _ (AWP.weak (Weak.kt [0, 1, 11] rfl) ?_)
 refine awp_cond rfl (fun hb129 => ?_) (fun hb129 => ?_)
 ·replace h := Sh.if_t h hb129
  refine awp_seqK fun K4 hK4 => awp_reg rfl <| AR.op rfl (aop_move (.inr rfl) rfl) <| AR.nil <| hK4 _ (AWP.weak (Weak.kt [4] rfl) ?_)
  refine awp_ret ?_
  obtain rfl := Option.some.inj h
  refine ⟨.inr rfl, bl false, rfl, ?_⟩
  exact Weak.e ⟨.k, trivial⟩
 ·replace h := Sh.if_f h hb129
  refine awp_skip <| hK2 _ (AWP.weak (Weak.kt [0, 1] rfl) ?_)
  refine awp_seqJ (fun (p : Unit) => (⟨[], .empty⟩ : St)) (fun (p : Unit) => G.inquestref21_Same_j1 = some r) ?_ ?_
  ·rintro ⟨⟩ h
   replace h : G.inquestref21_Same_j1 = some r := h
   unfold G.inquestref21_Same_j1 at h
   refine awp_seqK fun K5 hK5 => awp_reg rfl <| AR.op rfl (aop_move (.inr rfl) rfl) <| AR.nil <| hK5 _ ?_
   refine awp_ret ?_
   obtain rfl := Option.some.inj h
   refine ⟨.inr rfl, bl true, rfl, ?_⟩
   exact Weak.e ⟨.k, trivial⟩
  ·intro K6 hK6
   refine awp_seqK fun K7 hK7 => awp_reg rfl <| AR.op rfl (aop_move (.inr rfl) rfl) <| AR.nil <| hK7 _ ?_
   refine awp_block <| awp_iter (fun (p : Int) => G.inquestref21_Same_b1 a_0 b_1 p) (fun (p : Int) => (⟨[(0, .sl (List.map G.inquestref21_R.av a_0)), (1, .sl (List.map G.inquestref21_R.av b_1)), (5, i64 p)], .empty⟩ : St)) h (Weak.kt [0, 1, 5] rfl) ?_
   ·skip
    rintro i343 o1 h hx1
    replace h : G.inquestref21_Same_b1 a_0 b_1 i343 = some o1 := h
    unfold G.inquestref21_Same_b1 at h
    refine awp_seqK fun K8 hK8 => awp_seqK fun K9 hK9 => awp_reg rfl <| AR.op rfl (aop_move (.inl rfl) rfl) <| AR.op rfl (aop_move (.inl rfl) rfl) <| AR.op rfl (t_len_sl G.inquestref21_R.av a_0 rfl rfl el33) <| AR.keep [0, 1, 5, 12, 14] rfl <| AR.op rfl (aop_lss rfl rfl rfl) ?_
    refine AR.nil <| hK9 _ (AWP.weak (Weak.kt [0, 1, 5, 15] rfl) ?_)
    refine awp_cond rfl (fun hb344 => ?_) (fun hb344 => ?_)
    ·replace h := Sh.if_t h hb344
     refine awp_skip <| hK8 _ (AWP.weak (Weak.kt [0, 1, 5] rfl) ?_)
     refine awp_seqJ (fun (p : Unit) => (⟨[(0, .sl (List.map G.inquestref21_R.av a_0)), (1, .sl (List.map G.inquestref21_R.av b_1)), (5, i64 i343)], .empty⟩ : St)) (fun (p : Unit) => G.inquestref21_Same_j2 i343 = some o1) ?_ ?_
     ·rintro ⟨⟩ h
      replace h : G.inquestref21_Same_j2 i343 = some o1 := h
      unfold G.inquestref21_Same_j2 at h
      refine awp_reg rfl <| AR.op rfl (aop_move (.inl rfl) rfl) <| AR.op rfl (aop_add rfl rfl rfl rfl) <| AR.op rfl (aop_move (.inr rfl) rfl) <| AR.nil ?_
      replace h := Sh.next_eq h
      exact ⟨_, h, Weak.kt [0, 1, 5] rfl⟩
     ·intro K10 hK10
      refine awp_block <| awp_seqK fun K11 hK11 => awp_seqJ (fun (p : Bool) => (⟨[(0, .sl (List.map G.inquestref21_R.av a_0)), (1, .sl (List.map G.inquestref21_R.av b_1)), (5, i64 i343), (43, bl p)], .empty⟩ : St)) (fun (p : Bool) => G.inquestref21_Same_j3 a_0 b_1 i343 p = some o1) ?_ ?_
      ·rintro v406 h
       replace h : G.inquestref21_Same_j3 a_0 b_1 i343 v406 = some o1 := h
       unfold G.inquestref21_Same_j3 at h
       refine awp_cond rfl (fun hb407 => ?_) (fun hb407 => ?_)
       ·replace h := Sh.if_t h hb407
        refine awp_seqK fun K12 hK12 => awp_reg rfl <| AR.op rfl (aop_move (.inr rfl) rfl) <| AR.nil <| hK12 _ (AWP.weak (Weak.kt [4] rfl) ?_)
        refine awp_ret ?_
        replace h := Sh.exit_eq h hx1
        obtain rfl := Option.some.inj h
        refine ⟨.inr rfl, bl false, rfl, ?_⟩
        exact Weak.e ⟨.k, trivial⟩
       ·replace h := Sh.if_f h hb407
        refine awp_skip <| hK11 _ (AWP.weak (Weak.kt [0, 1, 5] rfl) ?_)
        refine awp_seqK fun K13 hK13 => awp_reg rfl <| AR.op rfl (aop_move (.inr rfl) rfl) <| AR.nil <| hK13 _ ?_
        refine awp_block <| awp_iter (fun (p : Int) => G.inquestref21_Same_b2 a_0 b_1 i343 p) (fun (p : Int) => (⟨[(0, .sl (List.map G.inquestref21_R.av a_0)), (1, .sl (List.map G.inquestref21_R.av b_1)), (5, i64 i343), (6, i64 p)], .empty⟩ : St)) h (Weak.kt [0, 1, 5, 6] rfl) ?_
        ·skip
         rintro k429 o2 h hx2
         replace h : G.inquestref21_Same_b2 a_0 b_1 i343 k429 = some o2 := h
         unfold G.inquestref21_Same_b2 at h
         refine awp_seqK fun K14 hK14 => awp_seqK fun K15 hK15 => awp_reg rfl <| AR.op rfl (aop_move (.inl rfl) rfl) <| AR.op rfl (aop_move (.inl rfl) rfl) <| AR.op rfl (aop_move (.inl rfl) rfl) <| AR.keep [0, 1, 5, 6, 44, 45, 46] rfl ?_
         obtain ⟨x434, hx434, h⟩ := Sh.bind_some' h
         obtain ⟨k435, hi435, hl435⟩ := Sh.idx_some hx434
         refine AR.op rfl (t_index_sl G.inquestref21_R.av a_0 hi435 hl435 rfl rfl rfl el33 rfl) <| AR.op rfl (aop_field_pp rfl rfl fd70_1 (by decide)) <| AR.op (r := .sl (List.map i64 x434.L)) rfl (aop_load_pp rfl rfl sz25 rfl) <| AR.keep [0, 1, 5, 6, 44, 49] rfl <| AR.op rfl (t_len_sl i64 x434.L rfl rfl el25) <| AR.op rfl (aop_lss rfl rfl rfl) <| AR.nil <| hK15 _ (AWP.weak (Weak.kt [0, 1, 5, 6, 51] rfl) ?_)
         refine awp_cond rfl (fun hb436 => ?_) (fun hb436 => ?_)
         ·replace h := Sh.if_t h hb436
          refine awp_skip <| hK14 _ (AWP.weak (Weak.kt [0, 1, 5, 6] rfl) ?_)
          refine awp_seqK fun K16 hK16 => awp_block <| awp_seqK fun K17 hK17 => awp_any [(true, false), (true, false), (true, false), (true, false), (true, false), (true, false), (true, false), (true, false), (true, false), (true, false), (true, false), (true, false), (true, false), (true, false), (true, false), (true, false), (true, false)] (by kernel_rfl) (by kernel_rfl) rfl ?_
          refine ARH.dry rfl (fun _ => aop_move (.inl rfl) rfl) <| ARH.dry rfl (fun _ => aop_move (.inl rfl) rfl) ?_
          obtain ⟨x453, hx453, h⟩ := Sh.bind_some' h
          obtain ⟨k454, hi454, hl454⟩ := Sh.idx_some hx453
          refine ARH.dry rfl (fun _ => t_index_sl G.inquestref21_R.av a_0 hi454 hl454 rfl rfl rfl el33 rfl) <| ARH.keep [0, 1, 5, 6, 56] rfl <| ARH.dry rfl (fun _ => aop_field_pp rfl rfl fd70_1 (by decide)) <| ARH.dry (r := .sl (List.map i64 x453.L)) rfl (fun _ => aop_load_pp rfl rfl sz25 rfl) <| ARH.dry rfl (fun _ => aop_move (.inl rfl) rfl) <| ARH.keep [0, 1, 5, 6, 58, 59] rfl ?_
          obtain ⟨x455, hx455, h⟩ := Sh.bind_some' h
          obtain ⟨k456, hi456, hl456⟩ := Sh.idx_some hx455
          refine ARH.dry rfl (fun _ => t_index_sl i64 x453.L hi456 hl456 rfl rfl rfl el25 rfl) <| ARH.dry (r := i64 x455) rfl (fun _ => aop_load_pp rfl rfl sz3 rfl) <| ARH.dry rfl (fun _ => aop_move (.inl rfl) rfl) <| ARH.keep [0, 1, 5, 6, 61, 62] rfl <| ARH.dry rfl (fun _ => aop_move (.inl rfl) rfl) ?_
          obtain ⟨x457, hx457, h⟩ := Sh.bind_some' h
          obtain ⟨k458, hi458, hl458⟩ := Sh.idx_some hx457
          refine ARH.dry rfl (fun _ => t_index_sl G.inquestref21_R.av b_1 hi458 hl458 rfl rfl rfl el33 rfl) <| ARH.dry rfl (fun _ => aop_field_pp rfl rfl fd70_1 (by decide)) <| ARH.keep [0, 1, 5, 6, 61, 65] rfl <| ARH.dry (r := .sl (List.map i64 x457.L)) rfl (fun _ => aop_load_pp rfl rfl sz25 rfl) <| ARH.dry rfl (fun _ => aop_move (.inl rfl) rfl) ?_
          obtain ⟨x459, hx459, h⟩ := Sh.bind_some' h
          obtain ⟨k460, hi460, hl460⟩ := Sh.idx_some hx459
          refine ARH.dry rfl (fun _ => t_index_sl i64 x457.L hi460 hl460 rfl rfl rfl el25 rfl) <| ARH.keep [0, 1, 5, 6, 61, 68] rfl <| ARH.dry (r := i64 x459) rfl (fun _ => aop_load_pp rfl rfl sz3 rfl) <| ARH.dry (r := bl (decide (x455 ≠ x459))) rfl (fun _ => aop_neq rfl rfl rfl) <| ARH.nil <| hK17 _ (AWP.weak (Weak.kt [0, 1, 5, 6, 70] rfl) ?_)
          refine awp_cond rfl (fun hb461 => ?_) (fun hb461 => ?_)
          ·replace h := Sh.if_t h hb461
           refine awp_seqK fun K18 hK18 => awp_reg rfl <| AR.op rfl (aop_move (.inr rfl) rfl) <| AR.nil <| hK18 _ (AWP.weak (Weak.kt [4] rfl) ?_)
           refine awp_ret ?_
           replace h := Sh.exit_eq h hx2
           replace h := Sh.exit_eq h hx1
           obtain rfl := Option.some.inj h
           refine ⟨.inr rfl, bl false, rfl, ?_⟩
           exact Weak.e ⟨.k, trivial⟩
          ·replace h := Sh.if_f h hb461
           refine awp_skip <| hK16 _ (AWP.weak (Weak.kt [0, 1, 5, 6] rfl) ?_)
           refine awp_reg rfl <| AR.op rfl (aop_move (.inl rfl) rfl) <| AR.op rfl (aop_add rfl rfl rfl rfl) <| AR.op rfl (aop_move (.inr rfl) rfl) <| AR.nil ?_
           replace h := Sh.next_eq h
           exact ⟨_, h, Weak.kt [0, 1, 5, 6] rfl⟩
         ·replace h := Sh.if_f h hb436
          refine awp_exit ?_
          replace h := Sh.exit_eq h hx2
          exact hK10 () _ h (Weak.kt [0, 1, 5] rfl)
      ·intro K19 hK19
       refine awp_any [(true, false), (true, false), (true, false), (true, false), (true, false), (true, false), (true, false), (true, false), (true, false), (true, false), (true, false), (true, false), (true, false), (true, false), (true, false), (true, false), (true, false), (true, false), (true, false), (true, false), (true, false), (true, false), (true, false), (true, false), (true, false), (true, false)] (by kernel_rfl) (by kernel_rfl) rfl ?_
       refine ARH.dry rfl (fun _ => aop_move (.inl rfl) rfl) <| ARH.dry rfl (fun _ => aop_move (.inl rfl) rfl) ?_
       obtain ⟨x462, hx462, h⟩ := Sh.bind_some' h
       obtain ⟨k463, hi463, hl463⟩ := Sh.idx_some hx462
       refine ARH.dry rfl (fun _ => t_index_sl G.inquestref21_R.av a_0 hi463 hl463 rfl rfl rfl el33 rfl) <| ARH.keep [0, 1, 5, 20] rfl <| ARH.dry rfl (fun _ => aop_field_pp rfl rfl fd70_0 (by decide)) <| ARH.dry (r := i64 x462.Key) rfl (fun _ => aop_load_pp rfl rfl sz3 rfl) <| ARH.dry rfl (fun _ => aop_move (.inl rfl) rfl) <| ARH.keep [0, 1, 5, 22, 23] rfl <| ARH.dry rfl (fun _ => aop_move (.inl rfl) rfl) ?_
       obtain ⟨x464, hx464, h⟩ := Sh.bind_some' h
       obtain ⟨k465, hi465, hl465⟩ := Sh.idx_some hx464
       refine ARH.dry rfl (fun _ => t_index_sl G.inquestref21_R.av b_1 hi465 hl465 rfl rfl rfl el33 rfl) <| ARH.dry rfl (fun _ => aop_field_pp rfl rfl fd70_0 (by decide)) <| ARH.keep [0, 1, 5, 22, 26] rfl <| ARH.dry (r := i64 x464.Key) rfl (fun _ => aop_load_pp rfl rfl sz3 rfl) <| ARH.dry (r := bl (decide (x462.Key ≠ x464.Key))) rfl (fun _ => aop_neq rfl rfl rfl) <| ARH.dry rfl (fun _ => aop_move (.inl rfl) rfl) <| ARH.keep [0, 1, 5, 29] rfl ?_
       rcases Bool.eq_false_or_eq_true (decide (x462.Key ≠ x464.Key)) with hb466 | hb466
       ·rw [hb466]
        replace h := Sh.if_t h hb466
        refine ARH.skip rfl <| ARH.skip rfl <| ARH.skip rfl <| ARH.keep [0, 1, 5, 29, 30, 31, 32] rfl <| ARH.skip rfl <| ARH.skip rfl <| ARH.skip rfl <| ARH.keep [0, 1, 5, 29, 30, 31, 32, 33, 34, 35] rfl ?_
        refine ARH.skip rfl <| ARH.skip rfl <| ARH.skip rfl <| ARH.keep [0, 1, 5, 29, 30, 31, 32, 33, 34, 35, 36, 37, 38] rfl <| ARH.skip rfl <| ARH.skip rfl <| ARH.skip rfl <| ARH.keep [0, 1, 5, 29, 30, 31, 32, 33, 34, 35, 36, 37, 38, 39, 40, 41] rfl ?_
        refine ARH.skip rfl <| ARH.dry rfl (fun _ => aop_pick rfl rfl rfl) <| ARH.nil ?_
        exact hK19 true _ h (Weak.kt [0, 1, 5, 43] rfl)
       ·rw [hb466]
        replace h := Sh.if_f h hb466
        refine ARH.dry rfl (fun _ => aop_move (.inl rfl) rfl) <| ARH.dry rfl (fun _ => aop_move (.inl rfl) rfl) ?_
        obtain ⟨x467, hx467, h⟩ := Sh.bind_some' h
        obtain ⟨k468, hi468, hl468⟩ := Sh.idx_some hx467
        refine ARH.dry rfl (fun _ => t_index_sl G.inquestref21_R.av a_0 hi468 hl468 rfl rfl rfl el33 rfl) <| ARH.keep [0, 1, 5, 29, 30, 31, 32] rfl <| ARH.dry rfl (fun _ => aop_field_pp rfl rfl fd70_1 (by decide)) <| ARH.dry (r := .sl (List.map i64 x467.L)) rfl (fun _ => aop_load_pp rfl rfl sz25 rfl) <| ARH.dry rfl (fun _ => t_len_sl i64 x467.L rfl rfl el25) <| ARH.keep [0, 1, 5, 29, 30, 31, 32, 33, 34, 35] rfl <| ARH.dry rfl (fun _ => aop_move (.inl rfl) rfl) <| ARH.dry rfl (fun _ => aop_move (.inl rfl) rfl) ?_
        obtain ⟨x469, hx469, h⟩ := Sh.bind_some' h
        obtain ⟨k470, hi470, hl470⟩ := Sh.idx_some hx469
        refine ARH.dry rfl (fun _ => t_index_sl G.inquestref21_R.av b_1 hi470 hl470 rfl rfl rfl el33 rfl) <| ARH.keep [0, 1, 5, 29, 30, 31, 32, 33, 34, 35, 36, 37, 38] rfl <| ARH.dry rfl (fun _ => aop_field_pp rfl rfl fd70_1 (by decide)) <| ARH.dry (r := .sl (List.map i64 x469.L)) rfl (fun _ => aop_load_pp rfl rfl sz25 rfl) <| ARH.dry rfl (fun _ => t_len_sl i64 x469.L rfl rfl el25) <| ARH.keep [0, 1, 5, 29, 30, 31, 32, 33, 34, 35, 36, 37, 38, 39, 40, 41] rfl <| ARH.dry (r := bl (decide ((Sh.len x467.L) ≠ (Sh.len x469.L)))) rfl (fun _ => aop_neq rfl rfl rfl) <| ARH.dry rfl (fun _ => aop_pick rfl rfl rfl) ?_
        refine ARH.nil ?_
        exact hK19 (decide ((Sh.len x467.L) ≠ (Sh.len x469.L))) _ h (Weak.kt [0, 1, 5, 43] rfl)
    ·replace h := Sh.if_f h hb344
     refine awp_exit ?_
     replace h := Sh.exit_eq h hx1
     exact hK6 () _ h (Weak.kt [] rfl)
theorem inquestref21_Same_ok {W0 : World} (hT : Tab W0) {a_0 : List G.inquestref21_R} {b_1 : List G.inquestref21_R} {r : Bool} (h : G.inquestref21_Same a_0 b_1 = some r) : Fun1 Tryz.prog W0 43 [.sl (List.map G.inquestref21_R.av a_0), .sl (List.map G.inquestref21_R.av b_1)] (bl r) := Fun1.two (inquestref21_Same_ok0 hT h) (by simp)

end Wk
