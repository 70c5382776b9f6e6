/- That the functions of a package do what their plain functions say. -/
import Derived.Test.YtdeepljikmgjjaaSh
import Derived.Test.YtdeepljikmgjjaaWkSFacts
open Go Go.Av Go.Proofs
set_option linter.unusedVariables false
set_option maxHeartbeats 8000000
set_option maxRecDepth 20000
namespace Wk
theorem inquestref23_Same_ok0 {W0 : World} (hT : Tab W0) {a_0 : List G.inquestref22_F} {b_1 : List G.inquestref22_F} {r : Bool} (h : G.inquestref23_Same a_0 b_1 = some r) : Fun2 Try.prog W0 15 [.sl (List.map G.inquestref22_F.av a_0), .sl (List.map G.inquestref22_F.av b_1)] (bl r) .empty := by
 refine fun2_of_awp Try.func15 rfl (by kernel_rfl) Try.ntmps15 (by simp) ?_
 unfold G.inquestref23_Same at h
 show AWP _ _ _ _ ⟨[(0, .sl (List.map G.inquestref22_F.av a_0)), (1, .sl (List.map G.inquestref22_F.av b_1))], .empty⟩ _
 refine awp_seqK fun K1 hK1 => awp_reg rfl <| AR.op rfl (aop_move (.inr rfl) rfl) <| AR.nil <| hK1 _ (AWP.weak (Weak.kt [0, 1] rfl) ?_)
 refine awp_seqK fun K2 hK2 => awp_seqK fun K3 hK3 => awp_reg rfl <| AR.op rfl (aop_move (.inl rfl) rfl) <| AR.op rfl (t_len_sl G.inquestref22_F.av a_0 rfl rfl el40) <| AR.op rfl (aop_move (.inl rfl) rfl) <| AR.keep [0, 1, 10, 11] rfl <| AR.op rfl (t_len_sl G.inquestref22_F.av b_1 rfl rfl el40) ?_
 refine AR.op (r := bl (decide ((Sh.len a_0) ≠ (Sh.len b_1)))) rfl (aop_neq rfl rfl rfl) <| AR.nil <| hK3 _ (AWP.weak (Weak.kt [0, 1, 13] rfl) ?_)
 refine awp_cond rfl (fun hb72 => ?_) (fun hb72 => ?_)
 ·replace h := Sh.if_t h hb72
  refine awp_seqK fun K4 hK4 => awp_reg rfl <| AR.op rfl (aop_move (.inr rfl) rfl) <| AR.nil <| hK4 _ (AWP.weak (Weak.kt [4] rfl) ?_)
  refine awp_ret ?_
  obtain rfl := Option.some.inj h
  refine ⟨.inr rfl, bl false, rfl, ?_⟩
  exact Weak.e ⟨.k, trivial⟩
 ·replace h := Sh.if_f h hb72
  refine awp_skip <| hK2 _ (AWP.weak (Weak.kt [0, 1] rfl) ?_)
  refine awp_seqJ (fun (p : Unit) => (⟨[], .empty⟩ : St)) (fun (p : Unit) => G.inquestref23_Same_j1 = some r) ?_ ?_
  ·rintro ⟨⟩ h
   replace h : G.inquestref23_Same_j1 = some r := h
   unfold G.inquestref23_Same_j1 at h
   refine awp_seqK fun K5 hK5 => awp_reg rfl <| AR.op rfl (aop_move (.inr rfl) rfl) <| AR.nil <| hK5 _ ?_
   refine awp_ret ?_
   obtain rfl := Option.some.inj h
   refine ⟨.inr rfl, bl true, rfl, ?_⟩
   exact Weak.e ⟨.k, trivial⟩
  ·intro K6 hK6
   refine awp_seqK fun K7 hK7 => awp_reg rfl <| AR.op rfl (aop_move (.inr rfl) rfl) <| AR.nil <| hK7 _ ?_
   refine awp_block <| awp_iter (fun (p : Int) => G.inquestref23_Same_b1 a_0 b_1 p) (fun (p : Int) => (⟨[(0, .sl (List.map G.inquestref22_F.av a_0)), (1, .sl (List.map G.inquestref22_F.av b_1)), (5, i64 p)], .empty⟩ : St)) h (Weak.kt [0, 1, 5] rfl) ?_
   ·skip
    rintro i191 o1 h hx1
    replace h : G.inquestref23_Same_b1 a_0 b_1 i191 = some o1 := h
    unfold G.inquestref23_Same_b1 at h
    refine awp_seqK fun K8 hK8 => awp_seqK fun K9 hK9 => awp_reg rfl <| AR.op rfl (aop_move (.inl rfl) rfl) <| AR.op rfl (aop_move (.inl rfl) rfl) <| AR.op rfl (t_len_sl G.inquestref22_F.av a_0 rfl rfl el40) <| AR.keep [0, 1, 5, 14, 16] rfl <| AR.op rfl (aop_lss rfl rfl rfl) ?_
    refine AR.nil <| hK9 _ (AWP.weak (Weak.kt [0, 1, 5, 17] rfl) ?_)
    refine awp_cond rfl (fun hb192 => ?_) (fun hb192 => ?_)
    ·replace h := Sh.if_t h hb192
     refine awp_skip <| hK8 _ (AWP.weak (Weak.kt [0, 1, 5] rfl) ?_)
     refine awp_seqJ (fun (p : Unit) => (⟨[(0, .sl (List.map G.inquestref22_F.av a_0)), (1, .sl (List.map G.inquestref22_F.av b_1)), (5, i64 i191)], .empty⟩ : St)) (fun (p : Unit) => G.inquestref23_Same_j2 i191 = some o1) ?_ ?_
     ·rintro ⟨⟩ h
      replace h : G.inquestref23_Same_j2 i191 = some o1 := h
      unfold G.inquestref23_Same_j2 at h
      refine awp_reg rfl <| AR.op rfl (aop_move (.inl rfl) rfl) <| AR.op rfl (aop_add rfl rfl rfl rfl) <| AR.op rfl (aop_move (.inr rfl) rfl) <| AR.nil ?_
      replace h := Sh.next_eq h
      exact ⟨_, h, Weak.kt [0, 1, 5] rfl⟩
     ·intro K10 hK10
      refine awp_block <| awp_seqK fun K11 hK11 => awp_reg rfl <| AR.op rfl (aop_move (.inl rfl) rfl) <| AR.op rfl (aop_move (.inl rfl) rfl) ?_
      obtain ⟨x218, hx218, h⟩ := Sh.bind_some' h
      obtain ⟨k219, hi219, hl219⟩ := Sh.idx_some hx218
      refine AR.op rfl (t_index_sl G.inquestref22_F.av a_0 hi219 hl219 rfl rfl rfl el40 rfl) <| AR.keep [0, 1, 5, 22] rfl <| AR.op (r := G.inquestref22_F.av x218) rfl (aop_load_pp rfl rfl sz48 rfl) <| AR.op (r := .ref 0 0 0) rfl (aop_alloc 7 [.agg [i64 0, i64 0, i64 0, i64 0, i64 0, i64 0, nilS]] rfl zr48 (by kernel_rfl) (.inl ⟨rfl, rfl⟩)) <| AR.op rfl (aop_store (e' := G.inquestref22_F.av x218) rfl rfl rfl rfl rfl rfl sz48 rfl dt rfl) <| AR.nil <| hK11 _ (AWP.weak (Weak.e (fr' := [(0, .sl (List.map G.inquestref22_F.av a_0)), (1, .sl (List.map G.inquestref22_F.av b_1)), (5, i64 i191), (6, .pp [i64 x218.C.Key, i64 x218.C.A, i64 x218.C.B, i64 x218.Kind, i64 x218.I, i64 x218.J, .sl (List.map i64 x218.Cycle)] 0)]) (H' := .empty) ⟨⟨.sl (List.map G.inquestref22_F.av a_0), rfl, .sm⟩, ⟨.sl (List.map G.inquestref22_F.av b_1), rfl, .sm⟩, .k, ⟨_, rfl, .frzA rfl rfl rfl rfl (by simp)⟩, trivial⟩) ?_)
      refine awp_seqK fun K12 hK12 => awp_reg rfl <| AR.op rfl (aop_move (.inl rfl) rfl) <| AR.op rfl (aop_move (.inl rfl) rfl) ?_
      obtain ⟨x222, hx222, h⟩ := Sh.bind_some' h
      obtain ⟨k223, hi223, hl223⟩ := Sh.idx_some hx222
      refine AR.op rfl (t_index_sl G.inquestref22_F.av b_1 hi223 hl223 rfl rfl rfl el40 rfl) <| AR.keep [0, 1, 5, 6, 26] rfl <| AR.op (r := G.inquestref22_F.av x222) rfl (aop_load_pp rfl rfl sz48 rfl) <| AR.op (r := .ref 0 0 0) rfl (aop_alloc 7 [.agg [i64 0, i64 0, i64 0, i64 0, i64 0, i64 0, nilS]] rfl zr48 (by kernel_rfl) (.inl ⟨rfl, rfl⟩)) <| AR.op rfl (aop_store (e' := G.inquestref22_F.av x222) rfl rfl rfl rfl rfl rfl sz48 rfl dt rfl) <| AR.nil <| hK12 _ (AWP.weak (Weak.e (fr' := [(0, .sl (List.map G.inquestref22_F.av a_0)), (1, .sl (List.map G.inquestref22_F.av b_1)), (5, i64 i191), (6, .pp [i64 x218.C.Key, i64 x218.C.A, i64 x218.C.B, i64 x218.Kind, i64 x218.I, i64 x218.J, .sl (List.map i64 x218.Cycle)] 0), (7, .pp [i64 x222.C.Key, i64 x222.C.A, i64 x222.C.B, i64 x222.Kind, i64 x222.I, i64 x222.J, .sl (List.map i64 x222.Cycle)] 0)]) (H' := .empty) ⟨⟨.sl (List.map G.inquestref22_F.av a_0), rfl, .sm⟩, ⟨.sl (List.map G.inquestref22_F.av b_1), rfl, .sm⟩, .k, .k, ⟨_, rfl, .frzA rfl rfl rfl rfl (by simp)⟩, trivial⟩) ?_)
      refine awp_seqK fun K13 hK13 => awp_seqJ (fun (p : Bool) => (⟨[(0, .sl (List.map G.inquestref22_F.av a_0)), (1, .sl (List.map G.inquestref22_F.av b_1)), (5, i64 i191), (6, .pp [i64 x218.C.Key, i64 x218.C.A, i64 x218.C.B, i64 x218.Kind, i64 x218.I, i64 x218.J, .sl (List.map i64 x218.Cycle)] 0), (7, .pp [i64 x222.C.Key, i64 x222.C.A, i64 x222.C.B, i64 x222.Kind, i64 x222.I, i64 x222.J, .sl (List.map i64 x222.Cycle)] 0), (62, bl p)], .empty⟩ : St)) (fun (p : Bool) => G.inquestref23_Same_j3 i191 x218 x222 p = some o1) ?_ ?_
      ·rintro v233 h
       replace h : G.inquestref23_Same_j3 i191 x218 x222 v233 = some o1 := h
       unfold G.inquestref23_Same_j3 at h
       refine awp_cond rfl (fun hb234 => ?_) (fun hb234 => ?_)
       ·replace h := Sh.if_t h hb234
        refine awp_seqK fun K14 hK14 => awp_reg rfl <| AR.op rfl (aop_move (.inr rfl) rfl) <| AR.nil <| hK14 _ (AWP.weak (Weak.kt [4] rfl) ?_)
        refine awp_ret ?_
        replace h := Sh.exit_eq h hx1
        obtain rfl := Option.some.inj h
        refine ⟨.inr rfl, bl false, rfl, ?_⟩
        exact Weak.e ⟨.k, trivial⟩
       ·replace h := Sh.if_f h hb234
        refine awp_skip <| hK13 _ (AWP.weak (Weak.kt [0, 1, 5, 6, 7] rfl) ?_)
        refine awp_seqK fun K15 hK15 => awp_reg rfl <| AR.op rfl (aop_move (.inr rfl) rfl) <| AR.nil <| hK15 _ ?_
        refine awp_block <| awp_iter (fun (p : Int) => G.inquestref23_Same_b2 i191 x218 x222 p) (fun (p : Int) => (⟨[(0, .sl (List.map G.inquestref22_F.av a_0)), (1, .sl (List.map G.inquestref22_F.av b_1)), (5, i64 i191), (6, .pp [i64 x218.C.Key, i64 x218.C.A, i64 x218.C.B, i64 x218.Kind, i64 x218.I, i64 x218.J, .sl (List.map i64 x218.Cycle)] 0), (7, .pp [i64 x222.C.Key, i64 x222.C.A, i64 x222.C.B, i64 x222.Kind, i64 x222.I, i64 x222.J, .sl (List.map i64 x222.Cycle)] 0), (8, i64 p)], .empty⟩ : St)) h (Weak.kt [0, 1, 5, 6, 7, 8] rfl) ?_
        ·skip
         rintro k244 o2 h hx2
         replace h : G.inquestref23_Same_b2 i191 x218 x222 k244 = some o2 := h
         unfold G.inquestref23_Same_b2 at h
         refine awp_seqK fun K16 hK16 => awp_seqK fun K17 hK17 => awp_reg rfl <| AR.op rfl (aop_move (.inl rfl) rfl) <| AR.op rfl (aop_field_pp rfl rfl fd48_4 (by decide)) <| AR.op (r := .sl (List.map i64 x218.Cycle)) rfl (aop_load_pp rfl rfl sz36 rfl) <| AR.keep [0, 1, 5, 6, 7, 8, 63, 65] rfl <| AR.op rfl (t_len_sl i64 x218.Cycle rfl rfl el36) ?_
         refine AR.op rfl (aop_lss rfl rfl rfl) <| AR.nil <| hK17 _ (AWP.weak (Weak.kt [0, 1, 5, 6, 7, 8, 67] rfl) ?_)
         refine awp_cond rfl (fun hb245 => ?_) (fun hb245 => ?_)
         ·replace h := Sh.if_t h hb245
          refine awp_skip <| hK16 _ (AWP.weak (Weak.kt [0, 1, 5, 6, 7, 8] rfl) ?_)
          refine awp_seqK fun K18 hK18 => awp_block <| awp_seqK fun K19 hK19 => awp_any [(true, false), (true, false), (true, false), (true, false), (true, false), (true, false), (true, false), (true, false), (true, false), (true, false), (true, false)] (by kernel_rfl) (by kernel_rfl) rfl ?_
          refine ARH.dry rfl (fun _ => aop_field_pp rfl rfl fd48_4 (by decide)) <| ARH.dry (r := .sl (List.map i64 x218.Cycle)) rfl (fun _ => aop_load_pp rfl rfl sz36 rfl) <| ARH.dry rfl (fun _ => aop_move (.inl rfl) rfl) <| ARH.keep [0, 1, 5, 6, 7, 8, 71, 72] rfl ?_
          obtain ⟨x254, hx254, h⟩ := Sh.bind_some' h
          obtain ⟨k255, hi255, hl255⟩ := Sh.idx_some hx254
          refine ARH.dry rfl (fun _ => t_index_sl i64 x218.Cycle hi255 hl255 rfl rfl rfl el36 rfl) <| ARH.dry (r := i64 x254) rfl (fun _ => aop_load_pp rfl rfl sz3 rfl) <| ARH.dry rfl (fun _ => aop_field_pp rfl rfl fd48_4 (by decide)) <| ARH.keep [0, 1, 5, 6, 7, 8, 74, 75] rfl <| ARH.dry (r := .sl (List.map i64 x222.Cycle)) rfl (fun _ => aop_load_pp rfl rfl sz36 rfl) <| ARH.dry rfl (fun _ => aop_move (.inl rfl) rfl) ?_
          obtain ⟨x256, hx256, h⟩ := Sh.bind_some' h
          obtain ⟨k257, hi257, hl257⟩ := Sh.idx_some hx256
          refine ARH.dry rfl (fun _ => t_index_sl i64 x222.Cycle hi257 hl257 rfl rfl rfl el36 rfl) <| ARH.keep [0, 1, 5, 6, 7, 8, 74, 78] rfl <| ARH.dry (r := i64 x256) rfl (fun _ => aop_load_pp rfl rfl sz3 rfl) <| ARH.dry (r := bl (decide (x254 ≠ x256))) rfl (fun _ => aop_neq rfl rfl rfl) <| ARH.nil <| hK19 _ (AWP.weak (Weak.kt [0, 1, 5, 6, 7, 8, 80] rfl) ?_)
          refine awp_cond rfl (fun hb258 => ?_) (fun hb258 => ?_)
          ·replace h := Sh.if_t h hb258
           refine awp_seqK fun K20 hK20 => awp_reg rfl <| AR.op rfl (aop_move (.inr rfl) rfl) <| AR.nil <| hK20 _ (AWP.weak (Weak.kt [4] rfl) ?_)
           refine awp_ret ?_
           replace h := Sh.exit_eq h hx2
           replace h := Sh.exit_eq h hx1
           obtain rfl := Option.some.inj h
           refine ⟨.inr rfl, bl false, rfl, ?_⟩
           exact Weak.e ⟨.k, trivial⟩
          ·replace h := Sh.if_f h hb258
           refine awp_skip <| hK18 _ (AWP.weak (Weak.kt [0, 1, 5, 6, 7, 8] rfl) ?_)
           refine awp_reg rfl <| AR.op rfl (aop_move (.inl rfl) rfl) <| AR.op rfl (aop_add rfl rfl rfl rfl) <| AR.op rfl (aop_move (.inr rfl) rfl) <| AR.nil ?_
           replace h := Sh.next_eq h
           exact ⟨_, h, Weak.kt [0, 1, 5, 6, 7, 8] rfl⟩
         ·replace h := Sh.if_f h hb245
          refine awp_exit ?_
          replace h := Sh.exit_eq h hx2
          exact hK10 () _ h (Weak.kt [0, 1, 5] rfl)
      ·intro K21 hK21
       refine awp_reg rfl <| AR.op rfl (aop_field_pp rfl rfl fd48_0 (by decide)) <| AR.op (r := G.api_Choice.av x218.C) rfl (aop_load_pp rfl rfl sz35 rfl) <| AR.op rfl (aop_field_pp rfl rfl fd48_0 (by decide)) <| AR.keep [0, 1, 5, 6, 7, 29, 30] rfl <| AR.op (r := G.api_Choice.av x222.C) rfl (aop_load_pp rfl rfl sz35 rfl) <| AR.op (r := bl (!decide (x218.C = x222.C))) rfl (t_ne_api_Choice (a := x218.C) (b := x222.C) rfl rfl rfl) <| AR.op rfl (aop_move (.inl rfl) rfl) ?_
       refine AR.keep [0, 1, 5, 6, 7, 33] rfl ?_
       rcases Bool.eq_false_or_eq_true (!decide (x218.C = x222.C)) with hb259 | hb259
       ·rw [hb259]
        replace h := Sh.if_t h hb259
        refine AR.skip rfl <| AR.skip rfl <| AR.skip rfl <| AR.keep [0, 1, 5, 6, 7, 33, 34, 35, 36] rfl <| AR.skip rfl <| AR.skip rfl <| AR.op rfl (aop_pick rfl rfl rfl) <| AR.keep [0, 1, 5, 6, 7, 34, 35, 36, 37, 38, 39] rfl ?_
        refine AR.op rfl (aop_move (.inl rfl) rfl) <| AR.skip rfl <| AR.skip rfl <| AR.keep [0, 1, 5, 6, 7, 34, 35, 36, 37, 38, 40, 41, 42] rfl <| AR.skip rfl <| AR.skip rfl <| AR.skip rfl <| AR.keep [0, 1, 5, 6, 7, 34, 35, 36, 37, 38, 40, 41, 42, 43, 44, 45] rfl ?_
        refine AR.op rfl (aop_pick rfl rfl rfl) <| AR.op rfl (aop_move (.inl rfl) rfl) <| AR.skip rfl <| AR.keep [0, 1, 5, 6, 7, 34, 35, 36, 37, 38, 41, 42, 43, 44, 45, 47, 48] rfl <| AR.skip rfl <| AR.skip rfl <| AR.skip rfl <| AR.keep [0, 1, 5, 6, 7, 34, 35, 36, 37, 38, 41, 42, 43, 44, 45, 47, 48, 49, 50, 51] rfl ?_
        refine AR.skip rfl <| AR.op rfl (aop_pick rfl rfl rfl) <| AR.op rfl (aop_move (.inl rfl) rfl) <| AR.keep [0, 1, 5, 6, 7, 34, 35, 36, 37, 38, 41, 42, 43, 44, 45, 48, 49, 50, 51, 52, 54] rfl <| AR.skip rfl <| AR.skip rfl <| AR.skip rfl <| AR.keep [0, 1, 5, 6, 7, 34, 35, 36, 37, 38, 41, 42, 43, 44, 45, 48, 49, 50, 51, 52, 54, 55, 56, 57] rfl ?_
        refine AR.skip rfl <| AR.skip rfl <| AR.skip rfl <| AR.keep [0, 1, 5, 6, 7, 34, 35, 36, 37, 38, 41, 42, 43, 44, 45, 48, 49, 50, 51, 52, 54, 55, 56, 57, 58, 59, 60] rfl <| AR.skip rfl <| AR.op rfl (aop_pick rfl rfl rfl) <| AR.nil ?_
        exact hK21 true _ h (Weak.kt [0, 1, 5, 6, 7, 62] rfl)
       ·rw [hb259]
        replace h := Sh.if_f h hb259
        refine AR.op rfl (aop_field_pp rfl rfl fd48_1 (by decide)) <| AR.op (r := i64 x218.Kind) rfl (aop_load_pp rfl rfl sz3 rfl) <| AR.op rfl (aop_field_pp rfl rfl fd48_1 (by decide)) <| AR.keep [0, 1, 5, 6, 7, 33, 34, 35, 36] rfl <| AR.op (r := i64 x222.Kind) rfl (aop_load_pp rfl rfl sz3 rfl) <| AR.op (r := bl (decide (x218.Kind ≠ x222.Kind))) rfl (aop_neq rfl rfl rfl) <| AR.op rfl (aop_pick rfl rfl rfl) <| AR.keep [0, 1, 5, 6, 7, 34, 35, 36, 37, 38, 39] rfl ?_
        refine AR.op rfl (aop_move (.inl rfl) rfl) ?_
        rcases Bool.eq_false_or_eq_true (decide (x218.Kind ≠ x222.Kind)) with hb260 | hb260
        ·rw [hb260]
         replace h := Sh.if_t h hb260
         refine AR.skip rfl <| AR.skip rfl <| AR.keep [0, 1, 5, 6, 7, 34, 35, 36, 37, 38, 40, 41, 42] rfl <| AR.skip rfl <| AR.skip rfl <| AR.skip rfl <| AR.keep [0, 1, 5, 6, 7, 34, 35, 36, 37, 38, 40, 41, 42, 43, 44, 45] rfl <| AR.op rfl (aop_pick rfl rfl rfl) ?_
         refine AR.op rfl (aop_move (.inl rfl) rfl) <| AR.skip rfl <| AR.keep [0, 1, 5, 6, 7, 34, 35, 36, 37, 38, 41, 42, 43, 44, 45, 47, 48] rfl <| AR.skip rfl <| AR.skip rfl <| AR.skip rfl <| AR.keep [0, 1, 5, 6, 7, 34, 35, 36, 37, 38, 41, 42, 43, 44, 45, 47, 48, 49, 50, 51] rfl <| AR.skip rfl ?_
         refine AR.op rfl (aop_pick rfl rfl rfl) <| AR.op rfl (aop_move (.inl rfl) rfl) <| AR.keep [0, 1, 5, 6, 7, 34, 35, 36, 37, 38, 41, 42, 43, 44, 45, 48, 49, 50, 51, 52, 54] rfl <| AR.skip rfl <| AR.skip rfl <| AR.skip rfl <| AR.keep [0, 1, 5, 6, 7, 34, 35, 36, 37, 38, 41, 42, 43, 44, 45, 48, 49, 50, 51, 52, 54, 55, 56, 57] rfl <| AR.skip rfl ?_
         refine AR.skip rfl <| AR.skip rfl <| AR.keep [0, 1, 5, 6, 7, 34, 35, 36, 37, 38, 41, 42, 43, 44, 45, 48, 49, 50, 51, 52, 54, 55, 56, 57, 58, 59, 60] rfl <| AR.skip rfl <| AR.op rfl (aop_pick rfl rfl rfl) <| AR.nil ?_
         exact hK21 true _ h (Weak.kt [0, 1, 5, 6, 7, 62] rfl)
        ·rw [hb260]
         replace h := Sh.if_f h hb260
         refine AR.op rfl (aop_field_pp rfl rfl fd48_2 (by decide)) <| AR.op (r := i64 x218.I) rfl (aop_load_pp rfl rfl sz3 rfl) <| AR.keep [0, 1, 5, 6, 7, 34, 35, 36, 37, 38, 40, 41, 42] rfl <| AR.op rfl (aop_field_pp rfl rfl fd48_2 (by decide)) <| AR.op (r := i64 x222.I) rfl (aop_load_pp rfl rfl sz3 rfl) <| AR.op (r := bl (decide (x218.I ≠ x222.I))) rfl (aop_neq rfl rfl rfl) <| AR.keep [0, 1, 5, 6, 7, 34, 35, 36, 37, 38, 40, 41, 42, 43, 44, 45] rfl <| AR.op rfl (aop_pick rfl rfl rfl) ?_
         refine AR.op rfl (aop_move (.inl rfl) rfl) ?_
         rcases Bool.eq_false_or_eq_true (decide (x218.I ≠ x222.I)) with hb261 | hb261
         ·rw [hb261]
          replace h := Sh.if_t h hb261
          refine AR.skip rfl <| AR.keep [0, 1, 5, 6, 7, 34, 35, 36, 37, 38, 41, 42, 43, 44, 45, 47, 48] rfl <| AR.skip rfl <| AR.skip rfl <| AR.skip rfl <| AR.keep [0, 1, 5, 6, 7, 34, 35, 36, 37, 38, 41, 42, 43, 44, 45, 47, 48, 49, 50, 51] rfl <| AR.skip rfl <| AR.op rfl (aop_pick rfl rfl rfl) ?_
          refine AR.op rfl (aop_move (.inl rfl) rfl) <| AR.keep [0, 1, 5, 6, 7, 34, 35, 36, 37, 38, 41, 42, 43, 44, 45, 48, 49, 50, 51, 52, 54] rfl <| AR.skip rfl <| AR.skip rfl <| AR.skip rfl <| AR.keep [0, 1, 5, 6, 7, 34, 35, 36, 37, 38, 41, 42, 43, 44, 45, 48, 49, 50, 51, 52, 54, 55, 56, 57] rfl <| AR.skip rfl <| AR.skip rfl ?_
          refine AR.skip rfl <| AR.keep [0, 1, 5, 6, 7, 34, 35, 36, 37, 38, 41, 42, 43, 44, 45, 48, 49, 50, 51, 52, 54, 55, 56, 57, 58, 59, 60] rfl <| AR.skip rfl <| AR.op rfl (aop_pick rfl rfl rfl) <| AR.nil ?_
          exact hK21 true _ h (Weak.kt [0, 1, 5, 6, 7, 62] rfl)
         ·rw [hb261]
          replace h := Sh.if_f h hb261
          refine AR.op rfl (aop_field_pp rfl rfl fd48_3 (by decide)) <| AR.keep [0, 1, 5, 6, 7, 34, 35, 36, 37, 38, 41, 42, 43, 44, 45, 47, 48] rfl <| AR.op (r := i64 x218.J) rfl (aop_load_pp rfl rfl sz3 rfl) <| AR.op rfl (aop_field_pp rfl rfl fd48_3 (by decide)) <| AR.op (r := i64 x222.J) rfl (aop_load_pp rfl rfl sz3 rfl) <| AR.keep [0, 1, 5, 6, 7, 34, 35, 36, 37, 38, 41, 42, 43, 44, 45, 47, 48, 49, 50, 51] rfl <| AR.op (r := bl (decide (x218.J ≠ x222.J))) rfl (aop_neq rfl rfl rfl) <| AR.op rfl (aop_pick rfl rfl rfl) ?_
          refine AR.op rfl (aop_move (.inl rfl) rfl) <| AR.keep [0, 1, 5, 6, 7, 34, 35, 36, 37, 38, 41, 42, 43, 44, 45, 48, 49, 50, 51, 52, 54] rfl ?_
          rcases Bool.eq_false_or_eq_true (decide (x218.J ≠ x222.J)) with hb262 | hb262
          ·rw [hb262]
           replace h := Sh.if_t h hb262
           refine AR.skip rfl <| AR.skip rfl <| AR.skip rfl <| AR.keep [0, 1, 5, 6, 7, 34, 35, 36, 37, 38, 41, 42, 43, 44, 45, 48, 49, 50, 51, 52, 54, 55, 56, 57] rfl <| AR.skip rfl <| AR.skip rfl <| AR.skip rfl <| AR.keep [0, 1, 5, 6, 7, 34, 35, 36, 37, 38, 41, 42, 43, 44, 45, 48, 49, 50, 51, 52, 54, 55, 56, 57, 58, 59, 60] rfl ?_
           refine AR.skip rfl <| AR.op rfl (aop_pick rfl rfl rfl) <| AR.nil ?_
           exact hK21 true _ h (Weak.kt [0, 1, 5, 6, 7, 62] rfl)
          ·rw [hb262]
           replace h := Sh.if_f h hb262
           refine AR.op rfl (aop_field_pp rfl rfl fd48_4 (by decide)) <| AR.op (r := .sl (List.map i64 x218.Cycle)) rfl (aop_load_pp rfl rfl sz36 rfl) <| AR.op rfl (t_len_sl i64 x218.Cycle rfl rfl el36) <| AR.keep [0, 1, 5, 6, 7, 34, 35, 36, 37, 38, 41, 42, 43, 44, 45, 48, 49, 50, 51, 52, 54, 55, 56, 57] rfl <| AR.op rfl (aop_field_pp rfl rfl fd48_4 (by decide)) <| AR.op (r := .sl (List.map i64 x222.Cycle)) rfl (aop_load_pp rfl rfl sz36 rfl) <| AR.op rfl (t_len_sl i64 x222.Cycle rfl rfl el36) <| AR.keep [0, 1, 5, 6, 7, 34, 35, 36, 37, 38, 41, 42, 43, 44, 45, 48, 49, 50, 51, 52, 54, 55, 56, 57, 58, 59, 60] rfl ?_
           refine AR.op (r := bl (decide ((Sh.len x218.Cycle) ≠ (Sh.len x222.Cycle)))) rfl (aop_neq rfl rfl rfl) <| AR.op rfl (aop_pick rfl rfl rfl) <| AR.nil ?_
           exact hK21 (decide ((Sh.len x218.Cycle) ≠ (Sh.len x222.Cycle))) _ h (Weak.kt [0, 1, 5, 6, 7, 62] rfl)
    ·replace h := Sh.if_f h hb192
     refine awp_exit ?_
     replace h := Sh.exit_eq h hx1
     exact hK6 () _ h (Weak.kt [] rfl)
theorem inquestref23_Same_ok {W0 : World} (hT : Tab W0) {a_0 : List G.inquestref22_F} {b_1 : List G.inquestref22_F} {r : Bool} (h : G.inquestref23_Same a_0 b_1 = some r) : Fun1 Try.prog W0 15 [.sl (List.map G.inquestref22_F.av a_0), .sl (List.map G.inquestref22_F.av b_1)] (bl r) := Fun1.two (inquestref23_Same_ok0 hT h) (by simp)

end Wk
