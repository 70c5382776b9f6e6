/- That a statement does what its plain function says. -/
import Derived.Test.YtnbabpgakdefjaaWkFinquestlaw22
open Go Go.Av Go.Proofs
set_option linter.unusedVariables false
set_option maxHeartbeats 8000000
set_option maxRecDepth 20000
namespace Wk
theorem inquestlaw22_FactBoth_ok0 {W0 : World} (hT : Tab W0) {x_0 : G.inquestlaw22_Case} {g_1 : G.fact_Fact} {r : Bool} (h : G.inquestlaw22_FactBoth x_0 g_1 = some r) : Fun2 Try.prog W0 6 [G.inquestlaw22_Case.av x_0, G.fact_Fact.av g_1] (bl r) .empty := by
 refine fun2_of_awp Try.func6 rfl (by kernel_rfl) Try.ntmps6 (by simp) ?_
 unfold G.inquestlaw22_FactBoth at h
 show AWP _ _ _ _ ⟨[(0, G.inquestlaw22_Case.av x_0), (1, G.fact_Fact.av g_1)], .empty⟩ _
 refine awp_seqK fun K1 hK1 => awp_reg rfl <| AR.op (r := .ref 0 0 0) rfl (aop_box 10 [G.inquestlaw22_Case.av x_0] rfl rfl rfl (.inl ⟨rfl, rfl⟩)) <| AR.op (r := .ref 1 0 0) rfl (aop_box 7 [G.fact_Fact.av g_1] rfl rfl rfl (.inl ⟨rfl, rfl⟩)) <| AR.op rfl (aop_move (.inr rfl) rfl) <| AR.nil <| hK1 _ (AWP.weak (Weak.e (fr' := [(2, .pp [.sl (List.map G.api_Txn.av x_0.H.Txns), i64 x_0.Level, .sl (List.map G.fact_Fact.av x_0.L), i64 x_0.F.C.Key, i64 x_0.F.C.A, i64 x_0.F.C.B, i64 x_0.F.Kind, i64 x_0.F.I, i64 x_0.F.J, .sl (List.map i64 x_0.F.Cycle)] 0), (3, .pp [i64 g_1.C.Key, i64 g_1.C.A, i64 g_1.C.B, i64 g_1.Kind, i64 g_1.I, i64 g_1.J, .sl (List.map i64 g_1.Cycle)] 0)]) (H' := .empty) ⟨⟨_, rfl, .frzA rfl rfl rfl rfl (by simp)⟩, ⟨_, rfl, .frzA rfl rfl rfl rfl (by simp)⟩, trivial⟩) ?_)
 refine awp_seqK fun K2 hK2 => awp_reg rfl ?_
 obtain ⟨r21, hr21, h⟩ := Sh.bind_some' h
 refine AR.op (r := bl r21) rfl (aop_call1 rfl rfl (by simp) (inquestlaw22_awake_ok hT hr21)) <| AR.op rfl (aop_move (.inr rfl) rfl) <| AR.nil <| hK2 _ (AWP.weak (Weak.kt [2, 3, 5] rfl) ?_)
 refine awp_seqK fun K3 hK3 => awp_seqK fun K4 hK4 => awp_reg rfl <| AR.op rfl (aop_move (.inl rfl) rfl) <| AR.op (r := bl (!r21)) rfl (aop_not rfl rfl) <| AR.nil <| hK4 _ (AWP.weak (Weak.kt [2, 3, 12] rfl) ?_)
 refine awp_cond rfl (fun hb22 => ?_) (fun hb22 => ?_)
 ·replace h := Sh.if_t h hb22
  refine awp_seqK fun K5 hK5 => awp_reg rfl <| AR.op rfl (aop_move (.inr rfl) rfl) <| AR.nil <| hK5 _ (AWP.weak (Weak.kt [4] rfl) ?_)
  refine awp_ret ?_
  obtain rfl := Option.some.inj h
  refine ⟨.inr rfl, bl false, rfl, ?_⟩
  exact Weak.e ⟨.k, trivial⟩
 ·replace h := Sh.if_f h hb22
  refine awp_skip <| hK3 _ (AWP.weak (Weak.kt [2, 3] rfl) ?_)
  refine awp_seqK fun K6 hK6 => awp_reg rfl <| AR.op (r := G.inquestlaw22_Case.av x_0) rfl (aop_load_pp rfl rfl sz32 rfl) ?_
  obtain ⟨r24, hr24, h⟩ := Sh.bind_some' h
  refine AR.op (r := bl r24) rfl (aop_call1 rfl rfl (by simp) (inquestlaw22_few_ok hT hr24)) <| AR.op rfl (aop_move (.inr rfl) rfl) <| AR.nil <| hK6 _ (AWP.weak (Weak.kt [2, 3, 6] rfl) ?_)
  refine awp_seqK fun K7 hK7 => awp_seqJ (fun (p : Bool) => (⟨[(2, .pp [.sl (List.map G.api_Txn.av x_0.H.Txns), i64 x_0.Level, .sl (List.map G.fact_Fact.av x_0.L), i64 x_0.F.C.Key, i64 x_0.F.C.A, i64 x_0.F.C.B, i64 x_0.F.Kind, i64 x_0.F.I, i64 x_0.F.J, .sl (List.map i64 x_0.F.Cycle)] 0), (3, .pp [i64 g_1.C.Key, i64 g_1.C.A, i64 g_1.C.B, i64 g_1.Kind, i64 g_1.I, i64 g_1.J, .sl (List.map i64 g_1.Cycle)] 0), (22, bl p)], .empty⟩ : St)) (fun (p : Bool) => G.inquestlaw22_FactBoth_j1 x_0 g_1 p = some r) ?_ ?_
  ·rintro v28 h
   replace h : G.inquestlaw22_FactBoth_j1 x_0 g_1 v28 = some r := h
   unfold G.inquestlaw22_FactBoth_j1 at h
   show AWP _ _ _ _ ⟨[(2, .pp [.sl (List.map G.api_Txn.av x_0.H.Txns), i64 x_0.Level, .sl (List.map G.fact_Fact.av x_0.L), i64 x_0.F.C.Key, i64 x_0.F.C.A, i64 x_0.F.C.B, i64 x_0.F.Kind, i64 x_0.F.I, i64 x_0.F.J, .sl (List.map i64 x_0.F.Cycle)] 0), (3, .pp [i64 g_1.C.Key, i64 g_1.C.A, i64 g_1.C.B, i64 g_1.Kind, i64 g_1.I, i64 g_1.J, .sl (List.map i64 g_1.Cycle)] 0), (22, bl v28)], .empty⟩ _
   refine awp_cond rfl (fun hb29 => ?_) (fun hb29 => ?_)
   ·replace h := Sh.if_t h hb29
    refine awp_seqK fun K8 hK8 => awp_reg rfl <| AR.op rfl (aop_move (.inr rfl) rfl) <| AR.nil <| hK8 _ (AWP.weak (Weak.kt [4] rfl) ?_)
    refine awp_ret ?_
    obtain rfl := Option.some.inj h
    refine ⟨.inr rfl, bl true, rfl, ?_⟩
    exact Weak.e ⟨.k, trivial⟩
   ·replace h := Sh.if_f h hb29
    refine awp_skip <| hK7 _ (AWP.weak (Weak.kt [2, 3] rfl) ?_)
    refine awp_seqK fun K9 hK9 => awp_reg rfl <| AR.op rfl (aop_field_pp rfl rfl fd32_0 (by decide)) <| AR.op (r := G.api_Hist.av x_0.H) rfl (aop_load_pp rfl rfl sz24 rfl) ?_
    obtain ⟨r31, hr31, h⟩ := Sh.bind_some' h
    refine AR.op (r := bl r31) rfl (aop_call1 rfl rfl (by simp) (inquestref22_Small_ok hT hr31)) <| AR.keep [2, 3, 25] rfl <| AR.op rfl (aop_move (.inr rfl) rfl) <| AR.nil <| hK9 _ (AWP.weak (Weak.kt [2, 3, 7] rfl) ?_)
    refine awp_seqK fun K10 hK10 => awp_seqJ (fun (p : Bool) => (⟨[(2, .pp [.sl (List.map G.api_Txn.av x_0.H.Txns), i64 x_0.Level, .sl (List.map G.fact_Fact.av x_0.L), i64 x_0.F.C.Key, i64 x_0.F.C.A, i64 x_0.F.C.B, i64 x_0.F.Kind, i64 x_0.F.I, i64 x_0.F.J, .sl (List.map i64 x_0.F.Cycle)] 0), (3, .pp [i64 g_1.C.Key, i64 g_1.C.A, i64 g_1.C.B, i64 g_1.Kind, i64 g_1.I, i64 g_1.J, .sl (List.map i64 g_1.Cycle)] 0), (60, bl p)], .empty⟩ : St)) (fun (p : Bool) => G.inquestlaw22_FactBoth_j2 x_0 g_1 p = some r) ?_ ?_
    ·rintro v45 h
     replace h : G.inquestlaw22_FactBoth_j2 x_0 g_1 v45 = some r := h
     unfold G.inquestlaw22_FactBoth_j2 at h
     show AWP _ _ _ _ ⟨[(2, .pp [.sl (List.map G.api_Txn.av x_0.H.Txns), i64 x_0.Level, .sl (List.map G.fact_Fact.av x_0.L), i64 x_0.F.C.Key, i64 x_0.F.C.A, i64 x_0.F.C.B, i64 x_0.F.Kind, i64 x_0.F.I, i64 x_0.F.J, .sl (List.map i64 x_0.F.Cycle)] 0), (3, .pp [i64 g_1.C.Key, i64 g_1.C.A, i64 g_1.C.B, i64 g_1.Kind, i64 g_1.I, i64 g_1.J, .sl (List.map i64 g_1.Cycle)] 0), (60, bl v45)], .empty⟩ _
     refine awp_cond rfl (fun hb46 => ?_) (fun hb46 => ?_)
     ·replace h := Sh.if_t h hb46
      refine awp_seqK fun K11 hK11 => awp_reg rfl <| AR.op rfl (aop_move (.inr rfl) rfl) <| AR.nil <| hK11 _ (AWP.weak (Weak.kt [4] rfl) ?_)
      refine awp_ret ?_
      obtain rfl := Option.some.inj h
      refine ⟨.inr rfl, bl true, rfl, ?_⟩
      exact Weak.e ⟨.k, trivial⟩
     ·replace h := Sh.if_f h hb46
      refine awp_skip <| hK10 _ (AWP.weak (Weak.kt [2, 3] rfl) ?_)
      refine awp_seqK fun K12 hK12 => awp_seqJ (fun (p : Bool) => (⟨[(2, .pp [.sl (List.map G.api_Txn.av x_0.H.Txns), i64 x_0.Level, .sl (List.map G.fact_Fact.av x_0.L), i64 x_0.F.C.Key, i64 x_0.F.C.A, i64 x_0.F.C.B, i64 x_0.F.Kind, i64 x_0.F.I, i64 x_0.F.J, .sl (List.map i64 x_0.F.Cycle)] 0), (3, .pp [i64 g_1.C.Key, i64 g_1.C.A, i64 g_1.C.B, i64 g_1.Kind, i64 g_1.I, i64 g_1.J, .sl (List.map i64 g_1.Cycle)] 0), (88, bl p)], .empty⟩ : St)) (fun (p : Bool) => G.inquestlaw22_FactBoth_j3 x_0 g_1 p = some r) ?_ ?_
      ·rintro v52 h
       replace h : G.inquestlaw22_FactBoth_j3 x_0 g_1 v52 = some r := h
       unfold G.inquestlaw22_FactBoth_j3 at h
       show AWP _ _ _ _ ⟨[(2, .pp [.sl (List.map G.api_Txn.av x_0.H.Txns), i64 x_0.Level, .sl (List.map G.fact_Fact.av x_0.L), i64 x_0.F.C.Key, i64 x_0.F.C.A, i64 x_0.F.C.B, i64 x_0.F.Kind, i64 x_0.F.I, i64 x_0.F.J, .sl (List.map i64 x_0.F.Cycle)] 0), (3, .pp [i64 g_1.C.Key, i64 g_1.C.A, i64 g_1.C.B, i64 g_1.Kind, i64 g_1.I, i64 g_1.J, .sl (List.map i64 g_1.Cycle)] 0), (88, bl v52)], .empty⟩ _
       refine awp_cond rfl (fun hb53 => ?_) (fun hb53 => ?_)
       ·replace h := Sh.if_t h hb53
        refine awp_seqK fun K13 hK13 => awp_reg rfl <| AR.op rfl (aop_move (.inr rfl) rfl) <| AR.nil <| hK13 _ (AWP.weak (Weak.kt [4] rfl) ?_)
        refine awp_ret ?_
        obtain rfl := Option.some.inj h
        refine ⟨.inr rfl, bl true, rfl, ?_⟩
        exact Weak.e ⟨.k, trivial⟩
       ·replace h := Sh.if_f h hb53
        refine awp_skip <| hK12 _ (AWP.weak (Weak.kt [2, 3] rfl) ?_)
        refine awp_seqK fun K14 hK14 => awp_reg rfl <| AR.op rfl (aop_field_pp rfl rfl fd32_0 (by decide)) <| AR.op (r := G.api_Hist.av x_0.H) rfl (aop_load_pp rfl rfl sz24 rfl) <| AR.op rfl (aop_field_pp rfl rfl fd32_1 (by decide)) <| AR.keep [2, 3, 90, 91] rfl <| AR.op (r := i64 x_0.Level) rfl (aop_load_pp rfl rfl sz3 rfl) <| AR.op rfl (aop_field_pp rfl rfl fd30_0 (by decide)) ?_
        refine AR.op (r := G.api_Choice.av g_1.C) rfl (aop_load_pp rfl rfl sz27 rfl) <| AR.keep [2, 90, 92, 94] rfl ?_
        obtain ⟨r55, hr55, h⟩ := Sh.bind_some' h
        refine AR.op (r := bl r55) rfl (aop_call1 rfl rfl (by simp) (inquestref22_Must_ok hT hr55)) <| AR.op rfl (aop_move (.inr rfl) rfl) <| AR.nil <| hK14 _ (AWP.weak (Weak.kt [2, 8] rfl) ?_)
        refine awp_seqK fun K15 hK15 => awp_reg rfl <| AR.op rfl (aop_field_pp rfl rfl fd32_0 (by decide)) <| AR.op (r := G.api_Hist.av x_0.H) rfl (aop_load_pp rfl rfl sz24 rfl) <| AR.op rfl (aop_field_pp rfl rfl fd32_1 (by decide)) <| AR.keep [2, 8, 97, 98] rfl <| AR.op (r := i64 x_0.Level) rfl (aop_load_pp rfl rfl sz3 rfl) <| AR.op rfl (aop_field_pp rfl rfl fd32_3 (by decide)) ?_
        refine AR.op rfl (aop_field_pp rfl rfl fd30_0 (by decide)) <| AR.keep [8, 97, 99, 101] rfl <| AR.op (r := G.api_Choice.av x_0.F.C) rfl (aop_load_pp rfl rfl sz27 rfl) ?_
        obtain ⟨r57, hr57, h⟩ := Sh.bind_some' h
        refine AR.op (r := bl r57) rfl (aop_call1 rfl rfl (by simp) (inquestref22_Must_ok hT hr57)) <| AR.op rfl (aop_move (.inr rfl) rfl) <| AR.nil <| hK15 _ (AWP.weak (Weak.kt [8, 9] rfl) ?_)
        refine awp_seqK fun K16 hK16 => awp_reg rfl <| AR.op rfl (aop_move (.inl rfl) rfl) <| AR.op rfl (aop_move (.inl rfl) rfl) ?_
        rcases Bool.eq_false_or_eq_true (r55) with hb59 | hb59
        ·rw [hb59]
         replace h := Sh.if_t h hb59
         refine AR.op rfl (aop_move (.inl rfl) rfl) <| AR.keep [105, 106] rfl <| AR.op rfl (aop_pick rfl rfl rfl) <| AR.op rfl (aop_move (.inr rfl) rfl) <| AR.nil <| hK16 _ (AWP.weak (Weak.kt [4] rfl) ?_)
         refine awp_ret ?_
         obtain rfl := Option.some.inj h
         refine ⟨.inr rfl, bl r57, rfl, ?_⟩
         exact Weak.e ⟨.k, trivial⟩
        ·rw [hb59]
         replace h := Sh.if_f h hb59
         refine AR.skip rfl <| AR.keep [105, 106] rfl <| AR.op rfl (aop_pick rfl rfl rfl) <| AR.op rfl (aop_move (.inr rfl) rfl) <| AR.nil <| hK16 _ (AWP.weak (Weak.kt [4] rfl) ?_)
         refine awp_ret ?_
         obtain rfl := Option.some.inj h
         refine ⟨.inr rfl, bl false, rfl, ?_⟩
         exact Weak.e ⟨.k, trivial⟩
      ·intro K17 hK17
       refine awp_reg rfl <| AR.op rfl (aop_field_pp rfl rfl fd30_0 (by decide)) <| AR.op rfl (aop_field_pp rfl rfl fd27_0 (by decide)) <| AR.op (r := i64 g_1.C.Key) rfl (aop_load_pp rfl rfl sz3 rfl) <| AR.keep [2, 3, 63] rfl <| AR.op rfl (aop_field_pp rfl rfl fd32_3 (by decide)) <| AR.op rfl (aop_field_pp rfl rfl fd30_0 (by decide)) <| AR.op rfl (aop_field_pp rfl rfl fd27_0 (by decide)) ?_
       refine AR.keep [2, 3, 63, 66] rfl <| AR.op (r := i64 x_0.F.C.Key) rfl (aop_load_pp rfl rfl sz3 rfl) <| AR.op (r := bl (decide (g_1.C.Key ≠ x_0.F.C.Key))) rfl (aop_neq rfl rfl rfl) <| AR.op rfl (aop_move (.inl rfl) rfl) <| AR.keep [2, 3, 69] rfl ?_
       rcases Bool.eq_false_or_eq_true (decide (g_1.C.Key ≠ x_0.F.C.Key)) with hb60 | hb60
       ·rw [hb60]
        replace h := Sh.if_t h hb60
        refine AR.skip rfl <| AR.skip rfl <| AR.skip rfl <| AR.keep [2, 3, 69, 72] rfl <| AR.skip rfl <| AR.skip rfl <| AR.skip rfl <| AR.keep [2, 3, 69, 72, 75] rfl ?_
        refine AR.skip rfl <| AR.skip rfl <| AR.op rfl (aop_pick rfl rfl rfl) <| AR.keep [2, 3, 78] rfl <| AR.op rfl (aop_move (.inl rfl) rfl) <| AR.skip rfl <| AR.skip rfl <| AR.keep [2, 3, 79, 81] rfl ?_
        refine AR.skip rfl <| AR.skip rfl <| AR.skip rfl <| AR.keep [2, 3, 79, 82, 84] rfl <| AR.skip rfl <| AR.skip rfl <| AR.skip rfl <| AR.keep [2, 3, 79, 87] rfl ?_
        refine AR.op rfl (aop_pick rfl rfl rfl) <| AR.nil ?_
        exact hK17 true _ h (Weak.kt [2, 3, 88] rfl)
       ·rw [hb60]
        replace h := Sh.if_f h hb60
        refine AR.op rfl (aop_field_pp rfl rfl fd30_0 (by decide)) <| AR.op rfl (aop_field_pp rfl rfl fd27_1 (by decide)) <| AR.op (r := i64 g_1.C.A) rfl (aop_load_pp rfl rfl sz3 rfl) <| AR.keep [2, 3, 69, 72] rfl <| AR.op rfl (aop_field_pp rfl rfl fd32_3 (by decide)) <| AR.op rfl (aop_field_pp rfl rfl fd30_0 (by decide)) <| AR.op rfl (aop_field_pp rfl rfl fd27_2 (by decide)) <| AR.keep [2, 3, 69, 72, 75] rfl ?_
        refine AR.op (r := i64 x_0.F.C.B) rfl (aop_load_pp rfl rfl sz3 rfl) <| AR.op (r := bl (decide (g_1.C.A ≠ x_0.F.C.B))) rfl (aop_neq rfl rfl rfl) <| AR.op rfl (aop_pick rfl rfl rfl) <| AR.keep [2, 3, 78] rfl <| AR.op rfl (aop_move (.inl rfl) rfl) ?_
        rcases Bool.eq_false_or_eq_true (decide (g_1.C.A ≠ x_0.F.C.B)) with hb61 | hb61
        ·rw [hb61]
         replace h := Sh.if_t h hb61
         refine AR.skip rfl <| AR.skip rfl <| AR.keep [2, 3, 79, 81] rfl <| AR.skip rfl <| AR.skip rfl <| AR.skip rfl <| AR.keep [2, 3, 79, 82, 84] rfl <| AR.skip rfl ?_
         refine AR.skip rfl <| AR.skip rfl <| AR.keep [2, 3, 79, 87] rfl <| AR.op rfl (aop_pick rfl rfl rfl) <| AR.nil ?_
         exact hK17 true _ h (Weak.kt [2, 3, 88] rfl)
        ·rw [hb61]
         replace h := Sh.if_f h hb61
         refine AR.op rfl (aop_field_pp rfl rfl fd30_0 (by decide)) <| AR.op rfl (aop_field_pp rfl rfl fd27_2 (by decide)) <| AR.keep [2, 3, 79, 81] rfl <| AR.op (r := i64 g_1.C.B) rfl (aop_load_pp rfl rfl sz3 rfl) <| AR.op rfl (aop_field_pp rfl rfl fd32_3 (by decide)) <| AR.op rfl (aop_field_pp rfl rfl fd30_0 (by decide)) <| AR.keep [2, 3, 79, 82, 84] rfl <| AR.op rfl (aop_field_pp rfl rfl fd27_1 (by decide)) ?_
         refine AR.op (r := i64 x_0.F.C.A) rfl (aop_load_pp rfl rfl sz3 rfl) <| AR.op (r := bl (decide (g_1.C.B ≠ x_0.F.C.A))) rfl (aop_neq rfl rfl rfl) <| AR.keep [2, 3, 79, 87] rfl <| AR.op rfl (aop_pick rfl rfl rfl) <| AR.nil ?_
         exact hK17 (decide (g_1.C.B ≠ x_0.F.C.A)) _ h (Weak.e (fr' := [(2, .pp [.sl (List.map G.api_Txn.av x_0.H.Txns), i64 x_0.Level, .sl (List.map G.fact_Fact.av x_0.L), i64 x_0.F.C.Key, i64 x_0.F.C.A, i64 x_0.F.C.B, i64 x_0.F.Kind, i64 x_0.F.I, i64 x_0.F.J, .sl (List.map i64 x_0.F.Cycle)] 0), (3, .pp [i64 g_1.C.Key, i64 g_1.C.A, i64 g_1.C.B, i64 g_1.Kind, i64 g_1.I, i64 g_1.J, .sl (List.map i64 g_1.Cycle)] 0), (88, bl (decide (g_1.C.B ≠ x_0.F.C.A)))]) (H' := .empty) ⟨.k, .k, .k, trivial⟩)
    ·intro K18 hK18
     refine awp_reg rfl <| AR.op rfl (aop_move (.inl rfl) rfl) <| AR.op (r := bl (!r31)) rfl (aop_not rfl rfl) <| AR.op rfl (aop_move (.inl rfl) rfl) <| AR.keep [2, 3, 28] rfl ?_
     rcases Bool.eq_false_or_eq_true (!r31) with hb62 | hb62
     ·rw [hb62]
      replace h := Sh.if_t h hb62
      refine AR.skip rfl <| AR.skip rfl <| AR.skip rfl <| AR.keep [2, 3, 28, 30, 31] rfl <| AR.skip rfl <| AR.skip rfl <| AR.skip rfl <| AR.keep [2, 3, 28, 30, 32, 34] rfl ?_
      refine AR.skip rfl <| AR.skip rfl <| AR.op rfl (aop_pick rfl rfl rfl) <| AR.keep [2, 3, 37] rfl <| AR.op rfl (aop_move (.inl rfl) rfl) <| AR.skip rfl <| AR.skip rfl <| AR.keep [2, 3, 38, 40] rfl ?_
      refine AR.skip rfl <| AR.skip rfl <| AR.skip rfl <| AR.keep [2, 3, 38, 40, 42, 43] rfl <| AR.skip rfl <| AR.skip rfl <| AR.skip rfl <| AR.keep [2, 3, 38, 40, 42, 44, 46] rfl ?_
      refine AR.skip rfl <| AR.skip rfl <| AR.op rfl (aop_pick rfl rfl rfl) <| AR.keep [2, 3, 49] rfl <| AR.op rfl (aop_move (.inl rfl) rfl) <| AR.skip rfl <| AR.skip rfl <| AR.keep [2, 3, 50, 52] rfl ?_
      refine AR.skip rfl <| AR.skip rfl <| AR.skip rfl <| AR.keep [2, 3, 50, 52, 54, 55] rfl <| AR.skip rfl <| AR.skip rfl <| AR.skip rfl <| AR.keep [2, 3, 50, 58] rfl ?_
      refine AR.skip rfl <| AR.op rfl (aop_pick rfl rfl rfl) <| AR.nil ?_
      exact hK18 true _ h (Weak.kt [2, 3, 60] rfl)
     ·rw [hb62]
      replace h := Sh.if_f h hb62
      refine AR.op rfl (aop_field_pp rfl rfl fd32_0 (by decide)) <| AR.op (r := G.api_Hist.av x_0.H) rfl (aop_load_pp rfl rfl sz24 rfl) <| AR.op rfl (aop_field_pp rfl rfl fd32_1 (by decide)) <| AR.keep [2, 3, 28, 30, 31] rfl <| AR.op (r := i64 x_0.Level) rfl (aop_load_pp rfl rfl sz3 rfl) <| AR.op rfl (aop_field_pp rfl rfl fd32_2 (by decide)) <| AR.op (r := .sl (List.map G.fact_Fact.av x_0.L)) rfl (aop_load_pp rfl rfl sz25 rfl) <| AR.keep [2, 3, 28, 30, 32, 34] rfl ?_
      obtain ⟨r63, hr63, h⟩ := Sh.bind_some' h
      refine AR.op (r := bl r63) rfl (aop_call1 rfl rfl (by simp) (fact_Replay_ok hT hr63)) <| AR.op (r := bl (!r63)) rfl (aop_not rfl rfl) <| AR.op rfl (aop_pick rfl rfl rfl) <| AR.keep [2, 3, 37] rfl <| AR.op rfl (aop_move (.inl rfl) rfl) ?_
      rcases Bool.eq_false_or_eq_true (!r63) with hb64 | hb64
      ·rw [hb64]
       replace h := Sh.if_t h hb64
       refine AR.skip rfl <| AR.skip rfl <| AR.keep [2, 3, 38, 40] rfl <| AR.skip rfl <| AR.skip rfl <| AR.skip rfl <| AR.keep [2, 3, 38, 40, 42, 43] rfl <| AR.skip rfl ?_
       refine AR.skip rfl <| AR.skip rfl <| AR.keep [2, 3, 38, 40, 42, 44, 46] rfl <| AR.skip rfl <| AR.skip rfl <| AR.op rfl (aop_pick rfl rfl rfl) <| AR.keep [2, 3, 49] rfl <| AR.op rfl (aop_move (.inl rfl) rfl) ?_
       refine AR.skip rfl <| AR.skip rfl <| AR.keep [2, 3, 50, 52] rfl <| AR.skip rfl <| AR.skip rfl <| AR.skip rfl <| AR.keep [2, 3, 50, 52, 54, 55] rfl <| AR.skip rfl ?_
       refine AR.skip rfl <| AR.skip rfl <| AR.keep [2, 3, 50, 58] rfl <| AR.skip rfl <| AR.op rfl (aop_pick rfl rfl rfl) <| AR.nil ?_
       exact hK18 true _ h (Weak.kt [2, 3, 60] rfl)
      ·rw [hb64]
       replace h := Sh.if_f h hb64
       refine AR.op rfl (aop_field_pp rfl rfl fd32_0 (by decide)) <| AR.op (r := G.api_Hist.av x_0.H) rfl (aop_load_pp rfl rfl sz24 rfl) <| AR.keep [2, 3, 38, 40] rfl <| AR.op rfl (aop_field_pp rfl rfl fd32_1 (by decide)) <| AR.op (r := i64 x_0.Level) rfl (aop_load_pp rfl rfl sz3 rfl) <| AR.op rfl (aop_field_pp rfl rfl fd32_2 (by decide)) <| AR.keep [2, 3, 38, 40, 42, 43] rfl <| AR.op (r := .sl (List.map G.fact_Fact.av x_0.L)) rfl (aop_load_pp rfl rfl sz25 rfl) ?_
       refine AR.op rfl (aop_field_pp rfl rfl fd32_3 (by decide)) <| AR.op (r := G.fact_Fact.av x_0.F) rfl (aop_load_pp rfl rfl sz30 rfl) <| AR.keep [2, 3, 38, 40, 42, 44, 46] rfl ?_
       obtain ⟨r65, hr65, h⟩ := Sh.bind_some' h
       refine AR.op (r := bl r65) rfl (aop_call1 rfl rfl (by simp) (fact_Holds_ok hT hr65)) <| AR.op (r := bl (!r65)) rfl (aop_not rfl rfl) <| AR.op rfl (aop_pick rfl rfl rfl) <| AR.keep [2, 3, 49] rfl <| AR.op rfl (aop_move (.inl rfl) rfl) ?_
       rcases Bool.eq_false_or_eq_true (!r65) with hb66 | hb66
       ·rw [hb66]
        replace h := Sh.if_t h hb66
        refine AR.skip rfl <| AR.skip rfl <| AR.keep [2, 3, 50, 52] rfl <| AR.skip rfl <| AR.skip rfl <| AR.skip rfl <| AR.keep [2, 3, 50, 52, 54, 55] rfl <| AR.skip rfl ?_
        refine AR.skip rfl <| AR.skip rfl <| AR.keep [2, 3, 50, 58] rfl <| AR.skip rfl <| AR.op rfl (aop_pick rfl rfl rfl) <| AR.nil ?_
        exact hK18 true _ h (Weak.kt [2, 3, 60] rfl)
       ·rw [hb66]
        replace h := Sh.if_f h hb66
        refine AR.op rfl (aop_field_pp rfl rfl fd32_0 (by decide)) <| AR.op (r := G.api_Hist.av x_0.H) rfl (aop_load_pp rfl rfl sz24 rfl) <| AR.keep [2, 3, 50, 52] rfl <| AR.op rfl (aop_field_pp rfl rfl fd32_1 (by decide)) <| AR.op (r := i64 x_0.Level) rfl (aop_load_pp rfl rfl sz3 rfl) <| AR.op rfl (aop_field_pp rfl rfl fd32_2 (by decide)) <| AR.keep [2, 3, 50, 52, 54, 55] rfl <| AR.op (r := .sl (List.map G.fact_Fact.av x_0.L)) rfl (aop_load_pp rfl rfl sz25 rfl) ?_
        refine AR.op (r := G.fact_Fact.av g_1) rfl (aop_load_pp rfl rfl sz30 rfl) ?_
        obtain ⟨r67, hr67, h⟩ := Sh.bind_some' h
        refine AR.op (r := bl r67) rfl (aop_call1 rfl rfl (by simp) (fact_Holds_ok hT hr67)) <| AR.keep [2, 3, 50, 58] rfl <| AR.op (r := bl (!r67)) rfl (aop_not rfl rfl) <| AR.op rfl (aop_pick rfl rfl rfl) <| AR.nil ?_
        exact hK18 (!r67) _ h (Weak.e (fr' := [(2, .pp [.sl (List.map G.api_Txn.av x_0.H.Txns), i64 x_0.Level, .sl (List.map G.fact_Fact.av x_0.L), i64 x_0.F.C.Key, i64 x_0.F.C.A, i64 x_0.F.C.B, i64 x_0.F.Kind, i64 x_0.F.I, i64 x_0.F.J, .sl (List.map i64 x_0.F.Cycle)] 0), (3, .pp [i64 g_1.C.Key, i64 g_1.C.A, i64 g_1.C.B, i64 g_1.Kind, i64 g_1.I, i64 g_1.J, .sl (List.map i64 g_1.Cycle)] 0), (60, bl (!r67))]) (H' := .empty) ⟨.k, .k, .k, trivial⟩)
  ·intro K19 hK19
   refine awp_reg rfl <| AR.op rfl (aop_move (.inl rfl) rfl) <| AR.op (r := bl (!r24)) rfl (aop_not rfl rfl) <| AR.op rfl (aop_move (.inl rfl) rfl) <| AR.keep [2, 3, 17] rfl ?_
   rcases Bool.eq_false_or_eq_true (!r24) with hb68 | hb68
   ·rw [hb68]
    replace h := Sh.if_t h hb68
    refine AR.skip rfl <| AR.skip rfl <| AR.skip rfl <| AR.keep [2, 3, 17, 20] rfl <| AR.skip rfl <| AR.op rfl (aop_pick rfl rfl rfl) <| AR.nil ?_
    exact hK19 true _ h (Weak.kt [2, 3, 22] rfl)
   ·rw [hb68]
    replace h := Sh.if_f h hb68
    refine AR.op rfl (aop_field_pp rfl rfl fd30_4 (by decide)) <| AR.op (r := .sl (List.map i64 g_1.Cycle)) rfl (aop_load_pp rfl rfl sz28 rfl) <| AR.op rfl (t_len_sl i64 g_1.Cycle rfl rfl el28) <| AR.keep [2, 3, 17, 20] rfl <| AR.op rfl (aop_gtr rfl rfl rfl) <| AR.op rfl (aop_pick rfl rfl rfl) <| AR.nil ?_
    exact hK19 (decide ((40 : Int) < (Sh.len g_1.Cycle))) _ h (Weak.e (fr' := [(2, .pp [.sl (List.map G.api_Txn.av x_0.H.Txns), i64 x_0.Level, .sl (List.map G.fact_Fact.av x_0.L), i64 x_0.F.C.Key, i64 x_0.F.C.A, i64 x_0.F.C.B, i64 x_0.F.Kind, i64 x_0.F.I, i64 x_0.F.J, .sl (List.map i64 x_0.F.Cycle)] 0), (3, .pp [i64 g_1.C.Key, i64 g_1.C.A, i64 g_1.C.B, i64 g_1.Kind, i64 g_1.I, i64 g_1.J, .sl (List.map i64 g_1.Cycle)] 0), (22, bl (decide ((40 : Int) < (Sh.len g_1.Cycle))))]) (H' := .empty) ⟨.k, .k, .k, trivial⟩)
theorem inquestlaw22_FactBoth_ok {W0 : World} (hT : Tab W0) {x_0 : G.inquestlaw22_Case} {g_1 : G.fact_Fact} {r : Bool} (h : G.inquestlaw22_FactBoth x_0 g_1 = some r) : Fun1 Try.prog W0 6 [G.inquestlaw22_Case.av x_0, G.fact_Fact.av g_1] (bl r) := Fun1.two (inquestlaw22_FactBoth_ok0 hT h) (by simp)

end Wk
