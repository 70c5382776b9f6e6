/- That a statement does what its plain function says. -/
import Derived.Test.YtnbabpgakdefjaaWkFinquestlaw22
open Go Go.Av Go.Proofs
set_option linter.unusedVariables false
set_option maxHeartbeats 8000000
set_option maxRecDepth 20000
namespace Wk
theorem inquestlaw22_FactMust_ok0 {W0 : World} (hT : Tab W0) {x_0 : G.inquestlaw22_Case} {r : Bool} (h : G.inquestlaw22_FactMust x_0 = some r) : Fun2 Try.prog W0 4 [G.inquestlaw22_Case.av x_0] (bl r) .empty := by
 refine fun2_of_awp Try.func4 rfl (by kernel_rfl) Try.ntmps4 (by simp) ?_
 unfold G.inquestlaw22_FactMust at h
 show AWP _ _ _ _ ⟨[(0, G.inquestlaw22_Case.av x_0)], .empty⟩ _
 refine awp_seqK fun K1 hK1 => awp_reg rfl <| AR.op (r := .ref 0 0 0) rfl (aop_box 10 [G.inquestlaw22_Case.av x_0] rfl rfl rfl (.inl ⟨rfl, rfl⟩)) <| AR.op rfl (aop_move (.inr rfl) rfl) <| AR.nil <| hK1 _ (AWP.weak (Weak.e (fr' := [(1, .pp [.sl (List.map G.api_Txn.av x_0.H.Txns), i64 x_0.Level, .sl (List.map G.fact_Fact.av x_0.L), i64 x_0.F.C.Key, i64 x_0.F.C.A, i64 x_0.F.C.B, i64 x_0.F.Kind, i64 x_0.F.I, i64 x_0.F.J, .sl (List.map i64 x_0.F.Cycle)] 0)]) (H' := .empty) ⟨⟨_, rfl, .frzA rfl rfl rfl rfl (by simp)⟩, trivial⟩) ?_)
 refine awp_seqK fun K2 hK2 => awp_reg rfl ?_
 obtain ⟨r19, hr19, h⟩ := Sh.bind_some' h
 refine AR.op (r := bl r19) rfl (aop_call1 rfl rfl (by simp) (inquestlaw22_awake_ok hT hr19)) <| AR.op rfl (aop_move (.inr rfl) rfl) <| AR.nil <| hK2 _ (AWP.weak (Weak.kt [1, 3] rfl) ?_)
 refine awp_seqK fun K3 hK3 => awp_seqK fun K4 hK4 => awp_reg rfl <| AR.op rfl (aop_move (.inl rfl) rfl) <| AR.op (r := bl (!r19)) rfl (aop_not rfl rfl) <| AR.nil <| hK4 _ (AWP.weak (Weak.kt [1, 10] rfl) ?_)
 refine awp_cond rfl (fun hb20 => ?_) (fun hb20 => ?_)
 ·replace h := Sh.if_t h hb20
  refine awp_seqK fun K5 hK5 => awp_reg rfl <| AR.op rfl (aop_move (.inr rfl) rfl) <| AR.nil <| hK5 _ (AWP.weak (Weak.kt [2] rfl) ?_)
  refine awp_ret ?_
  obtain rfl := Option.some.inj h
  refine ⟨.inr rfl, bl false, rfl, ?_⟩
  exact Weak.e ⟨.k, trivial⟩
 ·replace h := Sh.if_f h hb20
  refine awp_skip <| hK3 _ (AWP.weak (Weak.kt [1] rfl) ?_)
  refine awp_seqK fun K6 hK6 => awp_reg rfl <| AR.op (r := G.inquestlaw22_Case.av x_0) rfl (aop_load_pp rfl rfl sz32 rfl) ?_
  obtain ⟨r22, hr22, h⟩ := Sh.bind_some' h
  refine AR.op (r := bl r22) rfl (aop_call1 rfl rfl (by simp) (inquestlaw22_few_ok hT hr22)) <| AR.op rfl (aop_move (.inr rfl) rfl) <| AR.nil <| hK6 _ (AWP.weak (Weak.kt [1, 4] rfl) ?_)
  refine awp_seqK fun K7 hK7 => awp_seqK fun K8 hK8 => awp_reg rfl <| AR.op rfl (aop_move (.inl rfl) rfl) <| AR.op (r := bl (!r22)) rfl (aop_not rfl rfl) <| AR.nil <| hK8 _ (AWP.weak (Weak.kt [1, 14] rfl) ?_)
  refine awp_cond rfl (fun hb23 => ?_) (fun hb23 => ?_)
  ·replace h := Sh.if_t h hb23
   refine awp_seqK fun K9 hK9 => awp_reg rfl <| AR.op rfl (aop_move (.inr rfl) rfl) <| AR.nil <| hK9 _ (AWP.weak (Weak.kt [2] rfl) ?_)
   refine awp_ret ?_
   obtain rfl := Option.some.inj h
   refine ⟨.inr rfl, bl true, rfl, ?_⟩
   exact Weak.e ⟨.k, trivial⟩
  ·replace h := Sh.if_f h hb23
   refine awp_skip <| hK7 _ (AWP.weak (Weak.kt [1] rfl) ?_)
   refine awp_seqK fun K10 hK10 => awp_reg rfl <| AR.op rfl (aop_field_pp rfl rfl fd32_0 (by decide)) <| AR.op (r := G.api_Hist.av x_0.H) rfl (aop_load_pp rfl rfl sz24 rfl) ?_
   obtain ⟨r25, hr25, h⟩ := Sh.bind_some' h
   refine AR.op (r := bl r25) rfl (aop_call1 rfl rfl (by simp) (inquestref22_Small_ok hT hr25)) <| AR.keep [1, 17] rfl <| AR.op rfl (aop_move (.inr rfl) rfl) <| AR.nil <| hK10 _ (AWP.weak (Weak.kt [1, 5] rfl) ?_)
   refine awp_seqK fun K11 hK11 => awp_seqJ (fun (p : Bool) => (⟨[(1, .pp [.sl (List.map G.api_Txn.av x_0.H.Txns), i64 x_0.Level, .sl (List.map G.fact_Fact.av x_0.L), i64 x_0.F.C.Key, i64 x_0.F.C.A, i64 x_0.F.C.B, i64 x_0.F.Kind, i64 x_0.F.I, i64 x_0.F.J, .sl (List.map i64 x_0.F.Cycle)] 0), (29, bl p)], .empty⟩ : St)) (fun (p : Bool) => G.inquestlaw22_FactMust_j1 x_0 p = some r) ?_ ?_
   ·rintro v31 h
    replace h : G.inquestlaw22_FactMust_j1 x_0 v31 = some r := h
    unfold G.inquestlaw22_FactMust_j1 at h
    show AWP _ _ _ _ ⟨[(1, .pp [.sl (List.map G.api_Txn.av x_0.H.Txns), i64 x_0.Level, .sl (List.map G.fact_Fact.av x_0.L), i64 x_0.F.C.Key, i64 x_0.F.C.A, i64 x_0.F.C.B, i64 x_0.F.Kind, i64 x_0.F.I, i64 x_0.F.J, .sl (List.map i64 x_0.F.Cycle)] 0), (29, bl v31)], .empty⟩ _
    refine awp_cond rfl (fun hb32 => ?_) (fun hb32 => ?_)
    ·replace h := Sh.if_t h hb32
     refine awp_seqK fun K12 hK12 => awp_reg rfl <| AR.op rfl (aop_move (.inr rfl) rfl) <| AR.nil <| hK12 _ (AWP.weak (Weak.kt [2] rfl) ?_)
     refine awp_ret ?_
     obtain rfl := Option.some.inj h
     refine ⟨.inr rfl, bl true, rfl, ?_⟩
     exact Weak.e ⟨.k, trivial⟩
    ·replace h := Sh.if_f h hb32
     refine awp_skip <| hK11 _ (AWP.weak (Weak.kt [1] rfl) ?_)
     refine awp_seqJ (fun (p : Unit) => (⟨[], .empty⟩ : St)) (fun (p : Unit) => G.inquestlaw22_FactMust_j2 = some r) ?_ ?_
     ·rintro ⟨⟩ h
      replace h : G.inquestlaw22_FactMust_j2 = some r := h
      unfold G.inquestlaw22_FactMust_j2 at h
      show AWP _ _ _ _ ⟨[], .empty⟩ _
      refine awp_seqK fun K13 hK13 => awp_reg rfl <| AR.op rfl (aop_move (.inr rfl) rfl) <| AR.nil <| hK13 _ ?_
      refine awp_ret ?_
      obtain rfl := Option.some.inj h
      refine ⟨.inr rfl, bl true, rfl, ?_⟩
      exact Weak.e ⟨.k, trivial⟩
     ·intro K14 hK14
      refine awp_seqK fun K15 hK15 => awp_reg rfl <| AR.op rfl (aop_move (.inr rfl) rfl) <| AR.nil <| hK15 _ ?_
      refine awp_block <| awp_iter (fun (p : Int) => G.inquestlaw22_FactMust_b1 x_0 p) (fun (p : Int) => (⟨[(1, .pp [.sl (List.map G.api_Txn.av x_0.H.Txns), i64 x_0.Level, .sl (List.map G.fact_Fact.av x_0.L), i64 x_0.F.C.Key, i64 x_0.F.C.A, i64 x_0.F.C.B, i64 x_0.F.Kind, i64 x_0.F.I, i64 x_0.F.J, .sl (List.map i64 x_0.F.Cycle)] 0), (6, i64 p)], .empty⟩ : St)) h (Weak.kt [1, 6] rfl) ?_
      ·skip
       rintro i51 o1 h hx1
       replace h : G.inquestlaw22_FactMust_b1 x_0 i51 = some o1 := h
       unfold G.inquestlaw22_FactMust_b1 at h
       show AWP _ _ _ _ ⟨[(1, .pp [.sl (List.map G.api_Txn.av x_0.H.Txns), i64 x_0.Level, .sl (List.map G.fact_Fact.av x_0.L), i64 x_0.F.C.Key, i64 x_0.F.C.A, i64 x_0.F.C.B, i64 x_0.F.Kind, i64 x_0.F.I, i64 x_0.F.J, .sl (List.map i64 x_0.F.Cycle)] 0), (6, i64 i51)], .empty⟩ _
       refine awp_seqK fun K16 hK16 => awp_seqK fun K17 hK17 => awp_reg rfl <| AR.op rfl (aop_move (.inl rfl) rfl) <| AR.op rfl (aop_field_pp rfl rfl fd32_2 (by decide)) <| AR.op (r := .sl (List.map G.fact_Fact.av x_0.L)) rfl (aop_load_pp rfl rfl sz25 rfl) <| AR.keep [1, 6, 30, 32] rfl <| AR.op rfl (t_len_sl G.fact_Fact.av x_0.L rfl rfl el25) ?_
       refine AR.op rfl (aop_lss rfl rfl rfl) <| AR.nil <| hK17 _ (AWP.weak (Weak.kt [1, 6, 34] rfl) ?_)
       refine awp_cond rfl (fun hb52 => ?_) (fun hb52 => ?_)
       ·replace h := Sh.if_t h hb52
        refine awp_skip <| hK16 _ (AWP.weak (Weak.kt [1, 6] rfl) ?_)
        refine awp_seqK fun K18 hK18 => awp_block <| awp_seqK fun K19 hK19 => awp_any [(true, false), (true, false), (true, false), (true, false), (true, false), (true, false), (true, false), (true, false), (true, false), (true, false), (true, false), (true, false)] (by kernel_rfl) (by kernel_rfl) rfl ?_
        refine ARH.dry rfl (fun _ => aop_field_pp rfl rfl fd32_0 (by decide)) <| ARH.dry (r := G.api_Hist.av x_0.H) rfl (fun _ => aop_load_pp rfl rfl sz24 rfl) <| ARH.dry rfl (fun _ => aop_field_pp rfl rfl fd32_1 (by decide)) <| ARH.keep [1, 6, 38, 39] rfl <| ARH.dry (r := i64 x_0.Level) rfl (fun _ => aop_load_pp rfl rfl sz3 rfl) <| ARH.dry rfl (fun _ => aop_field_pp rfl rfl fd32_2 (by decide)) <| ARH.dry (r := .sl (List.map G.fact_Fact.av x_0.L)) rfl (fun _ => aop_load_pp rfl rfl sz25 rfl) <| ARH.keep [1, 6, 38, 40, 42] rfl ?_
        refine ARH.dry rfl (fun _ => aop_move (.inl rfl) rfl) ?_
        obtain ⟨x59, hx59, h⟩ := Sh.bind_some' h
        obtain ⟨k60, hi60, hl60⟩ := Sh.idx_some hx59
        refine ARH.dry rfl (fun _ => t_index_sl G.fact_Fact.av x_0.L hi60 hl60 rfl rfl rfl el25 rfl) <| ARH.dry rfl (fun _ => aop_field_pp rfl rfl fd30_0 (by decide)) <| ARH.keep [1, 6, 38, 40, 45] rfl <| ARH.dry (r := G.api_Choice.av x59.C) rfl (fun _ => aop_load_pp rfl rfl sz27 rfl) ?_
        obtain ⟨r61, hr61, h⟩ := Sh.bind_some' h
        refine ARH.dry (r := bl r61) rfl (fun _ => aop_call1 rfl rfl (by simp) (inquestref22_Must_ok hT hr61)) <| ARH.dry rfl (fun _ => aop_move (.inr rfl) rfl) <| ARH.nil <| hK19 _ (AWP.weak (Weak.kt [1, 6, 7] rfl) ?_)
        refine awp_seqK fun K20 hK20 => awp_reg rfl <| AR.op rfl (aop_move (.inl rfl) rfl) <| AR.op (r := bl (!r61)) rfl (aop_not rfl rfl) <| AR.nil <| hK20 _ (AWP.weak (Weak.kt [1, 6, 49] rfl) ?_)
        refine awp_cond rfl (fun hb62 => ?_) (fun hb62 => ?_)
        ·replace h := Sh.if_t h hb62
         refine awp_seqK fun K21 hK21 => awp_reg rfl <| AR.op rfl (aop_move (.inr rfl) rfl) <| AR.nil <| hK21 _ (AWP.weak (Weak.kt [2] rfl) ?_)
         refine awp_ret ?_
         replace h := Sh.exit_eq h hx1
         obtain rfl := Option.some.inj h
         refine ⟨.inr rfl, bl false, rfl, ?_⟩
         exact Weak.e ⟨.k, trivial⟩
        ·replace h := Sh.if_f h hb62
         refine awp_skip <| hK18 _ (AWP.weak (Weak.kt [1, 6] rfl) ?_)
         refine awp_reg rfl <| AR.op rfl (aop_move (.inl rfl) rfl) <| AR.op rfl (aop_add rfl rfl rfl rfl) <| AR.op rfl (aop_move (.inr rfl) rfl) <| AR.nil ?_
         replace h := Sh.next_eq h
         exact ⟨_, h, Weak.e (fr' := [(1, .pp [.sl (List.map G.api_Txn.av x_0.H.Txns), i64 x_0.Level, .sl (List.map G.fact_Fact.av x_0.L), i64 x_0.F.C.Key, i64 x_0.F.C.A, i64 x_0.F.C.B, i64 x_0.F.Kind, i64 x_0.F.I, i64 x_0.F.J, .sl (List.map i64 x_0.F.Cycle)] 0), (6, i64 (w64 (i51 + 1)))]) (H' := .empty) ⟨.k, .k, trivial⟩⟩
       ·replace h := Sh.if_f h hb52
        refine awp_exit ?_
        replace h := Sh.exit_eq h hx1
        exact hK14 () _ h (Weak.kt [] rfl)
   ·intro K22 hK22
    refine awp_reg rfl <| AR.op rfl (aop_move (.inl rfl) rfl) <| AR.op (r := bl (!r25)) rfl (aop_not rfl rfl) <| AR.op rfl (aop_move (.inl rfl) rfl) <| AR.keep [1, 20] rfl ?_
    rcases Bool.eq_false_or_eq_true (!r25) with hb63 | hb63
    ·rw [hb63]
     replace h := Sh.if_t h hb63
     refine AR.skip rfl <| AR.skip rfl <| AR.skip rfl <| AR.keep [1, 20, 22, 23] rfl <| AR.skip rfl <| AR.skip rfl <| AR.skip rfl <| AR.keep [1, 20, 22, 24, 26] rfl ?_
     refine AR.skip rfl <| AR.skip rfl <| AR.op rfl (aop_pick rfl rfl rfl) <| AR.nil ?_
     exact hK22 true _ h (Weak.kt [1, 29] rfl)
    ·rw [hb63]
     replace h := Sh.if_f h hb63
     refine AR.op rfl (aop_field_pp rfl rfl fd32_0 (by decide)) <| AR.op (r := G.api_Hist.av x_0.H) rfl (aop_load_pp rfl rfl sz24 rfl) <| AR.op rfl (aop_field_pp rfl rfl fd32_1 (by decide)) <| AR.keep [1, 20, 22, 23] rfl <| AR.op (r := i64 x_0.Level) rfl (aop_load_pp rfl rfl sz3 rfl) <| AR.op rfl (aop_field_pp rfl rfl fd32_2 (by decide)) <| AR.op (r := .sl (List.map G.fact_Fact.av x_0.L)) rfl (aop_load_pp rfl rfl sz25 rfl) <| AR.keep [1, 20, 22, 24, 26] rfl ?_
     obtain ⟨r64, hr64, h⟩ := Sh.bind_some' h
     refine AR.op (r := bl r64) rfl (aop_call1 rfl rfl (by simp) (fact_Replay_ok hT hr64)) <| AR.op (r := bl (!r64)) rfl (aop_not rfl rfl) <| AR.op rfl (aop_pick rfl rfl rfl) <| AR.nil ?_
     exact hK22 (!r64) _ h (Weak.e (fr' := [(1, .pp [.sl (List.map G.api_Txn.av x_0.H.Txns), i64 x_0.Level, .sl (List.map G.fact_Fact.av x_0.L), i64 x_0.F.C.Key, i64 x_0.F.C.A, i64 x_0.F.C.B, i64 x_0.F.Kind, i64 x_0.F.I, i64 x_0.F.J, .sl (List.map i64 x_0.F.Cycle)] 0), (29, bl (!r64))]) (H' := .empty) ⟨.k, .k, trivial⟩)
theorem inquestlaw22_FactMust_ok {W0 : World} (hT : Tab W0) {x_0 : G.inquestlaw22_Case} {r : Bool} (h : G.inquestlaw22_FactMust x_0 = some r) : Fun1 Try.prog W0 4 [G.inquestlaw22_Case.av x_0] (bl r) := Fun1.two (inquestlaw22_FactMust_ok0 hT h) (by simp)

end Wk
