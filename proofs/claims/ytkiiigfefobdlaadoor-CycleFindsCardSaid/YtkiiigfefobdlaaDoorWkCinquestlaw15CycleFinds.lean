/- That a statement does what its plain function says. -/
import Derived.Test.YtkiiigfefobdlaaDoorWkCinquestlaw15
open Go Go.Av Go.Proofs
set_option linter.unusedVariables false
set_option maxHeartbeats 8000000
set_option maxRecDepth 20000
namespace Wk
theorem inquestlaw15_CycleFinds_ok0 {W0 : World} (hT : Tab W0) {g_0 : G.graph_Graph} {r : Bool} (h : G.inquestlaw15_CycleFinds g_0 = some r) : Fun2 Tryd.prog W0 10 [G.graph_Graph.av g_0] (bl r) .empty := by
 refine fun2_of_awp Tryd.func10 rfl (by kernel_rfl) Tryd.ntmps10 (by simp) ?_
 unfold G.inquestlaw15_CycleFinds at h
 show AWP _ _ _ _ ⟨[(0, G.graph_Graph.av g_0)], .empty⟩ _
 refine awp_seqK fun K1 hK1 => awp_reg rfl <| AR.op (r := .ref 0 0 0) rfl (aop_box 2 [G.graph_Graph.av g_0] rfl rfl rfl (.inl ⟨rfl, rfl⟩)) <| AR.op rfl (aop_move (.inr rfl) rfl) <| AR.nil <| hK1 _ (AWP.weak (Weak.e (fr' := [(1, .pp [i64 g_0.N, .sl (List.map u64 g_0.Rows)] 0)]) (H' := .empty) ⟨⟨_, rfl, .frzA rfl rfl rfl rfl (by simp)⟩, trivial⟩) ?_)
 refine awp_seqK fun K2 hK2 => awp_reg rfl ?_
 obtain ⟨r15, hr15, h⟩ := Sh.bind_some' h
 refine AR.op (r := bl r15) rfl (aop_call1 rfl rfl (by simp) (inquestlaw15_awake_ok hT hr15)) <| AR.op rfl (aop_move (.inr rfl) rfl) <| AR.nil <| hK2 _ (AWP.weak (Weak.kt [1, 3] rfl) ?_)
 refine awp_seqK fun K3 hK3 => awp_seqK fun K4 hK4 => awp_reg rfl <| AR.op rfl (aop_move (.inl rfl) rfl) <| AR.op (r := bl (!r15)) rfl (aop_not rfl rfl) <| AR.nil <| hK4 _ (AWP.weak (Weak.kt [1, 8] rfl) ?_)
 refine awp_cond rfl (fun hb16 => ?_) (fun hb16 => ?_)
 ·replace h := Sh.if_t h hb16
  refine awp_seqK fun K5 hK5 => awp_reg rfl <| AR.op rfl (aop_move (.inr rfl) rfl) <| AR.nil <| hK5 _ (AWP.weak (Weak.kt [2] rfl) ?_)
  refine awp_ret ?_
  obtain rfl := Option.some.inj h
  refine ⟨.inr rfl, bl false, rfl, ?_⟩
  exact Weak.e ⟨.k, trivial⟩
 ·replace h := Sh.if_f h hb16
  refine awp_skip <| hK3 _ (AWP.weak (Weak.kt [1] rfl) ?_)
  refine awp_seqK fun K6 hK6 => awp_seqK fun K7 hK7 => awp_reg rfl <| AR.op rfl (aop_field_pp rfl rfl fd24_1 (by decide)) <| AR.op (r := .sl (List.map u64 g_0.Rows)) rfl (aop_load_pp rfl rfl sz22 rfl) <| AR.op rfl (t_len_sl u64 g_0.Rows rfl rfl el22) <| AR.keep [1, 11] rfl <| AR.op rfl (aop_gtr rfl rfl rfl) ?_
  refine AR.nil <| hK7 _ (AWP.weak (Weak.kt [1, 12] rfl) ?_)
  refine awp_cond rfl (fun hb17 => ?_) (fun hb17 => ?_)
  ·replace h := Sh.if_t h hb17
   refine awp_seqK fun K8 hK8 => awp_reg rfl <| AR.op rfl (aop_move (.inr rfl) rfl) <| AR.nil <| hK8 _ (AWP.weak (Weak.kt [2] rfl) ?_)
   refine awp_ret ?_
   obtain rfl := Option.some.inj h
   refine ⟨.inr rfl, bl true, rfl, ?_⟩
   exact Weak.e ⟨.k, trivial⟩
  ·replace h := Sh.if_f h hb17
   refine awp_skip <| hK6 _ (AWP.weak (Weak.kt [1] rfl) ?_)
   refine awp_seqK fun K9 hK9 => awp_reg rfl <| AR.op (r := G.graph_Graph.av g_0) rfl (aop_load_pp rfl rfl sz24 rfl) ?_
   obtain ⟨r19, hr19, h⟩ := Sh.bind_some' h
   refine AR.op (r := .sl (List.map i64 r19)) rfl (aop_call1 rfl rfl (by simp) (cycle_Find_ok hT hr19)) <| AR.op rfl (aop_move (.inr rfl) rfl) <| AR.nil <| hK9 _ (AWP.weak (Weak.kt [1, 4] rfl) ?_)
   refine awp_seqK fun K10 hK10 => awp_seqK fun K11 hK11 => awp_reg rfl <| AR.op (r := G.graph_Graph.av g_0) rfl (aop_load_pp rfl rfl sz24 rfl) ?_
   obtain ⟨r22, hr22, h⟩ := Sh.bind_some' h
   refine AR.op (r := bl r22) rfl (aop_call1 rfl rfl (by simp) (reach_Cyclic_ok hT hr22)) <| AR.op (r := bl (!r22)) rfl (aop_not rfl rfl) <| AR.nil <| hK11 _ (AWP.weak (Weak.kt [1, 4, 17] rfl) ?_)
   refine awp_cond rfl (fun hb23 => ?_) (fun hb23 => ?_)
   ·replace h := Sh.if_t h hb23
    refine awp_seqK fun K12 hK12 => awp_reg rfl <| AR.op rfl (aop_move (.inl rfl) rfl) <| AR.op rfl (t_len_sl i64 r19 rfl rfl el25) <| AR.op (r := bl (decide ((Sh.len r19) = 0))) rfl (aop_eql rfl rfl rfl) <| AR.keep [20] rfl <| AR.op rfl (aop_move (.inr rfl) rfl) <| AR.nil ?_
    refine hK12 _ (AWP.weak (Weak.kt [2] rfl) ?_)
    refine awp_ret ?_
    obtain rfl := Option.some.inj h
    refine ⟨.inr rfl, bl (decide ((Sh.len r19) = 0)), rfl, ?_⟩
    exact Weak.e ⟨.k, trivial⟩
   ·replace h := Sh.if_f h hb23
    refine awp_skip <| hK10 _ (AWP.weak (Weak.kt [1, 4] rfl) ?_)
    refine awp_seqK fun K13 hK13 => awp_reg rfl <| AR.op (r := G.graph_Graph.av g_0) rfl (aop_load_pp rfl rfl sz24 rfl) ?_
    obtain ⟨r25, hr25, h⟩ := Sh.bind_some' h
    refine AR.op (r := .sl (List.map i64 r25)) rfl (aop_call1 rfl rfl (by simp) (scc_Inner_ok hT hr25)) <| AR.op rfl (aop_move (.inr rfl) rfl) <| AR.nil <| hK13 _ (AWP.weak (Weak.kt [1, 4, 5] rfl) ?_)
    refine awp_seqK fun K14 hK14 => awp_any [(true, false), (true, false), (true, false), (true, false), (true, false), (true, false), (true, false), (true, false), (true, false), (true, false), (true, false), (true, false), (true, false), (true, false), (true, false), (true, false), (true, false), (true, false), (true, false), (true, false), (true, false), (true, false), (true, false)] (by kernel_rfl) (by kernel_rfl) rfl ?_
    refine ARH.dry rfl (fun _ => aop_move (.inl rfl) rfl) <| ARH.dry rfl (fun _ => t_len_sl i64 r19 rfl rfl el25) <| ARH.dry rfl (fun _ => aop_gtr rfl rfl rfl) <| ARH.keep [1, 4, 5, 25] rfl <| ARH.dry rfl (fun _ => aop_move (.inl rfl) rfl) ?_
    rcases Bool.eq_false_or_eq_true (decide ((0 : Int) < (Sh.len r19))) with hb34 | hb34
    ·rw [hb34]
     replace h := Sh.if_t h hb34
     refine ARH.dry rfl (fun _ => aop_move (.inl rfl) rfl) <| ARH.dry rfl (fun _ => t_len_sl i64 r25 rfl rfl el25) <| ARH.keep [1, 4, 5, 26, 28] rfl <| ARH.dry rfl (fun _ => aop_gtr rfl rfl rfl) <| ARH.dry rfl (fun _ => aop_pick rfl rfl rfl) <| ARH.dry rfl (fun _ => aop_move (.inl rfl) rfl) <| ARH.keep [1, 4, 5, 31] rfl ?_
     rcases Bool.eq_false_or_eq_true (decide ((0 : Int) < (Sh.len r25))) with hb35 | hb35
     ·rw [hb35]
      replace h := Sh.if_t h hb35
      refine ARH.dry (r := G.graph_Graph.av g_0) rfl (fun _ => aop_load_pp rfl rfl sz24 rfl) <| ARH.dry rfl (fun _ => aop_move (.inl rfl) rfl) ?_
      obtain ⟨r36, hr36, h⟩ := Sh.bind_some' h
      refine ARH.dry (r := bl r36) rfl (fun _ => aop_call1 rfl rfl (by simp) (cycle_Is_ok hT hr36)) <| ARH.keep [4, 5, 31, 34] rfl <| ARH.dry rfl (fun _ => aop_pick rfl rfl rfl) <| ARH.dry rfl (fun _ => aop_move (.inl rfl) rfl) ?_
      rcases Bool.eq_false_or_eq_true (r36) with hb37 | hb37
      ·rw [hb37]
       replace h := Sh.if_t h hb37
       refine ARH.dry rfl (fun _ => aop_move (.inl rfl) rfl) <| ARH.keep [5, 36, 37] rfl ?_
       obtain ⟨x38, hx38, h⟩ := Sh.bind_some' h
       obtain ⟨k39, hi39, hl39⟩ := Sh.idx_some hx38
       refine ARH.dry rfl (fun _ => t_index_sl i64 r19 hi39 hl39 rfl rfl rfl el25 rfl) <| ARH.dry (r := i64 x38) rfl (fun _ => aop_load_pp rfl rfl sz3 rfl) <| ARH.dry rfl (fun _ => aop_move (.inl rfl) rfl) <| ARH.keep [36, 39, 40] rfl ?_
       obtain ⟨x40, hx40, h⟩ := Sh.bind_some' h
       obtain ⟨k41, hi41, hl41⟩ := Sh.idx_some hx40
       refine ARH.dry rfl (fun _ => t_index_sl i64 r25 hi41 hl41 rfl rfl rfl el25 rfl) <| ARH.dry (r := i64 x40) rfl (fun _ => aop_load_pp rfl rfl sz3 rfl) <| ARH.dry (r := bl (decide (x38 = x40))) rfl (fun _ => aop_eql rfl rfl rfl) <| ARH.keep [36, 43] rfl <| ARH.dry rfl (fun _ => aop_pick rfl rfl rfl) <| ARH.dry rfl (fun _ => aop_move (.inr rfl) rfl) <| ARH.nil <| hK14 _ (AWP.weak (Weak.kt [2] rfl) ?_)
       refine awp_ret ?_
       obtain rfl := Option.some.inj h
       refine ⟨.inr rfl, bl (decide (x38 = x40)), rfl, ?_⟩
       exact Weak.e ⟨.k, trivial⟩
      ·rw [hb37]
       replace h := Sh.if_f h hb37
       refine ARH.skip rfl <| ARH.keep [5, 36, 37] rfl <| ARH.skip rfl <| ARH.skip rfl <| ARH.skip rfl <| ARH.keep [36, 39, 40] rfl <| ARH.skip rfl <| ARH.skip rfl ?_
       refine ARH.skip rfl <| ARH.keep [36, 43] rfl <| ARH.dry rfl (fun _ => aop_pick rfl rfl rfl) <| ARH.dry rfl (fun _ => aop_move (.inr rfl) rfl) <| ARH.nil <| hK14 _ (AWP.weak (Weak.kt [2] rfl) ?_)
       refine awp_ret ?_
       obtain rfl := Option.some.inj h
       refine ⟨.inr rfl, bl false, rfl, ?_⟩
       exact Weak.e ⟨.k, trivial⟩
     ·rw [hb35]
      replace h := Sh.if_f h hb35
      refine ARH.skip rfl <| ARH.skip rfl <| ARH.skip rfl <| ARH.keep [4, 5, 31, 34] rfl <| ARH.dry rfl (fun _ => aop_pick rfl rfl rfl) <| ARH.dry rfl (fun _ => aop_move (.inl rfl) rfl) <| ARH.skip rfl <| ARH.keep [5, 36, 37] rfl ?_
      refine ARH.skip rfl <| ARH.skip rfl <| ARH.skip rfl <| ARH.keep [36, 39, 40] rfl <| ARH.skip rfl <| ARH.skip rfl <| ARH.skip rfl <| ARH.keep [36, 43] rfl ?_
      refine ARH.dry rfl (fun _ => aop_pick rfl rfl rfl) <| ARH.dry rfl (fun _ => aop_move (.inr rfl) rfl) <| ARH.nil <| hK14 _ (AWP.weak (Weak.kt [2] rfl) ?_)
      refine awp_ret ?_
      obtain rfl := Option.some.inj h
      refine ⟨.inr rfl, bl false, rfl, ?_⟩
      exact Weak.e ⟨.k, trivial⟩
    ·rw [hb34]
     replace h := Sh.if_f h hb34
     refine ARH.skip rfl <| ARH.skip rfl <| ARH.keep [1, 4, 5, 26, 28] rfl <| ARH.skip rfl <| ARH.dry rfl (fun _ => aop_pick rfl rfl rfl) <| ARH.dry rfl (fun _ => aop_move (.inl rfl) rfl) <| ARH.keep [1, 4, 5, 31] rfl <| ARH.skip rfl ?_
     refine ARH.skip rfl <| ARH.skip rfl <| ARH.keep [4, 5, 31, 34] rfl <| ARH.dry rfl (fun _ => aop_pick rfl rfl rfl) <| ARH.dry rfl (fun _ => aop_move (.inl rfl) rfl) <| ARH.skip rfl <| ARH.keep [5, 36, 37] rfl <| ARH.skip rfl ?_
     refine ARH.skip rfl <| ARH.skip rfl <| ARH.keep [36, 39, 40] rfl <| ARH.skip rfl <| ARH.skip rfl <| ARH.skip rfl <| ARH.keep [36, 43] rfl <| ARH.dry rfl (fun _ => aop_pick rfl rfl rfl) ?_
     refine ARH.dry rfl (fun _ => aop_move (.inr rfl) rfl) <| ARH.nil <| hK14 _ (AWP.weak (Weak.kt [2] rfl) ?_)
     refine awp_ret ?_
     obtain rfl := Option.some.inj h
     refine ⟨.inr rfl, bl false, rfl, ?_⟩
     exact Weak.e ⟨.k, trivial⟩
theorem inquestlaw15_CycleFinds_ok {W0 : World} (hT : Tab W0) {g_0 : G.graph_Graph} {r : Bool} (h : G.inquestlaw15_CycleFinds g_0 = some r) : Fun1 Tryd.prog W0 10 [G.graph_Graph.av g_0] (bl r) := Fun1.two (inquestlaw15_CycleFinds_ok0 hT h) (by simp)

end Wk
