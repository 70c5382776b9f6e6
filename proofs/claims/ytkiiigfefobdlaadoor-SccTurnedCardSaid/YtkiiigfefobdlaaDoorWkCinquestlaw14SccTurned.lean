/- That a statement does what its plain function says. -/
import Derived.Test.YtkiiigfefobdlaaDoorWkCinquestlaw14
open Go Go.Av Go.Proofs
set_option linter.unusedVariables false
set_option maxHeartbeats 8000000
set_option maxRecDepth 20000
namespace Wk
theorem inquestlaw14_SccTurned_ok0 {W0 : World} (hT : Tab W0) {g_0 : G.graph_Graph} {r : Bool} (h : G.inquestlaw14_SccTurned g_0 = some r) : Fun2 Tryd.prog W0 9 [G.graph_Graph.av g_0] (bl r) .empty := by
 refine fun2_of_awp Tryd.func9 rfl (by kernel_rfl) Tryd.ntmps9 (by simp) ?_
 unfold G.inquestlaw14_SccTurned at h
 show AWP _ _ _ _ ⟨[(0, G.graph_Graph.av g_0)], .empty⟩ _
 refine awp_seqK fun K1 hK1 => awp_reg rfl <| AR.op (r := .ref 0 0 0) rfl (aop_box 2 [G.graph_Graph.av g_0] rfl rfl rfl (.inl ⟨rfl, rfl⟩)) <| AR.op rfl (aop_move (.inr rfl) rfl) <| AR.nil <| hK1 _ (AWP.weak (Weak.e (fr' := [(1, .pp [i64 g_0.N, .sl (List.map u64 g_0.Rows)] 0)]) (H' := .empty) ⟨⟨_, rfl, .frzA rfl rfl rfl rfl (by simp)⟩, trivial⟩) ?_)
 refine awp_seqK fun K2 hK2 => awp_reg rfl ?_
 obtain ⟨r19, hr19, h⟩ := Sh.bind_some' h
 refine AR.op (r := bl r19) rfl (aop_call1 rfl rfl (by simp) (inquestlaw14_awake_ok hT hr19)) <| AR.op rfl (aop_move (.inr rfl) rfl) <| AR.nil <| hK2 _ (AWP.weak (Weak.kt [1, 3] rfl) ?_)
 refine awp_seqK fun K3 hK3 => awp_seqK fun K4 hK4 => awp_reg rfl <| AR.op rfl (aop_move (.inl rfl) rfl) <| AR.op (r := bl (!r19)) rfl (aop_not rfl rfl) <| AR.nil <| hK4 _ (AWP.weak (Weak.kt [1, 8] rfl) ?_)
 refine awp_cond rfl (fun hb20 => ?_) (fun hb20 => ?_)
 ·replace h := Sh.if_t h hb20
  refine awp_seqK fun K5 hK5 => awp_reg rfl <| AR.op rfl (aop_move (.inr rfl) rfl) <| AR.nil <| hK5 _ (AWP.weak (Weak.kt [2] rfl) ?_)
  refine awp_ret ?_
  obtain rfl := Option.some.inj h
  refine ⟨.inr rfl, bl false, rfl, ?_⟩
  exact Weak.e ⟨.k, trivial⟩
 ·replace h := Sh.if_f h hb20
  refine awp_skip <| hK3 _ (AWP.weak (Weak.kt [1] rfl) ?_)
  refine awp_seqK fun K6 hK6 => awp_seqJ (fun (p : Bool) => (⟨[(1, .pp [i64 g_0.N, .sl (List.map u64 g_0.Rows)] 0), (17, bl p)], .empty⟩ : St)) (fun (p : Bool) => G.inquestlaw14_SccTurned_j1 g_0 p = some r) ?_ ?_
  ·rintro v26 h
   replace h : G.inquestlaw14_SccTurned_j1 g_0 v26 = some r := h
   unfold G.inquestlaw14_SccTurned_j1 at h
   refine awp_cond rfl (fun hb27 => ?_) (fun hb27 => ?_)
   ·replace h := Sh.if_t h hb27
    refine awp_seqK fun K7 hK7 => awp_reg rfl <| AR.op rfl (aop_move (.inr rfl) rfl) <| AR.nil <| hK7 _ (AWP.weak (Weak.kt [2] rfl) ?_)
    refine awp_ret ?_
    obtain rfl := Option.some.inj h
    refine ⟨.inr rfl, bl true, rfl, ?_⟩
    exact Weak.e ⟨.k, trivial⟩
   ·replace h := Sh.if_f h hb27
    refine awp_skip <| hK6 _ (AWP.weak (Weak.kt [1] rfl) ?_)
    refine awp_seqK fun K8 hK8 => awp_reg rfl <| AR.op (r := G.graph_Graph.av g_0) rfl (aop_load_pp rfl rfl sz24 rfl) ?_
    obtain ⟨r29, hr29, h⟩ := Sh.bind_some' h
    refine AR.op (r := .tuple [G.graph_Graph.av r29.1, i64 r29.2]) rfl (aop_call1 rfl rfl (by simp) (graph_Turn_ok hT hr29)) <| AR.op rfl (aop_move (.inl rfl) rfl) <| AR.keep [1, 18] rfl <| AR.op (r := G.graph_Graph.av r29.1) rfl (aop_extract rfl rfl rfl) <| AR.op (r := i64 r29.2) rfl (aop_extract rfl rfl rfl) <| AR.op (r := .ref 0 0 0) rfl (aop_alloc 2 [.agg [i64 0, nilS]] rfl zr24 (by kernel_rfl) (.inl ⟨rfl, rfl⟩)) <| AR.keep [1, 21, 22, 4] rfl <| AR.op rfl (aop_store (e' := G.graph_Graph.av r29.1) rfl rfl rfl rfl rfl rfl sz24 rfl dt rfl) ?_
    refine AR.op rfl (aop_move (.inr rfl) rfl) <| AR.nil <| hK8 _ (AWP.weak (Weak.e (fr' := [(1, .pp [i64 g_0.N, .sl (List.map u64 g_0.Rows)] 0), (4, .pp [i64 r29.1.N, .sl (List.map u64 r29.1.Rows)] 0), (5, i64 r29.2)]) (H' := .empty) ⟨.k, ⟨_, rfl, .frzA rfl rfl rfl rfl (by simp)⟩, .k, trivial⟩) ?_)
    refine awp_seqK fun K9 hK9 => awp_any [(true, false), (true, false), (true, false), (true, false), (true, false), (true, false), (true, false), (true, false), (true, false), (true, false), (true, false), (true, false), (true, false), (true, false), (true, false), (true, false), (true, false), (true, false), (true, false), (true, false), (true, false), (true, false), (true, false), (true, false), (true, false), (true, false)] (by kernel_rfl) (by kernel_rfl) rfl ?_
    refine ARH.dry rfl (fun _ => aop_move (.inl rfl) rfl) <| ARH.dry (r := bl (decide (r29.2 = 0))) rfl (fun _ => aop_eql rfl rfl rfl) <| ARH.dry rfl (fun _ => aop_move (.inl rfl) rfl) <| ARH.keep [1, 4, 25] rfl ?_
    rcases Bool.eq_false_or_eq_true (decide (r29.2 = 0)) with hb41 | hb41
    ·rw [hb41]
     replace h := Sh.if_t h hb41
     refine ARH.dry (r := G.graph_Graph.av g_0) rfl (fun _ => aop_load_pp rfl rfl sz24 rfl) ?_
     obtain ⟨r42, hr42, h⟩ := Sh.bind_some' h
     refine ARH.dry (r := .sl (List.map (slA i64) r42)) rfl (fun _ => aop_call1 rfl rfl (by simp) (scc_Comps_ok hT hr42)) <| ARH.dry (r := G.graph_Graph.av r29.1) rfl (fun _ => aop_load_pp rfl rfl sz24 rfl) <| ARH.keep [1, 4, 25, 27, 28] rfl ?_
     obtain ⟨r43, hr43, h⟩ := Sh.bind_some' h
     refine ARH.dry (r := .sl (List.map (slA i64) r43)) rfl (fun _ => aop_call1 rfl rfl (by simp) (scc_Comps_ok hT hr43)) ?_
     obtain ⟨r44, hr44, h⟩ := Sh.bind_some' h
     refine ARH.dry (r := bl r44) rfl (fun _ => aop_call1 rfl rfl (by simp) (inquestlaw14_rows_ok hT hr44)) <| ARH.dry rfl (fun _ => aop_pick rfl rfl rfl) <| ARH.keep [1, 4, 31] rfl <| ARH.dry rfl (fun _ => aop_move (.inl rfl) rfl) ?_
     rcases Bool.eq_false_or_eq_true (r44) with hb45 | hb45
     ·rw [hb45]
      replace h := Sh.if_t h hb45
      refine ARH.dry (r := G.graph_Graph.av g_0) rfl (fun _ => aop_load_pp rfl rfl sz24 rfl) ?_
      obtain ⟨r46, hr46, h⟩ := Sh.bind_some' h
      refine ARH.dry (r := .sl (List.map i64 r46)) rfl (fun _ => aop_call1 rfl rfl (by simp) (scc_Inner_ok hT hr46)) <| ARH.keep [1, 4, 32, 34] rfl <| ARH.dry (r := G.graph_Graph.av r29.1) rfl (fun _ => aop_load_pp rfl rfl sz24 rfl) ?_
      obtain ⟨r47, hr47, h⟩ := Sh.bind_some' h
      refine ARH.dry (r := .sl (List.map i64 r47)) rfl (fun _ => aop_call1 rfl rfl (by simp) (scc_Inner_ok hT hr47)) ?_
      obtain ⟨r48, hr48, h⟩ := Sh.bind_some' h
      refine ARH.dry (r := bl r48) rfl (fun _ => aop_call1 rfl rfl (by simp) (inquestref07_Ints_ok hT hr48)) <| ARH.keep [1, 32, 37] rfl <| ARH.dry rfl (fun _ => aop_pick rfl rfl rfl) <| ARH.dry rfl (fun _ => aop_move (.inl rfl) rfl) ?_
      rcases Bool.eq_false_or_eq_true (r48) with hb49 | hb49
      ·rw [hb49]
       replace h := Sh.if_t h hb49
       refine ARH.dry (r := G.graph_Graph.av g_0) rfl (fun _ => aop_load_pp rfl rfl sz24 rfl) <| ARH.keep [1, 39, 40] rfl ?_
       obtain ⟨r50, hr50, h⟩ := Sh.bind_some' h
       refine ARH.dry (r := bl r50) rfl (fun _ => aop_call1 rfl rfl (by simp) (reach_Cyclic_ok hT hr50)) <| ARH.dry (r := G.graph_Graph.av g_0) rfl (fun _ => aop_load_pp rfl rfl sz24 rfl) ?_
       obtain ⟨r51, hr51, h⟩ := Sh.bind_some' h
       refine ARH.dry (r := .sl (List.map i64 r51)) rfl (fun _ => aop_call1 rfl rfl (by simp) (scc_Inner_ok hT hr51)) <| ARH.keep [39, 41, 43] rfl <| ARH.dry rfl (fun _ => t_len_sl i64 r51 rfl rfl el25) <| ARH.dry rfl (fun _ => aop_gtr rfl rfl rfl) <| ARH.dry (r := bl (r50 == (decide ((0 : Int) < (Sh.len r51))))) rfl (fun _ => aop_eqb rfl rfl rfl Tryd.underlying4) <| ARH.keep [39, 46] rfl <| ARH.dry rfl (fun _ => aop_pick rfl rfl rfl) <| ARH.dry rfl (fun _ => aop_move (.inr rfl) rfl) ?_
       refine ARH.nil <| hK9 _ (AWP.weak (Weak.kt [2] rfl) ?_)
       refine awp_ret ?_
       obtain rfl := Option.some.inj h
       refine ⟨.inr rfl, bl (r50 == (decide ((0 : Int) < (Sh.len r51)))), rfl, ?_⟩
       exact Weak.e ⟨.k, trivial⟩
      ·rw [hb49]
       replace h := Sh.if_f h hb49
       refine ARH.skip rfl <| ARH.keep [1, 39, 40] rfl <| ARH.skip rfl <| ARH.skip rfl <| ARH.skip rfl <| ARH.keep [39, 41, 43] rfl <| ARH.skip rfl <| ARH.skip rfl ?_
       refine ARH.skip rfl <| ARH.keep [39, 46] rfl <| ARH.dry rfl (fun _ => aop_pick rfl rfl rfl) <| ARH.dry rfl (fun _ => aop_move (.inr rfl) rfl) <| ARH.nil <| hK9 _ (AWP.weak (Weak.kt [2] rfl) ?_)
       refine awp_ret ?_
       obtain rfl := Option.some.inj h
       refine ⟨.inr rfl, bl false, rfl, ?_⟩
       exact Weak.e ⟨.k, trivial⟩
     ·rw [hb45]
      replace h := Sh.if_f h hb45
      refine ARH.skip rfl <| ARH.skip rfl <| ARH.keep [1, 4, 32, 34] rfl <| ARH.skip rfl <| ARH.skip rfl <| ARH.skip rfl <| ARH.keep [1, 32, 37] rfl <| ARH.dry rfl (fun _ => aop_pick rfl rfl rfl) ?_
      refine ARH.dry rfl (fun _ => aop_move (.inl rfl) rfl) <| ARH.skip rfl <| ARH.keep [1, 39, 40] rfl <| ARH.skip rfl <| ARH.skip rfl <| ARH.skip rfl <| ARH.keep [39, 41, 43] rfl <| ARH.skip rfl ?_
      refine ARH.skip rfl <| ARH.skip rfl <| ARH.keep [39, 46] rfl <| ARH.dry rfl (fun _ => aop_pick rfl rfl rfl) <| ARH.dry rfl (fun _ => aop_move (.inr rfl) rfl) <| ARH.nil <| hK9 _ (AWP.weak (Weak.kt [2] rfl) ?_)
      refine awp_ret ?_
      obtain rfl := Option.some.inj h
      refine ⟨.inr rfl, bl false, rfl, ?_⟩
      exact Weak.e ⟨.k, trivial⟩
    ·rw [hb41]
     replace h := Sh.if_f h hb41
     refine ARH.skip rfl <| ARH.skip rfl <| ARH.skip rfl <| ARH.keep [1, 4, 25, 27, 28] rfl <| ARH.skip rfl <| ARH.skip rfl <| ARH.dry rfl (fun _ => aop_pick rfl rfl rfl) <| ARH.keep [1, 4, 31] rfl ?_
     refine ARH.dry rfl (fun _ => aop_move (.inl rfl) rfl) <| ARH.skip rfl <| ARH.skip rfl <| ARH.keep [1, 4, 32, 34] rfl <| ARH.skip rfl <| ARH.skip rfl <| ARH.skip rfl <| ARH.keep [1, 32, 37] rfl ?_
     refine ARH.dry rfl (fun _ => aop_pick rfl rfl rfl) <| ARH.dry rfl (fun _ => aop_move (.inl rfl) rfl) <| ARH.skip rfl <| ARH.keep [1, 39, 40] rfl <| ARH.skip rfl <| ARH.skip rfl <| ARH.skip rfl <| ARH.keep [39, 41, 43] rfl ?_
     refine ARH.skip rfl <| ARH.skip rfl <| ARH.skip rfl <| ARH.keep [39, 46] rfl <| ARH.dry rfl (fun _ => aop_pick rfl rfl rfl) <| ARH.dry rfl (fun _ => aop_move (.inr rfl) rfl) <| ARH.nil <| hK9 _ (AWP.weak (Weak.kt [2] rfl) ?_)
     refine awp_ret ?_
     obtain rfl := Option.some.inj h
     refine ⟨.inr rfl, bl false, rfl, ?_⟩
     exact Weak.e ⟨.k, trivial⟩
  ·intro K10 hK10
   refine awp_reg rfl <| AR.op rfl (aop_field_pp rfl rfl fd24_1 (by decide)) <| AR.op (r := .sl (List.map u64 g_0.Rows)) rfl (aop_load_pp rfl rfl sz22 rfl) <| AR.op rfl (t_len_sl u64 g_0.Rows rfl rfl el22) <| AR.keep [1, 11] rfl <| AR.op rfl (aop_gtr rfl rfl rfl) <| AR.op rfl (aop_move (.inl rfl) rfl) ?_
   rcases Bool.eq_false_or_eq_true (decide ((70 : Int) < (Sh.len g_0.Rows))) with hb52 | hb52
   ·rw [hb52]
    replace h := Sh.if_t h hb52
    refine AR.skip rfl <| AR.keep [1, 13, 14] rfl <| AR.skip rfl <| AR.skip rfl <| AR.op rfl (aop_pick rfl rfl rfl) <| AR.nil ?_
    exact hK10 true _ h (Weak.kt [1, 17] rfl)
   ·rw [hb52]
    replace h := Sh.if_f h hb52
    refine AR.op (r := G.graph_Graph.av g_0) rfl (aop_load_pp rfl rfl sz24 rfl) <| AR.keep [1, 13, 14] rfl ?_
    obtain ⟨r53, hr53, h⟩ := Sh.bind_some' h
    refine AR.op (r := bl r53) rfl (aop_call1 rfl rfl (by simp) (graph_Right_ok hT hr53)) <| AR.op (r := bl (!r53)) rfl (aop_not rfl rfl) <| AR.op rfl (aop_pick rfl rfl rfl) <| AR.nil ?_
    exact hK10 (!r53) _ h (Weak.kt [1, 17] rfl)
theorem inquestlaw14_SccTurned_ok {W0 : World} (hT : Tab W0) {g_0 : G.graph_Graph} {r : Bool} (h : G.inquestlaw14_SccTurned g_0 = some r) : Fun1 Tryd.prog W0 9 [G.graph_Graph.av g_0] (bl r) := Fun1.two (inquestlaw14_SccTurned_ok0 hT h) (by simp)

end Wk
