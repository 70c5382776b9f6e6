/- That a statement does what its plain function says. -/
import Derived.Test.YtkiiigfefobdlaaDoorWkCinquestlaw14
open Go Go.Av Go.Proofs
set_option linter.unusedVariables false
set_option maxHeartbeats 8000000
set_option maxRecDepth 20000
namespace Wk
theorem inquestlaw14_SccTells_ok0 {W0 : World} (hT : Tab W0) {g_0 : G.graph_Graph} {r : Bool} (h : G.inquestlaw14_SccTells g_0 = some r) : Fun2 Tryd.prog W0 6 [G.graph_Graph.av g_0] (bl r) .empty := by
 refine fun2_of_awp Tryd.func6 rfl (by kernel_rfl) Tryd.ntmps6 (by simp) ?_
 unfold G.inquestlaw14_SccTells at h
 show AWP _ _ _ _ ⟨[(0, G.graph_Graph.av g_0)], .empty⟩ _
 refine awp_seqK fun K1 hK1 => awp_reg rfl <| AR.op (r := .ref 0 0 0) rfl (aop_box 2 [G.graph_Graph.av g_0] rfl rfl rfl (.inl ⟨rfl, rfl⟩)) <| AR.op rfl (aop_move (.inr rfl) rfl) <| AR.nil <| hK1 _ (AWP.weak (Weak.e (fr' := [(1, .pp [i64 g_0.N, .sl (List.map u64 g_0.Rows)] 0)]) (H' := .empty) ⟨⟨_, rfl, .frzA rfl rfl rfl rfl (by simp)⟩, trivial⟩) ?_)
 refine awp_seqK fun K2 hK2 => awp_reg rfl ?_
 obtain ⟨r21, hr21, h⟩ := Sh.bind_some' h
 refine AR.op (r := bl r21) rfl (aop_call1 rfl rfl (by simp) (inquestlaw14_awake_ok hT hr21)) <| AR.op rfl (aop_move (.inr rfl) rfl) <| AR.nil <| hK2 _ (AWP.weak (Weak.kt [1, 3] rfl) ?_)
 refine awp_seqK fun K3 hK3 => awp_seqK fun K4 hK4 => awp_reg rfl <| AR.op rfl (aop_move (.inl rfl) rfl) <| AR.op (r := bl (!r21)) rfl (aop_not rfl rfl) <| AR.nil <| hK4 _ (AWP.weak (Weak.kt [1, 8] rfl) ?_)
 refine awp_cond rfl (fun hb22 => ?_) (fun hb22 => ?_)
 ·replace h := Sh.if_t h hb22
  refine awp_seqK fun K5 hK5 => awp_reg rfl <| AR.op rfl (aop_move (.inr rfl) rfl) <| AR.nil <| hK5 _ (AWP.weak (Weak.kt [2] rfl) ?_)
  refine awp_ret ?_
  obtain rfl := Option.some.inj h
  refine ⟨.inr rfl, bl false, rfl, ?_⟩
  exact Weak.e ⟨.k, trivial⟩
 ·replace h := Sh.if_f h hb22
  refine awp_skip <| hK3 _ (AWP.weak (Weak.kt [1] rfl) ?_)
  refine awp_seqK fun K6 hK6 => awp_seqK fun K7 hK7 => awp_reg rfl <| AR.op rfl (aop_field_pp rfl rfl fd24_1 (by decide)) <| AR.op (r := .sl (List.map u64 g_0.Rows)) rfl (aop_load_pp rfl rfl sz22 rfl) <| AR.op rfl (t_len_sl u64 g_0.Rows rfl rfl el22) <| AR.keep [1, 11] rfl <| AR.op rfl (aop_gtr rfl rfl rfl) ?_
  refine AR.nil <| hK7 _ (AWP.weak (Weak.kt [1, 12] rfl) ?_)
  refine awp_cond rfl (fun hb23 => ?_) (fun hb23 => ?_)
  ·replace h := Sh.if_t h hb23
   refine awp_seqK fun K8 hK8 => awp_reg rfl <| AR.op rfl (aop_move (.inr rfl) rfl) <| AR.nil <| hK8 _ (AWP.weak (Weak.kt [2] rfl) ?_)
   refine awp_ret ?_
   obtain rfl := Option.some.inj h
   refine ⟨.inr rfl, bl true, rfl, ?_⟩
   exact Weak.e ⟨.k, trivial⟩
  ·replace h := Sh.if_f h hb23
   refine awp_skip <| hK6 _ (AWP.weak (Weak.kt [1] rfl) ?_)
   refine awp_seqK fun K9 hK9 => awp_reg rfl <| AR.op (r := G.graph_Graph.av g_0) rfl (aop_load_pp rfl rfl sz24 rfl) ?_
   obtain ⟨r25, hr25, h⟩ := Sh.bind_some' h
   refine AR.op (r := G.inquestref12_G.av r25) rfl (aop_call1 rfl rfl (by simp) (inquestlaw14_plain_ok hT hr25)) <| AR.op (r := .ref 0 0 0) rfl (aop_alloc 2 [.agg [i64 0, nilS]] rfl zr27 (by kernel_rfl) (.inl ⟨rfl, rfl⟩)) <| AR.keep [1, 14, 4] rfl <| AR.op rfl (aop_store (e' := G.inquestref12_G.av r25) rfl rfl rfl rfl rfl rfl sz27 rfl dt rfl) <| AR.nil <| hK9 _ (AWP.weak (Weak.e (fr' := [(1, .pp [i64 g_0.N, .sl (List.map u64 g_0.Rows)] 0), (4, .pp [i64 r25.N, .sl (List.map u64 r25.Rows)] 0)]) (H' := .empty) ⟨.k, ⟨_, rfl, .frzA rfl rfl rfl rfl (by simp)⟩, trivial⟩) ?_)
   refine awp_seqK fun K10 hK10 => awp_reg rfl <| AR.op (r := G.inquestref12_G.av r25) rfl (aop_load_pp rfl rfl sz27 rfl) ?_
   obtain ⟨r27, hr27, h⟩ := Sh.bind_some' h
   refine AR.op (r := bl r27) rfl (aop_call1 rfl rfl (by simp) (inquestref12_Right_ok hT hr27)) <| AR.op rfl (aop_move (.inr rfl) rfl) <| AR.nil <| hK10 _ (AWP.weak (Weak.kt [1, 4, 5] rfl) ?_)
   refine awp_seqK fun K11 hK11 => awp_seqK fun K12 hK12 => awp_reg rfl <| AR.op rfl (aop_move (.inl rfl) rfl) <| AR.op (r := bl (!r27)) rfl (aop_not rfl rfl) <| AR.nil <| hK12 _ (AWP.weak (Weak.kt [1, 4, 18] rfl) ?_)
   refine awp_cond rfl (fun hb32 => ?_) (fun hb32 => ?_)
   ·replace h := Sh.if_t h hb32
    refine awp_seqK fun K13 hK13 => awp_any [(true, false), (true, false), (true, false), (true, false), (true, false), (true, false), (true, false), (true, false), (true, false), (true, false), (true, false), (true, false), (true, false)] (by kernel_rfl) (by kernel_rfl) rfl ?_
    refine ARH.dry (r := G.graph_Graph.av g_0) rfl (fun _ => aop_load_pp rfl rfl sz24 rfl) ?_
    obtain ⟨r37, hr37, h⟩ := Sh.bind_some' h
    refine ARH.dry (r := .sl (List.map (slA i64) r37)) rfl (fun _ => aop_call1 rfl rfl (by simp) (scc_Comps_ok hT hr37)) <| ARH.dry rfl (fun _ => t_len_sl (slA i64) r37 rfl rfl el42) <| ARH.keep [1, 21] rfl <| ARH.dry (r := G.graph_Graph.av g_0) rfl (fun _ => aop_load_pp rfl rfl sz24 rfl) ?_
    obtain ⟨r38, hr38, h⟩ := Sh.bind_some' h
    refine ARH.dry (r := .sl (List.map i64 r38)) rfl (fun _ => aop_call1 rfl rfl (by simp) (scc_Which_ok hT hr38)) <| ARH.dry rfl (fun _ => t_len_sl i64 r38 rfl rfl el25) <| ARH.keep [1, 21, 24] rfl <| ARH.dry rfl (fun _ => aop_add rfl rfl rfl rfl) <| ARH.dry (r := G.graph_Graph.av g_0) rfl (fun _ => aop_load_pp rfl rfl sz24 rfl) ?_
    obtain ⟨r39, hr39, h⟩ := Sh.bind_some' h
    refine ARH.dry (r := .sl (List.map i64 r39)) rfl (fun _ => aop_call1 rfl rfl (by simp) (scc_Inner_ok hT hr39)) <| ARH.keep [25, 27] rfl <| ARH.dry rfl (fun _ => t_len_sl i64 r39 rfl rfl el25) <| ARH.dry rfl (fun _ => aop_add rfl rfl rfl rfl) <| ARH.dry (r := bl (decide ((w64 ((w64 ((Sh.len r37) + (Sh.len r38))) + (Sh.len r39))) = 0))) rfl (fun _ => aop_eql rfl rfl rfl) <| ARH.keep [30] rfl ?_
    obtain ⟨x40, hx40, h⟩ := Sh.lett_some h
    refine ARH.dry (r := bl x40) rfl (fun _ => (aop_move (.inr rfl) rfl).conv (congrArg bl hx40)) <| ARH.nil <| hK13 _ (AWP.weak (Weak.kt [2] rfl) ?_)
    refine awp_ret ?_
    obtain rfl := Option.some.inj h
    refine ⟨.inr rfl, bl x40, rfl, ?_⟩
    exact Weak.e ⟨.k, trivial⟩
   ·replace h := Sh.if_f h hb32
    refine awp_skip <| hK11 _ (AWP.weak (Weak.kt [1, 4] rfl) ?_)
    refine awp_seqK fun K14 hK14 => awp_seqK fun K15 hK15 => awp_reg rfl <| AR.op rfl (aop_field_pp rfl rfl fd24_0 (by decide)) <| AR.op (r := i64 g_0.N) rfl (aop_load_pp rfl rfl sz3 rfl) <| AR.op rfl (aop_gtr rfl rfl rfl) <| AR.nil <| hK15 _ (AWP.weak (Weak.kt [1, 4, 33] rfl) ?_)
    refine awp_cond rfl (fun hb41 => ?_) (fun hb41 => ?_)
    ·replace h := Sh.if_t h hb41
     refine awp_seqK fun K16 hK16 => awp_reg rfl <| AR.op rfl (aop_move (.inr rfl) rfl) <| AR.nil <| hK16 _ (AWP.weak (Weak.kt [2] rfl) ?_)
     refine awp_ret ?_
     obtain rfl := Option.some.inj h
     refine ⟨.inr rfl, bl true, rfl, ?_⟩
     exact Weak.e ⟨.k, trivial⟩
    ·replace h := Sh.if_f h hb41
     refine awp_skip <| hK14 _ (AWP.weak (Weak.kt [1, 4] rfl) ?_)
     refine awp_seqK fun K17 hK17 => awp_any [(true, false), (true, false), (true, false), (true, false), (true, false), (true, false), (true, false), (true, false), (true, false), (true, false), (true, false), (true, false), (true, false), (true, false), (true, false), (true, false), (true, false), (true, false), (true, false), (true, false)] (by kernel_rfl) (by kernel_rfl) rfl ?_
     refine ARH.dry (r := G.graph_Graph.av g_0) rfl (fun _ => aop_load_pp rfl rfl sz24 rfl) ?_
     obtain ⟨r53, hr53, h⟩ := Sh.bind_some' h
     refine ARH.dry (r := .sl (List.map (slA i64) r53)) rfl (fun _ => aop_call1 rfl rfl (by simp) (scc_Comps_ok hT hr53)) <| ARH.dry (r := G.inquestref12_G.av r25) rfl (fun _ => aop_load_pp rfl rfl sz27 rfl) <| ARH.keep [1, 4, 35, 36] rfl ?_
     obtain ⟨r54, hr54, h⟩ := Sh.bind_some' h
     refine ARH.dry (r := .sl (List.map (slA i64) r54)) rfl (fun _ => aop_call1 rfl rfl (by simp) (inquestref14_Comps_ok hT hr54)) ?_
     obtain ⟨r55, hr55, h⟩ := Sh.bind_some' h
     refine ARH.dry (r := bl r55) rfl (fun _ => aop_call1 rfl rfl (by simp) (inquestlaw14_rows_ok hT hr55)) <| ARH.dry rfl (fun _ => aop_move (.inl rfl) rfl) <| ARH.keep [1, 4, 39] rfl ?_
     rcases Bool.eq_false_or_eq_true (r55) with hb56 | hb56
     ·rw [hb56]
      replace h := Sh.if_t h hb56
      refine ARH.dry (r := G.graph_Graph.av g_0) rfl (fun _ => aop_load_pp rfl rfl sz24 rfl) ?_
      obtain ⟨r57, hr57, h⟩ := Sh.bind_some' h
      refine ARH.dry (r := .sl (List.map i64 r57)) rfl (fun _ => aop_call1 rfl rfl (by simp) (scc_Which_ok hT hr57)) <| ARH.dry (r := G.inquestref12_G.av r25) rfl (fun _ => aop_load_pp rfl rfl sz27 rfl) <| ARH.keep [1, 4, 39, 41, 42] rfl ?_
      obtain ⟨r58, hr58, h⟩ := Sh.bind_some' h
      refine ARH.dry (r := .sl (List.map i64 r58)) rfl (fun _ => aop_call1 rfl rfl (by simp) (inquestref14_Which_ok hT hr58)) ?_
      obtain ⟨r59, hr59, h⟩ := Sh.bind_some' h
      refine ARH.dry (r := bl r59) rfl (fun _ => aop_call1 rfl rfl (by simp) (inquestref07_Ints_ok hT hr59)) <| ARH.dry rfl (fun _ => aop_pick rfl rfl rfl) <| ARH.keep [1, 4, 45] rfl <| ARH.dry rfl (fun _ => aop_move (.inl rfl) rfl) ?_
      rcases Bool.eq_false_or_eq_true (r59) with hb60 | hb60
      ·rw [hb60]
       replace h := Sh.if_t h hb60
       refine ARH.dry (r := G.graph_Graph.av g_0) rfl (fun _ => aop_load_pp rfl rfl sz24 rfl) ?_
       obtain ⟨r61, hr61, h⟩ := Sh.bind_some' h
       refine ARH.dry (r := .sl (List.map i64 r61)) rfl (fun _ => aop_call1 rfl rfl (by simp) (scc_Inner_ok hT hr61)) <| ARH.keep [4, 46, 48] rfl <| ARH.dry (r := G.inquestref12_G.av r25) rfl (fun _ => aop_load_pp rfl rfl sz27 rfl) ?_
       obtain ⟨r62, hr62, h⟩ := Sh.bind_some' h
       refine ARH.dry (r := .sl (List.map i64 r62)) rfl (fun _ => aop_call1 rfl rfl (by simp) (inquestref14_Inner_ok hT hr62)) ?_
       obtain ⟨r63, hr63, h⟩ := Sh.bind_some' h
       refine ARH.dry (r := bl r63) rfl (fun _ => aop_call1 rfl rfl (by simp) (inquestref07_Ints_ok hT hr63)) <| ARH.keep [46, 51] rfl <| ARH.dry rfl (fun _ => aop_pick rfl rfl rfl) <| ARH.dry rfl (fun _ => aop_move (.inr rfl) rfl) <| ARH.nil <| hK17 _ (AWP.weak (Weak.kt [2] rfl) ?_)
       refine awp_ret ?_
       obtain rfl := Option.some.inj h
       refine ⟨.inr rfl, bl r63, rfl, ?_⟩
       exact Weak.e ⟨.k, trivial⟩
      ·rw [hb60]
       replace h := Sh.if_f h hb60
       refine ARH.skip rfl <| ARH.skip rfl <| ARH.keep [4, 46, 48] rfl <| ARH.skip rfl <| ARH.skip rfl <| ARH.skip rfl <| ARH.keep [46, 51] rfl <| ARH.dry rfl (fun _ => aop_pick rfl rfl rfl) ?_
       refine ARH.dry rfl (fun _ => aop_move (.inr rfl) rfl) <| ARH.nil <| hK17 _ (AWP.weak (Weak.kt [2] rfl) ?_)
       refine awp_ret ?_
       obtain rfl := Option.some.inj h
       refine ⟨.inr rfl, bl false, rfl, ?_⟩
       exact Weak.e ⟨.k, trivial⟩
     ·rw [hb56]
      replace h := Sh.if_f h hb56
      refine ARH.skip rfl <| ARH.skip rfl <| ARH.skip rfl <| ARH.keep [1, 4, 39, 41, 42] rfl <| ARH.skip rfl <| ARH.skip rfl <| ARH.dry rfl (fun _ => aop_pick rfl rfl rfl) <| ARH.keep [1, 4, 45] rfl ?_
      refine ARH.dry rfl (fun _ => aop_move (.inl rfl) rfl) <| ARH.skip rfl <| ARH.skip rfl <| ARH.keep [4, 46, 48] rfl <| ARH.skip rfl <| ARH.skip rfl <| ARH.skip rfl <| ARH.keep [46, 51] rfl ?_
      refine ARH.dry rfl (fun _ => aop_pick rfl rfl rfl) <| ARH.dry rfl (fun _ => aop_move (.inr rfl) rfl) <| ARH.nil <| hK17 _ (AWP.weak (Weak.kt [2] rfl) ?_)
      refine awp_ret ?_
      obtain rfl := Option.some.inj h
      refine ⟨.inr rfl, bl false, rfl, ?_⟩
      exact Weak.e ⟨.k, trivial⟩
theorem inquestlaw14_SccTells_ok {W0 : World} (hT : Tab W0) {g_0 : G.graph_Graph} {r : Bool} (h : G.inquestlaw14_SccTells g_0 = some r) : Fun1 Tryd.prog W0 6 [G.graph_Graph.av g_0] (bl r) := Fun1.two (inquestlaw14_SccTells_ok0 hT h) (by simp)

end Wk
