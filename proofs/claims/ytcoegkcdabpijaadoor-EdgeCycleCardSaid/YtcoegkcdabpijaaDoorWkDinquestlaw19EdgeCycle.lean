/- That a statement does what its plain function says. -/
import Derived.Test.YtcoegkcdabpijaaDoorWkDinquestlaw19
open Go Go.Av Go.Proofs
set_option linter.unusedVariables false
set_option maxHeartbeats 8000000
set_option maxRecDepth 20000
namespace Wk
theorem inquestlaw19_EdgeCycle_ok0 {W0 : World} (hT : Tab W0) {a_0 : G.inquestlaw19_At} {r : Bool} (h : G.inquestlaw19_EdgeCycle a_0 = some r) : Fun2 Tryd.prog W0 5 [G.inquestlaw19_At.av a_0] (bl r) .empty := by
 refine fun2_of_awp Tryd.func5 rfl (by kernel_rfl) Tryd.ntmps5 (by simp) ?_
 unfold G.inquestlaw19_EdgeCycle at h
 show AWP _ _ _ _ ⟨[(0, G.inquestlaw19_At.av a_0)], .empty⟩ _
 refine awp_seqK fun K1 hK1 => awp_reg rfl <| AR.op (r := .ref 0 0 0) rfl (aop_box 6 [G.inquestlaw19_At.av a_0] rfl rfl rfl (.inl ⟨rfl, rfl⟩)) <| AR.op rfl (aop_move (.inr rfl) rfl) <| AR.nil <| hK1 _ (AWP.weak (Weak.e (fr' := [(1, .pp [.sl (List.map G.api_Txn.av a_0.H.Txns), i64 a_0.Level, .sl (List.map G.api_Choice.av a_0.L), i64 a_0.X, i64 a_0.Y, .sl (List.map i64 a_0.Row)] 0)]) (H' := .empty) ⟨⟨_, rfl, .frzA rfl rfl rfl rfl (by simp)⟩, trivial⟩) ?_)
 refine awp_seqK fun K2 hK2 => awp_reg rfl ?_
 obtain ⟨r17, hr17, h⟩ := Sh.bind_some' h
 refine AR.op (r := bl r17) rfl (aop_call1 rfl rfl (by simp) (inquestlaw19_awake_ok hT hr17)) <| AR.op rfl (aop_move (.inr rfl) rfl) <| AR.nil <| hK2 _ (AWP.weak (Weak.kt [1, 3] rfl) ?_)
 refine awp_seqK fun K3 hK3 => awp_seqK fun K4 hK4 => awp_reg rfl <| AR.op rfl (aop_move (.inl rfl) rfl) <| AR.op (r := bl (!r17)) rfl (aop_not rfl rfl) <| AR.nil <| hK4 _ (AWP.weak (Weak.kt [1, 10] rfl) ?_)
 refine awp_cond rfl (fun hb18 => ?_) (fun hb18 => ?_)
 ·replace h := Sh.if_t h hb18
  refine awp_seqK fun K5 hK5 => awp_reg rfl <| AR.op rfl (aop_move (.inr rfl) rfl) <| AR.nil <| hK5 _ (AWP.weak (Weak.kt [2] rfl) ?_)
  refine awp_ret ?_
  obtain rfl := Option.some.inj h
  refine ⟨.inr rfl, bl false, rfl, ?_⟩
  exact Weak.e ⟨.k, trivial⟩
 ·replace h := Sh.if_f h hb18
  refine awp_skip <| hK3 _ (AWP.weak (Weak.kt [1] rfl) ?_)
  refine awp_seqK fun K6 hK6 => awp_reg rfl <| AR.op rfl (aop_field_pp rfl rfl fd28_0 (by decide)) <| AR.op (r := G.api_Hist.av a_0.H) rfl (aop_load_pp rfl rfl sz24 rfl) ?_
  obtain ⟨r20, hr20, h⟩ := Sh.bind_some' h
  refine AR.op (r := bl r20) rfl (aop_call1 rfl rfl (by simp) (inquestref08_Few_ok hT hr20)) <| AR.keep [1, 13] rfl <| AR.op rfl (aop_move (.inr rfl) rfl) <| AR.nil <| hK6 _ (AWP.weak (Weak.kt [1, 4] rfl) ?_)
  refine awp_seqK fun K7 hK7 => awp_seqJ (fun (p : Bool) => (⟨[(1, .pp [.sl (List.map G.api_Txn.av a_0.H.Txns), i64 a_0.Level, .sl (List.map G.api_Choice.av a_0.L), i64 a_0.X, i64 a_0.Y, .sl (List.map i64 a_0.Row)] 0), (35, bl p)], .empty⟩ : St)) (fun (p : Bool) => G.inquestlaw19_EdgeCycle_j1 a_0 p = some r) ?_ ?_
  ·rintro v30 h
   replace h : G.inquestlaw19_EdgeCycle_j1 a_0 v30 = some r := h
   unfold G.inquestlaw19_EdgeCycle_j1 at h
   show AWP _ _ _ _ ⟨[(1, .pp [.sl (List.map G.api_Txn.av a_0.H.Txns), i64 a_0.Level, .sl (List.map G.api_Choice.av a_0.L), i64 a_0.X, i64 a_0.Y, .sl (List.map i64 a_0.Row)] 0), (35, bl v30)], .empty⟩ _
   refine awp_cond rfl (fun hb31 => ?_) (fun hb31 => ?_)
   ·replace h := Sh.if_t h hb31
    refine awp_seqK fun K8 hK8 => awp_reg rfl <| AR.op rfl (aop_move (.inr rfl) rfl) <| AR.nil <| hK8 _ (AWP.weak (Weak.kt [2] rfl) ?_)
    refine awp_ret ?_
    obtain rfl := Option.some.inj h
    refine ⟨.inr rfl, bl true, rfl, ?_⟩
    exact Weak.e ⟨.k, trivial⟩
   ·replace h := Sh.if_f h hb31
    refine awp_skip <| hK7 _ (AWP.weak (Weak.kt [1] rfl) ?_)
    refine awp_seqK fun K9 hK9 => awp_reg rfl <| AR.op rfl (aop_field_pp rfl rfl fd28_0 (by decide)) <| AR.op (r := G.api_Hist.av a_0.H) rfl (aop_load_pp rfl rfl sz24 rfl) <| AR.op rfl (aop_field_pp rfl rfl fd28_1 (by decide)) <| AR.keep [1, 38, 39] rfl <| AR.op (r := i64 a_0.Level) rfl (aop_load_pp rfl rfl sz3 rfl) <| AR.op rfl (aop_field_pp rfl rfl fd28_2 (by decide)) ?_
    refine AR.op (r := .sl (List.map G.api_Choice.av a_0.L)) rfl (aop_load_pp rfl rfl sz25 rfl) <| AR.keep [1, 38, 40, 42] rfl ?_
    obtain ⟨r33, hr33, h⟩ := Sh.bind_some' h
    refine AR.op (r := .tuple [G.graph_Graph.av r33.1, i64 r33.2]) rfl (aop_call1 rfl rfl (by simp) (choice_Full_ok hT hr33)) <| AR.op rfl (aop_move (.inl rfl) rfl) <| AR.op (r := G.graph_Graph.av r33.1) rfl (aop_extract rfl rfl rfl) <| AR.keep [1, 36, 44] rfl <| AR.op (r := i64 r33.2) rfl (aop_extract rfl rfl rfl) <| AR.op (r := .ref 0 0 0) rfl (aop_alloc 2 [.agg [i64 0, nilS]] rfl zr34 (by kernel_rfl) (.inl ⟨rfl, rfl⟩)) <| AR.op rfl (aop_store (e' := G.graph_Graph.av r33.1) rfl rfl rfl rfl rfl rfl sz34 rfl dt rfl) <| AR.keep [1, 45, 5] rfl ?_
    refine AR.op rfl (aop_move (.inr rfl) rfl) <| AR.nil <| hK9 _ (AWP.weak (Weak.e (fr' := [(1, .pp [.sl (List.map G.api_Txn.av a_0.H.Txns), i64 a_0.Level, .sl (List.map G.api_Choice.av a_0.L), i64 a_0.X, i64 a_0.Y, .sl (List.map i64 a_0.Row)] 0), (5, .pp [i64 r33.1.N, .sl (List.map u64 r33.1.Rows)] 0), (6, i64 r33.2)]) (H' := .empty) ⟨.k, ⟨_, rfl, .frzA rfl rfl rfl rfl (by simp)⟩, .k, trivial⟩) ?_)
    refine awp_seqK fun K10 hK10 => awp_seqK fun K11 hK11 => awp_reg rfl <| AR.op rfl (aop_move (.inl rfl) rfl) <| AR.op (r := bl (decide (r33.2 ≠ 0))) rfl (aop_neq rfl rfl rfl) <| AR.nil <| hK11 _ (AWP.weak (Weak.kt [1, 5, 47] rfl) ?_)
    refine awp_cond rfl (fun hb35 => ?_) (fun hb35 => ?_)
    ·replace h := Sh.if_t h hb35
     refine awp_seqK fun K12 hK12 => awp_reg rfl <| AR.op rfl (aop_field_pp rfl rfl fd28_0 (by decide)) <| AR.op (r := G.api_Hist.av a_0.H) rfl (aop_load_pp rfl rfl sz24 rfl) <| AR.op rfl (aop_field_pp rfl rfl fd28_1 (by decide)) <| AR.keep [1, 49, 50] rfl <| AR.op (r := i64 a_0.Level) rfl (aop_load_pp rfl rfl sz3 rfl) <| AR.op rfl (aop_field_pp rfl rfl fd28_2 (by decide)) ?_
     refine AR.op (r := .sl (List.map G.api_Choice.av a_0.L)) rfl (aop_load_pp rfl rfl sz25 rfl) <| AR.keep [1, 49, 51, 53] rfl <| AR.op rfl (aop_field_pp rfl rfl fd28_5 (by decide)) <| AR.op (r := .sl (List.map i64 a_0.Row)) rfl (aop_load_pp rfl rfl sz26 rfl) ?_
     obtain ⟨r37, hr37, h⟩ := Sh.bind_some' h
     refine AR.op (r := bl r37) rfl (aop_call1 rfl rfl (by simp) (edge_Cycle_ok hT hr37)) <| AR.keep [56] rfl <| AR.op (r := bl (!r37)) rfl (aop_not rfl rfl) <| AR.op rfl (aop_move (.inr rfl) rfl) <| AR.nil <| hK12 _ (AWP.weak (Weak.kt [2] rfl) ?_)
     refine awp_ret ?_
     obtain rfl := Option.some.inj h
     refine ⟨.inr rfl, bl (!r37), rfl, ?_⟩
     exact Weak.e ⟨.k, trivial⟩
    ·replace h := Sh.if_f h hb35
     refine awp_skip <| hK10 _ (AWP.weak (Weak.kt [1, 5] rfl) ?_)
     refine awp_seqK fun K13 hK13 => awp_reg rfl <| AR.op (r := G.graph_Graph.av r33.1) rfl (aop_load_pp rfl rfl sz34 rfl) ?_
     obtain ⟨r39, hr39, h⟩ := Sh.bind_some' h
     refine AR.op (r := .sl (List.map i64 r39)) rfl (aop_call1 rfl rfl (by simp) (cycle_Find_ok hT hr39)) <| AR.op rfl (aop_move (.inr rfl) rfl) <| AR.nil <| hK13 _ (AWP.weak (Weak.kt [1, 5, 7] rfl) ?_)
     refine awp_seqK fun K14 hK14 => awp_any [(true, false), (true, false), (true, false), (true, false), (true, false), (true, false), (true, false), (true, false), (true, false), (true, false), (true, false), (true, false), (true, false), (true, false), (true, false), (true, false), (true, false), (true, false), (true, false), (true, false), (true, false), (true, false), (true, false), (true, false), (true, false), (true, false), (true, false), (true, false), (true, false)] (by kernel_rfl) (by kernel_rfl) rfl ?_
     refine ARH.dry rfl (fun _ => aop_field_pp rfl rfl fd28_0 (by decide)) <| ARH.dry (r := G.api_Hist.av a_0.H) rfl (fun _ => aop_load_pp rfl rfl sz24 rfl) <| ARH.dry rfl (fun _ => aop_field_pp rfl rfl fd28_1 (by decide)) <| ARH.keep [1, 5, 7, 61, 62] rfl <| ARH.dry (r := i64 a_0.Level) rfl (fun _ => aop_load_pp rfl rfl sz3 rfl) <| ARH.dry rfl (fun _ => aop_field_pp rfl rfl fd28_2 (by decide)) <| ARH.dry (r := .sl (List.map G.api_Choice.av a_0.L)) rfl (fun _ => aop_load_pp rfl rfl sz25 rfl) <| ARH.keep [1, 5, 7, 61, 63, 65] rfl ?_
     refine ARH.dry rfl (fun _ => aop_field_pp rfl rfl fd28_5 (by decide)) <| ARH.dry (r := .sl (List.map i64 a_0.Row)) rfl (fun _ => aop_load_pp rfl rfl sz26 rfl) ?_
     obtain ⟨r44, hr44, h⟩ := Sh.bind_some' h
     refine ARH.dry (r := bl r44) rfl (fun _ => aop_call1 rfl rfl (by simp) (edge_Cycle_ok hT hr44)) <| ARH.keep [1, 5, 7, 68] rfl <| ARH.dry (r := G.graph_Graph.av r33.1) rfl (fun _ => aop_load_pp rfl rfl sz34 rfl) <| ARH.dry rfl (fun _ => aop_field_pp rfl rfl fd28_5 (by decide)) <| ARH.dry (r := .sl (List.map i64 a_0.Row)) rfl (fun _ => aop_load_pp rfl rfl sz26 rfl) <| ARH.keep [1, 7, 68, 69, 71] rfl ?_
     obtain ⟨r45, hr45, h⟩ := Sh.bind_some' h
     refine ARH.dry (r := bl r45) rfl (fun _ => aop_call1 rfl rfl (by simp) (cycle_Is_ok hT hr45)) <| ARH.dry (r := bl (r44 == r45)) rfl (fun _ => aop_eqb rfl rfl rfl Tryd.underlying4) <| ARH.dry rfl (fun _ => aop_move (.inl rfl) rfl) <| ARH.keep [1, 7, 74] rfl ?_
     rcases Bool.eq_false_or_eq_true (r44 == r45) with hb46 | hb46
     ·rw [hb46]
      replace h := Sh.if_t h hb46
      refine ARH.dry rfl (fun _ => aop_field_pp rfl rfl fd28_0 (by decide)) <| ARH.dry (r := G.api_Hist.av a_0.H) rfl (fun _ => aop_load_pp rfl rfl sz24 rfl) <| ARH.dry rfl (fun _ => aop_field_pp rfl rfl fd28_1 (by decide)) <| ARH.keep [1, 7, 74, 76, 77] rfl <| ARH.dry (r := i64 a_0.Level) rfl (fun _ => aop_load_pp rfl rfl sz3 rfl) <| ARH.dry rfl (fun _ => aop_field_pp rfl rfl fd28_2 (by decide)) <| ARH.dry (r := .sl (List.map G.api_Choice.av a_0.L)) rfl (fun _ => aop_load_pp rfl rfl sz25 rfl) <| ARH.keep [7, 74, 76, 78, 80] rfl ?_
      refine ARH.dry rfl (fun _ => aop_move (.inl rfl) rfl) ?_
      obtain ⟨r47, hr47, h⟩ := Sh.bind_some' h
      refine ARH.dry (r := bl r47) rfl (fun _ => aop_call1 rfl rfl (by simp) (edge_Cycle_ok hT hr47)) <| ARH.dry rfl (fun _ => aop_move (.inl rfl) rfl) <| ARH.keep [74, 82, 83] rfl <| ARH.dry rfl (fun _ => t_len_sl i64 r39 rfl rfl el26) <| ARH.dry rfl (fun _ => aop_gtr rfl rfl rfl) <| ARH.dry (r := bl (r47 == (decide ((0 : Int) < (Sh.len r39))))) rfl (fun _ => aop_eqb rfl rfl rfl Tryd.underlying4) <| ARH.keep [74, 86] rfl <| ARH.dry rfl (fun _ => aop_pick rfl rfl rfl) ?_
      refine ARH.dry rfl (fun _ => aop_move (.inr rfl) rfl) <| ARH.nil <| hK14 _ (AWP.weak (Weak.kt [2] rfl) ?_)
      refine awp_ret ?_
      obtain rfl := Option.some.inj h
      refine ⟨.inr rfl, bl (r47 == (decide ((0 : Int) < (Sh.len r39)))), rfl, ?_⟩
      exact Weak.e ⟨.k, trivial⟩
     ·rw [hb46]
      replace h := Sh.if_f h hb46
      refine ARH.skip rfl <| ARH.skip rfl <| ARH.skip rfl <| ARH.keep [1, 7, 74, 76, 77] rfl <| ARH.skip rfl <| ARH.skip rfl <| ARH.skip rfl <| ARH.keep [7, 74, 76, 78, 80] rfl ?_
      refine ARH.skip rfl <| ARH.skip rfl <| ARH.skip rfl <| ARH.keep [74, 82, 83] rfl <| ARH.skip rfl <| ARH.skip rfl <| ARH.skip rfl <| ARH.keep [74, 86] rfl ?_
      refine ARH.dry rfl (fun _ => aop_pick rfl rfl rfl) <| ARH.dry rfl (fun _ => aop_move (.inr rfl) rfl) <| ARH.nil <| hK14 _ (AWP.weak (Weak.kt [2] rfl) ?_)
      refine awp_ret ?_
      obtain rfl := Option.some.inj h
      refine ⟨.inr rfl, bl false, rfl, ?_⟩
      exact Weak.e ⟨.k, trivial⟩
  ·intro K15 hK15
   refine awp_reg rfl <| AR.op rfl (aop_move (.inl rfl) rfl) <| AR.op (r := bl (!r20)) rfl (aop_not rfl rfl) <| AR.op rfl (aop_move (.inl rfl) rfl) <| AR.keep [1, 16] rfl ?_
   rcases Bool.eq_false_or_eq_true (!r20) with hb48 | hb48
   ·rw [hb48]
    replace h := Sh.if_t h hb48
    refine AR.skip rfl <| AR.skip rfl <| AR.skip rfl <| AR.keep [1, 16, 19] rfl <| AR.skip rfl <| AR.op rfl (aop_pick rfl rfl rfl) <| AR.op rfl (aop_move (.inl rfl) rfl) <| AR.keep [1, 22] rfl ?_
    refine AR.skip rfl <| AR.skip rfl <| AR.skip rfl <| AR.keep [1, 22, 25] rfl <| AR.skip rfl <| AR.op rfl (aop_pick rfl rfl rfl) <| AR.op rfl (aop_move (.inl rfl) rfl) <| AR.keep [1, 28] rfl ?_
    refine AR.skip rfl <| AR.skip rfl <| AR.skip rfl <| AR.keep [1, 28, 30, 31] rfl <| AR.skip rfl <| AR.skip rfl <| AR.skip rfl <| AR.keep [1, 28, 34] rfl ?_
    refine AR.op rfl (aop_pick rfl rfl rfl) <| AR.nil ?_
    exact hK15 true _ h (Weak.kt [1, 35] rfl)
   ·rw [hb48]
    replace h := Sh.if_f h hb48
    refine AR.op rfl (aop_field_pp rfl rfl fd28_2 (by decide)) <| AR.op (r := .sl (List.map G.api_Choice.av a_0.L)) rfl (aop_load_pp rfl rfl sz25 rfl) <| AR.op rfl (t_len_sl G.api_Choice.av a_0.L rfl rfl el25) <| AR.keep [1, 16, 19] rfl <| AR.op rfl (aop_gtr rfl rfl rfl) <| AR.op rfl (aop_pick rfl rfl rfl) <| AR.op rfl (aop_move (.inl rfl) rfl) <| AR.keep [1, 22] rfl ?_
    rcases Bool.eq_false_or_eq_true (decide ((60 : Int) < (Sh.len a_0.L))) with hb49 | hb49
    ·rw [hb49]
     replace h := Sh.if_t h hb49
     refine AR.skip rfl <| AR.skip rfl <| AR.skip rfl <| AR.keep [1, 22, 25] rfl <| AR.skip rfl <| AR.op rfl (aop_pick rfl rfl rfl) <| AR.op rfl (aop_move (.inl rfl) rfl) <| AR.keep [1, 28] rfl ?_
     refine AR.skip rfl <| AR.skip rfl <| AR.skip rfl <| AR.keep [1, 28, 30, 31] rfl <| AR.skip rfl <| AR.skip rfl <| AR.skip rfl <| AR.keep [1, 28, 34] rfl ?_
     refine AR.op rfl (aop_pick rfl rfl rfl) <| AR.nil ?_
     exact hK15 true _ h (Weak.kt [1, 35] rfl)
    ·rw [hb49]
     replace h := Sh.if_f h hb49
     refine AR.op rfl (aop_field_pp rfl rfl fd28_5 (by decide)) <| AR.op (r := .sl (List.map i64 a_0.Row)) rfl (aop_load_pp rfl rfl sz26 rfl) <| AR.op rfl (t_len_sl i64 a_0.Row rfl rfl el26) <| AR.keep [1, 22, 25] rfl <| AR.op rfl (aop_gtr rfl rfl rfl) <| AR.op rfl (aop_pick rfl rfl rfl) <| AR.op rfl (aop_move (.inl rfl) rfl) <| AR.keep [1, 28] rfl ?_
     rcases Bool.eq_false_or_eq_true (decide ((50 : Int) < (Sh.len a_0.Row))) with hb50 | hb50
     ·rw [hb50]
      replace h := Sh.if_t h hb50
      refine AR.skip rfl <| AR.skip rfl <| AR.skip rfl <| AR.keep [1, 28, 30, 31] rfl <| AR.skip rfl <| AR.skip rfl <| AR.skip rfl <| AR.keep [1, 28, 34] rfl ?_
      refine AR.op rfl (aop_pick rfl rfl rfl) <| AR.nil ?_
      exact hK15 true _ h (Weak.kt [1, 35] rfl)
     ·rw [hb50]
      replace h := Sh.if_f h hb50
      refine AR.op rfl (aop_field_pp rfl rfl fd28_0 (by decide)) <| AR.op (r := G.api_Hist.av a_0.H) rfl (aop_load_pp rfl rfl sz24 rfl) <| AR.op rfl (aop_field_pp rfl rfl fd28_2 (by decide)) <| AR.keep [1, 28, 30, 31] rfl <| AR.op (r := .sl (List.map G.api_Choice.av a_0.L)) rfl (aop_load_pp rfl rfl sz25 rfl) ?_
      obtain ⟨r51, hr51, h⟩ := Sh.bind_some' h
      refine AR.op (r := bl r51) rfl (aop_call1 rfl rfl (by simp) (choice_Right_ok hT hr51)) <| AR.op (r := bl (!r51)) rfl (aop_not rfl rfl) <| AR.keep [1, 28, 34] rfl <| AR.op rfl (aop_pick rfl rfl rfl) <| AR.nil ?_
      exact hK15 (!r51) _ h (Weak.e (fr' := [(1, .pp [.sl (List.map G.api_Txn.av a_0.H.Txns), i64 a_0.Level, .sl (List.map G.api_Choice.av a_0.L), i64 a_0.X, i64 a_0.Y, .sl (List.map i64 a_0.Row)] 0), (35, bl (!r51))]) (H' := .empty) ⟨.k, .k, trivial⟩)
theorem inquestlaw19_EdgeCycle_ok {W0 : World} (hT : Tab W0) {a_0 : G.inquestlaw19_At} {r : Bool} (h : G.inquestlaw19_EdgeCycle a_0 = some r) : Fun1 Tryd.prog W0 5 [G.inquestlaw19_At.av a_0] (bl r) := Fun1.two (inquestlaw19_EdgeCycle_ok0 hT h) (by simp)

end Wk
