/- That a statement does what its plain function says. -/
import Derived.Test.YtcoegkcdabpijaaDoorWkDinquestlaw20
open Go Go.Av Go.Proofs
set_option linter.unusedVariables false
set_option maxHeartbeats 8000000
set_option maxRecDepth 20000
namespace Wk
theorem inquestlaw20_SerGraph_ok0 {W0 : World} (hT : Tab W0) {h_0 : G.api_Hist} {order_1 : List Int} {r : Bool} (h : G.inquestlaw20_SerGraph h_0 order_1 = some r) : Fun2 Tryd.prog W0 4 [G.api_Hist.av h_0, .sl (List.map i64 order_1)] (bl r) .empty := by
 refine fun2_of_awp Tryd.func4 rfl (by kernel_rfl) Tryd.ntmps4 (by simp) ?_
 unfold G.inquestlaw20_SerGraph at h
 show AWP _ _ _ _ ⟨[(0, G.api_Hist.av h_0), (1, .sl (List.map i64 order_1))], .empty⟩ _
 refine awp_seqK fun K1 hK1 => awp_reg rfl <| AR.op (r := .ref 0 0 0) rfl (aop_box 1 [G.api_Hist.av h_0] rfl rfl rfl (.inl ⟨rfl, rfl⟩)) <| AR.op rfl (aop_move (.inr rfl) rfl) <| AR.nil <| hK1 _ (AWP.weak (Weak.e (fr' := [(1, .sl (List.map i64 order_1)), (2, .pp [.sl (List.map G.api_Txn.av h_0.Txns)] 0)]) (H' := .empty) ⟨⟨.sl (List.map i64 order_1), rfl, .sm⟩, ⟨_, rfl, .frzA rfl rfl rfl rfl (by simp)⟩, trivial⟩) ?_)
 refine awp_seqK fun K2 hK2 => awp_reg rfl ?_
 obtain ⟨r12, hr12, h⟩ := Sh.bind_some' h
 refine AR.op (r := bl r12) rfl (aop_call1 rfl rfl (by simp) (inquestlaw20_awake_ok hT hr12)) <| AR.op rfl (aop_move (.inr rfl) rfl) <| AR.nil <| hK2 _ (AWP.weak (Weak.kt [1, 2, 5] rfl) ?_)
 refine awp_seqK fun K3 hK3 => awp_seqK fun K4 hK4 => awp_reg rfl <| AR.op rfl (aop_move (.inl rfl) rfl) <| AR.op (r := bl (!r12)) rfl (aop_not rfl rfl) <| AR.nil <| hK4 _ (AWP.weak (Weak.kt [1, 2, 13] rfl) ?_)
 refine awp_cond rfl (fun hb13 => ?_) (fun hb13 => ?_)
 ·replace h := Sh.if_t h hb13
  refine awp_seqK fun K5 hK5 => awp_reg rfl <| AR.op rfl (aop_move (.inr rfl) rfl) <| AR.nil <| hK5 _ (AWP.weak (Weak.kt [4] rfl) ?_)
  refine awp_ret ?_
  obtain rfl := Option.some.inj h
  refine ⟨.inr rfl, bl false, rfl, ?_⟩
  exact Weak.e ⟨.k, trivial⟩
 ·replace h := Sh.if_f h hb13
  refine awp_skip <| hK3 _ (AWP.weak (Weak.kt [1, 2] rfl) ?_)
  refine awp_seqK fun K6 hK6 => awp_reg rfl <| AR.op (r := G.api_Hist.av h_0) rfl (aop_load_pp rfl rfl sz24 rfl) ?_
  obtain ⟨r15, hr15, h⟩ := Sh.bind_some' h
  refine AR.op (r := bl r15) rfl (aop_call1 rfl rfl (by simp) (inquestref08_Few_ok hT hr15)) <| AR.op rfl (aop_move (.inr rfl) rfl) <| AR.nil <| hK6 _ (AWP.weak (Weak.kt [1, 2, 6] rfl) ?_)
  refine awp_seqK fun K7 hK7 => awp_reg rfl <| AR.op rfl (aop_move (.inl rfl) rfl) <| AR.op rfl (aop_field_pp rfl rfl fd24_0 (by decide)) <| AR.op (r := .sl (List.map G.api_Txn.av h_0.Txns)) rfl (aop_load_pp rfl rfl sz22 rfl) <| AR.keep [1, 2, 6, 16, 18] rfl <| AR.op rfl (t_len_sl G.api_Txn.av h_0.Txns rfl rfl el22) ?_
  obtain ⟨r17, hr17, h⟩ := Sh.bind_some' h
  refine AR.op (r := bl r17) rfl (aop_call1 rfl rfl (by simp) (inquestref18_Perm_ok hT hr17)) <| AR.op rfl (aop_move (.inr rfl) rfl) <| AR.nil <| hK7 _ (AWP.weak (Weak.kt [1, 2, 6, 7] rfl) ?_)
  refine awp_seqK fun K8 hK8 => awp_seqJ (fun (p : Bool) => (⟨[(1, .sl (List.map i64 order_1)), (2, .pp [.sl (List.map G.api_Txn.av h_0.Txns)] 0), (26, bl p)], .empty⟩ : St)) (fun (p : Bool) => G.inquestlaw20_SerGraph_j1 h_0 order_1 p = some r) ?_ ?_
  ·rintro v21 h
   replace h : G.inquestlaw20_SerGraph_j1 h_0 order_1 v21 = some r := h
   unfold G.inquestlaw20_SerGraph_j1 at h
   refine awp_cond rfl (fun hb22 => ?_) (fun hb22 => ?_)
   ·replace h := Sh.if_t h hb22
    refine awp_seqK fun K9 hK9 => awp_reg rfl <| AR.op rfl (aop_move (.inr rfl) rfl) <| AR.nil <| hK9 _ (AWP.weak (Weak.kt [4] rfl) ?_)
    refine awp_ret ?_
    obtain rfl := Option.some.inj h
    refine ⟨.inr rfl, bl true, rfl, ?_⟩
    exact Weak.e ⟨.k, trivial⟩
   ·replace h := Sh.if_f h hb22
    refine awp_skip <| hK8 _ (AWP.weak (Weak.kt [1, 2] rfl) ?_)
    refine awp_seqK fun K10 hK10 => awp_reg rfl <| AR.op (r := G.api_Hist.av h_0) rfl (aop_load_pp rfl rfl sz24 rfl) <| AR.op rfl (aop_move (.inl rfl) rfl) ?_
    obtain ⟨r24, hr24, h⟩ := Sh.bind_some' h
    refine AR.op (r := .sl (List.map G.api_Choice.av r24)) rfl (aop_call1 rfl rfl (by simp) (choice_Of_ok hT hr24)) <| AR.keep [1, 2, 29] rfl <| AR.op rfl (aop_move (.inr rfl) rfl) <| AR.nil <| hK10 _ (AWP.weak (Weak.kt [1, 2, 8] rfl) ?_)
    refine awp_seqK fun K11 hK11 => awp_reg rfl <| AR.op (r := G.api_Hist.av h_0) rfl (aop_load_pp rfl rfl sz24 rfl) <| AR.op rfl (aop_move (.inl rfl) rfl) ?_
    obtain ⟨r26, hr26, h⟩ := Sh.bind_some' h
    refine AR.op (r := .tuple [G.graph_Graph.av r26.1, i64 r26.2]) rfl (aop_call1 rfl rfl (by simp) (choice_Full_ok hT hr26)) <| AR.keep [1, 2, 8, 33] rfl <| AR.op rfl (aop_move (.inl rfl) rfl) <| AR.op (r := G.graph_Graph.av r26.1) rfl (aop_extract rfl rfl rfl) <| AR.op (r := i64 r26.2) rfl (aop_extract rfl rfl rfl) <| AR.keep [1, 2, 8, 34, 35] rfl <| AR.op (r := .ref 0 0 0) rfl (aop_alloc 2 [.agg [i64 0, nilS]] rfl zr34 (by kernel_rfl) (.inl ⟨rfl, rfl⟩)) <| AR.op rfl (aop_store (e' := G.graph_Graph.av r26.1) rfl rfl rfl rfl rfl rfl sz34 rfl dt rfl) ?_
    refine AR.op rfl (aop_move (.inr rfl) rfl) <| AR.nil <| hK11 _ (AWP.weak (Weak.e (fr' := [(1, .sl (List.map i64 order_1)), (2, .pp [.sl (List.map G.api_Txn.av h_0.Txns)] 0), (8, .sl (List.map G.api_Choice.av r24)), (9, .pp [i64 r26.1.N, .sl (List.map u64 r26.1.Rows)] 0), (10, i64 r26.2)]) (H' := .empty) ⟨⟨.sl (List.map i64 order_1), rfl, .sm⟩, .k, ⟨.sl (List.map G.api_Choice.av r24), rfl, .sm⟩, ⟨_, rfl, .frzA rfl rfl rfl rfl (by simp)⟩, .k, trivial⟩) ?_)
    refine awp_seqK fun K12 hK12 => awp_seqK fun K13 hK13 => awp_reg rfl <| AR.op rfl (aop_move (.inl rfl) rfl) <| AR.op (r := bl (decide (r26.2 ≠ 0))) rfl (aop_neq rfl rfl rfl) <| AR.nil <| hK13 _ (AWP.weak (Weak.kt [1, 2, 8, 9, 37] rfl) ?_)
    refine awp_cond rfl (fun hb28 => ?_) (fun hb28 => ?_)
    ·replace h := Sh.if_t h hb28
     refine awp_seqK fun K14 hK14 => awp_reg rfl <| AR.op (r := G.api_Hist.av h_0) rfl (aop_load_pp rfl rfl sz24 rfl) <| AR.op rfl (aop_move (.inl rfl) rfl) ?_
     obtain ⟨r30, hr30, h⟩ := Sh.bind_some' h
     refine AR.op (r := bl r30) rfl (aop_call1 rfl rfl (by simp) (choice_Right_ok hT hr30)) <| AR.keep [40] rfl <| AR.op (r := bl (!r30)) rfl (aop_not rfl rfl) <| AR.op rfl (aop_move (.inr rfl) rfl) <| AR.nil <| hK14 _ (AWP.weak (Weak.kt [4] rfl) ?_)
     refine awp_ret ?_
     obtain rfl := Option.some.inj h
     refine ⟨.inr rfl, bl (!r30), rfl, ?_⟩
     exact Weak.e ⟨.k, trivial⟩
    ·replace h := Sh.if_f h hb28
     refine awp_skip <| hK12 _ (AWP.weak (Weak.kt [1, 2, 9] rfl) ?_)
     refine awp_seqK fun K15 hK15 => awp_any [(true, false), (true, false), (true, false), (true, false), (true, false), (true, false), (true, false), (true, false)] (by kernel_rfl) (by kernel_rfl) rfl ?_
     refine ARH.dry (r := G.api_Hist.av h_0) rfl (fun _ => aop_load_pp rfl rfl sz24 rfl) <| ARH.dry rfl (fun _ => aop_move (.inl rfl) rfl) ?_
     obtain ⟨r33, hr33, h⟩ := Sh.bind_some' h
     refine ARH.dry (r := bl r33) rfl (fun _ => aop_call1 rfl rfl (by simp) (ser_Check_ok hT hr33)) <| ARH.keep [1, 9, 44] rfl <| ARH.dry (r := G.graph_Graph.av r26.1) rfl (fun _ => aop_load_pp rfl rfl sz34 rfl) <| ARH.dry rfl (fun _ => aop_move (.inl rfl) rfl) ?_
     obtain ⟨r34, hr34, h⟩ := Sh.bind_some' h
     refine ARH.dry (r := bl r34) rfl (fun _ => aop_call1 rfl rfl (by simp) (topo_Is_ok hT hr34)) <| ARH.keep [44, 47] rfl <| ARH.dry (r := bl (r33 == r34)) rfl (fun _ => aop_eqb rfl rfl rfl Tryd.underlying4) <| ARH.dry rfl (fun _ => aop_move (.inr rfl) rfl) <| ARH.nil <| hK15 _ (AWP.weak (Weak.kt [4] rfl) ?_)
     refine awp_ret ?_
     obtain rfl := Option.some.inj h
     refine ⟨.inr rfl, bl (r33 == r34), rfl, ?_⟩
     exact Weak.e ⟨.k, trivial⟩
  ·intro K16 hK16
   refine awp_reg rfl <| AR.op rfl (aop_move (.inl rfl) rfl) <| AR.op (r := bl (!r15)) rfl (aop_not rfl rfl) <| AR.op rfl (aop_move (.inl rfl) rfl) <| AR.keep [1, 2, 7, 23] rfl ?_
   rcases Bool.eq_false_or_eq_true (!r15) with hb35 | hb35
   ·rw [hb35]
    replace h := Sh.if_t h hb35
    refine AR.skip rfl <| AR.skip rfl <| AR.op rfl (aop_pick rfl rfl rfl) <| AR.nil ?_
    exact hK16 true _ h (Weak.kt [1, 2, 26] rfl)
   ·rw [hb35]
    replace h := Sh.if_f h hb35
    refine AR.op rfl (aop_move (.inl rfl) rfl) <| AR.op (r := bl (!r17)) rfl (aop_not rfl rfl) <| AR.op rfl (aop_pick rfl rfl rfl) <| AR.nil ?_
    exact hK16 (!r17) _ h (Weak.kt [1, 2, 26] rfl)
theorem inquestlaw20_SerGraph_ok {W0 : World} (hT : Tab W0) {h_0 : G.api_Hist} {order_1 : List Int} {r : Bool} (h : G.inquestlaw20_SerGraph h_0 order_1 = some r) : Fun1 Tryd.prog W0 4 [G.api_Hist.av h_0, .sl (List.map i64 order_1)] (bl r) := Fun1.two (inquestlaw20_SerGraph_ok0 hT h) (by simp)

end Wk
