/- That a statement does what its plain function says. -/
import Derived.Test.YtfgndjgcfkfobaaDoorWkKinquestlaw18
open Go Go.Av Go.Proofs
set_option linter.unusedVariables false
set_option maxHeartbeats 8000000
set_option maxRecDepth 20000
namespace Wk
theorem inquestlaw18_ChoiceBack_ok0 {W0 : World} (hT : Tab W0) {h_0 : G.api_Hist} {l_1 : List G.api_Choice} {r : Bool} (h : G.inquestlaw18_ChoiceBack h_0 l_1 = some r) : Fun2 Tryd.prog W0 7 [G.api_Hist.av h_0, .sl (List.map G.api_Choice.av l_1)] (bl r) .empty := by
 refine fun2_of_awp Tryd.func7 rfl (by kernel_rfl) Tryd.ntmps7 (by simp) ?_
 unfold G.inquestlaw18_ChoiceBack at h
 show AWP _ _ _ _ ⟨[(0, G.api_Hist.av h_0), (1, .sl (List.map G.api_Choice.av l_1))], .empty⟩ _
 refine awp_seqK fun K1 hK1 => awp_reg rfl <| AR.op (r := .ref 0 0 0) rfl (aop_box 1 [G.api_Hist.av h_0] rfl rfl rfl (.inl ⟨rfl, rfl⟩)) <| AR.op rfl (aop_move (.inr rfl) rfl) <| AR.nil <| hK1 _ (AWP.weak (Weak.e (fr' := [(1, .sl (List.map G.api_Choice.av l_1)), (2, .pp [.sl (List.map G.api_Txn.av h_0.Txns)] 0)]) (H' := .empty) ⟨⟨.sl (List.map G.api_Choice.av l_1), rfl, .sm⟩, ⟨_, rfl, .frzA rfl rfl rfl rfl (by simp)⟩, trivial⟩) ?_)
 refine awp_seqK fun K2 hK2 => awp_reg rfl ?_
 obtain ⟨r28, hr28, h⟩ := Sh.bind_some' h
 refine AR.op (r := bl r28) rfl (aop_call1 rfl rfl (by simp) (inquestlaw18_awake_ok hT hr28)) <| AR.op rfl (aop_move (.inr rfl) rfl) <| AR.nil <| hK2 _ (AWP.weak (Weak.kt [1, 2, 5] rfl) ?_)
 refine awp_seqK fun K3 hK3 => awp_seqK fun K4 hK4 => awp_reg rfl <| AR.op rfl (aop_move (.inl rfl) rfl) <| AR.op (r := bl (!r28)) rfl (aop_not rfl rfl) <| AR.nil <| hK4 _ (AWP.weak (Weak.kt [1, 2, 15] rfl) ?_)
 refine awp_cond rfl (fun hb29 => ?_) (fun hb29 => ?_)
 ·replace h := Sh.if_t h hb29
  refine awp_seqK fun K5 hK5 => awp_reg rfl <| AR.op rfl (aop_move (.inr rfl) rfl) <| AR.nil <| hK5 _ (AWP.weak (Weak.kt [4] rfl) ?_)
  refine awp_ret ?_
  obtain rfl := Option.some.inj h
  refine ⟨.inr rfl, bl false, rfl, ?_⟩
  exact Weak.e ⟨.k, trivial⟩
 ·replace h := Sh.if_f h hb29
  refine awp_skip <| hK3 _ (AWP.weak (Weak.kt [1, 2] rfl) ?_)
  refine awp_seqK fun K6 hK6 => awp_reg rfl <| AR.op (r := G.api_Hist.av h_0) rfl (aop_load_pp rfl rfl sz24 rfl) ?_
  obtain ⟨r31, hr31, h⟩ := Sh.bind_some' h
  refine AR.op (r := bl r31) rfl (aop_call1 rfl rfl (by simp) (inquestref08_Few_ok hT hr31)) <| AR.op rfl (aop_move (.inr rfl) rfl) <| AR.nil <| hK6 _ (AWP.weak (Weak.kt [1, 2, 6] rfl) ?_)
  refine awp_seqK fun K7 hK7 => awp_seqJ (fun (p : Bool) => (⟨[(1, .sl (List.map G.api_Choice.av l_1)), (2, .pp [.sl (List.map G.api_Txn.av h_0.Txns)] 0), (35, bl p)], .empty⟩ : St)) (fun (p : Bool) => G.inquestlaw18_ChoiceBack_j1 h_0 l_1 p = some r) ?_ ?_
  ·rintro v41 h
   replace h : G.inquestlaw18_ChoiceBack_j1 h_0 l_1 v41 = some r := h
   unfold G.inquestlaw18_ChoiceBack_j1 at h
   show AWP _ _ _ _ ⟨[(1, .sl (List.map G.api_Choice.av l_1)), (2, .pp [.sl (List.map G.api_Txn.av h_0.Txns)] 0), (35, bl v41)], .empty⟩ _
   refine awp_cond rfl (fun hb42 => ?_) (fun hb42 => ?_)
   ·replace h := Sh.if_t h hb42
    refine awp_seqK fun K8 hK8 => awp_reg rfl <| AR.op rfl (aop_move (.inr rfl) rfl) <| AR.nil <| hK8 _ (AWP.weak (Weak.kt [4] rfl) ?_)
    refine awp_ret ?_
    obtain rfl := Option.some.inj h
    refine ⟨.inr rfl, bl true, rfl, ?_⟩
    exact Weak.e ⟨.k, trivial⟩
   ·replace h := Sh.if_f h hb42
    refine awp_skip <| hK7 _ (AWP.weak (Weak.kt [1, 2] rfl) ?_)
    refine awp_seqK fun K9 hK9 => awp_reg rfl <| AR.op rfl (aop_move (.inr rfl) rfl) <| AR.nil <| hK9 _ ?_
    refine awp_seqK fun K10 hK10 => awp_reg rfl <| AR.op rfl (aop_move (.inl rfl) rfl) <| AR.op rfl (aop_move (.inl rfl) rfl) ?_
    obtain ⟨both44, hboth44, h⟩ := Sh.bind_some' h
    refine AR.op (r := .view 0 0 (List.map G.api_Choice.av both44).length) rfl (t_app_nil G.api_Choice.av l_1 both44 hboth44 et51 (fun _ => rfl) rfl rfl rfl rfl rfl) <| AR.keep [1, 2, 38] rfl <| AR.op rfl (aop_move (.inr rfl) rfl) <| AR.nil <| hK10 _ (AWP.weak (Weak.re (fr' := [(1, .sl (List.map G.api_Choice.av l_1)), (2, .pp [.sl (List.map G.api_Txn.av h_0.Txns)] 0), (7, .view 0 0 (List.map G.api_Choice.av both44).length)]) (H' := ⟨1, [(0, (3, List.map G.api_Choice.av both44))], []⟩) [(0, 0)] [] rfl rfl rfl (.cons rfl rfl (.same (by simp)) dt trivial) ⟨⟨.sl (List.map G.api_Choice.av l_1), rfl, .sm⟩, .k, ⟨_, rfl, .view rfl⟩, trivial⟩) ?_)
    refine awp_seqK fun K11 hK11 => awp_reg rfl <| AR.op rfl (aop_move (.inl rfl) rfl) <| AR.op rfl (aop_move (.inl rfl) rfl) ?_
    obtain ⟨x49, hx49, h⟩ := Sh.bind_some' h
    obtain ⟨k50, hi50, hl50⟩ := Sh.idx_some hx49
    refine AR.op rfl (t_index_sl G.api_Choice.av l_1 hi50 hl50 rfl rfl rfl el51 rfl) <| AR.keep [1, 2, 39, 41] rfl <| AR.op (r := G.api_Choice.av x49) rfl (aop_load_pp rfl rfl sz54 rfl) ?_
    obtain ⟨r51, hr51, h⟩ := Sh.bind_some' h
    refine AR.op (r := G.api_Choice.av r51) rfl (aop_call1 rfl rfl (by simp) (inquestref18_Back_ok hT hr51)) <| AR.op (r := .clip (List.map G.api_Choice.av ([r51] : List G.api_Choice))) rfl (aop_buildSlice rfl (xo := [.tmp 43]) rfl rfl rfl (by simp) (by simp) el51 ze51 (by decide)) <| AR.keep [1, 2, 39, 44] rfl ?_
    obtain ⟨both52, hboth52, h⟩ := Sh.bind_some' h
    refine AR.op (r := .view 1 0 (List.map G.api_Choice.av both52).length) rfl (t_app_view G.api_Choice.av both44 ([r51] : List G.api_Choice) both52 hboth52 rfl et51 (fun _ => rfl) rfl rfl rfl rfl rfl rfl rfl) <| AR.op rfl (aop_move (.inr rfl) rfl) <| AR.nil <| hK11 _ (AWP.weak (Weak.e (fr' := [(1, .sl (List.map G.api_Choice.av l_1)), (2, .pp [.sl (List.map G.api_Txn.av h_0.Txns)] 0), (7, .sl (List.map G.api_Choice.av both52))]) (H' := .empty) ⟨⟨.sl (List.map G.api_Choice.av l_1), rfl, .sm⟩, .k, ⟨_, rfl, .lendAll rfl rfl (by simp)⟩, trivial⟩) ?_)
    refine awp_seqK fun K12 hK12 => awp_reg rfl <| AR.op (r := G.api_Hist.av h_0) rfl (aop_load_pp rfl rfl sz24 rfl) <| AR.op rfl (aop_move (.inl rfl) rfl) ?_
    obtain ⟨r54, hr54, h⟩ := Sh.bind_some' h
    refine AR.op (r := .tuple [G.graph_Graph.av r54.1, i64 r54.2]) rfl (aop_call1 rfl rfl (by simp) (choice_Full_ok hT hr54)) <| AR.keep [1, 2, 7, 49] rfl <| AR.op rfl (aop_move (.inl rfl) rfl) <| AR.op (r := G.graph_Graph.av r54.1) rfl (aop_extract rfl rfl rfl) <| AR.op (r := i64 r54.2) rfl (aop_extract rfl rfl rfl) <| AR.keep [1, 2, 7, 50, 51] rfl <| AR.op (r := .ref 0 0 0) rfl (aop_alloc 2 [.agg [i64 0, nilS]] rfl zr31 (by kernel_rfl) (.inl ⟨rfl, rfl⟩)) <| AR.op rfl (aop_store (e' := G.graph_Graph.av r54.1) rfl rfl rfl rfl rfl rfl sz31 rfl dt rfl) ?_
    refine AR.op rfl (aop_move (.inr rfl) rfl) <| AR.nil <| hK12 _ (AWP.weak (Weak.e (fr' := [(1, .sl (List.map G.api_Choice.av l_1)), (2, .pp [.sl (List.map G.api_Txn.av h_0.Txns)] 0), (7, .sl (List.map G.api_Choice.av both52)), (8, .pp [i64 r54.1.N, .sl (List.map u64 r54.1.Rows)] 0), (9, i64 r54.2)]) (H' := .empty) ⟨⟨.sl (List.map G.api_Choice.av l_1), rfl, .sm⟩, .k, ⟨.sl (List.map G.api_Choice.av both52), rfl, .sm⟩, ⟨_, rfl, .frzA rfl rfl rfl rfl (by simp)⟩, .k, trivial⟩) ?_)
    refine awp_seqK fun K13 hK13 => awp_reg rfl <| AR.op (r := G.api_Hist.av h_0) rfl (aop_load_pp rfl rfl sz24 rfl) <| AR.op rfl (aop_move (.inl rfl) rfl) ?_
    obtain ⟨r56, hr56, h⟩ := Sh.bind_some' h
    refine AR.op (r := .tuple [G.graph_Graph.av r56.1, i64 r56.2]) rfl (aop_call1 rfl rfl (by simp) (choice_Full_ok hT hr56)) <| AR.keep [1, 8, 9, 55] rfl <| AR.op rfl (aop_move (.inl rfl) rfl) <| AR.op (r := G.graph_Graph.av r56.1) rfl (aop_extract rfl rfl rfl) <| AR.op (r := i64 r56.2) rfl (aop_extract rfl rfl rfl) <| AR.keep [1, 8, 9, 56, 57] rfl <| AR.op (r := .ref 0 0 0) rfl (aop_alloc 2 [.agg [i64 0, nilS]] rfl zr31 (by kernel_rfl) (.inl ⟨rfl, rfl⟩)) <| AR.op rfl (aop_store (e' := G.graph_Graph.av r56.1) rfl rfl rfl rfl rfl rfl sz31 rfl dt rfl) ?_
    refine AR.op rfl (aop_move (.inr rfl) rfl) <| AR.nil <| hK13 _ (AWP.weak (Weak.e (fr' := [(1, .sl (List.map G.api_Choice.av l_1)), (8, .pp [i64 r54.1.N, .sl (List.map u64 r54.1.Rows)] 0), (9, i64 r54.2), (10, .pp [i64 r56.1.N, .sl (List.map u64 r56.1.Rows)] 0), (11, i64 r56.2)]) (H' := .empty) ⟨⟨.sl (List.map G.api_Choice.av l_1), rfl, .sm⟩, .k, .k, ⟨_, rfl, .frzA rfl rfl rfl rfl (by simp)⟩, .k, trivial⟩) ?_)
    refine awp_seqK fun K14 hK14 => awp_reg rfl <| AR.op rfl (aop_move (.inl rfl) rfl) ?_
    obtain ⟨x59, hx59, h⟩ := Sh.bind_some' h
    obtain ⟨k60, hi60, hl60⟩ := Sh.idx_some hx59
    refine AR.op rfl (t_index_sl G.api_Choice.av l_1 hi60 hl60 rfl rfl rfl el51 rfl) <| AR.op (r := G.api_Choice.av x59) rfl (aop_load_pp rfl rfl sz54 rfl) <| AR.keep [8, 9, 10, 11, 60] rfl <| AR.op (r := .ref 0 0 0) rfl (aop_alloc 3 [.agg [i64 0, i64 0, i64 0]] rfl zr54 (by kernel_rfl) (.inl ⟨rfl, rfl⟩)) <| AR.op rfl (aop_store (e' := G.api_Choice.av x59) rfl rfl rfl rfl rfl rfl sz54 rfl dt rfl) <| AR.nil <| hK14 _ (AWP.weak (Weak.e (fr' := [(8, .pp [i64 r54.1.N, .sl (List.map u64 r54.1.Rows)] 0), (9, i64 r54.2), (10, .pp [i64 r56.1.N, .sl (List.map u64 r56.1.Rows)] 0), (11, i64 r56.2), (12, .pp [i64 x59.Key, i64 x59.A, i64 x59.B] 0)]) (H' := .empty) ⟨.k, .k, .k, .k, ⟨_, rfl, .frzA rfl rfl rfl rfl (by simp)⟩, trivial⟩) ?_)
    refine awp_seqK fun K15 hK15 => awp_reg rfl <| AR.op rfl (aop_move (.inl rfl) rfl) <| AR.op (r := bl (decide (r54.2 = 0))) rfl (aop_eql rfl rfl rfl) <| AR.op rfl (aop_move (.inl rfl) rfl) <| AR.keep [8, 10, 11, 12, 63] rfl ?_
    rcases Bool.eq_false_or_eq_true (decide (r54.2 = 0)) with hb70 | hb70
    ·rw [hb70]
     replace h := Sh.if_t h hb70
     refine AR.op rfl (aop_move (.inl rfl) rfl) <| AR.op (r := bl (decide (r56.2 = 0))) rfl (aop_eql rfl rfl rfl) <| AR.op rfl (aop_pick rfl rfl rfl) <| AR.keep [8, 10, 12, 66] rfl <| AR.op rfl (aop_move (.inl rfl) rfl) ?_
     rcases Bool.eq_false_or_eq_true (decide (r56.2 = 0)) with hb71 | hb71
     ·rw [hb71]
      replace h := Sh.if_t h hb71
      refine AR.op (r := G.graph_Graph.av r54.1) rfl (aop_load_pp rfl rfl sz31 rfl) <| AR.op rfl (aop_field_pp rfl rfl fd54_1 (by decide)) <| AR.keep [8, 10, 12, 67, 68, 69] rfl <| AR.op (r := i64 x59.A) rfl (aop_load_pp rfl rfl sz3 rfl) <| AR.op rfl (aop_field_pp rfl rfl fd54_2 (by decide)) <| AR.op (r := i64 x59.B) rfl (aop_load_pp rfl rfl sz3 rfl) <| AR.keep [8, 10, 12, 67, 68, 70, 72] rfl ?_
      obtain ⟨r72, hr72, h⟩ := Sh.bind_some' h
      refine AR.op (r := bl r72) rfl (aop_call1 rfl rfl (by simp) (graph_Has_ok hT hr72)) <| AR.op rfl (aop_pick rfl rfl rfl) <| AR.op rfl (aop_move (.inl rfl) rfl) <| AR.keep [8, 10, 12, 75] rfl ?_
      rcases Bool.eq_false_or_eq_true (r72) with hb73 | hb73
      ·rw [hb73]
       replace h := Sh.if_t h hb73
       refine AR.op (r := G.graph_Graph.av r54.1) rfl (aop_load_pp rfl rfl sz31 rfl) <| AR.op rfl (aop_field_pp rfl rfl fd54_2 (by decide)) <| AR.op (r := i64 x59.B) rfl (aop_load_pp rfl rfl sz3 rfl) <| AR.keep [10, 12, 75, 76, 78] rfl <| AR.op rfl (aop_field_pp rfl rfl fd54_1 (by decide)) <| AR.op (r := i64 x59.A) rfl (aop_load_pp rfl rfl sz3 rfl) ?_
       obtain ⟨r74, hr74, h⟩ := Sh.bind_some' h
       refine AR.op (r := bl r74) rfl (aop_call1 rfl rfl (by simp) (graph_Has_ok hT hr74)) <| AR.keep [10, 12, 75, 81] rfl <| AR.op rfl (aop_pick rfl rfl rfl) <| AR.op rfl (aop_move (.inl rfl) rfl) ?_
       rcases Bool.eq_false_or_eq_true (r74) with hb75 | hb75
       ·rw [hb75]
        replace h := Sh.if_t h hb75
        refine AR.op (r := G.graph_Graph.av r56.1) rfl (aop_load_pp rfl rfl sz31 rfl) <| AR.keep [10, 12, 83, 84] rfl <| AR.op rfl (aop_field_pp rfl rfl fd54_1 (by decide)) <| AR.op (r := i64 x59.A) rfl (aop_load_pp rfl rfl sz3 rfl) <| AR.op rfl (aop_field_pp rfl rfl fd54_2 (by decide)) <| AR.keep [10, 12, 83, 84, 86, 87] rfl <| AR.op (r := i64 x59.B) rfl (aop_load_pp rfl rfl sz3 rfl) ?_
        obtain ⟨r76, hr76, h⟩ := Sh.bind_some' h
        refine AR.op (r := bl r76) rfl (aop_call1 rfl rfl (by simp) (graph_Has_ok hT hr76)) <| AR.op rfl (aop_pick rfl rfl rfl) <| AR.keep [10, 12, 90] rfl <| AR.op rfl (aop_move (.inl rfl) rfl) ?_
        rcases Bool.eq_false_or_eq_true (r76) with hb77 | hb77
        ·rw [hb77]
         replace h := Sh.if_t h hb77
         refine AR.op (r := G.graph_Graph.av r56.1) rfl (aop_load_pp rfl rfl sz31 rfl) <| AR.op rfl (aop_field_pp rfl rfl fd54_2 (by decide)) <| AR.keep [12, 91, 92, 93] rfl <| AR.op (r := i64 x59.B) rfl (aop_load_pp rfl rfl sz3 rfl) <| AR.op rfl (aop_field_pp rfl rfl fd54_1 (by decide)) <| AR.op (r := i64 x59.A) rfl (aop_load_pp rfl rfl sz3 rfl) <| AR.keep [91, 92, 94, 96] rfl ?_
         obtain ⟨r78, hr78, h⟩ := Sh.bind_some' h
         refine AR.op (r := bl r78) rfl (aop_call1 rfl rfl (by simp) (graph_Has_ok hT hr78)) <| AR.op rfl (aop_pick rfl rfl rfl) <| AR.op rfl (aop_move (.inr rfl) rfl) <| AR.nil <| hK15 _ (AWP.weak (Weak.kt [4] rfl) ?_)
         refine awp_ret ?_
         obtain rfl := Option.some.inj h
         refine ⟨.inr rfl, bl r78, rfl, ?_⟩
         exact Weak.e ⟨.k, trivial⟩
        ·rw [hb77]
         replace h := Sh.if_f h hb77
         refine AR.skip rfl <| AR.skip rfl <| AR.keep [12, 91, 92, 93] rfl <| AR.skip rfl <| AR.skip rfl <| AR.skip rfl <| AR.keep [91, 92, 94, 96] rfl <| AR.skip rfl ?_
         refine AR.op rfl (aop_pick rfl rfl rfl) <| AR.op rfl (aop_move (.inr rfl) rfl) <| AR.nil <| hK15 _ (AWP.weak (Weak.kt [4] rfl) ?_)
         refine awp_ret ?_
         obtain rfl := Option.some.inj h
         refine ⟨.inr rfl, bl false, rfl, ?_⟩
         exact Weak.e ⟨.k, trivial⟩
       ·rw [hb75]
        replace h := Sh.if_f h hb75
        refine AR.skip rfl <| AR.keep [10, 12, 83, 84] rfl <| AR.skip rfl <| AR.skip rfl <| AR.skip rfl <| AR.keep [10, 12, 83, 84, 86, 87] rfl <| AR.skip rfl <| AR.skip rfl ?_
        refine AR.op rfl (aop_pick rfl rfl rfl) <| AR.keep [10, 12, 90] rfl <| AR.op rfl (aop_move (.inl rfl) rfl) <| AR.skip rfl <| AR.skip rfl <| AR.keep [12, 91, 92, 93] rfl <| AR.skip rfl <| AR.skip rfl ?_
        refine AR.skip rfl <| AR.keep [91, 92, 94, 96] rfl <| AR.skip rfl <| AR.op rfl (aop_pick rfl rfl rfl) <| AR.op rfl (aop_move (.inr rfl) rfl) <| AR.nil <| hK15 _ (AWP.weak (Weak.kt [4] rfl) ?_)
        refine awp_ret ?_
        obtain rfl := Option.some.inj h
        refine ⟨.inr rfl, bl false, rfl, ?_⟩
        exact Weak.e ⟨.k, trivial⟩
      ·rw [hb73]
       replace h := Sh.if_f h hb73
       refine AR.skip rfl <| AR.skip rfl <| AR.skip rfl <| AR.keep [10, 12, 75, 76, 78] rfl <| AR.skip rfl <| AR.skip rfl <| AR.skip rfl <| AR.keep [10, 12, 75, 81] rfl ?_
       refine AR.op rfl (aop_pick rfl rfl rfl) <| AR.op rfl (aop_move (.inl rfl) rfl) <| AR.skip rfl <| AR.keep [10, 12, 83, 84] rfl <| AR.skip rfl <| AR.skip rfl <| AR.skip rfl <| AR.keep [10, 12, 83, 84, 86, 87] rfl ?_
       refine AR.skip rfl <| AR.skip rfl <| AR.op rfl (aop_pick rfl rfl rfl) <| AR.keep [10, 12, 90] rfl <| AR.op rfl (aop_move (.inl rfl) rfl) <| AR.skip rfl <| AR.skip rfl <| AR.keep [12, 91, 92, 93] rfl ?_
       refine AR.skip rfl <| AR.skip rfl <| AR.skip rfl <| AR.keep [91, 92, 94, 96] rfl <| AR.skip rfl <| AR.op rfl (aop_pick rfl rfl rfl) <| AR.op rfl (aop_move (.inr rfl) rfl) <| AR.nil ?_
       refine hK15 _ (AWP.weak (Weak.kt [4] rfl) ?_)
       refine awp_ret ?_
       obtain rfl := Option.some.inj h
       refine ⟨.inr rfl, bl false, rfl, ?_⟩
       exact Weak.e ⟨.k, trivial⟩
     ·rw [hb71]
      replace h := Sh.if_f h hb71
      refine AR.skip rfl <| AR.skip rfl <| AR.keep [8, 10, 12, 67, 68, 69] rfl <| AR.skip rfl <| AR.skip rfl <| AR.skip rfl <| AR.keep [8, 10, 12, 67, 68, 70, 72] rfl <| AR.skip rfl ?_
      refine AR.op rfl (aop_pick rfl rfl rfl) <| AR.op rfl (aop_move (.inl rfl) rfl) <| AR.keep [8, 10, 12, 75] rfl <| AR.skip rfl <| AR.skip rfl <| AR.skip rfl <| AR.keep [10, 12, 75, 76, 78] rfl <| AR.skip rfl ?_
      refine AR.skip rfl <| AR.skip rfl <| AR.keep [10, 12, 75, 81] rfl <| AR.op rfl (aop_pick rfl rfl rfl) <| AR.op rfl (aop_move (.inl rfl) rfl) <| AR.skip rfl <| AR.keep [10, 12, 83, 84] rfl <| AR.skip rfl ?_
      refine AR.skip rfl <| AR.skip rfl <| AR.keep [10, 12, 83, 84, 86, 87] rfl <| AR.skip rfl <| AR.skip rfl <| AR.op rfl (aop_pick rfl rfl rfl) <| AR.keep [10, 12, 90] rfl <| AR.op rfl (aop_move (.inl rfl) rfl) ?_
      refine AR.skip rfl <| AR.skip rfl <| AR.keep [12, 91, 92, 93] rfl <| AR.skip rfl <| AR.skip rfl <| AR.skip rfl <| AR.keep [91, 92, 94, 96] rfl <| AR.skip rfl ?_
      refine AR.op rfl (aop_pick rfl rfl rfl) <| AR.op rfl (aop_move (.inr rfl) rfl) <| AR.nil <| hK15 _ (AWP.weak (Weak.kt [4] rfl) ?_)
      refine awp_ret ?_
      obtain rfl := Option.some.inj h
      refine ⟨.inr rfl, bl false, rfl, ?_⟩
      exact Weak.e ⟨.k, trivial⟩
    ·rw [hb70]
     replace h := Sh.if_f h hb70
     refine AR.skip rfl <| AR.skip rfl <| AR.op rfl (aop_pick rfl rfl rfl) <| AR.keep [8, 10, 12, 66] rfl <| AR.op rfl (aop_move (.inl rfl) rfl) <| AR.skip rfl <| AR.skip rfl <| AR.keep [8, 10, 12, 67, 68, 69] rfl ?_
     refine AR.skip rfl <| AR.skip rfl <| AR.skip rfl <| AR.keep [8, 10, 12, 67, 68, 70, 72] rfl <| AR.skip rfl <| AR.op rfl (aop_pick rfl rfl rfl) <| AR.op rfl (aop_move (.inl rfl) rfl) <| AR.keep [8, 10, 12, 75] rfl ?_
     refine AR.skip rfl <| AR.skip rfl <| AR.skip rfl <| AR.keep [10, 12, 75, 76, 78] rfl <| AR.skip rfl <| AR.skip rfl <| AR.skip rfl <| AR.keep [10, 12, 75, 81] rfl ?_
     refine AR.op rfl (aop_pick rfl rfl rfl) <| AR.op rfl (aop_move (.inl rfl) rfl) <| AR.skip rfl <| AR.keep [10, 12, 83, 84] rfl <| AR.skip rfl <| AR.skip rfl <| AR.skip rfl <| AR.keep [10, 12, 83, 84, 86, 87] rfl ?_
     refine AR.skip rfl <| AR.skip rfl <| AR.op rfl (aop_pick rfl rfl rfl) <| AR.keep [10, 12, 90] rfl <| AR.op rfl (aop_move (.inl rfl) rfl) <| AR.skip rfl <| AR.skip rfl <| AR.keep [12, 91, 92, 93] rfl ?_
     refine AR.skip rfl <| AR.skip rfl <| AR.skip rfl <| AR.keep [91, 92, 94, 96] rfl <| AR.skip rfl <| AR.op rfl (aop_pick rfl rfl rfl) <| AR.op rfl (aop_move (.inr rfl) rfl) <| AR.nil ?_
     refine hK15 _ (AWP.weak (Weak.kt [4] rfl) ?_)
     refine awp_ret ?_
     obtain rfl := Option.some.inj h
     refine ⟨.inr rfl, bl false, rfl, ?_⟩
     exact Weak.e ⟨.k, trivial⟩
  ·intro K16 hK16
   refine awp_reg rfl <| AR.op rfl (aop_move (.inl rfl) rfl) <| AR.op (r := bl (!r31)) rfl (aop_not rfl rfl) <| AR.op rfl (aop_move (.inl rfl) rfl) <| AR.keep [1, 2, 20] rfl ?_
   rcases Bool.eq_false_or_eq_true (!r31) with hb79 | hb79
   ·rw [hb79]
    replace h := Sh.if_t h hb79
    refine AR.skip rfl <| AR.skip rfl <| AR.skip rfl <| AR.keep [1, 2, 20, 23] rfl <| AR.op rfl (aop_pick rfl rfl rfl) <| AR.op rfl (aop_move (.inl rfl) rfl) <| AR.skip rfl <| AR.keep [1, 2, 25, 26] rfl ?_
    refine AR.skip rfl <| AR.skip rfl <| AR.op rfl (aop_pick rfl rfl rfl) <| AR.keep [1, 2, 29] rfl <| AR.op rfl (aop_move (.inl rfl) rfl) <| AR.skip rfl <| AR.skip rfl <| AR.keep [1, 2, 30, 31, 32] rfl ?_
    refine AR.skip rfl <| AR.skip rfl <| AR.op rfl (aop_pick rfl rfl rfl) <| AR.nil ?_
    exact hK16 true _ h (Weak.kt [1, 2, 35] rfl)
   ·rw [hb79]
    replace h := Sh.if_f h hb79
    refine AR.op rfl (aop_move (.inl rfl) rfl) <| AR.op rfl (t_len_sl G.api_Choice.av l_1 rfl rfl el51) <| AR.op rfl (aop_gtr rfl rfl rfl) <| AR.keep [1, 2, 20, 23] rfl <| AR.op rfl (aop_pick rfl rfl rfl) <| AR.op rfl (aop_move (.inl rfl) rfl) ?_
    rcases Bool.eq_false_or_eq_true (decide ((60 : Int) < (Sh.len l_1))) with hb80 | hb80
    ·rw [hb80]
     replace h := Sh.if_t h hb80
     refine AR.skip rfl <| AR.keep [1, 2, 25, 26] rfl <| AR.skip rfl <| AR.skip rfl <| AR.op rfl (aop_pick rfl rfl rfl) <| AR.keep [1, 2, 29] rfl <| AR.op rfl (aop_move (.inl rfl) rfl) <| AR.skip rfl ?_
     refine AR.skip rfl <| AR.keep [1, 2, 30, 31, 32] rfl <| AR.skip rfl <| AR.skip rfl <| AR.op rfl (aop_pick rfl rfl rfl) <| AR.nil ?_
     exact hK16 true _ h (Weak.kt [1, 2, 35] rfl)
    ·rw [hb80]
     replace h := Sh.if_f h hb80
     refine AR.op rfl (aop_move (.inl rfl) rfl) <| AR.keep [1, 2, 25, 26] rfl <| AR.op rfl (t_len_sl G.api_Choice.av l_1 rfl rfl el51) <| AR.op (r := bl (decide ((Sh.len l_1) = 0))) rfl (aop_eql rfl rfl rfl) <| AR.op rfl (aop_pick rfl rfl rfl) <| AR.keep [1, 2, 29] rfl <| AR.op rfl (aop_move (.inl rfl) rfl) ?_
     rcases Bool.eq_false_or_eq_true (decide ((Sh.len l_1) = 0)) with hb81 | hb81
     ·rw [hb81]
      replace h := Sh.if_t h hb81
      refine AR.skip rfl <| AR.skip rfl <| AR.keep [1, 2, 30, 31, 32] rfl <| AR.skip rfl <| AR.skip rfl <| AR.op rfl (aop_pick rfl rfl rfl) <| AR.nil ?_
      exact hK16 true _ h (Weak.kt [1, 2, 35] rfl)
     ·rw [hb81]
      replace h := Sh.if_f h hb81
      refine AR.op (r := G.api_Hist.av h_0) rfl (aop_load_pp rfl rfl sz24 rfl) <| AR.op rfl (aop_move (.inl rfl) rfl) <| AR.keep [1, 2, 30, 31, 32] rfl ?_
      obtain ⟨r82, hr82, h⟩ := Sh.bind_some' h
      refine AR.op (r := bl r82) rfl (aop_call1 rfl rfl (by simp) (choice_Right_ok hT hr82)) <| AR.op (r := bl (!r82)) rfl (aop_not rfl rfl) <| AR.op rfl (aop_pick rfl rfl rfl) <| AR.nil ?_
      exact hK16 (!r82) _ h (Weak.e (fr' := [(1, .sl (List.map G.api_Choice.av l_1)), (2, .pp [.sl (List.map G.api_Txn.av h_0.Txns)] 0), (35, bl (!r82))]) (H' := .empty) ⟨⟨.sl (List.map G.api_Choice.av l_1), rfl, .sm⟩, .k, .k, trivial⟩)
theorem inquestlaw18_ChoiceBack_ok {W0 : World} (hT : Tab W0) {h_0 : G.api_Hist} {l_1 : List G.api_Choice} {r : Bool} (h : G.inquestlaw18_ChoiceBack h_0 l_1 = some r) : Fun1 Tryd.prog W0 7 [G.api_Hist.av h_0, .sl (List.map G.api_Choice.av l_1)] (bl r) := Fun1.two (inquestlaw18_ChoiceBack_ok0 hT h) (by simp)

end Wk
