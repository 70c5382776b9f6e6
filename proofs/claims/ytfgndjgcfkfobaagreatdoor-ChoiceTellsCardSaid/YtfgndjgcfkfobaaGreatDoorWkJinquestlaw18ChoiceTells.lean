/- That a statement does what its plain function says. -/
import Derived.Test.YtfgndjgcfkfobaaGreatDoorWkJinquestlaw18
open Go Go.Av Go.Proofs
set_option linter.unusedVariables false
set_option maxHeartbeats 8000000
set_option maxRecDepth 20000
namespace Wk
theorem inquestlaw18_ChoiceTells_ok0 {W0 : World} (hT : Tab W0) {h_0 : G.api_Hist} {level_1 : Int} {l_2 : List G.api_Choice} {r : Bool} (h : G.inquestlaw18_ChoiceTells h_0 level_1 l_2 = some r) : Fun2 Tryz.prog W0 3 [G.api_Hist.av h_0, i64 level_1, .sl (List.map G.api_Choice.av l_2)] (bl r) .empty := by
 refine fun2_of_awp Tryz.func3 rfl (by kernel_rfl) Tryz.ntmps3 (by simp) ?_
 unfold G.inquestlaw18_ChoiceTells at h
 show AWP _ _ _ _ ⟨[(0, G.api_Hist.av h_0), (1, i64 level_1), (2, .sl (List.map G.api_Choice.av l_2))], .empty⟩ _
 refine awp_seqK fun K1 hK1 => awp_reg rfl <| AR.op (r := .ref 0 0 0) rfl (aop_box 1 [G.api_Hist.av h_0] rfl rfl rfl (.inl ⟨rfl, rfl⟩)) <| AR.op rfl (aop_move (.inr rfl) rfl) <| AR.nil <| hK1 _ (AWP.weak (Weak.e (fr' := [(1, i64 level_1), (2, .sl (List.map G.api_Choice.av l_2)), (3, .pp [.sl (List.map G.api_Txn.av h_0.Txns)] 0)]) (H' := .empty) ⟨.k, ⟨.sl (List.map G.api_Choice.av l_2), rfl, .sm⟩, ⟨_, rfl, .frzA rfl rfl rfl rfl (by simp)⟩, trivial⟩) ?_)
 refine awp_seqK fun K2 hK2 => awp_reg rfl ?_
 obtain ⟨r38, hr38, h⟩ := Sh.bind_some' h
 refine AR.op (r := bl r38) rfl (aop_call1 rfl rfl (by simp) (inquestlaw18_awake_ok hT hr38)) <| AR.op rfl (aop_move (.inr rfl) rfl) <| AR.nil <| hK2 _ (AWP.weak (Weak.kt [1, 2, 3, 7] rfl) ?_)
 refine awp_seqK fun K3 hK3 => awp_seqK fun K4 hK4 => awp_reg rfl <| AR.op rfl (aop_move (.inl rfl) rfl) <| AR.op (r := bl (!r38)) rfl (aop_not rfl rfl) <| AR.nil <| hK4 _ (AWP.weak (Weak.kt [1, 2, 3, 20] rfl) ?_)
 refine awp_cond rfl (fun hb39 => ?_) (fun hb39 => ?_)
 ·replace h := Sh.if_t h hb39
  refine awp_seqK fun K5 hK5 => awp_reg rfl <| AR.op rfl (aop_move (.inr rfl) rfl) <| AR.nil <| hK5 _ (AWP.weak (Weak.kt [6] rfl) ?_)
  refine awp_ret ?_
  obtain rfl := Option.some.inj h
  refine ⟨.inr rfl, bl false, rfl, ?_⟩
  exact Weak.e ⟨.k, trivial⟩
 ·replace h := Sh.if_f h hb39
  refine awp_skip <| hK3 _ (AWP.weak (Weak.kt [1, 2, 3] rfl) ?_)
  refine awp_seqK fun K6 hK6 => awp_reg rfl <| AR.op (r := G.api_Hist.av h_0) rfl (aop_load_pp rfl rfl sz24 rfl) ?_
  obtain ⟨r41, hr41, h⟩ := Sh.bind_some' h
  refine AR.op (r := bl r41) rfl (aop_call1 rfl rfl (by simp) (inquestref08_Few_ok hT hr41)) <| AR.op rfl (aop_move (.inr rfl) rfl) <| AR.nil <| hK6 _ (AWP.weak (Weak.kt [1, 2, 3, 8] rfl) ?_)
  refine awp_seqK fun K7 hK7 => awp_seqJ (fun (p : Bool) => (⟨[(1, i64 level_1), (2, .sl (List.map G.api_Choice.av l_2)), (3, .pp [.sl (List.map G.api_Txn.av h_0.Txns)] 0), (29, bl p)], .empty⟩ : St)) (fun (p : Bool) => G.inquestlaw18_ChoiceTells_j1 h_0 level_1 l_2 p = some r) ?_ ?_
  ·rintro v45 h
   replace h : G.inquestlaw18_ChoiceTells_j1 h_0 level_1 l_2 v45 = some r := h
   unfold G.inquestlaw18_ChoiceTells_j1 at h
   refine awp_cond rfl (fun hb46 => ?_) (fun hb46 => ?_)
   ·replace h := Sh.if_t h hb46
    refine awp_seqK fun K8 hK8 => awp_reg rfl <| AR.op rfl (aop_move (.inr rfl) rfl) <| AR.nil <| hK8 _ (AWP.weak (Weak.kt [6] rfl) ?_)
    refine awp_ret ?_
    obtain rfl := Option.some.inj h
    refine ⟨.inr rfl, bl true, rfl, ?_⟩
    exact Weak.e ⟨.k, trivial⟩
   ·replace h := Sh.if_f h hb46
    refine awp_skip <| hK7 _ (AWP.weak (Weak.kt [1, 2, 3] rfl) ?_)
    refine awp_seqK fun K9 hK9 => awp_reg rfl <| AR.op (r := G.api_Hist.av h_0) rfl (aop_load_pp rfl rfl sz24 rfl) <| AR.op rfl (aop_move (.inl rfl) rfl) ?_
    obtain ⟨r49, hr49, h⟩ := Sh.bind_some' h
    refine AR.op (r := G.graph_Graph.av r49) rfl (aop_call1 rfl rfl (by simp) (choice_Ww_ok hT hr49)) <| AR.keep [1, 2, 3, 32] rfl ?_
    obtain ⟨r50, hr50, h⟩ := Sh.bind_some' h
    refine AR.op (r := G.inquestref12_G.av r50) rfl (aop_call1 rfl rfl (by simp) (inquestlaw18_plain_ok hT hr50)) <| AR.op (r := .ref 0 0 0) rfl (aop_alloc 2 [.agg [i64 0, nilS]] rfl zr30 (by kernel_rfl) (.inl ⟨rfl, rfl⟩)) <| AR.op rfl (aop_store (e' := G.inquestref12_G.av r50) rfl rfl rfl rfl rfl rfl sz30 rfl dt rfl) <| AR.nil <| hK9 _ (AWP.weak (Weak.e (fr' := [(1, i64 level_1), (2, .sl (List.map G.api_Choice.av l_2)), (3, .pp [.sl (List.map G.api_Txn.av h_0.Txns)] 0), (9, .pp [i64 r50.N, .sl (List.map u64 r50.Rows)] 0)]) (H' := .empty) ⟨.k, ⟨.sl (List.map G.api_Choice.av l_2), rfl, .sm⟩, .k, ⟨_, rfl, .frzA rfl rfl rfl rfl (by simp)⟩, trivial⟩) ?_)
    refine awp_seqK fun K10 hK10 => awp_reg rfl <| AR.op (r := G.api_Hist.av h_0) rfl (aop_load_pp rfl rfl sz24 rfl) <| AR.op rfl (aop_move (.inl rfl) rfl) ?_
    obtain ⟨r53, hr53, h⟩ := Sh.bind_some' h
    refine AR.op (r := G.graph_Graph.av r53) rfl (aop_call1 rfl rfl (by simp) (choice_Rw_ok hT hr53)) <| AR.keep [1, 2, 3, 9, 36] rfl ?_
    obtain ⟨r54, hr54, h⟩ := Sh.bind_some' h
    refine AR.op (r := G.inquestref12_G.av r54) rfl (aop_call1 rfl rfl (by simp) (inquestlaw18_plain_ok hT hr54)) <| AR.op (r := .ref 0 0 0) rfl (aop_alloc 2 [.agg [i64 0, nilS]] rfl zr30 (by kernel_rfl) (.inl ⟨rfl, rfl⟩)) <| AR.op rfl (aop_store (e' := G.inquestref12_G.av r54) rfl rfl rfl rfl rfl rfl sz30 rfl dt rfl) <| AR.nil <| hK10 _ (AWP.weak (Weak.e (fr' := [(1, i64 level_1), (2, .sl (List.map G.api_Choice.av l_2)), (3, .pp [.sl (List.map G.api_Txn.av h_0.Txns)] 0), (9, .pp [i64 r50.N, .sl (List.map u64 r50.Rows)] 0), (10, .pp [i64 r54.N, .sl (List.map u64 r54.Rows)] 0)]) (H' := .empty) ⟨.k, ⟨.sl (List.map G.api_Choice.av l_2), rfl, .sm⟩, .k, .k, ⟨_, rfl, .frzA rfl rfl rfl rfl (by simp)⟩, trivial⟩) ?_)
    refine awp_seqK fun K11 hK11 => awp_reg rfl <| AR.op (r := G.api_Hist.av h_0) rfl (aop_load_pp rfl rfl sz24 rfl) <| AR.op rfl (aop_move (.inl rfl) rfl) <| AR.op rfl (aop_move (.inl rfl) rfl) <| AR.keep [1, 2, 3, 9, 10, 39, 40, 41] rfl ?_
    obtain ⟨r56, hr56, h⟩ := Sh.bind_some' h
    refine AR.op (r := .tuple [G.graph_Graph.av r56.1, i64 r56.2]) rfl (aop_call1 rfl rfl (by simp) (choice_Full_ok hT hr56)) <| AR.op rfl (aop_move (.inl rfl) rfl) <| AR.op (r := G.graph_Graph.av r56.1) rfl (aop_extract rfl rfl rfl) <| AR.keep [1, 2, 3, 9, 10, 38, 43] rfl <| AR.op (r := i64 r56.2) rfl (aop_extract rfl rfl rfl) <| AR.op (r := .ref 0 0 0) rfl (aop_alloc 2 [.agg [i64 0, nilS]] rfl zr32 (by kernel_rfl) (.inl ⟨rfl, rfl⟩)) <| AR.op rfl (aop_store (e' := G.graph_Graph.av r56.1) rfl rfl rfl rfl rfl rfl sz32 rfl dt rfl) <| AR.keep [1, 2, 3, 9, 10, 44, 11] rfl ?_
    refine AR.op rfl (aop_move (.inr rfl) rfl) <| AR.nil <| hK11 _ (AWP.weak (Weak.e (fr' := [(1, i64 level_1), (2, .sl (List.map G.api_Choice.av l_2)), (3, .pp [.sl (List.map G.api_Txn.av h_0.Txns)] 0), (9, .pp [i64 r50.N, .sl (List.map u64 r50.Rows)] 0), (10, .pp [i64 r54.N, .sl (List.map u64 r54.Rows)] 0), (11, .pp [i64 r56.1.N, .sl (List.map u64 r56.1.Rows)] 0), (12, i64 r56.2)]) (H' := .empty) ⟨.k, ⟨.sl (List.map G.api_Choice.av l_2), rfl, .sm⟩, .k, .k, .k, ⟨_, rfl, .frzA rfl rfl rfl rfl (by simp)⟩, .k, trivial⟩) ?_)
    refine awp_seqK fun K12 hK12 => awp_reg rfl <| AR.op (r := G.api_Hist.av h_0) rfl (aop_load_pp rfl rfl sz24 rfl) <| AR.op rfl (aop_move (.inl rfl) rfl) ?_
    obtain ⟨r58, hr58, h⟩ := Sh.bind_some' h
    refine AR.op (r := .tuple [G.api_Choice.av r58.1, bl r58.2]) rfl (aop_call1 rfl rfl (by simp) (choice_Open_ok hT hr58)) <| AR.keep [1, 2, 3, 9, 10, 11, 12, 48] rfl <| AR.op rfl (aop_move (.inl rfl) rfl) <| AR.op (r := G.api_Choice.av r58.1) rfl (aop_extract rfl rfl rfl) <| AR.op (r := bl r58.2) rfl (aop_extract rfl rfl rfl) <| AR.keep [1, 2, 3, 9, 10, 11, 12, 49, 50] rfl <| AR.op (r := .ref 0 0 0) rfl (aop_alloc 3 [.agg [i64 0, i64 0, i64 0]] rfl zr38 (by kernel_rfl) (.inl ⟨rfl, rfl⟩)) <| AR.op rfl (aop_store (e' := G.api_Choice.av r58.1) rfl rfl rfl rfl rfl rfl sz38 rfl dt rfl) ?_
    refine AR.op rfl (aop_move (.inr rfl) rfl) <| AR.nil <| hK12 _ (AWP.weak (Weak.e (fr' := [(1, i64 level_1), (2, .sl (List.map G.api_Choice.av l_2)), (3, .pp [.sl (List.map G.api_Txn.av h_0.Txns)] 0), (9, .pp [i64 r50.N, .sl (List.map u64 r50.Rows)] 0), (10, .pp [i64 r54.N, .sl (List.map u64 r54.Rows)] 0), (11, .pp [i64 r56.1.N, .sl (List.map u64 r56.1.Rows)] 0), (12, i64 r56.2), (13, .pp [i64 r58.1.Key, i64 r58.1.A, i64 r58.1.B] 0), (14, bl r58.2)]) (H' := .empty) ⟨.k, ⟨.sl (List.map G.api_Choice.av l_2), rfl, .sm⟩, .k, .k, .k, .k, .k, ⟨_, rfl, .frzA rfl rfl rfl rfl (by simp)⟩, .k, trivial⟩) ?_)
    refine awp_seqK fun K13 hK13 => awp_reg rfl <| AR.op (r := G.api_Hist.av h_0) rfl (aop_load_pp rfl rfl sz24 rfl) <| AR.op rfl (aop_move (.inl rfl) rfl) ?_
    obtain ⟨r60, hr60, h⟩ := Sh.bind_some' h
    refine AR.op (r := bl r60) rfl (aop_call1 rfl rfl (by simp) (inquestref18_Right_ok hT hr60)) <| AR.keep [1, 2, 3, 9, 10, 11, 12, 13, 14, 53] rfl <| AR.op rfl (aop_move (.inr rfl) rfl) <| AR.nil <| hK13 _ (AWP.weak (Weak.kt [1, 2, 3, 9, 10, 11, 12, 13, 14, 15] rfl) ?_)
    refine awp_seqK fun K14 hK14 => awp_seqK fun K15 hK15 => awp_reg rfl <| AR.op (r := G.api_Hist.av h_0) rfl (aop_load_pp rfl rfl sz24 rfl) <| AR.op rfl (aop_move (.inl rfl) rfl) ?_
    obtain ⟨r63, hr63, h⟩ := Sh.bind_some' h
    refine AR.op (r := bl r63) rfl (aop_call1 rfl rfl (by simp) (choice_Right_ok hT hr63)) <| AR.keep [1, 2, 3, 9, 10, 11, 12, 13, 14, 15, 56] rfl <| AR.op rfl (aop_move (.inl rfl) rfl) <| AR.op (r := bl (!(r63 == r60))) rfl (aop_neb rfl rfl rfl Tryz.underlying4) <| AR.nil <| hK15 _ (AWP.weak (Weak.kt [1, 2, 3, 9, 10, 11, 12, 13, 14, 15, 58] rfl) ?_)
    refine awp_cond rfl (fun hb64 => ?_) (fun hb64 => ?_)
    ·replace h := Sh.if_t h hb64
     refine awp_seqK fun K16 hK16 => awp_reg rfl <| AR.op rfl (aop_move (.inr rfl) rfl) <| AR.nil <| hK16 _ (AWP.weak (Weak.kt [6] rfl) ?_)
     refine awp_ret ?_
     obtain rfl := Option.some.inj h
     refine ⟨.inr rfl, bl false, rfl, ?_⟩
     exact Weak.e ⟨.k, trivial⟩
    ·replace h := Sh.if_f h hb64
     refine awp_skip <| hK14 _ (AWP.weak (Weak.kt [1, 2, 3, 9, 10, 11, 12, 13, 14, 15] rfl) ?_)
     refine awp_seqK fun K17 hK17 => awp_seqK fun K18 hK18 => awp_reg rfl <| AR.op rfl (aop_move (.inl rfl) rfl) <| AR.op (r := bl (!r60)) rfl (aop_not rfl rfl) <| AR.nil <| hK18 _ (AWP.weak (Weak.kt [1, 2, 3, 9, 10, 11, 12, 13, 14, 60] rfl) ?_)
     refine awp_cond rfl (fun hb70 => ?_) (fun hb70 => ?_)
     ·replace h := Sh.if_t h hb70
      refine awp_seqK fun K19 hK19 => awp_reg rfl <| AR.op rfl (aop_field_pp rfl rfl fd30_0 (by decide)) <| AR.op (r := i64 r50.N) rfl (aop_load_pp rfl rfl sz3 rfl) <| AR.op rfl (aop_field_pp rfl rfl fd30_0 (by decide)) <| AR.keep [9, 10, 11, 12, 13, 14, 62, 63] rfl <| AR.op (r := i64 r54.N) rfl (aop_load_pp rfl rfl sz3 rfl) <| AR.op rfl (aop_add rfl rfl rfl rfl) ?_
      refine AR.op rfl (aop_field_pp rfl rfl fd32_0 (by decide)) <| AR.keep [9, 10, 11, 12, 13, 14, 65, 66] rfl <| AR.op (r := i64 r56.1.N) rfl (aop_load_pp rfl rfl sz3 rfl) <| AR.op rfl (aop_add rfl rfl rfl rfl) <| AR.op (r := bl (decide ((w64 ((w64 (r50.N + r54.N)) + r56.1.N)) = 0))) rfl (aop_eql rfl rfl rfl) <| AR.keep [9, 10, 11, 12, 13, 14, 69] rfl <| AR.op rfl (aop_move (.inl rfl) rfl) ?_
      rcases Bool.eq_false_or_eq_true (decide ((w64 ((w64 (r50.N + r54.N)) + r56.1.N)) = 0)) with hb75 | hb75
      ·rw [hb75]
       replace h := Sh.if_t h hb75
       refine AR.op rfl (aop_field_pp rfl rfl fd30_1 (by decide)) <| AR.op (r := .sl (List.map u64 r50.Rows)) rfl (aop_load_pp rfl rfl sz28 rfl) <| AR.keep [10, 11, 12, 13, 14, 70, 72] rfl <| AR.op rfl (t_len_sl u64 r50.Rows rfl rfl el28) <| AR.op rfl (aop_field_pp rfl rfl fd30_1 (by decide)) <| AR.op (r := .sl (List.map u64 r54.Rows)) rfl (aop_load_pp rfl rfl sz28 rfl) <| AR.keep [11, 12, 13, 14, 70, 73, 75] rfl <| AR.op rfl (t_len_sl u64 r54.Rows rfl rfl el28) ?_
       refine AR.op rfl (aop_add rfl rfl rfl rfl) <| AR.op rfl (aop_field_pp rfl rfl fd32_1 (by decide)) <| AR.keep [12, 13, 14, 70, 77, 78] rfl <| AR.op (r := .sl (List.map u64 r56.1.Rows)) rfl (aop_load_pp rfl rfl sz28 rfl) <| AR.op rfl (t_len_sl u64 r56.1.Rows rfl rfl el28) <| AR.op rfl (aop_add rfl rfl rfl rfl) <| AR.keep [12, 13, 14, 70, 81] rfl <| AR.op (r := bl (decide ((w64 ((w64 ((Sh.len r50.Rows) + (Sh.len r54.Rows))) + (Sh.len r56.1.Rows))) = 0))) rfl (aop_eql rfl rfl rfl) ?_
       refine AR.op rfl (aop_pick rfl rfl rfl) <| AR.op rfl (aop_move (.inl rfl) rfl) <| AR.keep [12, 13, 14, 84] rfl ?_
       rcases Bool.eq_false_or_eq_true (decide ((w64 ((w64 ((Sh.len r50.Rows) + (Sh.len r54.Rows))) + (Sh.len r56.1.Rows))) = 0)) with hb76 | hb76
       ·rw [hb76]
        replace h := Sh.if_t h hb76
        refine AR.op rfl (aop_move (.inl rfl) rfl) <| AR.op (r := bl (decide (r56.2 = 1))) rfl (aop_eql rfl rfl rfl) <| AR.op rfl (aop_pick rfl rfl rfl) <| AR.keep [13, 14, 87] rfl <| AR.op rfl (aop_move (.inl rfl) rfl) ?_
        rcases Bool.eq_false_or_eq_true (decide (r56.2 = 1)) with hb77 | hb77
        ·rw [hb77]
         replace h := Sh.if_t h hb77
         refine AR.op (r := G.api_Choice.av r58.1) rfl (aop_load_pp rfl rfl sz38 rfl) <| AR.op (r := .agg [i64 0, i64 0, i64 0]) rfl (aop_build rfl bd38 rfl rfl rfl) <| AR.keep [14, 88, 89, 90] rfl <| AR.op (r := bl (decide (r58.1 = (G.api_Choice.mk 0 0 0)))) rfl (t_eq_api_Choice (a := r58.1) (b := (G.api_Choice.mk 0 0 0)) rfl rfl rfl) <| AR.op rfl (aop_pick rfl rfl rfl) <| AR.op rfl (aop_move (.inl rfl) rfl) <| AR.keep [14, 93] rfl ?_
         rcases Bool.eq_false_or_eq_true (decide (r58.1 = (G.api_Choice.mk 0 0 0))) with hb78 | hb78
         ·rw [hb78]
          replace h := Sh.if_t h hb78
          refine AR.op rfl (aop_move (.inl rfl) rfl) <| AR.op (r := bl (!r58.2)) rfl (aop_not rfl rfl) <| AR.op rfl (aop_pick rfl rfl rfl) <| AR.keep [96] rfl <| AR.op rfl (aop_move (.inr rfl) rfl) <| AR.nil <| hK19 _ (AWP.weak (Weak.kt [6] rfl) ?_)
          refine awp_ret ?_
          obtain rfl := Option.some.inj h
          refine ⟨.inr rfl, bl (!r58.2), rfl, ?_⟩
          exact Weak.e ⟨.k, trivial⟩
         ·rw [hb78]
          replace h := Sh.if_f h hb78
          refine AR.skip rfl <| AR.skip rfl <| AR.op rfl (aop_pick rfl rfl rfl) <| AR.keep [96] rfl <| AR.op rfl (aop_move (.inr rfl) rfl) <| AR.nil <| hK19 _ (AWP.weak (Weak.kt [6] rfl) ?_)
          refine awp_ret ?_
          obtain rfl := Option.some.inj h
          refine ⟨.inr rfl, bl false, rfl, ?_⟩
          exact Weak.e ⟨.k, trivial⟩
        ·rw [hb77]
         replace h := Sh.if_f h hb77
         refine AR.skip rfl <| AR.skip rfl <| AR.keep [14, 88, 89, 90] rfl <| AR.skip rfl <| AR.op rfl (aop_pick rfl rfl rfl) <| AR.op rfl (aop_move (.inl rfl) rfl) <| AR.keep [14, 93] rfl <| AR.skip rfl ?_
         refine AR.skip rfl <| AR.op rfl (aop_pick rfl rfl rfl) <| AR.keep [96] rfl <| AR.op rfl (aop_move (.inr rfl) rfl) <| AR.nil <| hK19 _ (AWP.weak (Weak.kt [6] rfl) ?_)
         refine awp_ret ?_
         obtain rfl := Option.some.inj h
         refine ⟨.inr rfl, bl false, rfl, ?_⟩
         exact Weak.e ⟨.k, trivial⟩
       ·rw [hb76]
        replace h := Sh.if_f h hb76
        refine AR.skip rfl <| AR.skip rfl <| AR.op rfl (aop_pick rfl rfl rfl) <| AR.keep [13, 14, 87] rfl <| AR.op rfl (aop_move (.inl rfl) rfl) <| AR.skip rfl <| AR.skip rfl <| AR.keep [14, 88, 89, 90] rfl ?_
        refine AR.skip rfl <| AR.op rfl (aop_pick rfl rfl rfl) <| AR.op rfl (aop_move (.inl rfl) rfl) <| AR.keep [14, 93] rfl <| AR.skip rfl <| AR.skip rfl <| AR.op rfl (aop_pick rfl rfl rfl) <| AR.keep [96] rfl ?_
        refine AR.op rfl (aop_move (.inr rfl) rfl) <| AR.nil <| hK19 _ (AWP.weak (Weak.kt [6] rfl) ?_)
        refine awp_ret ?_
        obtain rfl := Option.some.inj h
        refine ⟨.inr rfl, bl false, rfl, ?_⟩
        exact Weak.e ⟨.k, trivial⟩
      ·rw [hb75]
       replace h := Sh.if_f h hb75
       refine AR.skip rfl <| AR.skip rfl <| AR.keep [10, 11, 12, 13, 14, 70, 72] rfl <| AR.skip rfl <| AR.skip rfl <| AR.skip rfl <| AR.keep [11, 12, 13, 14, 70, 73, 75] rfl <| AR.skip rfl ?_
       refine AR.skip rfl <| AR.skip rfl <| AR.keep [12, 13, 14, 70, 77, 78] rfl <| AR.skip rfl <| AR.skip rfl <| AR.skip rfl <| AR.keep [12, 13, 14, 70, 81] rfl <| AR.skip rfl ?_
       refine AR.op rfl (aop_pick rfl rfl rfl) <| AR.op rfl (aop_move (.inl rfl) rfl) <| AR.keep [12, 13, 14, 84] rfl <| AR.skip rfl <| AR.skip rfl <| AR.op rfl (aop_pick rfl rfl rfl) <| AR.keep [13, 14, 87] rfl <| AR.op rfl (aop_move (.inl rfl) rfl) ?_
       refine AR.skip rfl <| AR.skip rfl <| AR.keep [14, 88, 89, 90] rfl <| AR.skip rfl <| AR.op rfl (aop_pick rfl rfl rfl) <| AR.op rfl (aop_move (.inl rfl) rfl) <| AR.keep [14, 93] rfl <| AR.skip rfl ?_
       refine AR.skip rfl <| AR.op rfl (aop_pick rfl rfl rfl) <| AR.keep [96] rfl <| AR.op rfl (aop_move (.inr rfl) rfl) <| AR.nil <| hK19 _ (AWP.weak (Weak.kt [6] rfl) ?_)
       refine awp_ret ?_
       obtain rfl := Option.some.inj h
       refine ⟨.inr rfl, bl false, rfl, ?_⟩
       exact Weak.e ⟨.k, trivial⟩
     ·replace h := Sh.if_f h hb70
      refine awp_skip <| hK17 _ (AWP.weak (Weak.kt [1, 2, 3, 9, 10, 11, 12, 13, 14] rfl) ?_)
      refine awp_seqK fun K20 hK20 => awp_reg rfl <| AR.op (r := G.api_Hist.av h_0) rfl (aop_load_pp rfl rfl sz24 rfl) <| AR.op rfl (aop_move (.inl rfl) rfl) ?_
      obtain ⟨r80, hr80, h⟩ := Sh.bind_some' h
      refine AR.op (r := .tuple [G.api_Choice.av r80.1, bl r80.2]) rfl (aop_call1 rfl rfl (by simp) (inquestref18_Open_ok hT hr80)) <| AR.keep [1, 2, 3, 9, 10, 11, 12, 13, 14, 100] rfl <| AR.op rfl (aop_move (.inl rfl) rfl) <| AR.op (r := G.api_Choice.av r80.1) rfl (aop_extract rfl rfl rfl) <| AR.op (r := bl r80.2) rfl (aop_extract rfl rfl rfl) <| AR.keep [1, 2, 3, 9, 10, 11, 12, 13, 14, 101, 102] rfl <| AR.op (r := .ref 0 0 0) rfl (aop_alloc 3 [.agg [i64 0, i64 0, i64 0]] rfl zr38 (by kernel_rfl) (.inl ⟨rfl, rfl⟩)) <| AR.op rfl (aop_store (e' := G.api_Choice.av r80.1) rfl rfl rfl rfl rfl rfl sz38 rfl dt rfl) ?_
      refine AR.op rfl (aop_move (.inr rfl) rfl) <| AR.nil <| hK20 _ (AWP.weak (Weak.e (fr' := [(1, i64 level_1), (2, .sl (List.map G.api_Choice.av l_2)), (3, .pp [.sl (List.map G.api_Txn.av h_0.Txns)] 0), (9, .pp [i64 r50.N, .sl (List.map u64 r50.Rows)] 0), (10, .pp [i64 r54.N, .sl (List.map u64 r54.Rows)] 0), (11, .pp [i64 r56.1.N, .sl (List.map u64 r56.1.Rows)] 0), (12, i64 r56.2), (13, .pp [i64 r58.1.Key, i64 r58.1.A, i64 r58.1.B] 0), (14, bl r58.2), (16, .pp [i64 r80.1.Key, i64 r80.1.A, i64 r80.1.B] 0), (17, bl r80.2)]) (H' := .empty) ⟨.k, ⟨.sl (List.map G.api_Choice.av l_2), rfl, .sm⟩, .k, .k, .k, .k, .k, .k, .k, ⟨_, rfl, .frzA rfl rfl rfl rfl (by simp)⟩, .k, trivial⟩) ?_)
      refine awp_seqK fun K21 hK21 => awp_seqJ (fun (p : Bool) => (⟨[(1, i64 level_1), (2, .sl (List.map G.api_Choice.av l_2)), (3, .pp [.sl (List.map G.api_Txn.av h_0.Txns)] 0), (11, .pp [i64 r56.1.N, .sl (List.map u64 r56.1.Rows)] 0), (12, i64 r56.2), (126, bl p)], .empty⟩ : St)) (fun (p : Bool) => G.inquestlaw18_ChoiceTells_j2 h_0 level_1 l_2 r56 p = some r) ?_ ?_
      ·rintro v96 h
       replace h : G.inquestlaw18_ChoiceTells_j2 h_0 level_1 l_2 r56 v96 = some r := h
       unfold G.inquestlaw18_ChoiceTells_j2 at h
       refine awp_cond rfl (fun hb97 => ?_) (fun hb97 => ?_)
       ·replace h := Sh.if_t h hb97
        refine awp_seqK fun K22 hK22 => awp_reg rfl <| AR.op rfl (aop_move (.inr rfl) rfl) <| AR.nil <| hK22 _ (AWP.weak (Weak.kt [6] rfl) ?_)
        refine awp_ret ?_
        obtain rfl := Option.some.inj h
        refine ⟨.inr rfl, bl false, rfl, ?_⟩
        exact Weak.e ⟨.k, trivial⟩
       ·replace h := Sh.if_f h hb97
        refine awp_skip <| hK21 _ (AWP.weak (Weak.kt [1, 2, 3, 11, 12] rfl) ?_)
        refine awp_seqK fun K23 hK23 => awp_seqJ (fun (p : Bool) => (⟨[(1, i64 level_1), (2, .sl (List.map G.api_Choice.av l_2)), (3, .pp [.sl (List.map G.api_Txn.av h_0.Txns)] 0), (11, .pp [i64 r56.1.N, .sl (List.map u64 r56.1.Rows)] 0), (12, i64 r56.2), (132, bl p)], .empty⟩ : St)) (fun (p : Bool) => G.inquestlaw18_ChoiceTells_j3 h_0 level_1 l_2 r56 p = some r) ?_ ?_
        ·rintro v104 h
         replace h : G.inquestlaw18_ChoiceTells_j3 h_0 level_1 l_2 r56 v104 = some r := h
         unfold G.inquestlaw18_ChoiceTells_j3 at h
         refine awp_cond rfl (fun hb105 => ?_) (fun hb105 => ?_)
         ·replace h := Sh.if_t h hb105
          refine awp_seqK fun K24 hK24 => awp_reg rfl <| AR.op rfl (aop_move (.inl rfl) rfl) <| AR.op (r := bl (decide (r56.2 = 1))) rfl (aop_eql rfl rfl rfl) <| AR.op rfl (aop_move (.inl rfl) rfl) <| AR.keep [11, 135] rfl ?_
          rcases Bool.eq_false_or_eq_true (decide (r56.2 = 1)) with hb108 | hb108
          ·rw [hb108]
           replace h := Sh.if_t h hb108
           refine AR.op rfl (aop_field_pp rfl rfl fd32_0 (by decide)) <| AR.op (r := i64 r56.1.N) rfl (aop_load_pp rfl rfl sz3 rfl) <| AR.op (r := bl (decide (r56.1.N = 0))) rfl (aop_eql rfl rfl rfl) <| AR.keep [11, 135, 138] rfl <| AR.op rfl (aop_pick rfl rfl rfl) <| AR.op rfl (aop_move (.inl rfl) rfl) ?_
           rcases Bool.eq_false_or_eq_true (decide (r56.1.N = 0)) with hb109 | hb109
           ·rw [hb109]
            replace h := Sh.if_t h hb109
            refine AR.op rfl (aop_field_pp rfl rfl fd32_1 (by decide)) <| AR.keep [140, 141] rfl <| AR.op (r := .sl (List.map u64 r56.1.Rows)) rfl (aop_load_pp rfl rfl sz28 rfl) <| AR.op rfl (t_len_sl u64 r56.1.Rows rfl rfl el28) <| AR.op (r := bl (decide ((Sh.len r56.1.Rows) = 0))) rfl (aop_eql rfl rfl rfl) <| AR.keep [140, 144] rfl <| AR.op rfl (aop_pick rfl rfl rfl) <| AR.op rfl (aop_move (.inr rfl) rfl) ?_
            refine AR.nil <| hK24 _ (AWP.weak (Weak.kt [6] rfl) ?_)
            refine awp_ret ?_
            obtain rfl := Option.some.inj h
            refine ⟨.inr rfl, bl (decide ((Sh.len r56.1.Rows) = 0)), rfl, ?_⟩
            exact Weak.e ⟨.k, trivial⟩
           ·rw [hb109]
            replace h := Sh.if_f h hb109
            refine AR.skip rfl <| AR.keep [140, 141] rfl <| AR.skip rfl <| AR.skip rfl <| AR.skip rfl <| AR.keep [140, 144] rfl <| AR.op rfl (aop_pick rfl rfl rfl) <| AR.op rfl (aop_move (.inr rfl) rfl) ?_
            refine AR.nil <| hK24 _ (AWP.weak (Weak.kt [6] rfl) ?_)
            refine awp_ret ?_
            obtain rfl := Option.some.inj h
            refine ⟨.inr rfl, bl false, rfl, ?_⟩
            exact Weak.e ⟨.k, trivial⟩
          ·rw [hb108]
           replace h := Sh.if_f h hb108
           refine AR.skip rfl <| AR.skip rfl <| AR.skip rfl <| AR.keep [11, 135, 138] rfl <| AR.op rfl (aop_pick rfl rfl rfl) <| AR.op rfl (aop_move (.inl rfl) rfl) <| AR.skip rfl <| AR.keep [140, 141] rfl ?_
           refine AR.skip rfl <| AR.skip rfl <| AR.skip rfl <| AR.keep [140, 144] rfl <| AR.op rfl (aop_pick rfl rfl rfl) <| AR.op rfl (aop_move (.inr rfl) rfl) <| AR.nil <| hK24 _ (AWP.weak (Weak.kt [6] rfl) ?_)
           refine awp_ret ?_
           obtain rfl := Option.some.inj h
           refine ⟨.inr rfl, bl false, rfl, ?_⟩
           exact Weak.e ⟨.k, trivial⟩
         ·replace h := Sh.if_f h hb105
          refine awp_skip <| hK23 _ (AWP.weak (Weak.kt [1, 2, 3, 11, 12] rfl) ?_)
          refine awp_seqK fun K25 hK25 => awp_any [(true, false), (true, false), (true, false), (true, false), (true, false), (true, false), (true, false), (true, false), (true, false), (true, false), (true, false), (true, false)] (by kernel_rfl) (by kernel_rfl) rfl ?_
          refine ARH.dry rfl (fun _ => aop_move (.inl rfl) rfl) <| ARH.dry (r := bl (decide (r56.2 = 0))) rfl (fun _ => aop_eql rfl rfl rfl) <| ARH.dry rfl (fun _ => aop_move (.inl rfl) rfl) <| ARH.keep [1, 2, 3, 11, 148] rfl ?_
          rcases Bool.eq_false_or_eq_true (decide (r56.2 = 0)) with hb114 | hb114
          ·rw [hb114]
           replace h := Sh.if_t h hb114
           refine ARH.dry (r := G.graph_Graph.av r56.1) rfl (fun _ => aop_load_pp rfl rfl sz32 rfl) ?_
           obtain ⟨r115, hr115, h⟩ := Sh.bind_some' h
           refine ARH.dry (r := G.inquestref12_G.av r115) rfl (fun _ => aop_call1 rfl rfl (by simp) (inquestlaw18_plain_ok hT hr115)) <| ARH.dry (r := G.api_Hist.av h_0) rfl (fun _ => aop_load_pp rfl rfl sz24 rfl) <| ARH.keep [1, 2, 148, 150, 151] rfl <| ARH.dry rfl (fun _ => aop_move (.inl rfl) rfl) <| ARH.dry rfl (fun _ => aop_move (.inl rfl) rfl) ?_
           obtain ⟨r116, hr116, h⟩ := Sh.bind_some' h
           refine ARH.dry (r := G.inquestref12_G.av r116) rfl (fun _ => aop_call1 rfl rfl (by simp) (inquestref18_Full_ok hT hr116)) <| ARH.keep [148, 150, 154] rfl ?_
           obtain ⟨r117, hr117, h⟩ := Sh.bind_some' h
           refine ARH.dry (r := bl r117) rfl (fun _ => aop_call1 rfl rfl (by simp) (inquestref12_Same_ok hT hr117)) <| ARH.dry rfl (fun _ => aop_pick rfl rfl rfl) <| ARH.dry rfl (fun _ => aop_move (.inr rfl) rfl) <| ARH.nil <| hK25 _ (AWP.weak (Weak.kt [6] rfl) ?_)
           refine awp_ret ?_
           obtain rfl := Option.some.inj h
           refine ⟨.inr rfl, bl r117, rfl, ?_⟩
           exact Weak.e ⟨.k, trivial⟩
          ·rw [hb114]
           replace h := Sh.if_f h hb114
           refine ARH.skip rfl <| ARH.skip rfl <| ARH.skip rfl <| ARH.keep [1, 2, 148, 150, 151] rfl <| ARH.skip rfl <| ARH.skip rfl <| ARH.skip rfl <| ARH.keep [148, 150, 154] rfl ?_
           refine ARH.skip rfl <| ARH.dry rfl (fun _ => aop_pick rfl rfl rfl) <| ARH.dry rfl (fun _ => aop_move (.inr rfl) rfl) <| ARH.nil <| hK25 _ (AWP.weak (Weak.kt [6] rfl) ?_)
           refine awp_ret ?_
           obtain rfl := Option.some.inj h
           refine ⟨.inr rfl, bl false, rfl, ?_⟩
           exact Weak.e ⟨.k, trivial⟩
        ·intro K26 hK26
         refine awp_reg rfl <| AR.op rfl (aop_move (.inl rfl) rfl) <| AR.op (r := bl (decide (level_1 ≠ 0))) rfl (aop_neq rfl rfl rfl) <| AR.op rfl (aop_move (.inl rfl) rfl) <| AR.keep [1, 2, 3, 11, 12, 129] rfl ?_
         rcases Bool.eq_false_or_eq_true (decide (level_1 ≠ 0)) with hb118 | hb118
         ·rw [hb118]
          replace h := Sh.if_t h hb118
          refine AR.op rfl (aop_move (.inl rfl) rfl) <| AR.op (r := bl (decide (level_1 ≠ 1))) rfl (aop_neq rfl rfl rfl) <| AR.op rfl (aop_pick rfl rfl rfl) <| AR.nil ?_
          exact hK26 (decide (level_1 ≠ 1)) _ h (Weak.kt [1, 2, 3, 11, 12, 132] rfl)
         ·rw [hb118]
          replace h := Sh.if_f h hb118
          refine AR.skip rfl <| AR.skip rfl <| AR.op rfl (aop_pick rfl rfl rfl) <| AR.nil ?_
          exact hK26 false _ h (Weak.kt [1, 2, 3, 11, 12, 132] rfl)
      ·intro K27 hK27
       refine awp_any [(true, false), (true, false), (true, false), (true, false), (true, false), (true, false), (true, false), (true, false), (true, false), (true, false), (true, false), (true, false), (true, false), (true, false), (true, false), (true, false), (true, false), (true, false), (true, false), (true, false), (true, false), (true, false), (true, false), (true, false)] (by kernel_rfl) (by kernel_rfl) rfl ?_
       refine ARH.dry (r := G.inquestref12_G.av r50) rfl (fun _ => aop_load_pp rfl rfl sz30 rfl) <| ARH.dry (r := G.api_Hist.av h_0) rfl (fun _ => aop_load_pp rfl rfl sz24 rfl) <| ARH.dry rfl (fun _ => aop_move (.inl rfl) rfl) <| ARH.keep [1, 2, 3, 10, 11, 12, 13, 14, 16, 17, 103, 104, 105] rfl ?_
       obtain ⟨r119, hr119, h⟩ := Sh.bind_some' h
       refine ARH.dry (r := G.inquestref12_G.av r119) rfl (fun _ => aop_call1 rfl rfl (by simp) (inquestref18_Ww_ok hT hr119)) ?_
       obtain ⟨r120, hr120, h⟩ := Sh.bind_some' h
       refine ARH.dry (r := bl r120) rfl (fun _ => aop_call1 rfl rfl (by simp) (inquestref12_Same_ok hT hr120)) <| ARH.dry (r := bl (!r120)) rfl (fun _ => aop_not rfl rfl) <| ARH.keep [1, 2, 3, 10, 11, 12, 13, 14, 16, 17, 108] rfl <| ARH.dry rfl (fun _ => aop_move (.inl rfl) rfl) ?_
       rcases Bool.eq_false_or_eq_true (!r120) with hb121 | hb121
       ·rw [hb121]
        replace h := Sh.if_t h hb121
        refine ARH.skip rfl <| ARH.skip rfl <| ARH.keep [1, 2, 3, 11, 12, 13, 14, 16, 17, 109, 110, 111] rfl <| ARH.skip rfl <| ARH.skip rfl <| ARH.skip rfl <| ARH.keep [1, 2, 3, 11, 12, 13, 14, 16, 17, 109, 114] rfl <| ARH.skip rfl ?_
        refine ARH.dry rfl (fun _ => aop_pick rfl rfl rfl) <| ARH.dry rfl (fun _ => aop_move (.inl rfl) rfl) <| ARH.keep [1, 2, 3, 11, 12, 13, 14, 16, 17, 117] rfl <| ARH.skip rfl <| ARH.skip rfl <| ARH.skip rfl <| ARH.keep [1, 2, 3, 11, 12, 14, 17, 117, 120] rfl <| ARH.dry rfl (fun _ => aop_pick rfl rfl rfl) ?_
        refine ARH.dry rfl (fun _ => aop_move (.inl rfl) rfl) <| ARH.skip rfl <| ARH.keep [1, 2, 3, 11, 12, 17, 122, 123] rfl <| ARH.skip rfl <| ARH.skip rfl <| ARH.dry rfl (fun _ => aop_pick rfl rfl rfl) <| ARH.nil ?_
        exact hK27 true _ h (Weak.kt [1, 2, 3, 11, 12, 126] rfl)
       ·rw [hb121]
        replace h := Sh.if_f h hb121
        refine ARH.dry (r := G.inquestref12_G.av r54) rfl (fun _ => aop_load_pp rfl rfl sz30 rfl) <| ARH.dry (r := G.api_Hist.av h_0) rfl (fun _ => aop_load_pp rfl rfl sz24 rfl) <| ARH.keep [1, 2, 3, 11, 12, 13, 14, 16, 17, 109, 110, 111] rfl <| ARH.dry rfl (fun _ => aop_move (.inl rfl) rfl) ?_
        obtain ⟨r122, hr122, h⟩ := Sh.bind_some' h
        refine ARH.dry (r := G.inquestref12_G.av r122) rfl (fun _ => aop_call1 rfl rfl (by simp) (inquestref18_Rw_ok hT hr122)) ?_
        obtain ⟨r123, hr123, h⟩ := Sh.bind_some' h
        refine ARH.dry (r := bl r123) rfl (fun _ => aop_call1 rfl rfl (by simp) (inquestref12_Same_ok hT hr123)) <| ARH.keep [1, 2, 3, 11, 12, 13, 14, 16, 17, 109, 114] rfl <| ARH.dry (r := bl (!r123)) rfl (fun _ => aop_not rfl rfl) <| ARH.dry rfl (fun _ => aop_pick rfl rfl rfl) <| ARH.dry rfl (fun _ => aop_move (.inl rfl) rfl) <| ARH.keep [1, 2, 3, 11, 12, 13, 14, 16, 17, 117] rfl ?_
        rcases Bool.eq_false_or_eq_true (!r123) with hb124 | hb124
        ·rw [hb124]
         replace h := Sh.if_t h hb124
         refine ARH.skip rfl <| ARH.skip rfl <| ARH.skip rfl <| ARH.keep [1, 2, 3, 11, 12, 14, 17, 117, 120] rfl <| ARH.dry rfl (fun _ => aop_pick rfl rfl rfl) <| ARH.dry rfl (fun _ => aop_move (.inl rfl) rfl) <| ARH.skip rfl <| ARH.keep [1, 2, 3, 11, 12, 17, 122, 123] rfl ?_
         refine ARH.skip rfl <| ARH.skip rfl <| ARH.dry rfl (fun _ => aop_pick rfl rfl rfl) <| ARH.nil ?_
         exact hK27 true _ h (Weak.kt [1, 2, 3, 11, 12, 126] rfl)
        ·rw [hb124]
         replace h := Sh.if_f h hb124
         refine ARH.dry (r := G.api_Choice.av r58.1) rfl (fun _ => aop_load_pp rfl rfl sz38 rfl) <| ARH.dry (r := G.api_Choice.av r80.1) rfl (fun _ => aop_load_pp rfl rfl sz38 rfl) <| ARH.dry (r := bl (!decide (r58.1 = r80.1))) rfl (fun _ => t_ne_api_Choice (a := r58.1) (b := r80.1) rfl rfl rfl) <| ARH.keep [1, 2, 3, 11, 12, 14, 17, 117, 120] rfl <| ARH.dry rfl (fun _ => aop_pick rfl rfl rfl) <| ARH.dry rfl (fun _ => aop_move (.inl rfl) rfl) ?_
         rcases Bool.eq_false_or_eq_true (!decide (r58.1 = r80.1)) with hb125 | hb125
         ·rw [hb125]
          replace h := Sh.if_t h hb125
          refine ARH.skip rfl <| ARH.keep [1, 2, 3, 11, 12, 17, 122, 123] rfl <| ARH.skip rfl <| ARH.skip rfl <| ARH.dry rfl (fun _ => aop_pick rfl rfl rfl) <| ARH.nil ?_
          exact hK27 true _ h (Weak.kt [1, 2, 3, 11, 12, 126] rfl)
         ·rw [hb125]
          replace h := Sh.if_f h hb125
          refine ARH.dry rfl (fun _ => aop_move (.inl rfl) rfl) <| ARH.keep [1, 2, 3, 11, 12, 17, 122, 123] rfl <| ARH.dry rfl (fun _ => aop_move (.inl rfl) rfl) <| ARH.dry (r := bl (!(r58.2 == r80.2))) rfl (fun _ => aop_neb rfl rfl rfl Tryz.underlying4) <| ARH.dry rfl (fun _ => aop_pick rfl rfl rfl) <| ARH.nil ?_
          exact hK27 (!(r58.2 == r80.2)) _ h (Weak.kt [1, 2, 3, 11, 12, 126] rfl)
  ·intro K28 hK28
   refine awp_reg rfl <| AR.op rfl (aop_move (.inl rfl) rfl) <| AR.op (r := bl (!r41)) rfl (aop_not rfl rfl) <| AR.op rfl (aop_move (.inl rfl) rfl) <| AR.keep [1, 2, 3, 25] rfl ?_
   rcases Bool.eq_false_or_eq_true (!r41) with hb126 | hb126
   ·rw [hb126]
    replace h := Sh.if_t h hb126
    refine AR.skip rfl <| AR.skip rfl <| AR.skip rfl <| AR.keep [1, 2, 3, 25, 28] rfl <| AR.op rfl (aop_pick rfl rfl rfl) <| AR.nil ?_
    exact hK28 true _ h (Weak.kt [1, 2, 3, 29] rfl)
   ·rw [hb126]
    replace h := Sh.if_f h hb126
    refine AR.op rfl (aop_move (.inl rfl) rfl) <| AR.op rfl (t_len_sl G.api_Choice.av l_2 rfl rfl el25) <| AR.op rfl (aop_gtr rfl rfl rfl) <| AR.keep [1, 2, 3, 25, 28] rfl <| AR.op rfl (aop_pick rfl rfl rfl) <| AR.nil ?_
    exact hK28 (decide ((60 : Int) < (Sh.len l_2))) _ h (Weak.kt [1, 2, 3, 29] rfl)
theorem inquestlaw18_ChoiceTells_ok {W0 : World} (hT : Tab W0) {h_0 : G.api_Hist} {level_1 : Int} {l_2 : List G.api_Choice} {r : Bool} (h : G.inquestlaw18_ChoiceTells h_0 level_1 l_2 = some r) : Fun1 Tryz.prog W0 3 [G.api_Hist.av h_0, i64 level_1, .sl (List.map G.api_Choice.av l_2)] (bl r) := Fun1.two (inquestlaw18_ChoiceTells_ok0 hT h) (by simp)

end Wk
