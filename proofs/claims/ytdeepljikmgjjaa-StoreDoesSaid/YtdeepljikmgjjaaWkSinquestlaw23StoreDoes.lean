/- That a statement does what its plain function says. -/
import Derived.Test.YtdeepljikmgjjaaWkSinquestlaw23
open Go Go.Av Go.Proofs
set_option linter.unusedVariables false
set_option maxHeartbeats 8000000
set_option maxRecDepth 20000
namespace Wk
theorem inquestlaw23_StoreDoes_ok0 {W0 : World} (hT : Tab W0) {h_0 : G.api_Hist} {level_1 : Int} {l_2 : List G.fact_Fact} {r : Bool} (h : G.inquestlaw23_StoreDoes h_0 level_1 l_2 = some r) : Fun2 Try.prog W0 4 [G.api_Hist.av h_0, i64 level_1, .sl (List.map G.fact_Fact.av l_2)] (bl r) .empty := by
 refine fun2_of_awp Try.func4 rfl (by kernel_rfl) Try.ntmps4 (by simp) ?_
 unfold G.inquestlaw23_StoreDoes at h
 show AWP _ _ _ _ ⟨[(0, G.api_Hist.av h_0), (1, i64 level_1), (2, .sl (List.map G.fact_Fact.av l_2))], .empty⟩ _
 refine awp_seqK fun K1 hK1 => awp_reg rfl <| AR.op (r := .ref 0 0 0) rfl (aop_box 1 [G.api_Hist.av h_0] rfl rfl rfl (.inl ⟨rfl, rfl⟩)) <| AR.op rfl (aop_move (.inr rfl) rfl) <| AR.nil <| hK1 _ (AWP.weak (Weak.e (fr' := [(1, i64 level_1), (2, .sl (List.map G.fact_Fact.av l_2)), (3, .pp [.sl (List.map G.api_Txn.av h_0.Txns)] 0)]) (H' := .empty) ⟨.k, ⟨.sl (List.map G.fact_Fact.av l_2), rfl, .sm⟩, ⟨_, rfl, .frzA rfl rfl rfl rfl (by simp)⟩, trivial⟩) ?_)
 refine awp_seqK fun K2 hK2 => awp_reg rfl ?_
 obtain ⟨r83, hr83, h⟩ := Sh.bind_some' h
 refine AR.op (r := bl r83) rfl (aop_call1 rfl rfl (by simp) (inquestlaw23_awake_ok hT hr83)) <| AR.op rfl (aop_move (.inr rfl) rfl) <| AR.nil <| hK2 _ (AWP.weak (Weak.kt [1, 2, 3, 7] rfl) ?_)
 refine awp_seqK fun K3 hK3 => awp_seqK fun K4 hK4 => awp_reg rfl <| AR.op rfl (aop_move (.inl rfl) rfl) <| AR.op (r := bl (!r83)) rfl (aop_not rfl rfl) <| AR.nil <| hK4 _ (AWP.weak (Weak.kt [1, 2, 3, 20] rfl) ?_)
 refine awp_cond rfl (fun hb84 => ?_) (fun hb84 => ?_)
 ·replace h := Sh.if_t h hb84
  refine awp_seqK fun K5 hK5 => awp_reg rfl <| AR.op rfl (aop_move (.inr rfl) rfl) <| AR.nil <| hK5 _ (AWP.weak (Weak.kt [6] rfl) ?_)
  refine awp_ret ?_
  obtain rfl := Option.some.inj h
  refine ⟨.inr rfl, bl false, rfl, ?_⟩
  exact Weak.e ⟨.k, trivial⟩
 ·replace h := Sh.if_f h hb84
  refine awp_skip <| hK3 _ (AWP.weak (Weak.kt [1, 2, 3] rfl) ?_)
  refine awp_seqK fun K6 hK6 => awp_reg rfl <| AR.op (r := G.api_Hist.av h_0) rfl (aop_load_pp rfl rfl sz24 rfl) ?_
  obtain ⟨r86, hr86, h⟩ := Sh.bind_some' h
  refine AR.op (r := bl r86) rfl (aop_call1 rfl rfl (by simp) (inquestref08_Few_ok hT hr86)) <| AR.op rfl (aop_move (.inr rfl) rfl) <| AR.nil <| hK6 _ (AWP.weak (Weak.kt [1, 2, 3, 8] rfl) ?_)
  refine awp_seqK fun K7 hK7 => awp_reg rfl <| AR.op rfl (aop_move (.inl rfl) rfl) ?_
  obtain ⟨r88, hr88, h⟩ := Sh.bind_some' h
  refine AR.op (r := bl r88) rfl (aop_call1 rfl rfl (by simp) (inquestlaw23_few_ok hT hr88)) <| AR.op rfl (aop_move (.inr rfl) rfl) <| AR.nil <| hK7 _ (AWP.weak (Weak.kt [1, 2, 3, 8, 9] rfl) ?_)
  refine awp_seqK fun K8 hK8 => awp_seqJ (fun (p : Bool) => (⟨[(1, i64 level_1), (2, .sl (List.map G.fact_Fact.av l_2)), (3, .pp [.sl (List.map G.api_Txn.av h_0.Txns)] 0), (30, bl p)], .empty⟩ : St)) (fun (p : Bool) => G.inquestlaw23_StoreDoes_j1 h_0 level_1 l_2 p = some r) ?_ ?_
  ·rintro v92 h
   replace h : G.inquestlaw23_StoreDoes_j1 h_0 level_1 l_2 v92 = some r := h
   unfold G.inquestlaw23_StoreDoes_j1 at h
   refine awp_cond rfl (fun hb93 => ?_) (fun hb93 => ?_)
   ·replace h := Sh.if_t h hb93
    refine awp_seqK fun K9 hK9 => awp_reg rfl <| AR.op rfl (aop_move (.inr rfl) rfl) <| AR.nil <| hK9 _ (AWP.weak (Weak.kt [6] rfl) ?_)
    refine awp_ret ?_
    obtain rfl := Option.some.inj h
    refine ⟨.inr rfl, bl true, rfl, ?_⟩
    exact Weak.e ⟨.k, trivial⟩
   ·replace h := Sh.if_f h hb93
    refine awp_skip <| hK8 _ (AWP.weak (Weak.kt [1, 2, 3] rfl) ?_)
    refine awp_seqK fun K10 hK10 => awp_reg rfl <| AR.op (r := G.api_Hist.av h_0) rfl (aop_load_pp rfl rfl sz24 rfl) <| AR.op rfl (aop_move (.inl rfl) rfl) ?_
    obtain ⟨r95, hr95, h⟩ := Sh.bind_some' h
    rcases r95 with r95 | r95
    ·replace h := Sh.either_l h
     refine AR.op (r := .tuple [.imm (.pointer none), i64 1]) rfl (aop_call3E (ok := NoId) (ys := [G.api_Hist.av h_0, i64 level_1]) (xs := [G.api_Hist.av h_0, i64 level_1]) (r' := .tuple [.imm (.pointer none), i64 1]) (Hs := ⟨0, [], []⟩) (H' := ⟨0, [], []⟩) (g := []) (m := []) (nw := []) (p := 0) (.func rfl rfl (store_New_ok0 hT hr95).call) (store_New_ok0 hT hr95) { next := rfl, part := trivial, inj := rfl, lt := rfl, nwf := rfl, gin := rfl, held := trivial, seen := ⟨⟨G.api_Hist.av h_0, rfl, .sm⟩, ⟨_, rfl, .sm⟩, trivial⟩, inlps := rfl, ple := rfl, map := rfl, next' := rfl, back := trivial, lps := .inl ⟨rfl, rfl⟩, mode := .inr ⟨fun _ h => h, rfl⟩, ren := .sm } rfl) <| AR.keep [1, 2, 3, 34] rfl <| AR.op rfl (aop_move (.inl rfl) rfl) <| AR.op (r := .imm (.pointer none)) rfl (aop_extract rfl rfl rfl) <| AR.op (r := i64 1) rfl (aop_extract rfl rfl rfl) <| AR.keep [1, 2, 3, 35, 36] rfl <| AR.op rfl (aop_move (.inr rfl) rfl) <| AR.op rfl (aop_move (.inr rfl) rfl) ?_
     refine AR.nil <| hK10 _ (AWP.weak (Weak.kt [1, 2, 3, 10, 11] rfl) ?_)
     refine awp_seqK fun K11 hK11 => awp_reg rfl <| AR.op (r := G.api_Hist.av h_0) rfl (aop_load_pp rfl rfl sz24 rfl) ?_
     obtain ⟨r97, hr97, h⟩ := Sh.bind_some' h
     refine AR.op (r := bl r97) rfl (aop_call1 rfl rfl (by simp) (inquestref08_Right_ok hT hr97)) <| AR.op rfl (aop_move (.inr rfl) rfl) <| AR.nil <| hK11 _ (AWP.weak (Weak.kt [1, 2, 3, 10, 11, 12] rfl) ?_)
     refine awp_seqK fun K12 hK12 => awp_seqJ (fun (p : Bool) => (⟨[(1, i64 level_1), (2, .sl (List.map G.fact_Fact.av l_2)), (3, .pp [.sl (List.map G.api_Txn.av h_0.Txns)] 0), (10, .imm (.pointer none)), (11, i64 1), (48, bl p)], .empty⟩ : St)) (fun (p : Bool) => G.inquestlaw23_StoreDoes_j2 p = some r) ?_ ?_
     ·rintro v103 h
      replace h : G.inquestlaw23_StoreDoes_j2 v103 = some r := h
      unfold G.inquestlaw23_StoreDoes_j2 at h
      refine awp_cond rfl (fun hb104 => ?_) (fun hb104 => ?_)
      ·replace h := Sh.if_t h hb104
       refine awp_seqK fun K13 hK13 => awp_reg rfl <| AR.op rfl (aop_move (.inl rfl) rfl) <| AR.op (r := bl true) rfl (aop_eq_nilp rfl rfl rfl pt29) <| AR.op rfl (aop_move (.inl rfl) rfl) <| AR.keep [11, 51] rfl <| AR.op rfl (aop_move (.inl rfl) rfl) <| AR.op (r := bl true) rfl ((aop_eql rfl rfl rfl).tt (by decide)) ?_
       refine AR.op rfl (aop_pick rfl rfl rfl) <| AR.keep [54] rfl <| AR.op rfl (aop_move (.inr rfl) rfl) <| AR.nil <| hK13 _ (AWP.weak (Weak.kt [6] rfl) ?_)
       refine awp_ret ?_
       obtain rfl := Option.some.inj h
       refine ⟨.inr rfl, bl true, rfl, ?_⟩
       exact Weak.e ⟨.k, trivial⟩
      ·replace h := Sh.if_f h hb104
       refine awp_skip <| hK12 _ (AWP.weak (Weak.kt [1, 2, 3, 10, 11] rfl) ?_)
       refine awp_seqK fun K14 hK14 => awp_seqK fun K15 hK15 => awp_reg rfl <| AR.op rfl (aop_move (.inl rfl) rfl) <| AR.op (r := bl true) rfl (aop_eq_nilp rfl rfl rfl pt29) <| AR.op rfl (aop_move (.inl rfl) rfl) <| AR.keep [1, 2, 3, 10, 11, 57] rfl <| AR.skip rfl ?_
       refine AR.skip rfl <| AR.op rfl (aop_pick rfl rfl rfl) <| AR.nil <| hK15 _ (AWP.weak (Weak.kt [1, 2, 3, 10, 60] rfl) ?_)
       refine awp_cond_t rfl ?_
       refine awp_seqK fun K16 hK16 => awp_reg rfl <| AR.op rfl (aop_move (.inr rfl) rfl) <| AR.nil <| hK16 _ (AWP.weak (Weak.kt [6] rfl) ?_)
       refine awp_ret ?_
       obtain rfl := Option.some.inj h
       refine ⟨.inr rfl, bl false, rfl, ?_⟩
       exact Weak.e ⟨.k, trivial⟩
     ·intro K17 hK17
      refine awp_reg rfl <| AR.op rfl (aop_move (.inl rfl) rfl) <| AR.op (r := bl (!r97)) rfl (aop_not rfl rfl) <| AR.op rfl (aop_move (.inl rfl) rfl) <| AR.keep [1, 2, 3, 10, 11, 41] rfl ?_
      rcases Bool.eq_false_or_eq_true (!r97) with hb105 | hb105
      ·rw [hb105]
       replace h := Sh.if_t h hb105
       refine AR.skip rfl <| AR.skip rfl <| AR.skip rfl <| AR.keep [1, 2, 3, 10, 11, 41, 44] rfl <| AR.skip rfl <| AR.skip rfl <| AR.skip rfl <| AR.keep [1, 2, 3, 10, 11, 41, 47] rfl ?_
       refine AR.op rfl (aop_pick rfl rfl rfl) <| AR.nil ?_
       exact hK17 true _ h (Weak.kt [1, 2, 3, 10, 11, 48] rfl)
      ·rw [hb105]
       replace h := Sh.if_f h hb105
       refine AR.op rfl (aop_move (.inl rfl) rfl) <| AR.op (r := bl (decide (level_1 ≠ 0))) rfl (aop_neq rfl rfl rfl) <| AR.op rfl (aop_move (.inl rfl) rfl) <| AR.keep [1, 2, 3, 10, 11, 41, 44] rfl ?_
       rcases Bool.eq_false_or_eq_true (decide (level_1 ≠ 0)) with hb106 | hb106
       ·rw [hb106]
        replace h := Sh.if_t h hb106
        refine AR.op rfl (aop_move (.inl rfl) rfl) <| AR.op (r := bl (decide (level_1 ≠ 1))) rfl (aop_neq rfl rfl rfl) <| AR.op rfl (aop_pick rfl rfl rfl) <| AR.keep [1, 2, 3, 10, 11, 41, 47] rfl <| AR.op rfl (aop_pick rfl rfl rfl) <| AR.nil ?_
        exact hK17 (decide (level_1 ≠ 1)) _ h (Weak.kt [1, 2, 3, 10, 11, 48] rfl)
       ·rw [hb106]
        replace h := Sh.if_f h hb106
        refine AR.skip rfl <| AR.skip rfl <| AR.op rfl (aop_pick rfl rfl rfl) <| AR.keep [1, 2, 3, 10, 11, 41, 47] rfl <| AR.op rfl (aop_pick rfl rfl rfl) <| AR.nil ?_
        exact hK17 false _ h (Weak.kt [1, 2, 3, 10, 11, 48] rfl)
    ·replace h := Sh.either_r h
     refine AR.op (r := .tuple [.ref 0 0 0, i64 0]) rfl (aop_call3E (ok := NoId) (ys := [G.api_Hist.av h_0, i64 level_1]) (xs := [G.api_Hist.av h_0, i64 level_1]) (r' := .tuple [.ref 0 0 0, i64 0]) (Hs := ⟨0, [], []⟩) (H' := ⟨2, [(0, (4, [.agg [nilS, .mref 1, .sl (List.map G.api_Txn.av r95), i64 level_1]])), (1, (0, [mpC G.api_Choice.ky []]))], []⟩) (g := []) (m := [(0, 0), (1, 1)]) (nw := []) (p := 0) (.func rfl rfl (store_New_ok1 hT hr95).call) (store_New_ok1 hT hr95) { next := rfl, part := trivial, inj := rfl, lt := rfl, nwf := rfl, gin := rfl, held := trivial, seen := ⟨⟨G.api_Hist.av h_0, rfl, .sm⟩, ⟨_, rfl, .sm⟩, trivial⟩, inlps := rfl, ple := rfl, map := rfl, next' := rfl, back := .new 0 rfl rfl (.one ⟨.sm, .mref rfl, .sm, .sm, trivial⟩) (.new 1 rfl rfl (.same (by simp)) trivial), lps := .inl ⟨rfl, rfl⟩, mode := .inr ⟨fun _ h => h, rfl⟩, ren := .tp ⟨.ref rfl, .sm, trivial⟩ } rfl) <| AR.keep [1, 2, 3, 34] rfl <| AR.op rfl (aop_move (.inl rfl) rfl) <| AR.op (r := .ref 0 0 0) rfl (aop_extract rfl rfl rfl) <| AR.op (r := i64 0) rfl (aop_extract rfl rfl rfl) <| AR.keep [1, 2, 3, 35, 36] rfl <| AR.op rfl (aop_move (.inr rfl) rfl) <| AR.op rfl (aop_move (.inr rfl) rfl) ?_
     refine AR.nil <| hK10 _ (AWP.weak (Weak.kt [1, 2, 3, 10, 11] rfl) ?_)
     refine awp_seqK fun K18 hK18 => awp_reg rfl <| AR.op (r := G.api_Hist.av h_0) rfl (aop_load_pp rfl rfl sz24 rfl) ?_
     obtain ⟨r108, hr108, h⟩ := Sh.bind_some' h
     refine AR.op (r := bl r108) rfl (aop_call1 rfl rfl (by simp) (inquestref08_Right_ok hT hr108)) <| AR.op rfl (aop_move (.inr rfl) rfl) <| AR.nil <| hK18 _ (AWP.weak (Weak.kt [1, 2, 3, 10, 11, 12] rfl) ?_)
     refine awp_seqK fun K19 hK19 => awp_seqJ (fun (p : Bool) => (⟨[(1, i64 level_1), (2, .sl (List.map G.fact_Fact.av l_2)), (3, .pp [.sl (List.map G.api_Txn.av h_0.Txns)] 0), (10, .ref 0 0 0), (11, i64 0), (48, bl p)], ⟨2, [(0, (4, [.agg [nilS, .mref 1, .sl (List.map G.api_Txn.av r95), i64 level_1]])), (1, (0, [mpC G.api_Choice.ky []]))], []⟩⟩ : St)) (fun (p : Bool) => G.inquestlaw23_StoreDoes_j3 h_0 level_1 l_2 r95 p = some r) ?_ ?_
     ·rintro v114 h
      replace h : G.inquestlaw23_StoreDoes_j3 h_0 level_1 l_2 r95 v114 = some r := h
      unfold G.inquestlaw23_StoreDoes_j3 at h
      refine awp_cond rfl (fun hb115 => ?_) (fun hb115 => ?_)
      ·replace h := Sh.if_t h hb115
       refine awp_seqK fun K20 hK20 => awp_reg rfl <| AR.op rfl (aop_move (.inl rfl) rfl) <| AR.op (r := bl false) rfl (aop_eq_ref rfl rfl rfl rfl pt29) <| AR.op rfl (aop_move (.inl rfl) rfl) <| AR.keep [11, 51] rfl <| AR.skip rfl <| AR.skip rfl ?_
       refine AR.op rfl (aop_pick rfl rfl rfl) <| AR.keep [54] rfl <| AR.op rfl (aop_move (.inr rfl) rfl) <| AR.nil <| hK20 _ (AWP.weak (Weak.e (fr' := [(6, bl false)]) (H' := .empty) ⟨.k, trivial⟩) ?_)
       refine awp_ret ?_
       obtain rfl := Option.some.inj h
       refine ⟨.inr rfl, bl false, rfl, ?_⟩
       exact Weak.e ⟨.k, trivial⟩
      ·replace h := Sh.if_f h hb115
       refine awp_skip <| hK19 _ (AWP.weak (Weak.kt [1, 2, 3, 10, 11] rfl) ?_)
       refine awp_seqK fun K21 hK21 => awp_seqK fun K22 hK22 => awp_reg rfl <| AR.op rfl (aop_move (.inl rfl) rfl) <| AR.op (r := bl false) rfl (aop_eq_ref rfl rfl rfl rfl pt29) <| AR.op rfl (aop_move (.inl rfl) rfl) <| AR.keep [1, 2, 3, 10, 11, 57] rfl <| AR.op rfl (aop_move (.inl rfl) rfl) ?_
       refine AR.op (r := bl false) rfl ((aop_neq rfl rfl rfl).ff (by decide)) <| AR.op rfl (aop_pick rfl rfl rfl) <| AR.nil <| hK22 _ (AWP.weak (Weak.kt [1, 2, 3, 10, 60] rfl) ?_)
       refine awp_cond_f rfl ?_
       refine awp_skip <| hK21 _ (AWP.weak (Weak.kt [1, 2, 3, 10] rfl) ?_)
       refine awp_seqK fun K23 hK23 => awp_reg rfl <| AR.op rfl (aop_move (.inr rfl) rfl) <| AR.nil <| hK23 _ ?_
       refine awp_seqJ (fun (p : (List G.inquestref22_F) × (List G.fact_Fact) × (List (G.api_Choice × Bool))) => (⟨[(10, .ref 0 0 0), (13, .sl (List.map G.inquestref22_F.av p.1))], ⟨3, [(0, (4, [.agg [.view 1 0 (List.map G.fact_Fact.av p.2.1).length, .mref 2, .sl (List.map G.api_Txn.av r95), i64 level_1]])), (1, (7, List.map G.fact_Fact.av p.2.1)), (2, (0, [mpC G.api_Choice.ky p.2.2]))], []⟩⟩ : St)) (fun (p : (List G.inquestref22_F) × (List G.fact_Fact) × (List (G.api_Choice × Bool))) => G.inquestlaw23_StoreDoes_j4 level_1 r95 p.1 p.2.1 p.2.2 = some r) ?_ ?_
       ·rintro ⟨r175, v176, v177⟩ h
        replace h : G.inquestlaw23_StoreDoes_j4 level_1 r95 r175 v176 v177 = some r := h
        unfold G.inquestlaw23_StoreDoes_j4 at h
        refine awp_seqK fun K24 hK24 => awp_reg rfl <| AR.op rfl (aop_move (.inl rfl) rfl) ?_
        obtain ⟨r185, hr185, h⟩ := Sh.bind_some' h
        refine AR.op (r := .sl (List.map G.fact_Fact.av r185)) rfl (AOp.re (r := .view 4 0 (List.map G.fact_Fact.av r185).length) (H2 := ⟨7, [(0, (4, [.agg [.view 5 0 (List.map G.fact_Fact.av v176).length, .mref 6, .sl (List.map G.api_Txn.av r95), i64 level_1]])), (5, (7, List.map G.fact_Fact.av v176)), (6, (0, [mpC G.api_Choice.ky v177]))], []⟩) (aop_call3E (ok := NoId) (ys := [.ref 0 0 0]) (xs := [.ref 0 0 0]) (r' := .view 4 0 (List.map G.fact_Fact.av r185).length) (Hs := ⟨3, [(0, (4, [.agg [.view 1 0 (List.map G.fact_Fact.av v176).length, .mref 2, .sl (List.map G.api_Txn.av r95), i64 level_1]])), (1, (7, List.map G.fact_Fact.av v176)), (2, (0, [mpC G.api_Choice.ky v177]))], []⟩) (H' := ⟨7, [(0, (4, [.agg [.view 5 0 (List.map G.fact_Fact.av v176).length, .mref 6, .sl (List.map G.api_Txn.av r95), i64 level_1]])), (4, (7, List.map G.fact_Fact.av r185)), (5, (7, List.map G.fact_Fact.av v176)), (6, (0, [mpC G.api_Choice.ky v177]))], []⟩) (g := [(0, 0), (1, 1), (2, 2)]) (m := [(0, 0), (1, 4), (2, 5), (3, 6)]) (nw := []) (p := 1) (.func rfl rfl (store_Store_Facts__1_ok hT hr185).call) (store_Store_Facts__1_ok hT hr185) { next := rfl, part := ⟨rfl, rfl, rfl, trivial⟩, inj := rfl, lt := rfl, nwf := rfl, gin := rfl, held := .cons rfl rfl (.one (.ag ⟨.view rfl, .mref rfl, .sm, .sm, trivial⟩) rfl) dt (.cons rfl rfl (.same (by simp)) dt (.cons rfl rfl (.same (by simp)) dt trivial)), seen := ⟨⟨_, rfl, .ref rfl⟩, trivial⟩, inlps := rfl, ple := rfl, map := rfl, next' := rfl, back := .new 0 rfl rfl (.one ⟨.view rfl, .mref rfl, .sm, .sm, trivial⟩) (.new 1 rfl rfl (.same (by simp [AV.flat, G.fact_Fact.av])) (.new 2 rfl rfl (.same (by simp [AV.flat, G.fact_Fact.av])) (.new 3 rfl rfl (.same (by simp)) trivial))), lps := .inl ⟨rfl, rfl⟩, mode := .inr ⟨fun _ h => h, rfl⟩, ren := .view rfl } rfl) [(0, 0), (5, 5), (6, 6)] (.lendAll rfl rfl (by simp)) (.cons rfl rfl (.one (.ag ⟨.view rfl, .mref rfl, .sm, .sm, trivial⟩) rfl) dt (.cons rfl rfl (.same (by simp)) dt (.cons rfl rfl (.same (by simp)) dt trivial)))) ?_
        obtain ⟨r186, hr186, h⟩ := Sh.bind_some' h
        refine AR.op (r := .sl (List.map G.inquestref22_F.av r186)) rfl (aop_call1 rfl rfl (by simp) (inquestlaw23_Plain_ok hT hr186)) <| AR.keep [10, 13, 115] rfl <| AR.op rfl (aop_move (.inl rfl) rfl) ?_
        obtain ⟨r187, hr187, h⟩ := Sh.bind_some' h
        refine AR.op (r := bl r187) rfl (aop_call1 rfl rfl (by simp) (inquestref23_Same_ok hT hr187)) <| AR.op rfl (aop_move (.inl rfl) rfl) <| AR.keep [10, 13, 118] rfl ?_
        rcases Bool.eq_false_or_eq_true (r187) with hb188 | hb188
        ·rw [hb188]
         replace h := Sh.if_t h hb188
         refine AR.op rfl (aop_move (.inl rfl) rfl) ?_
         obtain ⟨r189, hr189, h⟩ := Sh.bind_some' h
         refine AR.op (r := .view 8 0 (List.map G.api_Choice.av r189).length) rfl (aop_call3E (ok := NoId) (ys := [.ref 0 0 0]) (xs := [.ref 0 0 0]) (r' := .view 8 0 (List.map G.api_Choice.av r189).length) (Hs := ⟨7, [(0, (4, [.agg [.view 5 0 (List.map G.fact_Fact.av v176).length, .mref 6, .sl (List.map G.api_Txn.av r95), i64 level_1]])), (5, (7, List.map G.fact_Fact.av v176)), (6, (0, [mpC G.api_Choice.ky v177]))], []⟩) (H' := ⟨11, [(0, (4, [.agg [.view 9 0 (List.map G.fact_Fact.av v176).length, .mref 10, .sl (List.map G.api_Txn.av r95), i64 level_1]])), (8, (3, List.map G.api_Choice.av r189)), (9, (7, List.map G.fact_Fact.av v176)), (10, (0, [mpC G.api_Choice.ky v177]))], []⟩) (g := [(0, 0), (1, 5), (2, 6)]) (m := [(0, 0), (1, 8), (2, 9), (3, 10)]) (nw := []) (p := 1) (.func rfl rfl (store_Store_Choices__1_ok hT hr189).call) (store_Store_Choices__1_ok hT hr189) { next := rfl, part := ⟨rfl, rfl, rfl, trivial⟩, inj := rfl, lt := rfl, nwf := rfl, gin := rfl, held := .cons rfl rfl (.one (.ag ⟨.view rfl, .mref rfl, .sm, .sm, trivial⟩) rfl) dt (.cons rfl rfl (.same (by simp)) dt (.cons rfl rfl (.same (by simp)) dt trivial)), seen := ⟨⟨_, rfl, .ref rfl⟩, trivial⟩, inlps := rfl, ple := rfl, map := rfl, next' := rfl, back := .new 0 rfl rfl (.one ⟨.view rfl, .mref rfl, .sm, .sm, trivial⟩) (.new 1 rfl rfl (.same (by simp [AV.flat, G.api_Choice.av])) (.new 2 rfl rfl (.same (by simp [AV.flat, G.fact_Fact.av])) (.new 3 rfl rfl (.same (by simp)) trivial))), lps := .inl ⟨rfl, rfl⟩, mode := .inr ⟨fun _ h => h, rfl⟩, ren := .view rfl } rfl) <| AR.op rfl (aop_move (.inl rfl) rfl) <| AR.keep [118, 120, 121] rfl ?_
         obtain ⟨r190, hr190, h⟩ := Sh.bind_some' h
         refine AR.op (r := .sl (List.map G.api_Choice.av r190)) rfl (aop_call1 rfl rfl (by simp) (inquestref22_Choices_ok hT hr190)) ?_
         obtain ⟨r191, hr191, h⟩ := Sh.bind_some' h
         refine AR.op (r := bl r191) rfl (aop_callL rfl (ys := [.view 8 0 (List.map G.api_Choice.av r189).length, .sl (List.map G.api_Choice.av r190)]) (xs := [.sl (List.map G.api_Choice.av r189), .sl (List.map G.api_Choice.av r190)]) rfl (Weak.e (fr' := argsFr 0 [.sl (List.map G.api_Choice.av r189), .sl (List.map G.api_Choice.av r190)]) (H' := .empty) ⟨⟨_, rfl, .lendAll rfl rfl (by simp)⟩, ⟨.sl (List.map G.api_Choice.av r190), rfl, .sm⟩, trivial⟩) rfl (inquestref09_Choices_ok hT hr191) (by simp)) <| AR.op rfl (aop_pick rfl rfl rfl) <| AR.keep [124] rfl <| AR.op rfl (aop_move (.inr rfl) rfl) <| AR.nil <| hK24 _ (AWP.weak (Weak.e (fr' := [(6, bl r191)]) (H' := .empty) ⟨.k, trivial⟩) ?_)
         refine awp_ret ?_
         obtain rfl := Option.some.inj h
         refine ⟨.inr rfl, bl r191, rfl, ?_⟩
         exact Weak.e ⟨.k, trivial⟩
        ·rw [hb188]
         replace h := Sh.if_f h hb188
         refine AR.skip rfl <| AR.skip rfl <| AR.skip rfl <| AR.keep [118, 120, 121] rfl <| AR.skip rfl <| AR.skip rfl <| AR.op rfl (aop_pick rfl rfl rfl) <| AR.keep [124] rfl ?_
         refine AR.op rfl (aop_move (.inr rfl) rfl) <| AR.nil <| hK24 _ (AWP.weak (Weak.e (fr' := [(6, bl false)]) (H' := .empty) ⟨.k, trivial⟩) ?_)
         refine awp_ret ?_
         obtain rfl := Option.some.inj h
         refine ⟨.inr rfl, bl false, rfl, ?_⟩
         exact Weak.e ⟨.k, trivial⟩
       ·intro K25 hK25
        refine awp_seqK fun K26 hK26 => awp_reg rfl <| AR.op rfl (aop_move (.inr rfl) rfl) <| AR.nil <| hK26 _ ?_
        refine awp_block <| awp_iter (fun (p : (List G.fact_Fact) × (List (G.api_Choice × Bool)) × (List G.inquestref22_F) × Int) => G.inquestlaw23_StoreDoes_b1 h_0 level_1 l_2 r95 p.1 p.2.1 p.2.2.1 p.2.2.2) (fun (p : (List G.fact_Fact) × (List (G.api_Choice × Bool)) × (List G.inquestref22_F) × Int) => (⟨[(1, i64 level_1), (2, .sl (List.map G.fact_Fact.av l_2)), (3, .pp [.sl (List.map G.api_Txn.av h_0.Txns)] 0), (10, .ref 0 0 0), (13, .sl (List.map G.inquestref22_F.av p.2.2.1)), (14, i64 p.2.2.2)], ⟨3, [(0, (4, [.agg [.view 1 0 (List.map G.fact_Fact.av p.1).length, .mref 2, .sl (List.map G.api_Txn.av r95), i64 level_1]])), (1, (7, List.map G.fact_Fact.av p.1)), (2, (0, [mpC G.api_Choice.ky p.2.1]))], []⟩⟩ : St)) h (Weak.re [(0, 0), (2, 1)] [1] rfl rfl rfl (.cons rfl rfl (.one (.ag ⟨.nil (by simp), .mref rfl, .sm, .sm, trivial⟩) rfl) dt (.fresh (by simp) dt (.cons rfl rfl (.same (by simp)) dt trivial))) ⟨.k, ⟨.sl (List.map G.fact_Fact.av l_2), rfl, .sm⟩, .k, ⟨_, rfl, .ref rfl⟩, ⟨_, rfl, .nilsl⟩, .k, trivial⟩) ?_
        ·skip
         rintro ⟨sfactsall230, sfactsset231, r232, i233⟩ o1 h hx1
         replace h : G.inquestlaw23_StoreDoes_b1 h_0 level_1 l_2 r95 sfactsall230 sfactsset231 r232 i233 = some o1 := h
         unfold G.inquestlaw23_StoreDoes_b1 at h
         refine awp_seqK fun K27 hK27 => awp_seqK fun K28 hK28 => awp_reg rfl <| AR.op rfl (aop_move (.inl rfl) rfl) <| AR.op rfl (aop_move (.inl rfl) rfl) <| AR.op rfl (t_len_sl G.fact_Fact.av l_2 rfl rfl el25) <| AR.keep [1, 2, 3, 10, 13, 14, 61, 63] rfl <| AR.op rfl (aop_lss rfl rfl rfl) ?_
         refine AR.nil <| hK28 _ (AWP.weak (Weak.kt [1, 2, 3, 10, 13, 14, 64] rfl) ?_)
         refine awp_cond rfl (fun hb234 => ?_) (fun hb234 => ?_)
         ·replace h := Sh.if_t h hb234
          refine awp_skip <| hK27 _ (AWP.weak (Weak.kt [1, 2, 3, 10, 13, 14] rfl) ?_)
          refine awp_seqK fun K29 hK29 => awp_block <| awp_seqK fun K30 hK30 => awp_reg rfl <| AR.op rfl (aop_move (.inl rfl) rfl) <| AR.op rfl (aop_move (.inl rfl) rfl) <| AR.op rfl (aop_move (.inl rfl) rfl) <| AR.keep [1, 2, 3, 10, 13, 14, 67, 68, 69] rfl ?_
          obtain ⟨x255, hx255, h⟩ := Sh.bind_some' h
          obtain ⟨k256, hi256, hl256⟩ := Sh.idx_some hx255
          refine AR.op rfl (t_index_sl G.fact_Fact.av l_2 hi256 hl256 rfl rfl rfl el25 rfl) <| AR.op (r := G.fact_Fact.av x255) rfl (aop_load_pp rfl rfl sz38 rfl) ?_
          obtain ⟨r257, hr257, h⟩ := Sh.bind_some' h
          refine AR.op (r := i64 r257.2.2) rfl (aop_call3E (ok := NoId) (ys := [.ref 0 0 0, G.fact_Fact.av x255]) (xs := [.ref 0 0 0, G.fact_Fact.av x255]) (r' := i64 r257.2.2) (Hs := ⟨3, [(0, (4, [.agg [.view 1 0 (List.map G.fact_Fact.av sfactsall230).length, .mref 2, .sl (List.map G.api_Txn.av r95), i64 level_1]])), (1, (7, List.map G.fact_Fact.av sfactsall230)), (2, (0, [mpC G.api_Choice.ky sfactsset231]))], []⟩) (H' := ⟨6, [(0, (4, [.agg [.view 4 0 (List.map G.fact_Fact.av r257.1).length, .mref 5, .sl (List.map G.api_Txn.av r95), i64 level_1]])), (4, (7, List.map G.fact_Fact.av r257.1)), (5, (0, [mpC G.api_Choice.ky r257.2.1]))], []⟩) (g := [(0, 0), (1, 1), (2, 2)]) (m := [(0, 0), (1, 4), (2, 5)]) (nw := []) (p := 1) (.func rfl rfl (store_Store_Learn__1_ok hT hr257).call) (store_Store_Learn__1_ok hT hr257) { next := rfl, part := ⟨rfl, rfl, rfl, trivial⟩, inj := rfl, lt := rfl, nwf := rfl, gin := rfl, held := .cons rfl rfl (.one (.ag ⟨.view rfl, .mref rfl, .sm, .sm, trivial⟩) rfl) dt (.cons rfl rfl (.same (by simp)) dt (.cons rfl rfl (.same (by simp)) dt trivial)), seen := ⟨⟨_, rfl, .ref rfl⟩, ⟨G.fact_Fact.av x255, rfl, .sm⟩, trivial⟩, inlps := rfl, ple := rfl, map := rfl, next' := rfl, back := .new 0 rfl rfl (.one ⟨.view rfl, .mref rfl, .sm, .sm, trivial⟩) (.new 1 rfl rfl (.same (by simp [AV.flat, G.fact_Fact.av])) (.new 2 rfl rfl (.same (by simp)) trivial)), lps := .inl ⟨rfl, rfl⟩, mode := .inr ⟨fun _ h => h, rfl⟩, ren := .sm } rfl) <| AR.keep [1, 2, 3, 10, 13, 14, 72] rfl <| AR.op rfl (aop_move (.inr rfl) rfl) <| AR.nil <| hK30 _ (AWP.weak (Weak.re (fr' := [(1, i64 level_1), (2, .sl (List.map G.fact_Fact.av l_2)), (3, .pp [.sl (List.map G.api_Txn.av h_0.Txns)] 0), (10, .ref 0 0 0), (13, .sl (List.map G.inquestref22_F.av r232)), (14, i64 i233), (15, i64 r257.2.2)]) (H' := ⟨3, [(0, (4, [.agg [.view 1 0 (List.map G.fact_Fact.av r257.1).length, .mref 2, .sl (List.map G.api_Txn.av r95), i64 level_1]])), (1, (7, List.map G.fact_Fact.av r257.1)), (2, (0, [mpC G.api_Choice.ky r257.2.1]))], []⟩) [(0, 0), (1, 4), (2, 5)] [] rfl rfl rfl (.cons rfl rfl (.one (.ag ⟨.view rfl, .mref rfl, .sm, .sm, trivial⟩) rfl) dt (.cons rfl rfl (.same (by simp)) dt (.cons rfl rfl (.same (by simp)) dt trivial))) ⟨.k, ⟨.sl (List.map G.fact_Fact.av l_2), rfl, .sm⟩, .k, ⟨_, rfl, .ref rfl⟩, ⟨.sl (List.map G.inquestref22_F.av r232), rfl, .sm⟩, .k, .k, trivial⟩) ?_)
          refine awp_seqK fun K31 hK31 => awp_any [(true, false), (true, false), (true, false), (true, false), (true, false), (true, false), (true, false), (true, false), (true, false), (true, false), (true, false), (true, false), (true, false), (true, false)] (by kernel_rfl) (by kernel_rfl) rfl ?_
          refine ARH.dry (r := G.api_Hist.av h_0) rfl (fun _ => aop_load_pp rfl rfl sz24 rfl) <| ARH.dry rfl (fun _ => aop_move (.inl rfl) rfl) <| ARH.dry rfl (fun _ => aop_move (.inl rfl) rfl) <| ARH.keep [1, 2, 3, 10, 14, 15, 74, 75, 76] rfl <| ARH.dry rfl (fun _ => aop_move (.inl rfl) rfl) <| ARH.dry rfl (fun _ => aop_move (.inl rfl) rfl) ?_
          obtain ⟨x262, hx262, h⟩ := Sh.bind_some' h
          obtain ⟨k263, hi263, hl263⟩ := Sh.idx_some hx262
          refine ARH.dry rfl (fun _ => t_index_sl G.fact_Fact.av l_2 hi263 hl263 rfl rfl rfl el25 rfl) <| ARH.keep [1, 2, 3, 10, 14, 15, 74, 75, 76, 79] rfl <| ARH.dry (r := G.fact_Fact.av x262) rfl (fun _ => aop_load_pp rfl rfl sz38 rfl) ?_
          obtain ⟨r264, hr264, h⟩ := Sh.bind_some' h
          refine ARH.dry (r := G.inquestref22_F.av r264) rfl (fun _ => aop_call1 rfl rfl (by simp) (inquestlaw23_one_ok hT hr264)) ?_
          obtain ⟨r265, hr265, h⟩ := Sh.bind_some' h
          refine ARH.dry (r := .tuple [.sl (List.map G.inquestref22_F.av r265.1), i64 r265.2]) rfl (fun _ => aop_call1 rfl rfl (by simp) (inquestref23_Learn_ok hT hr265)) <| ARH.keep [1, 2, 3, 10, 14, 15, 82] rfl <| ARH.dry rfl (fun _ => aop_move (.inl rfl) rfl) <| ARH.dry (r := .sl (List.map G.inquestref22_F.av r265.1)) rfl (fun _ => aop_extract rfl rfl rfl) <| ARH.dry (r := i64 r265.2) rfl (fun _ => aop_extract rfl rfl rfl) <| ARH.keep [1, 2, 3, 10, 14, 15, 83, 84] rfl <| ARH.dry rfl (fun _ => aop_move (.inr rfl) rfl) <| ARH.dry rfl (fun _ => aop_move (.inr rfl) rfl) ?_
          refine ARH.nil <| hK31 _ (AWP.weak (Weak.kt [1, 2, 3, 10, 14, 15, 16, 17] rfl) ?_)
          refine awp_seqK fun K32 hK32 => awp_reg rfl <| AR.op rfl (aop_move (.inl rfl) rfl) <| AR.op rfl (aop_move (.inr rfl) rfl) <| AR.nil <| hK32 _ (AWP.weak (Weak.kt [1, 2, 3, 10, 14, 15, 17, 13] rfl) ?_)
          refine awp_seqJ (fun (p : Bool) => (⟨[(1, i64 level_1), (2, .sl (List.map G.fact_Fact.av l_2)), (3, .pp [.sl (List.map G.api_Txn.av h_0.Txns)] 0), (10, .ref 0 0 0), (14, i64 i233), (13, .sl (List.map G.inquestref22_F.av r265.1)), (112, bl p)], ⟨3, [(0, (4, [.agg [.view 1 0 (List.map G.fact_Fact.av r257.1).length, .mref 2, .sl (List.map G.api_Txn.av r95), i64 level_1]])), (1, (7, List.map G.fact_Fact.av r257.1)), (2, (0, [mpC G.api_Choice.ky r257.2.1]))], []⟩⟩ : St)) (fun (p : Bool) => G.inquestlaw23_StoreDoes_j5 i233 r257 r265 p = some o1) ?_ ?_
          ·rintro v275 h
           replace h : G.inquestlaw23_StoreDoes_j5 i233 r257 r265 v275 = some o1 := h
           unfold G.inquestlaw23_StoreDoes_j5 at h
           refine awp_cond rfl (fun hb276 => ?_) (fun hb276 => ?_)
           ·replace h := Sh.if_t h hb276
            refine awp_seqK fun K33 hK33 => awp_reg rfl <| AR.op rfl (aop_move (.inr rfl) rfl) <| AR.nil <| hK33 _ (AWP.weak (Weak.e (fr' := [(6, bl false)]) (H' := .empty) ⟨.k, trivial⟩) ?_)
            refine awp_ret ?_
            replace h := Sh.exit_eq h hx1
            obtain rfl := Option.some.inj h
            refine ⟨.inr rfl, bl false, rfl, ?_⟩
            exact Weak.e ⟨.k, trivial⟩
           ·replace h := Sh.if_f h hb276
            refine awp_skip <| hK29 _ (AWP.weak (Weak.kt [1, 2, 3, 10, 14, 13] rfl) ?_)
            refine awp_reg rfl <| AR.op rfl (aop_move (.inl rfl) rfl) <| AR.op rfl (aop_add rfl rfl rfl rfl) <| AR.op rfl (aop_move (.inr rfl) rfl) <| AR.nil ?_
            replace h := Sh.next_eq h
            exact ⟨_, h, Weak.kt [1, 2, 3, 10, 13, 14] rfl⟩
          ·intro K34 hK34
           refine awp_any [(true, false), (true, false), (true, false), (true, false), (true, false), (false, true), (true, false), (true, false), (true, false), (true, false), (true, false), (true, false), (true, false), (true, false), (true, false), (true, false), (true, false), (false, true), (true, false), (true, false), (true, false), (true, false), (true, false), (true, false), (true, false), (true, false), (true, false)] (by kernel_rfl) (by kernel_rfl) rfl ?_
           refine ARH.dry rfl (fun _ => aop_move (.inl rfl) rfl) <| ARH.dry rfl (fun _ => aop_move (.inl rfl) rfl) <| ARH.dry (r := bl (decide (r257.2.2 ≠ r265.2))) rfl (fun _ => aop_neq rfl rfl rfl) <| ARH.keep [1, 2, 3, 10, 14, 13, 88] rfl <| ARH.dry rfl (fun _ => aop_move (.inl rfl) rfl) ?_
           rcases Bool.eq_false_or_eq_true (decide (r257.2.2 ≠ r265.2)) with hb277 | hb277
           ·rw [hb277]
            replace h := Sh.if_t h hb277
            refine ARH.skip rfl <| ARH.skip rfl <| ARH.keep [1, 2, 3, 10, 14, 13, 89, 90, 91] rfl <| ARH.skip rfl <| ARH.skip rfl <| ARH.skip rfl <| ARH.keep [1, 2, 3, 10, 14, 13, 89, 90, 91, 92, 93, 94] rfl <| ARH.dry rfl (fun _ => aop_pick rfl rfl rfl) ?_
            refine ARH.dry rfl (fun _ => aop_move (.inl rfl) rfl) <| ARH.skip rfl <| ARH.keep [1, 2, 3, 10, 14, 13, 90, 91, 92, 93, 94, 96, 97] rfl <| ARH.skip rfl <| ARH.skip rfl <| ARH.skip rfl <| ARH.keep [1, 2, 3, 10, 14, 13, 90, 91, 92, 93, 94, 96, 97, 98, 99, 100] rfl <| ARH.skip rfl ?_
            refine ARH.skip rfl <| ARH.skip rfl <| ARH.keep [1, 2, 3, 10, 14, 13, 90, 91, 92, 93, 94, 96, 97, 98, 99, 100, 101, 102, 103] rfl <| ARH.skip rfl <| ARH.skip rfl <| ARH.skip rfl <| ARH.keep [1, 2, 3, 10, 14, 13, 90, 91, 92, 93, 94, 96, 97, 98, 99, 100, 101, 102, 103, 104, 105, 106] rfl <| ARH.skip rfl ?_
            refine ARH.skip rfl <| ARH.skip rfl <| ARH.keep [1, 2, 3, 10, 14, 13, 90, 91, 92, 93, 94, 96, 97, 98, 99, 100, 101, 102, 103, 104, 105, 106, 107, 108, 109] rfl <| ARH.skip rfl <| ARH.skip rfl <| ARH.dry rfl (fun _ => aop_pick rfl rfl rfl) <| ARH.nil ?_
            exact hK34 true _ h (Weak.kt [1, 2, 3, 10, 14, 13, 112] rfl)
           ·rw [hb277]
            replace h := Sh.if_f h hb277
            refine ARH.dry rfl (fun _ => aop_move (.inl rfl) rfl) ?_
            obtain ⟨r278, hr278, h⟩ := Sh.bind_some' h
            refine ARH.loud (r := i64 (Sh.len r257.1)) rfl rfl (aop_call3E (ok := NoId) (ys := [.ref 0 0 0]) (xs := [.ref 0 0 0]) (r' := i64 (Sh.len r257.1)) (Hs := ⟨3, [(0, (4, [.agg [.view 1 0 (List.map G.fact_Fact.av r257.1).length, .mref 2, .sl (List.map G.api_Txn.av r95), i64 level_1]])), (1, (7, List.map G.fact_Fact.av r257.1)), (2, (0, [mpC G.api_Choice.ky r257.2.1]))], []⟩) (H' := ⟨6, [(0, (4, [.agg [.view 4 0 (List.map G.fact_Fact.av r257.1).length, .mref 5, .sl (List.map G.api_Txn.av r95), i64 level_1]])), (4, (7, List.map G.fact_Fact.av r257.1)), (5, (0, [mpC G.api_Choice.ky r257.2.1]))], []⟩) (g := [(0, 0), (1, 1), (2, 2)]) (m := [(0, 0), (1, 4), (2, 5)]) (nw := []) (p := 1) (.func rfl rfl (store_Store_Len__1_ok hT hr278).call) (store_Store_Len__1_ok hT hr278) { next := rfl, part := ⟨rfl, rfl, rfl, trivial⟩, inj := rfl, lt := rfl, nwf := rfl, gin := rfl, held := .cons rfl rfl (.one (.ag ⟨.view rfl, .mref rfl, .sm, .sm, trivial⟩) rfl) dt (.cons rfl rfl (.same (by simp)) dt (.cons rfl rfl (.same (by simp)) dt trivial)), seen := ⟨⟨_, rfl, .ref rfl⟩, trivial⟩, inlps := rfl, ple := rfl, map := rfl, next' := rfl, back := .new 0 rfl rfl (.one ⟨.view rfl, .mref rfl, .sm, .sm, trivial⟩) (.new 1 rfl rfl (.same (by simp [AV.flat, G.fact_Fact.av])) (.new 2 rfl rfl (.same (by simp)) trivial)), lps := .inl ⟨rfl, rfl⟩, mode := .inr ⟨fun _ h => h, rfl⟩, ren := .sm } rfl) <| ARH.keep [1, 2, 3, 10, 14, 13, 89, 90, 91] rfl <| ARH.dry rfl (fun _ => aop_move (.inl rfl) rfl) <| ARH.dry rfl (fun _ => t_len_sl G.inquestref22_F.av r265.1 rfl rfl el40) <| ARH.dry (r := bl (decide ((Sh.len r257.1) ≠ (Sh.len r265.1)))) rfl (fun _ => aop_neq rfl rfl rfl) <| ARH.keep [1, 2, 3, 10, 14, 13, 89, 90, 91, 92, 93, 94] rfl <| ARH.dry rfl (fun _ => aop_pick rfl rfl rfl) <| ARH.dry rfl (fun _ => aop_move (.inl rfl) rfl) ?_
            rcases Bool.eq_false_or_eq_true (decide ((Sh.len r257.1) ≠ (Sh.len r265.1))) with hb279 | hb279
            ·rw [hb279]
             replace h := Sh.if_t h hb279
             refine ARH.skip rfl <| ARH.keep [1, 2, 3, 10, 14, 13, 90, 91, 92, 93, 94, 96, 97] rfl <| ARH.skip rfl <| ARH.skip rfl <| ARH.skip rfl <| ARH.keep [1, 2, 3, 10, 14, 13, 90, 91, 92, 93, 94, 96, 97, 98, 99, 100] rfl <| ARH.skip rfl <| ARH.skip rfl ?_
             refine ARH.skip rfl <| ARH.keep [1, 2, 3, 10, 14, 13, 90, 91, 92, 93, 94, 96, 97, 98, 99, 100, 101, 102, 103] rfl <| ARH.skip rfl <| ARH.skip rfl <| ARH.skip rfl <| ARH.keep [1, 2, 3, 10, 14, 13, 90, 91, 92, 93, 94, 96, 97, 98, 99, 100, 101, 102, 103, 104, 105, 106] rfl <| ARH.skip rfl <| ARH.skip rfl ?_
             refine ARH.skip rfl <| ARH.keep [1, 2, 3, 10, 14, 13, 90, 91, 92, 93, 94, 96, 97, 98, 99, 100, 101, 102, 103, 104, 105, 106, 107, 108, 109] rfl <| ARH.skip rfl <| ARH.skip rfl <| ARH.dry rfl (fun _ => aop_pick rfl rfl rfl) <| ARH.nil ?_
             exact hK34 true _ h (Weak.re [(0, 0), (1, 4), (2, 5)] [] rfl rfl rfl (.cons rfl rfl (.one (.ag ⟨.view rfl, .mref rfl, .sm, .sm, trivial⟩) rfl) dt (.cons rfl rfl (.same (by simp)) dt (.cons rfl rfl (.same (by simp)) dt trivial))) ⟨.k, ⟨.sl (List.map G.fact_Fact.av l_2), rfl, .sm⟩, .k, ⟨_, rfl, .ref rfl⟩, .k, ⟨.sl (List.map G.inquestref22_F.av r265.1), rfl, .sm⟩, .k, trivial⟩)
            ·rw [hb279]
             replace h := Sh.if_f h hb279
             refine ARH.dry rfl (fun _ => aop_move (.inl rfl) rfl) <| ARH.keep [1, 2, 3, 10, 14, 13, 90, 91, 92, 93, 94, 96, 97] rfl <| ARH.dry rfl (fun _ => aop_move (.inl rfl) rfl) <| ARH.dry rfl (fun _ => aop_move (.inl rfl) rfl) ?_
             obtain ⟨x280, hx280, h⟩ := Sh.bind_some' h
             obtain ⟨k281, hi281, hl281⟩ := Sh.idx_some hx280
             refine ARH.dry rfl (fun _ => t_index_sl G.fact_Fact.av l_2 hi281 hl281 rfl rfl rfl el25 rfl) <| ARH.keep [1, 2, 3, 10, 14, 13, 90, 91, 92, 93, 94, 96, 97, 98, 99, 100] rfl <| ARH.dry rfl (fun _ => aop_field_pp rfl rfl fd38_0 (by decide)) <| ARH.dry (r := G.api_Choice.av x280.C) rfl (fun _ => aop_load_pp rfl rfl sz35 rfl) ?_
             obtain ⟨r282, hr282, h⟩ := Sh.bind_some' h
             refine ARH.loud (r := i64 r282) rfl rfl (aop_call3E (ok := NoId) (ys := [.ref 0 0 0, G.api_Choice.av x280.C]) (xs := [.ref 0 0 0, G.api_Choice.av x280.C]) (r' := i64 r282) (Hs := ⟨6, [(0, (4, [.agg [.view 4 0 (List.map G.fact_Fact.av r257.1).length, .mref 5, .sl (List.map G.api_Txn.av r95), i64 level_1]])), (4, (7, List.map G.fact_Fact.av r257.1)), (5, (0, [mpC G.api_Choice.ky r257.2.1]))], []⟩) (H' := ⟨9, [(0, (4, [.agg [.view 7 0 (List.map G.fact_Fact.av r257.1).length, .mref 8, .sl (List.map G.api_Txn.av r95), i64 level_1]])), (7, (7, List.map G.fact_Fact.av r257.1)), (8, (0, [mpC G.api_Choice.ky r257.2.1]))], []⟩) (g := [(0, 0), (1, 4), (2, 5)]) (m := [(0, 0), (1, 7), (2, 8)]) (nw := []) (p := 1) (.func rfl rfl (store_Store_Decides__1_ok hT hr282).call) (store_Store_Decides__1_ok hT hr282) { next := rfl, part := ⟨rfl, rfl, rfl, trivial⟩, inj := rfl, lt := rfl, nwf := rfl, gin := rfl, held := .cons rfl rfl (.one (.ag ⟨.view rfl, .mref rfl, .sm, .sm, trivial⟩) rfl) dt (.cons rfl rfl (.same (by simp)) dt (.cons rfl rfl (.same (by simp)) dt trivial)), seen := ⟨⟨_, rfl, .ref rfl⟩, ⟨G.api_Choice.av x280.C, rfl, .sm⟩, trivial⟩, inlps := rfl, ple := rfl, map := rfl, next' := rfl, back := .new 0 rfl rfl (.one ⟨.view rfl, .mref rfl, .sm, .sm, trivial⟩) (.new 1 rfl rfl (.same (by simp [AV.flat, G.fact_Fact.av])) (.new 2 rfl rfl (.same (by simp)) trivial)), lps := .inl ⟨rfl, rfl⟩, mode := .inr ⟨fun _ h => h, rfl⟩, ren := .sm } rfl) <| ARH.keep [1, 2, 3, 10, 14, 13, 90, 91, 92, 93, 94, 96, 97, 98, 99, 100, 101, 102, 103] rfl <| ARH.dry rfl (fun _ => aop_move (.inl rfl) rfl) <| ARH.dry rfl (fun _ => aop_move (.inl rfl) rfl) <| ARH.dry rfl (fun _ => aop_move (.inl rfl) rfl) <| ARH.keep [1, 2, 3, 10, 14, 13, 90, 91, 92, 93, 94, 96, 97, 98, 99, 100, 101, 102, 103, 104, 105, 106] rfl ?_
             obtain ⟨x283, hx283, h⟩ := Sh.bind_some' h
             obtain ⟨k284, hi284, hl284⟩ := Sh.idx_some hx283
             refine ARH.dry rfl (fun _ => t_index_sl G.fact_Fact.av l_2 hi284 hl284 rfl rfl rfl el25 rfl) <| ARH.dry rfl (fun _ => aop_field_pp rfl rfl fd38_0 (by decide)) <| ARH.dry (r := G.api_Choice.av x283.C) rfl (fun _ => aop_load_pp rfl rfl sz35 rfl) <| ARH.keep [1, 2, 3, 10, 14, 13, 90, 91, 92, 93, 94, 96, 97, 98, 99, 100, 101, 102, 103, 104, 105, 106, 107, 108, 109] rfl ?_
             obtain ⟨r285, hr285, h⟩ := Sh.bind_some' h
             refine ARH.dry (r := i64 r285) rfl (fun _ => aop_call1 rfl rfl (by simp) (inquestref23_Decides_ok hT hr285)) <| ARH.dry (r := bl (decide (r282 ≠ r285))) rfl (fun _ => aop_neq rfl rfl rfl) <| ARH.dry rfl (fun _ => aop_pick rfl rfl rfl) <| ARH.nil ?_
             exact hK34 (decide (r282 ≠ r285)) _ h (Weak.re [(0, 0), (1, 7), (2, 8)] [] rfl rfl rfl (.cons rfl rfl (.one (.ag ⟨.view rfl, .mref rfl, .sm, .sm, trivial⟩) rfl) dt (.cons rfl rfl (.same (by simp)) dt (.cons rfl rfl (.same (by simp)) dt trivial))) ⟨.k, ⟨.sl (List.map G.fact_Fact.av l_2), rfl, .sm⟩, .k, ⟨_, rfl, .ref rfl⟩, .k, ⟨.sl (List.map G.inquestref22_F.av r265.1), rfl, .sm⟩, .k, trivial⟩)
         ·replace h := Sh.if_f h hb234
          refine awp_exit ?_
          replace h := Sh.exit_eq h hx1
          exact hK25 (r232, sfactsall230, sfactsset231) _ h (Weak.kt [10, 13] rfl)
     ·intro K35 hK35
      refine awp_reg rfl <| AR.op rfl (aop_move (.inl rfl) rfl) <| AR.op (r := bl (!r108)) rfl (aop_not rfl rfl) <| AR.op rfl (aop_move (.inl rfl) rfl) <| AR.keep [1, 2, 3, 10, 11, 41] rfl ?_
      rcases Bool.eq_false_or_eq_true (!r108) with hb286 | hb286
      ·rw [hb286]
       replace h := Sh.if_t h hb286
       refine AR.skip rfl <| AR.skip rfl <| AR.skip rfl <| AR.keep [1, 2, 3, 10, 11, 41, 44] rfl <| AR.skip rfl <| AR.skip rfl <| AR.skip rfl <| AR.keep [1, 2, 3, 10, 11, 41, 47] rfl ?_
       refine AR.op rfl (aop_pick rfl rfl rfl) <| AR.nil ?_
       exact hK35 true _ h (Weak.kt [1, 2, 3, 10, 11, 48] rfl)
      ·rw [hb286]
       replace h := Sh.if_f h hb286
       refine AR.op rfl (aop_move (.inl rfl) rfl) <| AR.op (r := bl (decide (level_1 ≠ 0))) rfl (aop_neq rfl rfl rfl) <| AR.op rfl (aop_move (.inl rfl) rfl) <| AR.keep [1, 2, 3, 10, 11, 41, 44] rfl ?_
       rcases Bool.eq_false_or_eq_true (decide (level_1 ≠ 0)) with hb287 | hb287
       ·rw [hb287]
        replace h := Sh.if_t h hb287
        refine AR.op rfl (aop_move (.inl rfl) rfl) <| AR.op (r := bl (decide (level_1 ≠ 1))) rfl (aop_neq rfl rfl rfl) <| AR.op rfl (aop_pick rfl rfl rfl) <| AR.keep [1, 2, 3, 10, 11, 41, 47] rfl <| AR.op rfl (aop_pick rfl rfl rfl) <| AR.nil ?_
        exact hK35 (decide (level_1 ≠ 1)) _ h (Weak.kt [1, 2, 3, 10, 11, 48] rfl)
       ·rw [hb287]
        replace h := Sh.if_f h hb287
        refine AR.skip rfl <| AR.skip rfl <| AR.op rfl (aop_pick rfl rfl rfl) <| AR.keep [1, 2, 3, 10, 11, 41, 47] rfl <| AR.op rfl (aop_pick rfl rfl rfl) <| AR.nil ?_
        exact hK35 false _ h (Weak.kt [1, 2, 3, 10, 11, 48] rfl)
  ·intro K36 hK36
   refine awp_reg rfl <| AR.op rfl (aop_move (.inl rfl) rfl) <| AR.op (r := bl (!r86)) rfl (aop_not rfl rfl) <| AR.op rfl (aop_move (.inl rfl) rfl) <| AR.keep [1, 2, 3, 9, 27] rfl ?_
   rcases Bool.eq_false_or_eq_true (!r86) with hb288 | hb288
   ·rw [hb288]
    replace h := Sh.if_t h hb288
    refine AR.skip rfl <| AR.skip rfl <| AR.op rfl (aop_pick rfl rfl rfl) <| AR.nil ?_
    exact hK36 true _ h (Weak.kt [1, 2, 3, 30] rfl)
   ·rw [hb288]
    replace h := Sh.if_f h hb288
    refine AR.op rfl (aop_move (.inl rfl) rfl) <| AR.op (r := bl (!r88)) rfl (aop_not rfl rfl) <| AR.op rfl (aop_pick rfl rfl rfl) <| AR.nil ?_
    exact hK36 (!r88) _ h (Weak.kt [1, 2, 3, 30] rfl)
theorem inquestlaw23_StoreDoes_ok {W0 : World} (hT : Tab W0) {h_0 : G.api_Hist} {level_1 : Int} {l_2 : List G.fact_Fact} {r : Bool} (h : G.inquestlaw23_StoreDoes h_0 level_1 l_2 = some r) : Fun1 Try.prog W0 4 [G.api_Hist.av h_0, i64 level_1, .sl (List.map G.fact_Fact.av l_2)] (bl r) := Fun1.two (inquestlaw23_StoreDoes_ok0 hT h) (by simp)

end Wk
