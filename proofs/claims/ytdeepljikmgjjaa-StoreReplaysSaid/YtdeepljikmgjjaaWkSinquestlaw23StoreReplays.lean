/- That a statement does what its plain function says. -/
import Derived.Test.YtdeepljikmgjjaaWkSinquestlaw23
open Go Go.Av Go.Proofs
set_option linter.unusedVariables false
set_option maxHeartbeats 8000000
set_option maxRecDepth 20000
namespace Wk
theorem inquestlaw23_StoreReplays_ok0 {W0 : World} (hT : Tab W0) {h_0 : G.api_Hist} {level_1 : Int} {l_2 : List G.fact_Fact} {r : Bool} (h : G.inquestlaw23_StoreReplays h_0 level_1 l_2 = some r) : Fun2 Try.prog W0 6 [G.api_Hist.av h_0, i64 level_1, .sl (List.map G.fact_Fact.av l_2)] (bl r) .empty := by
 refine fun2_of_awp Try.func6 rfl (by kernel_rfl) Try.ntmps6 (by simp) ?_
 unfold G.inquestlaw23_StoreReplays at h
 show AWP _ _ _ _ ⟨[(0, G.api_Hist.av h_0), (1, i64 level_1), (2, .sl (List.map G.fact_Fact.av l_2))], .empty⟩ _
 refine awp_seqK fun K1 hK1 => awp_reg rfl <| AR.op (r := .ref 0 0 0) rfl (aop_box 1 [G.api_Hist.av h_0] rfl rfl rfl (.inl ⟨rfl, rfl⟩)) <| AR.op rfl (aop_move (.inr rfl) rfl) <| AR.nil <| hK1 _ (AWP.weak (Weak.e (fr' := [(1, i64 level_1), (2, .sl (List.map G.fact_Fact.av l_2)), (3, .pp [.sl (List.map G.api_Txn.av h_0.Txns)] 0)]) (H' := .empty) ⟨.k, ⟨.sl (List.map G.fact_Fact.av l_2), rfl, .sm⟩, ⟨_, rfl, .frzA rfl rfl rfl rfl (by simp)⟩, trivial⟩) ?_)
 refine awp_seqK fun K2 hK2 => awp_reg rfl ?_
 obtain ⟨r62, hr62, h⟩ := Sh.bind_some' h
 refine AR.op (r := bl r62) rfl (aop_call1 rfl rfl (by simp) (inquestlaw23_awake_ok hT hr62)) <| AR.op rfl (aop_move (.inr rfl) rfl) <| AR.nil <| hK2 _ (AWP.weak (Weak.kt [1, 2, 3, 7] rfl) ?_)
 refine awp_seqK fun K3 hK3 => awp_seqK fun K4 hK4 => awp_reg rfl <| AR.op rfl (aop_move (.inl rfl) rfl) <| AR.op (r := bl (!r62)) rfl (aop_not rfl rfl) <| AR.nil <| hK4 _ (AWP.weak (Weak.kt [1, 2, 3, 18] rfl) ?_)
 refine awp_cond rfl (fun hb63 => ?_) (fun hb63 => ?_)
 ·replace h := Sh.if_t h hb63
  refine awp_seqK fun K5 hK5 => awp_reg rfl <| AR.op rfl (aop_move (.inr rfl) rfl) <| AR.nil <| hK5 _ (AWP.weak (Weak.kt [6] rfl) ?_)
  refine awp_ret ?_
  obtain rfl := Option.some.inj h
  refine ⟨.inr rfl, bl false, rfl, ?_⟩
  exact Weak.e ⟨.k, trivial⟩
 ·replace h := Sh.if_f h hb63
  refine awp_skip <| hK3 _ (AWP.weak (Weak.kt [1, 2, 3] rfl) ?_)
  refine awp_seqK fun K6 hK6 => awp_reg rfl <| AR.op (r := G.api_Hist.av h_0) rfl (aop_load_pp rfl rfl sz24 rfl) ?_
  obtain ⟨r65, hr65, h⟩ := Sh.bind_some' h
  refine AR.op (r := bl r65) rfl (aop_call1 rfl rfl (by simp) (inquestref08_Few_ok hT hr65)) <| AR.op rfl (aop_move (.inr rfl) rfl) <| AR.nil <| hK6 _ (AWP.weak (Weak.kt [1, 2, 3, 8] rfl) ?_)
  refine awp_seqK fun K7 hK7 => awp_reg rfl <| AR.op rfl (aop_move (.inl rfl) rfl) ?_
  obtain ⟨r67, hr67, h⟩ := Sh.bind_some' h
  refine AR.op (r := bl r67) rfl (aop_call1 rfl rfl (by simp) (inquestlaw23_few_ok hT hr67)) <| AR.op rfl (aop_move (.inr rfl) rfl) <| AR.nil <| hK7 _ (AWP.weak (Weak.kt [1, 2, 3, 8, 9] rfl) ?_)
  refine awp_seqK fun K8 hK8 => awp_seqJ (fun (p : Bool) => (⟨[(1, i64 level_1), (2, .sl (List.map G.fact_Fact.av l_2)), (3, .pp [.sl (List.map G.api_Txn.av h_0.Txns)] 0), (28, bl p)], .empty⟩ : St)) (fun (p : Bool) => G.inquestlaw23_StoreReplays_j1 h_0 level_1 l_2 p = some r) ?_ ?_
  ·rintro v71 h
   replace h : G.inquestlaw23_StoreReplays_j1 h_0 level_1 l_2 v71 = some r := h
   unfold G.inquestlaw23_StoreReplays_j1 at h
   refine awp_cond rfl (fun hb72 => ?_) (fun hb72 => ?_)
   ·replace h := Sh.if_t h hb72
    refine awp_seqK fun K9 hK9 => awp_reg rfl <| AR.op rfl (aop_move (.inr rfl) rfl) <| AR.nil <| hK9 _ (AWP.weak (Weak.kt [6] rfl) ?_)
    refine awp_ret ?_
    obtain rfl := Option.some.inj h
    refine ⟨.inr rfl, bl true, rfl, ?_⟩
    exact Weak.e ⟨.k, trivial⟩
   ·replace h := Sh.if_f h hb72
    refine awp_skip <| hK8 _ (AWP.weak (Weak.kt [1, 2, 3] rfl) ?_)
    refine awp_seqK fun K10 hK10 => awp_reg rfl <| AR.op (r := G.api_Hist.av h_0) rfl (aop_load_pp rfl rfl sz24 rfl) <| AR.op rfl (aop_move (.inl rfl) rfl) ?_
    obtain ⟨r74, hr74, h⟩ := Sh.bind_some' h
    rcases r74 with r74 | r74
    ·replace h := Sh.either_l h
     refine AR.op (r := .tuple [.imm (.pointer none), i64 1]) rfl (aop_call3E (ok := NoId) (ys := [G.api_Hist.av h_0, i64 level_1]) (xs := [G.api_Hist.av h_0, i64 level_1]) (r' := .tuple [.imm (.pointer none), i64 1]) (Hs := ⟨0, [], []⟩) (H' := ⟨0, [], []⟩) (g := []) (m := []) (nw := []) (p := 0) (.func rfl rfl (store_New_ok0 hT hr74).call) (store_New_ok0 hT hr74) { next := rfl, part := trivial, inj := rfl, lt := rfl, nwf := rfl, gin := rfl, held := trivial, seen := ⟨⟨G.api_Hist.av h_0, rfl, .sm⟩, ⟨_, rfl, .sm⟩, trivial⟩, inlps := rfl, ple := rfl, map := rfl, next' := rfl, back := trivial, lps := .inl ⟨rfl, rfl⟩, mode := .inr ⟨fun _ h => h, rfl⟩, ren := .sm } rfl) <| AR.keep [1, 2, 3, 32] rfl <| AR.op rfl (aop_move (.inl rfl) rfl) <| AR.op (r := .imm (.pointer none)) rfl (aop_extract rfl rfl rfl) <| AR.op (r := i64 1) rfl (aop_extract rfl rfl rfl) <| AR.keep [1, 2, 3, 33, 34] rfl <| AR.op rfl (aop_move (.inr rfl) rfl) <| AR.op rfl (aop_move (.inr rfl) rfl) ?_
     refine AR.nil <| hK10 _ (AWP.weak (Weak.kt [1, 2, 3, 10, 11] rfl) ?_)
     refine awp_seqK fun K11 hK11 => awp_seqK fun K12 hK12 => awp_reg rfl <| AR.op rfl (aop_move (.inl rfl) rfl) <| AR.op (r := bl true) rfl (aop_eq_nilp rfl rfl rfl pt29) <| AR.nil <| hK12 _ (AWP.weak (Weak.kt [1, 2, 3, 10, 11, 36] rfl) ?_)
     refine awp_cond_t rfl ?_
     refine awp_seqK fun K13 hK13 => awp_reg rfl <| AR.op rfl (aop_move (.inl rfl) rfl) <| AR.op (r := bl true) rfl ((aop_eql rfl rfl rfl).tt (by decide)) <| AR.op rfl (aop_move (.inr rfl) rfl) <| AR.nil <| hK13 _ (AWP.weak (Weak.kt [6] rfl) ?_)
     refine awp_ret ?_
     obtain rfl := Option.some.inj h
     refine ⟨.inr rfl, bl true, rfl, ?_⟩
     exact Weak.e ⟨.k, trivial⟩
    ·replace h := Sh.either_r h
     refine AR.op (r := .tuple [.ref 0 0 0, i64 0]) rfl (aop_call3E (ok := NoId) (ys := [G.api_Hist.av h_0, i64 level_1]) (xs := [G.api_Hist.av h_0, i64 level_1]) (r' := .tuple [.ref 0 0 0, i64 0]) (Hs := ⟨0, [], []⟩) (H' := ⟨2, [(0, (4, [.agg [nilS, .mref 1, .sl (List.map G.api_Txn.av r74), i64 level_1]])), (1, (0, [mpC G.api_Choice.ky []]))], []⟩) (g := []) (m := [(0, 0), (1, 1)]) (nw := []) (p := 0) (.func rfl rfl (store_New_ok1 hT hr74).call) (store_New_ok1 hT hr74) { next := rfl, part := trivial, inj := rfl, lt := rfl, nwf := rfl, gin := rfl, held := trivial, seen := ⟨⟨G.api_Hist.av h_0, rfl, .sm⟩, ⟨_, rfl, .sm⟩, trivial⟩, inlps := rfl, ple := rfl, map := rfl, next' := rfl, back := .new 0 rfl rfl (.one ⟨.sm, .mref rfl, .sm, .sm, trivial⟩) (.new 1 rfl rfl (.same (by simp)) trivial), lps := .inl ⟨rfl, rfl⟩, mode := .inr ⟨fun _ h => h, rfl⟩, ren := .tp ⟨.ref rfl, .sm, trivial⟩ } rfl) <| AR.keep [1, 2, 3, 32] rfl <| AR.op rfl (aop_move (.inl rfl) rfl) <| AR.op (r := .ref 0 0 0) rfl (aop_extract rfl rfl rfl) <| AR.op (r := i64 0) rfl (aop_extract rfl rfl rfl) <| AR.keep [1, 2, 3, 33, 34] rfl <| AR.op rfl (aop_move (.inr rfl) rfl) <| AR.op rfl (aop_move (.inr rfl) rfl) ?_
     refine AR.nil <| hK10 _ (AWP.weak (Weak.kt [1, 2, 3, 10, 11] rfl) ?_)
     refine awp_seqK fun K14 hK14 => awp_seqK fun K15 hK15 => awp_reg rfl <| AR.op rfl (aop_move (.inl rfl) rfl) <| AR.op (r := bl false) rfl (aop_eq_ref rfl rfl rfl rfl pt29) <| AR.nil <| hK15 _ (AWP.weak (Weak.kt [1, 2, 3, 10, 11, 36] rfl) ?_)
     refine awp_cond_f rfl ?_
     refine awp_skip <| hK14 _ (AWP.weak (Weak.kt [1, 2, 3, 10] rfl) ?_)
     refine awp_seqJ (fun (p : Unit) => (⟨[], .empty⟩ : St)) (fun (p : Unit) => G.inquestlaw23_StoreReplays_j2 = some r) ?_ ?_
     ·rintro ⟨⟩ h
      replace h : G.inquestlaw23_StoreReplays_j2 = some r := h
      unfold G.inquestlaw23_StoreReplays_j2 at h
      refine awp_seqK fun K16 hK16 => awp_reg rfl <| AR.op rfl (aop_move (.inr rfl) rfl) <| AR.nil <| hK16 _ ?_
      refine awp_ret ?_
      obtain rfl := Option.some.inj h
      refine ⟨.inr rfl, bl true, rfl, ?_⟩
      exact Weak.e ⟨.k, trivial⟩
     ·intro K17 hK17
      refine awp_seqK fun K18 hK18 => awp_reg rfl <| AR.op rfl (aop_move (.inr rfl) rfl) <| AR.nil <| hK18 _ ?_
      refine awp_block <| awp_iter (fun (p : (List G.fact_Fact) × (List (G.api_Choice × Bool)) × Int) => G.inquestlaw23_StoreReplays_b1 h_0 level_1 l_2 r74 p.1 p.2.1 p.2.2) (fun (p : (List G.fact_Fact) × (List (G.api_Choice × Bool)) × Int) => (⟨[(1, i64 level_1), (2, .sl (List.map G.fact_Fact.av l_2)), (3, .pp [.sl (List.map G.api_Txn.av h_0.Txns)] 0), (10, .ref 0 0 0), (12, i64 p.2.2)], ⟨3, [(0, (4, [.agg [.view 1 0 (List.map G.fact_Fact.av p.1).length, .mref 2, .sl (List.map G.api_Txn.av r74), i64 level_1]])), (1, (7, List.map G.fact_Fact.av p.1)), (2, (0, [mpC G.api_Choice.ky p.2.1]))], []⟩⟩ : St)) h (Weak.re [(0, 0), (2, 1)] [1] rfl rfl rfl (.cons rfl rfl (.one (.ag ⟨.nil (by simp), .mref rfl, .sm, .sm, trivial⟩) rfl) dt (.fresh (by simp) dt (.cons rfl rfl (.same (by simp)) dt trivial))) ⟨.k, ⟨.sl (List.map G.fact_Fact.av l_2), rfl, .sm⟩, .k, ⟨_, rfl, .ref rfl⟩, .k, trivial⟩) ?_
      ·skip
       rintro ⟨sfactsall164, sfactsset165, i166⟩ o1 h hx1
       replace h : G.inquestlaw23_StoreReplays_b1 h_0 level_1 l_2 r74 sfactsall164 sfactsset165 i166 = some o1 := h
       unfold G.inquestlaw23_StoreReplays_b1 at h
       refine awp_seqK fun K19 hK19 => awp_seqK fun K20 hK20 => awp_reg rfl <| AR.op rfl (aop_move (.inl rfl) rfl) <| AR.op rfl (aop_move (.inl rfl) rfl) <| AR.op rfl (t_len_sl G.fact_Fact.av l_2 rfl rfl el25) <| AR.keep [1, 2, 3, 10, 12, 39, 41] rfl <| AR.op rfl (aop_lss rfl rfl rfl) ?_
       refine AR.nil <| hK20 _ (AWP.weak (Weak.kt [1, 2, 3, 10, 12, 42] rfl) ?_)
       refine awp_cond rfl (fun hb167 => ?_) (fun hb167 => ?_)
       ·replace h := Sh.if_t h hb167
        refine awp_skip <| hK19 _ (AWP.weak (Weak.kt [1, 2, 3, 10, 12] rfl) ?_)
        refine awp_seqK fun K21 hK21 => awp_block <| awp_seqK fun K22 hK22 => awp_reg rfl <| AR.op rfl (aop_move (.inl rfl) rfl) ?_
        obtain ⟨r186, hr186, h⟩ := Sh.bind_some' h
        refine AR.op (r := .sl (List.map G.fact_Fact.av r186)) rfl (AOp.re (r := .view 4 0 (List.map G.fact_Fact.av r186).length) (H2 := ⟨7, [(0, (4, [.agg [.view 5 0 (List.map G.fact_Fact.av sfactsall164).length, .mref 6, .sl (List.map G.api_Txn.av r74), i64 level_1]])), (5, (7, List.map G.fact_Fact.av sfactsall164)), (6, (0, [mpC G.api_Choice.ky sfactsset165]))], []⟩) (aop_call3E (ok := NoId) (ys := [.ref 0 0 0]) (xs := [.ref 0 0 0]) (r' := .view 4 0 (List.map G.fact_Fact.av r186).length) (Hs := ⟨3, [(0, (4, [.agg [.view 1 0 (List.map G.fact_Fact.av sfactsall164).length, .mref 2, .sl (List.map G.api_Txn.av r74), i64 level_1]])), (1, (7, List.map G.fact_Fact.av sfactsall164)), (2, (0, [mpC G.api_Choice.ky sfactsset165]))], []⟩) (H' := ⟨7, [(0, (4, [.agg [.view 5 0 (List.map G.fact_Fact.av sfactsall164).length, .mref 6, .sl (List.map G.api_Txn.av r74), i64 level_1]])), (4, (7, List.map G.fact_Fact.av r186)), (5, (7, List.map G.fact_Fact.av sfactsall164)), (6, (0, [mpC G.api_Choice.ky sfactsset165]))], []⟩) (g := [(0, 0), (1, 1), (2, 2)]) (m := [(0, 0), (1, 4), (2, 5), (3, 6)]) (nw := []) (p := 1) (.func rfl rfl (store_Store_Facts__1_ok hT hr186).call) (store_Store_Facts__1_ok hT hr186) { next := rfl, part := ⟨rfl, rfl, rfl, trivial⟩, inj := rfl, lt := rfl, nwf := rfl, gin := rfl, held := .cons rfl rfl (.one (.ag ⟨.view rfl, .mref rfl, .sm, .sm, trivial⟩) rfl) dt (.cons rfl rfl (.same (by simp)) dt (.cons rfl rfl (.same (by simp)) dt trivial)), seen := ⟨⟨_, rfl, .ref rfl⟩, trivial⟩, inlps := rfl, ple := rfl, map := rfl, next' := rfl, back := .new 0 rfl rfl (.one ⟨.view rfl, .mref rfl, .sm, .sm, trivial⟩) (.new 1 rfl rfl (.same (by simp [AV.flat, G.fact_Fact.av])) (.new 2 rfl rfl (.same (by simp [AV.flat, G.fact_Fact.av])) (.new 3 rfl rfl (.same (by simp)) trivial))), lps := .inl ⟨rfl, rfl⟩, mode := .inr ⟨fun _ h => h, rfl⟩, ren := .view rfl } rfl) [(0, 0), (5, 5), (6, 6)] (.lendAll rfl rfl (by simp)) (.cons rfl rfl (.one (.ag ⟨.view rfl, .mref rfl, .sm, .sm, trivial⟩) rfl) dt (.cons rfl rfl (.same (by simp)) dt (.cons rfl rfl (.same (by simp)) dt trivial)))) ?_
        obtain ⟨r187, hr187, h⟩ := Sh.bind_some' h
        refine AR.op (r := .sl (List.map G.inquestref22_F.av r187)) rfl (aop_call1 rfl rfl (by simp) (inquestlaw23_Plain_ok hT hr187)) <| AR.keep [1, 2, 3, 10, 12, 47] rfl <| AR.op rfl (aop_move (.inr rfl) rfl) <| AR.nil <| hK22 _ (AWP.weak (Weak.re (fr' := [(1, i64 level_1), (2, .sl (List.map G.fact_Fact.av l_2)), (3, .pp [.sl (List.map G.api_Txn.av h_0.Txns)] 0), (10, .ref 0 0 0), (12, i64 i166), (13, .sl (List.map G.inquestref22_F.av r187))]) (H' := ⟨3, [(0, (4, [.agg [.view 1 0 (List.map G.fact_Fact.av sfactsall164).length, .mref 2, .sl (List.map G.api_Txn.av r74), i64 level_1]])), (1, (7, List.map G.fact_Fact.av sfactsall164)), (2, (0, [mpC G.api_Choice.ky sfactsset165]))], []⟩) [(0, 0), (1, 5), (2, 6)] [] rfl rfl rfl (.cons rfl rfl (.one (.ag ⟨.view rfl, .mref rfl, .sm, .sm, trivial⟩) rfl) dt (.cons rfl rfl (.same (by simp)) dt (.cons rfl rfl (.same (by simp)) dt trivial))) ⟨.k, ⟨.sl (List.map G.fact_Fact.av l_2), rfl, .sm⟩, .k, ⟨_, rfl, .ref rfl⟩, .k, ⟨.sl (List.map G.inquestref22_F.av r187), rfl, .sm⟩, trivial⟩) ?_)
        refine awp_seqK fun K23 hK23 => awp_reg rfl <| AR.op rfl (aop_move (.inl rfl) rfl) <| AR.op rfl (aop_move (.inl rfl) rfl) <| AR.op rfl (aop_move (.inl rfl) rfl) <| AR.keep [1, 2, 3, 10, 12, 13, 48, 49, 50] rfl ?_
        obtain ⟨x191, hx191, h⟩ := Sh.bind_some' h
        obtain ⟨k192, hi192, hl192⟩ := Sh.idx_some hx191
        refine AR.op rfl (t_index_sl G.fact_Fact.av l_2 hi192 hl192 rfl rfl rfl el25 rfl) <| AR.op (r := G.fact_Fact.av x191) rfl (aop_load_pp rfl rfl sz38 rfl) ?_
        obtain ⟨r193, hr193, h⟩ := Sh.bind_some' h
        refine AR.op (r := i64 r193.2.2) rfl (aop_call3E (ok := NoId) (ys := [.ref 0 0 0, G.fact_Fact.av x191]) (xs := [.ref 0 0 0, G.fact_Fact.av x191]) (r' := i64 r193.2.2) (Hs := ⟨3, [(0, (4, [.agg [.view 1 0 (List.map G.fact_Fact.av sfactsall164).length, .mref 2, .sl (List.map G.api_Txn.av r74), i64 level_1]])), (1, (7, List.map G.fact_Fact.av sfactsall164)), (2, (0, [mpC G.api_Choice.ky sfactsset165]))], []⟩) (H' := ⟨6, [(0, (4, [.agg [.view 4 0 (List.map G.fact_Fact.av r193.1).length, .mref 5, .sl (List.map G.api_Txn.av r74), i64 level_1]])), (4, (7, List.map G.fact_Fact.av r193.1)), (5, (0, [mpC G.api_Choice.ky r193.2.1]))], []⟩) (g := [(0, 0), (1, 1), (2, 2)]) (m := [(0, 0), (1, 4), (2, 5)]) (nw := []) (p := 1) (.func rfl rfl (store_Store_Learn__1_ok hT hr193).call) (store_Store_Learn__1_ok hT hr193) { next := rfl, part := ⟨rfl, rfl, rfl, trivial⟩, inj := rfl, lt := rfl, nwf := rfl, gin := rfl, held := .cons rfl rfl (.one (.ag ⟨.view rfl, .mref rfl, .sm, .sm, trivial⟩) rfl) dt (.cons rfl rfl (.same (by simp)) dt (.cons rfl rfl (.same (by simp)) dt trivial)), seen := ⟨⟨_, rfl, .ref rfl⟩, ⟨G.fact_Fact.av x191, rfl, .sm⟩, trivial⟩, inlps := rfl, ple := rfl, map := rfl, next' := rfl, back := .new 0 rfl rfl (.one ⟨.view rfl, .mref rfl, .sm, .sm, trivial⟩) (.new 1 rfl rfl (.same (by simp [AV.flat, G.fact_Fact.av])) (.new 2 rfl rfl (.same (by simp)) trivial)), lps := .inl ⟨rfl, rfl⟩, mode := .inr ⟨fun _ h => h, rfl⟩, ren := .sm } rfl) <| AR.keep [1, 2, 3, 10, 12, 13, 53] rfl <| AR.op rfl (aop_move (.inr rfl) rfl) <| AR.nil <| hK23 _ (AWP.weak (Weak.re (fr' := [(1, i64 level_1), (2, .sl (List.map G.fact_Fact.av l_2)), (3, .pp [.sl (List.map G.api_Txn.av h_0.Txns)] 0), (10, .ref 0 0 0), (12, i64 i166), (13, .sl (List.map G.inquestref22_F.av r187)), (14, i64 r193.2.2)]) (H' := ⟨3, [(0, (4, [.agg [.view 1 0 (List.map G.fact_Fact.av r193.1).length, .mref 2, .sl (List.map G.api_Txn.av r74), i64 level_1]])), (1, (7, List.map G.fact_Fact.av r193.1)), (2, (0, [mpC G.api_Choice.ky r193.2.1]))], []⟩) [(0, 0), (1, 4), (2, 5)] [] rfl rfl rfl (.cons rfl rfl (.one (.ag ⟨.view rfl, .mref rfl, .sm, .sm, trivial⟩) rfl) dt (.cons rfl rfl (.same (by simp)) dt (.cons rfl rfl (.same (by simp)) dt trivial))) ⟨.k, ⟨.sl (List.map G.fact_Fact.av l_2), rfl, .sm⟩, .k, ⟨_, rfl, .ref rfl⟩, .k, ⟨.sl (List.map G.inquestref22_F.av r187), rfl, .sm⟩, .k, trivial⟩) ?_)
        refine awp_seqK fun K24 hK24 => awp_reg rfl <| AR.op rfl (aop_move (.inl rfl) rfl) ?_
        obtain ⟨r196, hr196, h⟩ := Sh.bind_some' h
        refine AR.op (r := .sl (List.map G.fact_Fact.av r196)) rfl (AOp.re (r := .view 4 0 (List.map G.fact_Fact.av r196).length) (H2 := ⟨7, [(0, (4, [.agg [.view 5 0 (List.map G.fact_Fact.av r193.1).length, .mref 6, .sl (List.map G.api_Txn.av r74), i64 level_1]])), (5, (7, List.map G.fact_Fact.av r193.1)), (6, (0, [mpC G.api_Choice.ky r193.2.1]))], []⟩) (aop_call3E (ok := NoId) (ys := [.ref 0 0 0]) (xs := [.ref 0 0 0]) (r' := .view 4 0 (List.map G.fact_Fact.av r196).length) (Hs := ⟨3, [(0, (4, [.agg [.view 1 0 (List.map G.fact_Fact.av r193.1).length, .mref 2, .sl (List.map G.api_Txn.av r74), i64 level_1]])), (1, (7, List.map G.fact_Fact.av r193.1)), (2, (0, [mpC G.api_Choice.ky r193.2.1]))], []⟩) (H' := ⟨7, [(0, (4, [.agg [.view 5 0 (List.map G.fact_Fact.av r193.1).length, .mref 6, .sl (List.map G.api_Txn.av r74), i64 level_1]])), (4, (7, List.map G.fact_Fact.av r196)), (5, (7, List.map G.fact_Fact.av r193.1)), (6, (0, [mpC G.api_Choice.ky r193.2.1]))], []⟩) (g := [(0, 0), (1, 1), (2, 2)]) (m := [(0, 0), (1, 4), (2, 5), (3, 6)]) (nw := []) (p := 1) (.func rfl rfl (store_Store_Facts__1_ok hT hr196).call) (store_Store_Facts__1_ok hT hr196) { next := rfl, part := ⟨rfl, rfl, rfl, trivial⟩, inj := rfl, lt := rfl, nwf := rfl, gin := rfl, held := .cons rfl rfl (.one (.ag ⟨.view rfl, .mref rfl, .sm, .sm, trivial⟩) rfl) dt (.cons rfl rfl (.same (by simp)) dt (.cons rfl rfl (.same (by simp)) dt trivial)), seen := ⟨⟨_, rfl, .ref rfl⟩, trivial⟩, inlps := rfl, ple := rfl, map := rfl, next' := rfl, back := .new 0 rfl rfl (.one ⟨.view rfl, .mref rfl, .sm, .sm, trivial⟩) (.new 1 rfl rfl (.same (by simp [AV.flat, G.fact_Fact.av])) (.new 2 rfl rfl (.same (by simp [AV.flat, G.fact_Fact.av])) (.new 3 rfl rfl (.same (by simp)) trivial))), lps := .inl ⟨rfl, rfl⟩, mode := .inr ⟨fun _ h => h, rfl⟩, ren := .view rfl } rfl) [(0, 0), (5, 5), (6, 6)] (.lendAll rfl rfl (by simp)) (.cons rfl rfl (.one (.ag ⟨.view rfl, .mref rfl, .sm, .sm, trivial⟩) rfl) dt (.cons rfl rfl (.same (by simp)) dt (.cons rfl rfl (.same (by simp)) dt trivial)))) ?_
        obtain ⟨r197, hr197, h⟩ := Sh.bind_some' h
        refine AR.op (r := .sl (List.map G.inquestref22_F.av r197)) rfl (aop_call1 rfl rfl (by simp) (inquestlaw23_Plain_ok hT hr197)) <| AR.keep [1, 2, 3, 10, 12, 13, 14, 56] rfl <| AR.op rfl (aop_move (.inr rfl) rfl) <| AR.nil <| hK24 _ (AWP.weak (Weak.re (fr' := [(1, i64 level_1), (2, .sl (List.map G.fact_Fact.av l_2)), (3, .pp [.sl (List.map G.api_Txn.av h_0.Txns)] 0), (10, .ref 0 0 0), (12, i64 i166), (13, .sl (List.map G.inquestref22_F.av r187)), (14, i64 r193.2.2), (15, .sl (List.map G.inquestref22_F.av r197))]) (H' := ⟨3, [(0, (4, [.agg [.view 1 0 (List.map G.fact_Fact.av r193.1).length, .mref 2, .sl (List.map G.api_Txn.av r74), i64 level_1]])), (1, (7, List.map G.fact_Fact.av r193.1)), (2, (0, [mpC G.api_Choice.ky r193.2.1]))], []⟩) [(0, 0), (1, 5), (2, 6)] [] rfl rfl rfl (.cons rfl rfl (.one (.ag ⟨.view rfl, .mref rfl, .sm, .sm, trivial⟩) rfl) dt (.cons rfl rfl (.same (by simp)) dt (.cons rfl rfl (.same (by simp)) dt trivial))) ⟨.k, ⟨.sl (List.map G.fact_Fact.av l_2), rfl, .sm⟩, .k, ⟨_, rfl, .ref rfl⟩, .k, ⟨.sl (List.map G.inquestref22_F.av r187), rfl, .sm⟩, .k, ⟨.sl (List.map G.inquestref22_F.av r197), rfl, .sm⟩, trivial⟩) ?_)
        refine awp_seqK fun K25 hK25 => awp_seqJ (fun (p : Bool) => (⟨[(1, i64 level_1), (2, .sl (List.map G.fact_Fact.av l_2)), (3, .pp [.sl (List.map G.api_Txn.av h_0.Txns)] 0), (10, .ref 0 0 0), (12, i64 i166), (13, .sl (List.map G.inquestref22_F.av r187)), (14, i64 r193.2.2), (15, .sl (List.map G.inquestref22_F.av r197)), (69, bl p)], ⟨3, [(0, (4, [.agg [.view 1 0 (List.map G.fact_Fact.av r193.1).length, .mref 2, .sl (List.map G.api_Txn.av r74), i64 level_1]])), (1, (7, List.map G.fact_Fact.av r193.1)), (2, (0, [mpC G.api_Choice.ky r193.2.1]))], []⟩⟩ : St)) (fun (p : Bool) => G.inquestlaw23_StoreReplays_j3 i166 r187 r193 r197 p = some o1) ?_ ?_
        ·rintro v205 h
         replace h : G.inquestlaw23_StoreReplays_j3 i166 r187 r193 r197 v205 = some o1 := h
         unfold G.inquestlaw23_StoreReplays_j3 at h
         refine awp_cond rfl (fun hb206 => ?_) (fun hb206 => ?_)
         ·replace h := Sh.if_t h hb206
          refine awp_seqK fun K26 hK26 => awp_reg rfl <| AR.op rfl (aop_move (.inr rfl) rfl) <| AR.nil <| hK26 _ (AWP.weak (Weak.e (fr' := [(6, bl false)]) (H' := .empty) ⟨.k, trivial⟩) ?_)
          refine awp_ret ?_
          replace h := Sh.exit_eq h hx1
          obtain rfl := Option.some.inj h
          refine ⟨.inr rfl, bl false, rfl, ?_⟩
          exact Weak.e ⟨.k, trivial⟩
         ·replace h := Sh.if_f h hb206
          refine awp_skip <| hK25 _ (AWP.weak (Weak.kt [1, 2, 3, 10, 12, 13, 14, 15] rfl) ?_)
          refine awp_seqJ (fun (p : Bool) => (⟨[(1, i64 level_1), (2, .sl (List.map G.fact_Fact.av l_2)), (3, .pp [.sl (List.map G.api_Txn.av h_0.Txns)] 0), (10, .ref 0 0 0), (12, i64 i166), (95, bl p)], ⟨3, [(0, (4, [.agg [.view 1 0 (List.map G.fact_Fact.av r193.1).length, .mref 2, .sl (List.map G.api_Txn.av r74), i64 level_1]])), (1, (7, List.map G.fact_Fact.av r193.1)), (2, (0, [mpC G.api_Choice.ky r193.2.1]))], []⟩⟩ : St)) (fun (p : Bool) => G.inquestlaw23_StoreReplays_j4 i166 r193 p = some o1) ?_ ?_
          ·rintro v211 h
           replace h : G.inquestlaw23_StoreReplays_j4 i166 r193 v211 = some o1 := h
           unfold G.inquestlaw23_StoreReplays_j4 at h
           refine awp_cond rfl (fun hb212 => ?_) (fun hb212 => ?_)
           ·replace h := Sh.if_t h hb212
            refine awp_seqK fun K27 hK27 => awp_reg rfl <| AR.op rfl (aop_move (.inr rfl) rfl) <| AR.nil <| hK27 _ (AWP.weak (Weak.e (fr' := [(6, bl false)]) (H' := .empty) ⟨.k, trivial⟩) ?_)
            refine awp_ret ?_
            replace h := Sh.exit_eq h hx1
            obtain rfl := Option.some.inj h
            refine ⟨.inr rfl, bl false, rfl, ?_⟩
            exact Weak.e ⟨.k, trivial⟩
           ·replace h := Sh.if_f h hb212
            refine awp_skip <| hK21 _ (AWP.weak (Weak.kt [1, 2, 3, 10, 12] rfl) ?_)
            refine awp_reg rfl <| AR.op rfl (aop_move (.inl rfl) rfl) <| AR.op rfl (aop_add rfl rfl rfl rfl) <| AR.op rfl (aop_move (.inr rfl) rfl) <| AR.nil ?_
            replace h := Sh.next_eq h
            exact ⟨_, h, Weak.kt [1, 2, 3, 10, 12] rfl⟩
          ·intro K28 hK28
           refine awp_reg rfl <| AR.op rfl (aop_move (.inl rfl) rfl) <| AR.op rfl (aop_move (.inl rfl) rfl) <| AR.op rfl (t_len_sl G.inquestref22_F.av r187 rfl rfl el40) <| AR.keep [1, 2, 3, 10, 12, 13, 14, 15, 70, 72] rfl ?_
           obtain ⟨part213, hpart213, h⟩ := Sh.bind_some' h
           refine AR.op (r := .sl (List.map G.inquestref22_F.av part213)) rfl (t_sub G.inquestref22_F.av r197 part213 hpart213 (fun _ => rfl) rfl rfl (.inl rfl) (.inl ⟨rfl, rfl⟩) (.inr ⟨_, _, rfl, rfl⟩) el40) <| AR.op rfl (aop_move (.inl rfl) rfl) ?_
           obtain ⟨r214, hr214, h⟩ := Sh.bind_some' h
           refine AR.op (r := bl r214) rfl (aop_call1 rfl rfl (by simp) (inquestref23_Same_ok hT hr214)) <| AR.keep [1, 2, 3, 10, 12, 13, 14, 15, 75] rfl <| AR.op (r := bl (!r214)) rfl (aop_not rfl rfl) <| AR.op rfl (aop_move (.inl rfl) rfl) ?_
           rcases Bool.eq_false_or_eq_true (!r214) with hb215 | hb215
           ·rw [hb215]
            replace h := Sh.if_t h hb215
            refine AR.skip rfl <| AR.keep [1, 2, 3, 10, 12, 13, 15, 77, 78] rfl <| AR.skip rfl <| AR.skip rfl <| AR.skip rfl <| AR.keep [1, 2, 3, 10, 12, 13, 15, 77, 78, 79, 80, 81] rfl <| AR.skip rfl <| AR.skip rfl ?_
            refine AR.skip rfl <| AR.keep [1, 2, 3, 10, 12, 13, 15, 77, 78, 79, 80, 81, 82, 83, 84] rfl <| AR.skip rfl <| AR.skip rfl <| AR.op rfl (aop_pick rfl rfl rfl) <| AR.keep [1, 2, 3, 10, 12, 13, 15, 78, 79, 80, 81, 82, 83, 84, 85, 86, 87] rfl <| AR.op rfl (aop_move (.inl rfl) rfl) <| AR.skip rfl ?_
            refine AR.skip rfl <| AR.keep [1, 2, 3, 10, 12, 13, 78, 79, 80, 81, 82, 83, 84, 85, 86, 88, 89, 90] rfl <| AR.skip rfl <| AR.skip rfl <| AR.skip rfl <| AR.keep [1, 2, 3, 10, 12, 78, 79, 80, 81, 82, 83, 84, 85, 86, 88, 89, 90, 91, 92, 93] rfl <| AR.skip rfl <| AR.op rfl (aop_pick rfl rfl rfl) ?_
            refine AR.nil ?_
            exact hK28 true _ h (Weak.kt [1, 2, 3, 10, 12, 95] rfl)
           ·rw [hb215]
            replace h := Sh.if_f h hb215
            refine AR.op rfl (aop_move (.inl rfl) rfl) <| AR.keep [1, 2, 3, 10, 12, 13, 15, 77, 78] rfl <| AR.op (r := bl (decide (r193.2.2 = 0))) rfl (aop_eql rfl rfl rfl) <| AR.op rfl (aop_move (.inl rfl) rfl) <| AR.op rfl (t_len_sl G.inquestref22_F.av r197 rfl rfl el40) <| AR.keep [1, 2, 3, 10, 12, 13, 15, 77, 78, 79, 80, 81] rfl <| AR.op rfl (aop_move (.inl rfl) rfl) <| AR.op rfl (t_len_sl G.inquestref22_F.av r187 rfl rfl el40) ?_
            refine AR.op rfl (aop_add rfl rfl rfl rfl) <| AR.keep [1, 2, 3, 10, 12, 13, 15, 77, 78, 79, 80, 81, 82, 83, 84] rfl <| AR.op (r := bl (decide ((Sh.len r197) = (w64 ((Sh.len r187) + 1))))) rfl (aop_eql rfl rfl rfl) <| AR.op (r := bl (!((decide (r193.2.2 = 0)) == (decide ((Sh.len r197) = (w64 ((Sh.len r187) + 1))))))) rfl (aop_neb rfl rfl rfl Try.underlying4) <| AR.op rfl (aop_pick rfl rfl rfl) <| AR.keep [1, 2, 3, 10, 12, 13, 15, 78, 79, 80, 81, 82, 83, 84, 85, 86, 87] rfl <| AR.op rfl (aop_move (.inl rfl) rfl) ?_
            rcases Bool.eq_false_or_eq_true (!((decide (r193.2.2 = 0)) == (decide ((Sh.len r197) = (w64 ((Sh.len r187) + 1)))))) with hb216 | hb216
            ·rw [hb216]
             replace h := Sh.if_t h hb216
             refine AR.skip rfl <| AR.skip rfl <| AR.keep [1, 2, 3, 10, 12, 13, 78, 79, 80, 81, 82, 83, 84, 85, 86, 88, 89, 90] rfl <| AR.skip rfl <| AR.skip rfl <| AR.skip rfl <| AR.keep [1, 2, 3, 10, 12, 78, 79, 80, 81, 82, 83, 84, 85, 86, 88, 89, 90, 91, 92, 93] rfl <| AR.skip rfl ?_
             refine AR.op rfl (aop_pick rfl rfl rfl) <| AR.nil ?_
             exact hK28 true _ h (Weak.kt [1, 2, 3, 10, 12, 95] rfl)
            ·rw [hb216]
             replace h := Sh.if_f h hb216
             refine AR.op rfl (aop_move (.inl rfl) rfl) <| AR.op rfl (t_len_sl G.inquestref22_F.av r197 rfl rfl el40) <| AR.keep [1, 2, 3, 10, 12, 13, 78, 79, 80, 81, 82, 83, 84, 85, 86, 88, 89, 90] rfl <| AR.op rfl (aop_move (.inl rfl) rfl) <| AR.op rfl (t_len_sl G.inquestref22_F.av r187 rfl rfl el40) <| AR.op rfl (aop_add rfl rfl rfl rfl) <| AR.keep [1, 2, 3, 10, 12, 78, 79, 80, 81, 82, 83, 84, 85, 86, 88, 89, 90, 91, 92, 93] rfl <| AR.op rfl (aop_gtr rfl rfl rfl) ?_
             refine AR.op rfl (aop_pick rfl rfl rfl) <| AR.nil ?_
             exact hK28 (decide ((w64 ((Sh.len r187) + 1)) < (Sh.len r197))) _ h (Weak.kt [1, 2, 3, 10, 12, 95] rfl)
        ·intro K29 hK29
         refine awp_any [(true, false), (true, false), (true, false), (false, true), (false, false), (true, false), (true, false), (true, false), (true, false), (true, false), (true, false), (true, false), (true, false)] (by kernel_rfl) (by kernel_rfl) rfl ?_
         refine ARH.dry (r := G.api_Hist.av h_0) rfl (fun _ => aop_load_pp rfl rfl sz24 rfl) <| ARH.dry rfl (fun _ => aop_move (.inl rfl) rfl) <| ARH.dry rfl (fun _ => aop_move (.inl rfl) rfl) <| ARH.keep [1, 2, 3, 10, 12, 13, 14, 15, 57, 58, 59] rfl ?_
         obtain ⟨r217, hr217, h⟩ := Sh.bind_some' h
         refine ARH.loud (r := .view 4 0 (List.map G.fact_Fact.av r217).length) rfl rfl (aop_call3E (ok := NoId) (ys := [.ref 0 0 0]) (xs := [.ref 0 0 0]) (r' := .view 4 0 (List.map G.fact_Fact.av r217).length) (Hs := ⟨3, [(0, (4, [.agg [.view 1 0 (List.map G.fact_Fact.av r193.1).length, .mref 2, .sl (List.map G.api_Txn.av r74), i64 level_1]])), (1, (7, List.map G.fact_Fact.av r193.1)), (2, (0, [mpC G.api_Choice.ky r193.2.1]))], []⟩) (H' := ⟨7, [(0, (4, [.agg [.view 5 0 (List.map G.fact_Fact.av r193.1).length, .mref 6, .sl (List.map G.api_Txn.av r74), i64 level_1]])), (4, (7, List.map G.fact_Fact.av r217)), (5, (7, List.map G.fact_Fact.av r193.1)), (6, (0, [mpC G.api_Choice.ky r193.2.1]))], []⟩) (g := [(0, 0), (1, 1), (2, 2)]) (m := [(0, 0), (1, 4), (2, 5), (3, 6)]) (nw := []) (p := 1) (.func rfl rfl (store_Store_Facts__1_ok hT hr217).call) (store_Store_Facts__1_ok hT hr217) { next := rfl, part := ⟨rfl, rfl, rfl, trivial⟩, inj := rfl, lt := rfl, nwf := rfl, gin := rfl, held := .cons rfl rfl (.one (.ag ⟨.view rfl, .mref rfl, .sm, .sm, trivial⟩) rfl) dt (.cons rfl rfl (.same (by simp)) dt (.cons rfl rfl (.same (by simp)) dt trivial)), seen := ⟨⟨_, rfl, .ref rfl⟩, trivial⟩, inlps := rfl, ple := rfl, map := rfl, next' := rfl, back := .new 0 rfl rfl (.one ⟨.view rfl, .mref rfl, .sm, .sm, trivial⟩) (.new 1 rfl rfl (.same (by simp [AV.flat, G.fact_Fact.av])) (.new 2 rfl rfl (.same (by simp [AV.flat, G.fact_Fact.av])) (.new 3 rfl rfl (.same (by simp)) trivial))), lps := .inl ⟨rfl, rfl⟩, mode := .inr ⟨fun _ h => h, rfl⟩, ren := .view rfl } rfl) ?_
         obtain ⟨r218, hr218, h⟩ := Sh.bind_some' h
         refine ARH.op (r := bl r218) rfl rfl (aop_callL rfl (ys := [G.api_Hist.av h_0, i64 level_1, .view 4 0 (List.map G.fact_Fact.av r217).length]) (xs := [G.api_Hist.av h_0, i64 level_1, .sl (List.map G.fact_Fact.av r217)]) rfl (Weak.e (fr' := argsFr 0 [G.api_Hist.av h_0, i64 level_1, .sl (List.map G.fact_Fact.av r217)]) (H' := .empty) ⟨⟨G.api_Hist.av h_0, rfl, .sm⟩, .k, ⟨_, rfl, .lendAll rfl rfl (by simp)⟩, trivial⟩) rfl (fact_Replay_ok hT hr218) (by simp)) <| ARH.dry (r := bl (!r218)) rfl (fun _ => aop_not rfl rfl) <| ARH.keep [1, 2, 3, 10, 12, 13, 14, 15, 62] rfl <| ARH.dry rfl (fun _ => aop_move (.inl rfl) rfl) ?_
         rcases Bool.eq_false_or_eq_true (!r218) with hb219 | hb219
         ·rw [hb219]
          replace h := Sh.if_t h hb219
          refine ARH.skip rfl <| ARH.skip rfl <| ARH.keep [1, 2, 3, 10, 12, 13, 14, 15, 63, 64, 65] rfl <| ARH.skip rfl <| ARH.skip rfl <| ARH.skip rfl <| ARH.keep [1, 2, 3, 10, 12, 13, 14, 15, 63, 64, 65, 66, 67, 68] rfl <| ARH.dry rfl (fun _ => aop_pick rfl rfl rfl) ?_
          refine ARH.nil ?_
          exact hK29 true _ h (Weak.re [(0, 0), (1, 5), (2, 6)] [] rfl rfl rfl (.cons rfl rfl (.one (.ag ⟨.view rfl, .mref rfl, .sm, .sm, trivial⟩) rfl) dt (.cons rfl rfl (.same (by simp)) dt (.cons rfl rfl (.same (by simp)) dt trivial))) ⟨.k, ⟨.sl (List.map G.fact_Fact.av l_2), rfl, .sm⟩, .k, ⟨_, rfl, .ref rfl⟩, .k, ⟨.sl (List.map G.inquestref22_F.av r187), rfl, .sm⟩, .k, ⟨.sl (List.map G.inquestref22_F.av r197), rfl, .sm⟩, .k, trivial⟩)
         ·rw [hb219]
          replace h := Sh.if_f h hb219
          refine ARH.dry rfl (fun _ => aop_move (.inl rfl) rfl) <| ARH.dry rfl (fun _ => t_len_sl G.inquestref22_F.av r197 rfl rfl el40) <| ARH.keep [1, 2, 3, 10, 12, 13, 14, 15, 63, 64, 65] rfl <| ARH.dry rfl (fun _ => aop_move (.inl rfl) rfl) <| ARH.dry rfl (fun _ => t_len_sl G.inquestref22_F.av r187 rfl rfl el40) <| ARH.dry rfl (fun _ => aop_lss rfl rfl rfl) <| ARH.keep [1, 2, 3, 10, 12, 13, 14, 15, 63, 64, 65, 66, 67, 68] rfl <| ARH.dry rfl (fun _ => aop_pick rfl rfl rfl) ?_
          refine ARH.nil ?_
          exact hK29 (decide ((Sh.len r197) < (Sh.len r187))) _ h (Weak.re [(0, 0), (1, 5), (2, 6)] [] rfl rfl rfl (.cons rfl rfl (.one (.ag ⟨.view rfl, .mref rfl, .sm, .sm, trivial⟩) rfl) dt (.cons rfl rfl (.same (by simp)) dt (.cons rfl rfl (.same (by simp)) dt trivial))) ⟨.k, ⟨.sl (List.map G.fact_Fact.av l_2), rfl, .sm⟩, .k, ⟨_, rfl, .ref rfl⟩, .k, ⟨.sl (List.map G.inquestref22_F.av r187), rfl, .sm⟩, .k, ⟨.sl (List.map G.inquestref22_F.av r197), rfl, .sm⟩, .k, trivial⟩)
       ·replace h := Sh.if_f h hb167
        refine awp_exit ?_
        replace h := Sh.exit_eq h hx1
        exact hK17 () _ h (Weak.e trivial)
  ·intro K30 hK30
   refine awp_reg rfl <| AR.op rfl (aop_move (.inl rfl) rfl) <| AR.op (r := bl (!r65)) rfl (aop_not rfl rfl) <| AR.op rfl (aop_move (.inl rfl) rfl) <| AR.keep [1, 2, 3, 9, 25] rfl ?_
   rcases Bool.eq_false_or_eq_true (!r65) with hb220 | hb220
   ·rw [hb220]
    replace h := Sh.if_t h hb220
    refine AR.skip rfl <| AR.skip rfl <| AR.op rfl (aop_pick rfl rfl rfl) <| AR.nil ?_
    exact hK30 true _ h (Weak.kt [1, 2, 3, 28] rfl)
   ·rw [hb220]
    replace h := Sh.if_f h hb220
    refine AR.op rfl (aop_move (.inl rfl) rfl) <| AR.op (r := bl (!r67)) rfl (aop_not rfl rfl) <| AR.op rfl (aop_pick rfl rfl rfl) <| AR.nil ?_
    exact hK30 (!r67) _ h (Weak.kt [1, 2, 3, 28] rfl)
theorem inquestlaw23_StoreReplays_ok {W0 : World} (hT : Tab W0) {h_0 : G.api_Hist} {level_1 : Int} {l_2 : List G.fact_Fact} {r : Bool} (h : G.inquestlaw23_StoreReplays h_0 level_1 l_2 = some r) : Fun1 Try.prog W0 6 [G.api_Hist.av h_0, i64 level_1, .sl (List.map G.fact_Fact.av l_2)] (bl r) := Fun1.two (inquestlaw23_StoreReplays_ok0 hT h) (by simp)

end Wk
