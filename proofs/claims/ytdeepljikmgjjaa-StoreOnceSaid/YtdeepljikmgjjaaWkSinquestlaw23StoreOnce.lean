/- That a statement does what its plain function says. -/
import Derived.Test.YtdeepljikmgjjaaWkSinquestlaw23
open Go Go.Av Go.Proofs
set_option linter.unusedVariables false
set_option maxHeartbeats 8000000
set_option maxRecDepth 20000
namespace Wk
theorem inquestlaw23_StoreOnce_ok0 {W0 : World} (hT : Tab W0) {h_0 : G.api_Hist} {level_1 : Int} {l_2 : List G.fact_Fact} {r : Bool} (h : G.inquestlaw23_StoreOnce h_0 level_1 l_2 = some r) : Fun2 Try.prog W0 5 [G.api_Hist.av h_0, i64 level_1, .sl (List.map G.fact_Fact.av l_2)] (bl r) .empty := by
 refine fun2_of_awp Try.func5 rfl (by kernel_rfl) Try.ntmps5 (by simp) ?_
 unfold G.inquestlaw23_StoreOnce at h
 show AWP _ _ _ _ ⟨[(0, G.api_Hist.av h_0), (1, i64 level_1), (2, .sl (List.map G.fact_Fact.av l_2))], .empty⟩ _
 refine awp_seqK fun K1 hK1 => awp_reg rfl <| AR.op (r := .ref 0 0 0) rfl (aop_box 1 [G.api_Hist.av h_0] rfl rfl rfl (.inl ⟨rfl, rfl⟩)) <| AR.op rfl (aop_move (.inr rfl) rfl) <| AR.nil <| hK1 _ (AWP.weak (Weak.e (fr' := [(1, i64 level_1), (2, .sl (List.map G.fact_Fact.av l_2)), (3, .pp [.sl (List.map G.api_Txn.av h_0.Txns)] 0)]) (H' := .empty) ⟨.k, ⟨.sl (List.map G.fact_Fact.av l_2), rfl, .sm⟩, ⟨_, rfl, .frzA rfl rfl rfl rfl (by simp)⟩, trivial⟩) ?_)
 refine awp_seqK fun K2 hK2 => awp_reg rfl ?_
 obtain ⟨r85, hr85, h⟩ := Sh.bind_some' h
 refine AR.op (r := bl r85) rfl (aop_call1 rfl rfl (by simp) (inquestlaw23_awake_ok hT hr85)) <| AR.op rfl (aop_move (.inr rfl) rfl) <| AR.nil <| hK2 _ (AWP.weak (Weak.kt [1, 2, 3, 7] rfl) ?_)
 refine awp_seqK fun K3 hK3 => awp_seqK fun K4 hK4 => awp_reg rfl <| AR.op rfl (aop_move (.inl rfl) rfl) <| AR.op (r := bl (!r85)) rfl (aop_not rfl rfl) <| AR.nil <| hK4 _ (AWP.weak (Weak.kt [1, 2, 3, 20] rfl) ?_)
 refine awp_cond rfl (fun hb86 => ?_) (fun hb86 => ?_)
 ·replace h := Sh.if_t h hb86
  refine awp_seqK fun K5 hK5 => awp_reg rfl <| AR.op rfl (aop_move (.inr rfl) rfl) <| AR.nil <| hK5 _ (AWP.weak (Weak.kt [6] rfl) ?_)
  refine awp_ret ?_
  obtain rfl := Option.some.inj h
  refine ⟨.inr rfl, bl false, rfl, ?_⟩
  exact Weak.e ⟨.k, trivial⟩
 ·replace h := Sh.if_f h hb86
  refine awp_skip <| hK3 _ (AWP.weak (Weak.kt [1, 2, 3] rfl) ?_)
  refine awp_seqK fun K6 hK6 => awp_reg rfl <| AR.op (r := G.api_Hist.av h_0) rfl (aop_load_pp rfl rfl sz24 rfl) ?_
  obtain ⟨r88, hr88, h⟩ := Sh.bind_some' h
  refine AR.op (r := bl r88) rfl (aop_call1 rfl rfl (by simp) (inquestref08_Few_ok hT hr88)) <| AR.op rfl (aop_move (.inr rfl) rfl) <| AR.nil <| hK6 _ (AWP.weak (Weak.kt [1, 2, 3, 8] rfl) ?_)
  refine awp_seqK fun K7 hK7 => awp_reg rfl <| AR.op rfl (aop_move (.inl rfl) rfl) ?_
  obtain ⟨r90, hr90, h⟩ := Sh.bind_some' h
  refine AR.op (r := bl r90) rfl (aop_call1 rfl rfl (by simp) (inquestlaw23_few_ok hT hr90)) <| AR.op rfl (aop_move (.inr rfl) rfl) <| AR.nil <| hK7 _ (AWP.weak (Weak.kt [1, 2, 3, 8, 9] rfl) ?_)
  refine awp_seqK fun K8 hK8 => awp_seqJ (fun (p : Bool) => (⟨[(1, i64 level_1), (2, .sl (List.map G.fact_Fact.av l_2)), (3, .pp [.sl (List.map G.api_Txn.av h_0.Txns)] 0), (30, bl p)], .empty⟩ : St)) (fun (p : Bool) => G.inquestlaw23_StoreOnce_j1 h_0 level_1 l_2 p = some r) ?_ ?_
  ·rintro v94 h
   replace h : G.inquestlaw23_StoreOnce_j1 h_0 level_1 l_2 v94 = some r := h
   unfold G.inquestlaw23_StoreOnce_j1 at h
   refine awp_cond rfl (fun hb95 => ?_) (fun hb95 => ?_)
   ·replace h := Sh.if_t h hb95
    refine awp_seqK fun K9 hK9 => awp_reg rfl <| AR.op rfl (aop_move (.inr rfl) rfl) <| AR.nil <| hK9 _ (AWP.weak (Weak.kt [6] rfl) ?_)
    refine awp_ret ?_
    obtain rfl := Option.some.inj h
    refine ⟨.inr rfl, bl true, rfl, ?_⟩
    exact Weak.e ⟨.k, trivial⟩
   ·replace h := Sh.if_f h hb95
    refine awp_skip <| hK8 _ (AWP.weak (Weak.kt [1, 2, 3] rfl) ?_)
    refine awp_seqK fun K10 hK10 => awp_reg rfl <| AR.op (r := G.api_Hist.av h_0) rfl (aop_load_pp rfl rfl sz24 rfl) <| AR.op rfl (aop_move (.inl rfl) rfl) ?_
    obtain ⟨r97, hr97, h⟩ := Sh.bind_some' h
    rcases r97 with r97 | r97
    ·replace h := Sh.either_l h
     refine AR.op (r := .tuple [.imm (.pointer none), i64 1]) rfl (aop_call3E (ok := NoId) (ys := [G.api_Hist.av h_0, i64 level_1]) (xs := [G.api_Hist.av h_0, i64 level_1]) (r' := .tuple [.imm (.pointer none), i64 1]) (Hs := ⟨0, [], []⟩) (H' := ⟨0, [], []⟩) (g := []) (m := []) (nw := []) (p := 0) (.func rfl rfl (store_New_ok0 hT hr97).call) (store_New_ok0 hT hr97) { next := rfl, part := trivial, inj := rfl, lt := rfl, nwf := rfl, gin := rfl, held := trivial, seen := ⟨⟨G.api_Hist.av h_0, rfl, .sm⟩, ⟨_, rfl, .sm⟩, trivial⟩, inlps := rfl, ple := rfl, map := rfl, next' := rfl, back := trivial, lps := .inl ⟨rfl, rfl⟩, mode := .inr ⟨fun _ h => h, rfl⟩, ren := .sm } rfl) <| AR.keep [2, 34] rfl <| AR.op rfl (aop_move (.inl rfl) rfl) <| AR.op (r := .imm (.pointer none)) rfl (aop_extract rfl rfl rfl) <| AR.op (r := i64 1) rfl (aop_extract rfl rfl rfl) <| AR.keep [2, 35, 36] rfl <| AR.op rfl (aop_move (.inr rfl) rfl) <| AR.op rfl (aop_move (.inr rfl) rfl) ?_
     refine AR.nil <| hK10 _ (AWP.weak (Weak.kt [2, 10] rfl) ?_)
     refine awp_seqK fun K11 hK11 => awp_seqK fun K12 hK12 => awp_reg rfl <| AR.op rfl (aop_move (.inl rfl) rfl) <| AR.op (r := bl true) rfl (aop_eq_nilp rfl rfl rfl pt29) <| AR.nil <| hK12 _ (AWP.weak (Weak.kt [2, 10, 38] rfl) ?_)
     refine awp_cond_t rfl ?_
     refine awp_seqK fun K13 hK13 => awp_reg rfl <| AR.op rfl (aop_move (.inr rfl) rfl) <| AR.nil <| hK13 _ (AWP.weak (Weak.kt [6] rfl) ?_)
     refine awp_ret ?_
     obtain rfl := Option.some.inj h
     refine ⟨.inr rfl, bl true, rfl, ?_⟩
     exact Weak.e ⟨.k, trivial⟩
    ·replace h := Sh.either_r h
     refine AR.op (r := .tuple [.ref 0 0 0, i64 0]) rfl (aop_call3E (ok := NoId) (ys := [G.api_Hist.av h_0, i64 level_1]) (xs := [G.api_Hist.av h_0, i64 level_1]) (r' := .tuple [.ref 0 0 0, i64 0]) (Hs := ⟨0, [], []⟩) (H' := ⟨2, [(0, (4, [.agg [nilS, .mref 1, .sl (List.map G.api_Txn.av r97), i64 level_1]])), (1, (0, [mpC G.api_Choice.ky []]))], []⟩) (g := []) (m := [(0, 0), (1, 1)]) (nw := []) (p := 0) (.func rfl rfl (store_New_ok1 hT hr97).call) (store_New_ok1 hT hr97) { next := rfl, part := trivial, inj := rfl, lt := rfl, nwf := rfl, gin := rfl, held := trivial, seen := ⟨⟨G.api_Hist.av h_0, rfl, .sm⟩, ⟨_, rfl, .sm⟩, trivial⟩, inlps := rfl, ple := rfl, map := rfl, next' := rfl, back := .new 0 rfl rfl (.one ⟨.sm, .mref rfl, .sm, .sm, trivial⟩) (.new 1 rfl rfl (.same (by simp)) trivial), lps := .inl ⟨rfl, rfl⟩, mode := .inr ⟨fun _ h => h, rfl⟩, ren := .tp ⟨.ref rfl, .sm, trivial⟩ } rfl) <| AR.keep [2, 34] rfl <| AR.op rfl (aop_move (.inl rfl) rfl) <| AR.op (r := .ref 0 0 0) rfl (aop_extract rfl rfl rfl) <| AR.op (r := i64 0) rfl (aop_extract rfl rfl rfl) <| AR.keep [2, 35, 36] rfl <| AR.op rfl (aop_move (.inr rfl) rfl) <| AR.op rfl (aop_move (.inr rfl) rfl) ?_
     refine AR.nil <| hK10 _ (AWP.weak (Weak.kt [2, 10] rfl) ?_)
     refine awp_seqK fun K14 hK14 => awp_seqK fun K15 hK15 => awp_reg rfl <| AR.op rfl (aop_move (.inl rfl) rfl) <| AR.op (r := bl false) rfl (aop_eq_ref rfl rfl rfl rfl pt29) <| AR.nil <| hK15 _ (AWP.weak (Weak.kt [2, 10, 38] rfl) ?_)
     refine awp_cond_f rfl ?_
     refine awp_skip <| hK14 _ (AWP.weak (Weak.kt [2, 10] rfl) ?_)
     refine awp_seqJ (fun (p : (List G.fact_Fact) × (List (G.api_Choice × Bool))) => (⟨[(10, .ref 0 0 0)], ⟨3, [(0, (4, [.agg [.view 1 0 (List.map G.fact_Fact.av p.1).length, .mref 2, .sl (List.map G.api_Txn.av r97), i64 level_1]])), (1, (7, List.map G.fact_Fact.av p.1)), (2, (0, [mpC G.api_Choice.ky p.2]))], []⟩⟩ : St)) (fun (p : (List G.fact_Fact) × (List (G.api_Choice × Bool))) => G.inquestlaw23_StoreOnce_j2 level_1 r97 p.1 p.2 = some r) ?_ ?_
     ·rintro ⟨v143, v144⟩ h
      replace h : G.inquestlaw23_StoreOnce_j2 level_1 r97 v143 v144 = some r := h
      unfold G.inquestlaw23_StoreOnce_j2 at h
      refine awp_seqK fun K16 hK16 => awp_reg rfl <| AR.op rfl (aop_move (.inl rfl) rfl) ?_
      obtain ⟨r146, hr146, h⟩ := Sh.bind_some' h
      refine AR.op (r := .view 4 0 (List.map G.api_Choice.av r146).length) rfl (aop_call3E (ok := NoId) (ys := [.ref 0 0 0]) (xs := [.ref 0 0 0]) (r' := .view 4 0 (List.map G.api_Choice.av r146).length) (Hs := ⟨3, [(0, (4, [.agg [.view 1 0 (List.map G.fact_Fact.av v143).length, .mref 2, .sl (List.map G.api_Txn.av r97), i64 level_1]])), (1, (7, List.map G.fact_Fact.av v143)), (2, (0, [mpC G.api_Choice.ky v144]))], []⟩) (H' := ⟨7, [(0, (4, [.agg [.view 5 0 (List.map G.fact_Fact.av v143).length, .mref 6, .sl (List.map G.api_Txn.av r97), i64 level_1]])), (4, (3, List.map G.api_Choice.av r146)), (5, (7, List.map G.fact_Fact.av v143)), (6, (0, [mpC G.api_Choice.ky v144]))], []⟩) (g := [(0, 0), (1, 1), (2, 2)]) (m := [(0, 0), (1, 4), (2, 5), (3, 6)]) (nw := []) (p := 1) (.func rfl rfl (store_Store_Choices__1_ok hT hr146).call) (store_Store_Choices__1_ok hT hr146) { next := rfl, part := ⟨rfl, rfl, rfl, trivial⟩, inj := rfl, lt := rfl, nwf := rfl, gin := rfl, held := .cons rfl rfl (.one (.ag ⟨.view rfl, .mref rfl, .sm, .sm, trivial⟩) rfl) dt (.cons rfl rfl (.same (by simp)) dt (.cons rfl rfl (.same (by simp)) dt trivial)), seen := ⟨⟨_, rfl, .ref rfl⟩, trivial⟩, inlps := rfl, ple := rfl, map := rfl, next' := rfl, back := .new 0 rfl rfl (.one ⟨.view rfl, .mref rfl, .sm, .sm, trivial⟩) (.new 1 rfl rfl (.same (by simp [AV.flat, G.api_Choice.av])) (.new 2 rfl rfl (.same (by simp [AV.flat, G.fact_Fact.av])) (.new 3 rfl rfl (.same (by simp)) trivial))), lps := .inl ⟨rfl, rfl⟩, mode := .inr ⟨fun _ h => h, rfl⟩, ren := .view rfl } rfl) <| AR.op rfl (aop_move (.inr rfl) rfl) <| AR.nil <| hK16 _ (AWP.weak (Weak.re (fr' := [(10, .ref 0 0 0), (15, .sl (List.map G.api_Choice.av r146))]) (H' := ⟨3, [(0, (4, [.agg [.view 1 0 (List.map G.fact_Fact.av v143).length, .mref 2, .sl (List.map G.api_Txn.av r97), i64 level_1]])), (1, (7, List.map G.fact_Fact.av v143)), (2, (0, [mpC G.api_Choice.ky v144]))], []⟩) [(0, 0), (1, 5), (2, 6)] [] rfl rfl rfl (.cons rfl rfl (.one (.ag ⟨.view rfl, .mref rfl, .sm, .sm, trivial⟩) rfl) dt (.cons rfl rfl (.same (by simp)) dt (.cons rfl rfl (.same (by simp)) dt trivial))) ⟨⟨_, rfl, .ref rfl⟩, ⟨_, rfl, .lendAll rfl rfl (by simp)⟩, trivial⟩) ?_)
      refine awp_seqJ (fun (p : Unit) => (⟨[(10, .ref 0 0 0), (15, .sl (List.map G.api_Choice.av r146))], ⟨3, [(0, (4, [.agg [.view 1 0 (List.map G.fact_Fact.av v143).length, .mref 2, .sl (List.map G.api_Txn.av r97), i64 level_1]])), (1, (7, List.map G.fact_Fact.av v143)), (2, (0, [mpC G.api_Choice.ky v144]))], []⟩⟩ : St)) (fun (p : Unit) => G.inquestlaw23_StoreOnce_j3 level_1 r97 v143 v144 r146 = some r) ?_ ?_
      ·rintro ⟨⟩ h
       replace h : G.inquestlaw23_StoreOnce_j3 level_1 r97 v143 v144 r146 = some r := h
       unfold G.inquestlaw23_StoreOnce_j3 at h
       refine awp_seqK fun K17 hK17 => awp_reg rfl <| AR.op rfl (aop_move (.inl rfl) rfl) <| AR.op rfl (t_len_sl G.api_Choice.av r146 rfl rfl el53) <| AR.op rfl (aop_move (.inl rfl) rfl) <| AR.keep [99, 100] rfl ?_
       obtain ⟨r178, hr178, h⟩ := Sh.bind_some' h
       refine AR.op (r := i64 (Sh.len v143)) rfl (aop_call3E (ok := NoId) (ys := [.ref 0 0 0]) (xs := [.ref 0 0 0]) (r' := i64 (Sh.len v143)) (Hs := ⟨3, [(0, (4, [.agg [.view 1 0 (List.map G.fact_Fact.av v143).length, .mref 2, .sl (List.map G.api_Txn.av r97), i64 level_1]])), (1, (7, List.map G.fact_Fact.av v143)), (2, (0, [mpC G.api_Choice.ky v144]))], []⟩) (H' := ⟨6, [(0, (4, [.agg [.view 4 0 (List.map G.fact_Fact.av v143).length, .mref 5, .sl (List.map G.api_Txn.av r97), i64 level_1]])), (4, (7, List.map G.fact_Fact.av v143)), (5, (0, [mpC G.api_Choice.ky v144]))], []⟩) (g := [(0, 0), (1, 1), (2, 2)]) (m := [(0, 0), (1, 4), (2, 5)]) (nw := []) (p := 1) (.func rfl rfl (store_Store_Len__1_ok hT hr178).call) (store_Store_Len__1_ok hT hr178) { next := rfl, part := ⟨rfl, rfl, rfl, trivial⟩, inj := rfl, lt := rfl, nwf := rfl, gin := rfl, held := .cons rfl rfl (.one (.ag ⟨.view rfl, .mref rfl, .sm, .sm, trivial⟩) rfl) dt (.cons rfl rfl (.same (by simp)) dt (.cons rfl rfl (.same (by simp)) dt trivial)), seen := ⟨⟨_, rfl, .ref rfl⟩, trivial⟩, inlps := rfl, ple := rfl, map := rfl, next' := rfl, back := .new 0 rfl rfl (.one ⟨.view rfl, .mref rfl, .sm, .sm, trivial⟩) (.new 1 rfl rfl (.same (by simp [AV.flat, G.fact_Fact.av])) (.new 2 rfl rfl (.same (by simp)) trivial)), lps := .inl ⟨rfl, rfl⟩, mode := .inr ⟨fun _ h => h, rfl⟩, ren := .sm } rfl) <| AR.op (r := bl (decide ((Sh.len r146) = (Sh.len v143)))) rfl (aop_eql rfl rfl rfl) <| AR.op rfl (aop_move (.inr rfl) rfl) <| AR.nil <| hK17 _ (AWP.weak (Weak.e (fr' := [(6, bl (decide ((Sh.len r146) = (Sh.len v143))))]) (H' := .empty) ⟨.k, trivial⟩) ?_)
       refine awp_ret ?_
       obtain rfl := Option.some.inj h
       refine ⟨.inr rfl, bl (decide ((Sh.len r146) = (Sh.len v143))), rfl, ?_⟩
       exact Weak.e ⟨.k, trivial⟩
      ·intro K18 hK18
       refine awp_seqK fun K19 hK19 => awp_reg rfl <| AR.op rfl (aop_move (.inr rfl) rfl) <| AR.nil <| hK19 _ ?_
       refine awp_block <| awp_iter (fun (p : Int) => G.inquestlaw23_StoreOnce_b1 level_1 r97 v143 v144 r146 p) (fun (p : Int) => (⟨[(10, .ref 0 0 0), (15, .sl (List.map G.api_Choice.av r146)), (16, i64 p)], ⟨3, [(0, (4, [.agg [.view 1 0 (List.map G.fact_Fact.av v143).length, .mref 2, .sl (List.map G.api_Txn.av r97), i64 level_1]])), (1, (7, List.map G.fact_Fact.av v143)), (2, (0, [mpC G.api_Choice.ky v144]))], []⟩⟩ : St)) h (Weak.kt [10, 15, 16] rfl) ?_
       ·skip
        rintro i194 o1 h hx1
        replace h : G.inquestlaw23_StoreOnce_b1 level_1 r97 v143 v144 r146 i194 = some o1 := h
        unfold G.inquestlaw23_StoreOnce_b1 at h
        refine awp_seqK fun K20 hK20 => awp_seqK fun K21 hK21 => awp_reg rfl <| AR.op rfl (aop_move (.inl rfl) rfl) <| AR.op rfl (aop_move (.inl rfl) rfl) <| AR.op rfl (t_len_sl G.api_Choice.av r146 rfl rfl el53) <| AR.keep [10, 15, 16, 78, 80] rfl <| AR.op rfl (aop_lss rfl rfl rfl) ?_
        refine AR.nil <| hK21 _ (AWP.weak (Weak.kt [10, 15, 16, 81] rfl) ?_)
        refine awp_cond rfl (fun hb195 => ?_) (fun hb195 => ?_)
        ·replace h := Sh.if_t h hb195
         refine awp_skip <| hK20 _ (AWP.weak (Weak.kt [10, 15, 16] rfl) ?_)
         refine awp_seqJ (fun (p : Unit) => (⟨[(10, .ref 0 0 0), (15, .sl (List.map G.api_Choice.av r146)), (16, i64 i194)], ⟨3, [(0, (4, [.agg [.view 1 0 (List.map G.fact_Fact.av v143).length, .mref 2, .sl (List.map G.api_Txn.av r97), i64 level_1]])), (1, (7, List.map G.fact_Fact.av v143)), (2, (0, [mpC G.api_Choice.ky v144]))], []⟩⟩ : St)) (fun (p : Unit) => G.inquestlaw23_StoreOnce_j4 i194 = some o1) ?_ ?_
         ·rintro ⟨⟩ h
          replace h : G.inquestlaw23_StoreOnce_j4 i194 = some o1 := h
          unfold G.inquestlaw23_StoreOnce_j4 at h
          refine awp_reg rfl <| AR.op rfl (aop_move (.inl rfl) rfl) <| AR.op rfl (aop_add rfl rfl rfl rfl) <| AR.op rfl (aop_move (.inr rfl) rfl) <| AR.nil ?_
          replace h := Sh.next_eq h
          exact ⟨_, h, Weak.kt [10, 15, 16] rfl⟩
         ·intro K22 hK22
          refine awp_block <| awp_seqK fun K23 hK23 => awp_reg rfl <| AR.op rfl (aop_move (.inr rfl) rfl) <| AR.nil <| hK23 _ ?_
          refine awp_block <| awp_iter (fun (p : Int) => G.inquestlaw23_StoreOnce_b2 r146 i194 p) (fun (p : Int) => (⟨[(10, .ref 0 0 0), (15, .sl (List.map G.api_Choice.av r146)), (16, i64 i194), (17, i64 p)], ⟨3, [(0, (4, [.agg [.view 1 0 (List.map G.fact_Fact.av v143).length, .mref 2, .sl (List.map G.api_Txn.av r97), i64 level_1]])), (1, (7, List.map G.fact_Fact.av v143)), (2, (0, [mpC G.api_Choice.ky v144]))], []⟩⟩ : St)) h (Weak.kt [10, 15, 16, 17] rfl) ?_
          ·skip
           rintro k219 o2 h hx2
           replace h : G.inquestlaw23_StoreOnce_b2 r146 i194 k219 = some o2 := h
           unfold G.inquestlaw23_StoreOnce_b2 at h
           refine awp_seqK fun K24 hK24 => awp_seqK fun K25 hK25 => awp_reg rfl <| AR.op rfl (aop_move (.inl rfl) rfl) <| AR.op rfl (aop_move (.inl rfl) rfl) <| AR.op rfl (aop_lss rfl rfl rfl) <| AR.nil <| hK25 _ (AWP.weak (Weak.kt [10, 15, 16, 17, 86] rfl) ?_)
           refine awp_cond rfl (fun hb220 => ?_) (fun hb220 => ?_)
           ·replace h := Sh.if_t h hb220
            refine awp_skip <| hK24 _ (AWP.weak (Weak.kt [10, 15, 16, 17] rfl) ?_)
            refine awp_seqK fun K26 hK26 => awp_block <| awp_seqK fun K27 hK27 => awp_any [(true, false), (true, false), (true, false), (true, false), (true, false), (true, false), (true, false), (true, false), (true, false)] (by kernel_rfl) (by kernel_rfl) rfl ?_
            refine ARH.dry rfl (fun _ => aop_move (.inl rfl) rfl) <| ARH.dry rfl (fun _ => aop_move (.inl rfl) rfl) ?_
            obtain ⟨x229, hx229, h⟩ := Sh.bind_some' h
            obtain ⟨k230, hi230, hl230⟩ := Sh.idx_some hx229
            refine ARH.dry rfl (fun _ => t_index_sl G.api_Choice.av r146 hi230 hl230 rfl rfl rfl el53 rfl) <| ARH.keep [10, 15, 16, 17, 91] rfl <| ARH.dry (r := G.api_Choice.av x229) rfl (fun _ => aop_load_pp rfl rfl sz35 rfl) <| ARH.dry rfl (fun _ => aop_move (.inl rfl) rfl) <| ARH.dry rfl (fun _ => aop_move (.inl rfl) rfl) <| ARH.keep [10, 15, 16, 17, 92, 93, 94] rfl ?_
            obtain ⟨x231, hx231, h⟩ := Sh.bind_some' h
            obtain ⟨k232, hi232, hl232⟩ := Sh.idx_some hx231
            refine ARH.dry rfl (fun _ => t_index_sl G.api_Choice.av r146 hi232 hl232 rfl rfl rfl el53 rfl) <| ARH.dry (r := G.api_Choice.av x231) rfl (fun _ => aop_load_pp rfl rfl sz35 rfl) <| ARH.dry (r := bl (decide (x229 = x231))) rfl (fun _ => t_eq_api_Choice (a := x229) (b := x231) rfl rfl rfl) <| ARH.nil <| hK27 _ (AWP.weak (Weak.kt [10, 15, 16, 17, 97] rfl) ?_)
            refine awp_cond rfl (fun hb233 => ?_) (fun hb233 => ?_)
            ·replace h := Sh.if_t h hb233
             refine awp_seqK fun K28 hK28 => awp_reg rfl <| AR.op rfl (aop_move (.inr rfl) rfl) <| AR.nil <| hK28 _ (AWP.weak (Weak.e (fr' := [(6, bl false)]) (H' := .empty) ⟨.k, trivial⟩) ?_)
             refine awp_ret ?_
             replace h := Sh.exit_eq h hx2
             replace h := Sh.exit_eq h hx1
             obtain rfl := Option.some.inj h
             refine ⟨.inr rfl, bl false, rfl, ?_⟩
             exact Weak.e ⟨.k, trivial⟩
            ·replace h := Sh.if_f h hb233
             refine awp_skip <| hK26 _ (AWP.weak (Weak.kt [10, 15, 16, 17] rfl) ?_)
             refine awp_reg rfl <| AR.op rfl (aop_move (.inl rfl) rfl) <| AR.op rfl (aop_add rfl rfl rfl rfl) <| AR.op rfl (aop_move (.inr rfl) rfl) <| AR.nil ?_
             replace h := Sh.next_eq h
             exact ⟨_, h, Weak.kt [10, 15, 16, 17] rfl⟩
           ·replace h := Sh.if_f h hb220
            refine awp_exit ?_
            replace h := Sh.exit_eq h hx2
            exact hK22 () _ h (Weak.kt [10, 15, 16] rfl)
        ·replace h := Sh.if_f h hb195
         refine awp_exit ?_
         replace h := Sh.exit_eq h hx1
         exact hK18 () _ h (Weak.kt [10, 15] rfl)
     ·intro K29 hK29
      refine awp_seqK fun K30 hK30 => awp_reg rfl <| AR.op rfl (aop_move (.inr rfl) rfl) <| AR.nil <| hK30 _ ?_
      refine awp_block <| awp_iter (fun (p : (List G.fact_Fact) × (List (G.api_Choice × Bool)) × Int) => G.inquestlaw23_StoreOnce_b3 level_1 l_2 r97 p.1 p.2.1 p.2.2) (fun (p : (List G.fact_Fact) × (List (G.api_Choice × Bool)) × Int) => (⟨[(2, .sl (List.map G.fact_Fact.av l_2)), (10, .ref 0 0 0), (12, i64 p.2.2)], ⟨3, [(0, (4, [.agg [.view 1 0 (List.map G.fact_Fact.av p.1).length, .mref 2, .sl (List.map G.api_Txn.av r97), i64 level_1]])), (1, (7, List.map G.fact_Fact.av p.1)), (2, (0, [mpC G.api_Choice.ky p.2.1]))], []⟩⟩ : St)) h (Weak.re [(0, 0), (2, 1)] [1] rfl rfl rfl (.cons rfl rfl (.one (.ag ⟨.nil (by simp), .mref rfl, .sm, .sm, trivial⟩) rfl) dt (.fresh (by simp) dt (.cons rfl rfl (.same (by simp)) dt trivial))) ⟨⟨.sl (List.map G.fact_Fact.av l_2), rfl, .sm⟩, ⟨_, rfl, .ref rfl⟩, .k, trivial⟩) ?_
      ·skip
       rintro ⟨sfactsall263, sfactsset264, i265⟩ o3 h hx3
       replace h : G.inquestlaw23_StoreOnce_b3 level_1 l_2 r97 sfactsall263 sfactsset264 i265 = some o3 := h
       unfold G.inquestlaw23_StoreOnce_b3 at h
       refine awp_seqK fun K31 hK31 => awp_seqK fun K32 hK32 => awp_reg rfl <| AR.op rfl (aop_move (.inl rfl) rfl) <| AR.op rfl (aop_move (.inl rfl) rfl) <| AR.op rfl (t_len_sl G.fact_Fact.av l_2 rfl rfl el25) <| AR.keep [2, 10, 12, 39, 41] rfl <| AR.op rfl (aop_lss rfl rfl rfl) ?_
       refine AR.nil <| hK32 _ (AWP.weak (Weak.kt [2, 10, 12, 42] rfl) ?_)
       refine awp_cond rfl (fun hb266 => ?_) (fun hb266 => ?_)
       ·replace h := Sh.if_t h hb266
        refine awp_skip <| hK31 _ (AWP.weak (Weak.kt [2, 10, 12] rfl) ?_)
        refine awp_seqK fun K33 hK33 => awp_block <| awp_seqK fun K34 hK34 => awp_reg rfl <| AR.op rfl (aop_move (.inl rfl) rfl) <| AR.op rfl (aop_move (.inl rfl) rfl) <| AR.op rfl (aop_move (.inl rfl) rfl) <| AR.keep [2, 10, 12, 45, 46, 47] rfl ?_
        obtain ⟨x283, hx283, h⟩ := Sh.bind_some' h
        obtain ⟨k284, hi284, hl284⟩ := Sh.idx_some hx283
        refine AR.op rfl (t_index_sl G.fact_Fact.av l_2 hi284 hl284 rfl rfl rfl el25 rfl) <| AR.op (r := G.fact_Fact.av x283) rfl (aop_load_pp rfl rfl sz38 rfl) ?_
        obtain ⟨r285, hr285, h⟩ := Sh.bind_some' h
        refine AR.op (r := i64 r285.2.2) rfl (aop_call3E (ok := NoId) (ys := [.ref 0 0 0, G.fact_Fact.av x283]) (xs := [.ref 0 0 0, G.fact_Fact.av x283]) (r' := i64 r285.2.2) (Hs := ⟨3, [(0, (4, [.agg [.view 1 0 (List.map G.fact_Fact.av sfactsall263).length, .mref 2, .sl (List.map G.api_Txn.av r97), i64 level_1]])), (1, (7, List.map G.fact_Fact.av sfactsall263)), (2, (0, [mpC G.api_Choice.ky sfactsset264]))], []⟩) (H' := ⟨6, [(0, (4, [.agg [.view 4 0 (List.map G.fact_Fact.av r285.1).length, .mref 5, .sl (List.map G.api_Txn.av r97), i64 level_1]])), (4, (7, List.map G.fact_Fact.av r285.1)), (5, (0, [mpC G.api_Choice.ky r285.2.1]))], []⟩) (g := [(0, 0), (1, 1), (2, 2)]) (m := [(0, 0), (1, 4), (2, 5)]) (nw := []) (p := 1) (.func rfl rfl (store_Store_Learn__1_ok hT hr285).call) (store_Store_Learn__1_ok hT hr285) { next := rfl, part := ⟨rfl, rfl, rfl, trivial⟩, inj := rfl, lt := rfl, nwf := rfl, gin := rfl, held := .cons rfl rfl (.one (.ag ⟨.view rfl, .mref rfl, .sm, .sm, trivial⟩) rfl) dt (.cons rfl rfl (.same (by simp)) dt (.cons rfl rfl (.same (by simp)) dt trivial)), seen := ⟨⟨_, rfl, .ref rfl⟩, ⟨G.fact_Fact.av x283, rfl, .sm⟩, trivial⟩, inlps := rfl, ple := rfl, map := rfl, next' := rfl, back := .new 0 rfl rfl (.one ⟨.view rfl, .mref rfl, .sm, .sm, trivial⟩) (.new 1 rfl rfl (.same (by simp [AV.flat, G.fact_Fact.av])) (.new 2 rfl rfl (.same (by simp)) trivial)), lps := .inl ⟨rfl, rfl⟩, mode := .inr ⟨fun _ h => h, rfl⟩, ren := .sm } rfl) <| AR.keep [2, 10, 12, 50] rfl <| AR.op rfl (aop_move (.inr rfl) rfl) <| AR.nil <| hK34 _ (AWP.weak (Weak.re (fr' := [(2, .sl (List.map G.fact_Fact.av l_2)), (10, .ref 0 0 0), (12, i64 i265), (13, i64 r285.2.2)]) (H' := ⟨3, [(0, (4, [.agg [.view 1 0 (List.map G.fact_Fact.av r285.1).length, .mref 2, .sl (List.map G.api_Txn.av r97), i64 level_1]])), (1, (7, List.map G.fact_Fact.av r285.1)), (2, (0, [mpC G.api_Choice.ky r285.2.1]))], []⟩) [(0, 0), (1, 4), (2, 5)] [] rfl rfl rfl (.cons rfl rfl (.one (.ag ⟨.view rfl, .mref rfl, .sm, .sm, trivial⟩) rfl) dt (.cons rfl rfl (.same (by simp)) dt (.cons rfl rfl (.same (by simp)) dt trivial))) ⟨⟨.sl (List.map G.fact_Fact.av l_2), rfl, .sm⟩, ⟨_, rfl, .ref rfl⟩, .k, .k, trivial⟩) ?_)
        refine awp_seqK fun K35 hK35 => awp_reg rfl <| AR.op rfl (aop_move (.inl rfl) rfl) <| AR.op rfl (aop_move (.inl rfl) rfl) <| AR.op rfl (aop_move (.inl rfl) rfl) <| AR.keep [2, 10, 12, 13, 51, 52, 53] rfl ?_
        obtain ⟨x289, hx289, h⟩ := Sh.bind_some' h
        obtain ⟨k290, hi290, hl290⟩ := Sh.idx_some hx289
        refine AR.op rfl (t_index_sl G.fact_Fact.av l_2 hi290 hl290 rfl rfl rfl el25 rfl) <| AR.op (r := G.fact_Fact.av x289) rfl (aop_load_pp rfl rfl sz38 rfl) ?_
        obtain ⟨r291, hr291, h⟩ := Sh.bind_some' h
        refine AR.op (r := i64 r291.2.2) rfl (aop_call3E (ok := NoId) (ys := [.ref 0 0 0, G.fact_Fact.av x289]) (xs := [.ref 0 0 0, G.fact_Fact.av x289]) (r' := i64 r291.2.2) (Hs := ⟨3, [(0, (4, [.agg [.view 1 0 (List.map G.fact_Fact.av r285.1).length, .mref 2, .sl (List.map G.api_Txn.av r97), i64 level_1]])), (1, (7, List.map G.fact_Fact.av r285.1)), (2, (0, [mpC G.api_Choice.ky r285.2.1]))], []⟩) (H' := ⟨6, [(0, (4, [.agg [.view 4 0 (List.map G.fact_Fact.av r291.1).length, .mref 5, .sl (List.map G.api_Txn.av r97), i64 level_1]])), (4, (7, List.map G.fact_Fact.av r291.1)), (5, (0, [mpC G.api_Choice.ky r291.2.1]))], []⟩) (g := [(0, 0), (1, 1), (2, 2)]) (m := [(0, 0), (1, 4), (2, 5)]) (nw := []) (p := 1) (.func rfl rfl (store_Store_Learn__1_ok hT hr291).call) (store_Store_Learn__1_ok hT hr291) { next := rfl, part := ⟨rfl, rfl, rfl, trivial⟩, inj := rfl, lt := rfl, nwf := rfl, gin := rfl, held := .cons rfl rfl (.one (.ag ⟨.view rfl, .mref rfl, .sm, .sm, trivial⟩) rfl) dt (.cons rfl rfl (.same (by simp)) dt (.cons rfl rfl (.same (by simp)) dt trivial)), seen := ⟨⟨_, rfl, .ref rfl⟩, ⟨G.fact_Fact.av x289, rfl, .sm⟩, trivial⟩, inlps := rfl, ple := rfl, map := rfl, next' := rfl, back := .new 0 rfl rfl (.one ⟨.view rfl, .mref rfl, .sm, .sm, trivial⟩) (.new 1 rfl rfl (.same (by simp [AV.flat, G.fact_Fact.av])) (.new 2 rfl rfl (.same (by simp)) trivial)), lps := .inl ⟨rfl, rfl⟩, mode := .inr ⟨fun _ h => h, rfl⟩, ren := .sm } rfl) <| AR.keep [2, 10, 12, 13, 56] rfl <| AR.op rfl (aop_move (.inr rfl) rfl) <| AR.nil <| hK35 _ (AWP.weak (Weak.re (fr' := [(2, .sl (List.map G.fact_Fact.av l_2)), (10, .ref 0 0 0), (12, i64 i265), (13, i64 r285.2.2), (14, i64 r291.2.2)]) (H' := ⟨3, [(0, (4, [.agg [.view 1 0 (List.map G.fact_Fact.av r291.1).length, .mref 2, .sl (List.map G.api_Txn.av r97), i64 level_1]])), (1, (7, List.map G.fact_Fact.av r291.1)), (2, (0, [mpC G.api_Choice.ky r291.2.1]))], []⟩) [(0, 0), (1, 4), (2, 5)] [] rfl rfl rfl (.cons rfl rfl (.one (.ag ⟨.view rfl, .mref rfl, .sm, .sm, trivial⟩) rfl) dt (.cons rfl rfl (.same (by simp)) dt (.cons rfl rfl (.same (by simp)) dt trivial))) ⟨⟨.sl (List.map G.fact_Fact.av l_2), rfl, .sm⟩, ⟨_, rfl, .ref rfl⟩, .k, .k, .k, trivial⟩) ?_)
        refine awp_seqJ (fun (p : Bool) => (⟨[(2, .sl (List.map G.fact_Fact.av l_2)), (10, .ref 0 0 0), (12, i64 i265), (75, bl p)], ⟨3, [(0, (4, [.agg [.view 1 0 (List.map G.fact_Fact.av r291.1).length, .mref 2, .sl (List.map G.api_Txn.av r97), i64 level_1]])), (1, (7, List.map G.fact_Fact.av r291.1)), (2, (0, [mpC G.api_Choice.ky r291.2.1]))], []⟩⟩ : St)) (fun (p : Bool) => G.inquestlaw23_StoreOnce_j5 i265 r291 p = some o3) ?_ ?_
        ·rintro v298 h
         replace h : G.inquestlaw23_StoreOnce_j5 i265 r291 v298 = some o3 := h
         unfold G.inquestlaw23_StoreOnce_j5 at h
         refine awp_cond rfl (fun hb299 => ?_) (fun hb299 => ?_)
         ·replace h := Sh.if_t h hb299
          refine awp_seqK fun K36 hK36 => awp_reg rfl <| AR.op rfl (aop_move (.inr rfl) rfl) <| AR.nil <| hK36 _ (AWP.weak (Weak.e (fr' := [(6, bl false)]) (H' := .empty) ⟨.k, trivial⟩) ?_)
          refine awp_ret ?_
          replace h := Sh.exit_eq h hx3
          obtain rfl := Option.some.inj h
          refine ⟨.inr rfl, bl false, rfl, ?_⟩
          exact Weak.e ⟨.k, trivial⟩
         ·replace h := Sh.if_f h hb299
          refine awp_skip <| hK33 _ (AWP.weak (Weak.kt [2, 10, 12] rfl) ?_)
          refine awp_reg rfl <| AR.op rfl (aop_move (.inl rfl) rfl) <| AR.op rfl (aop_add rfl rfl rfl rfl) <| AR.op rfl (aop_move (.inr rfl) rfl) <| AR.nil ?_
          replace h := Sh.next_eq h
          exact ⟨_, h, Weak.kt [2, 10, 12] rfl⟩
        ·intro K37 hK37
         refine awp_reg rfl <| AR.op rfl (aop_move (.inl rfl) rfl) <| AR.op (r := bl (decide (r285.2.2 = 0))) rfl (aop_eql rfl rfl rfl) <| AR.op rfl (aop_move (.inl rfl) rfl) <| AR.keep [2, 10, 12, 13, 14, 59] rfl ?_
         rcases Bool.eq_false_or_eq_true (decide (r285.2.2 = 0)) with hb300 | hb300
         ·rw [hb300]
          replace h := Sh.if_t h hb300
          refine AR.op rfl (aop_move (.inl rfl) rfl) <| AR.op (r := bl (decide (r291.2.2 ≠ 8))) rfl (aop_neq rfl rfl rfl) <| AR.op rfl (aop_pick rfl rfl rfl) <| AR.keep [2, 10, 12, 13, 14, 60, 61, 62] rfl <| AR.op rfl (aop_move (.inl rfl) rfl) ?_
          rcases Bool.eq_false_or_eq_true (decide (r291.2.2 ≠ 8)) with hb301 | hb301
          ·rw [hb301]
           replace h := Sh.if_t h hb301
           refine AR.op rfl (aop_move (.inl rfl) rfl) <| AR.op (r := bl (decide (r291.2.2 ≠ 17))) rfl (aop_neq rfl rfl rfl) <| AR.keep [2, 10, 12, 13, 14, 60, 61, 63, 64, 65] rfl <| AR.op rfl (aop_pick rfl rfl rfl) <| AR.op rfl (aop_move (.inl rfl) rfl) ?_
           rcases Bool.eq_false_or_eq_true (decide (r291.2.2 ≠ 17)) with hb302 | hb302
           ·rw [hb302]
            replace h := Sh.if_t h hb302
            refine AR.skip rfl <| AR.keep [2, 10, 12, 13, 14, 60, 61, 64, 65, 67, 68] rfl <| AR.skip rfl <| AR.skip rfl <| AR.skip rfl <| AR.keep [2, 10, 12, 13, 60, 61, 64, 65, 67, 68, 69, 70, 71] rfl <| AR.skip rfl <| AR.skip rfl ?_
            refine AR.skip rfl <| AR.keep [2, 10, 12, 60, 61, 64, 65, 67, 68, 69, 70, 71, 72, 73, 74] rfl <| AR.op rfl (aop_pick rfl rfl rfl) <| AR.nil ?_
            exact hK37 true _ h (Weak.kt [2, 10, 12, 75] rfl)
           ·rw [hb302]
            replace h := Sh.if_f h hb302
            refine AR.op rfl (aop_move (.inl rfl) rfl) <| AR.keep [2, 10, 12, 13, 14, 60, 61, 64, 65, 67, 68] rfl <| AR.op (r := bl (decide (r285.2.2 ≠ 0))) rfl (aop_neq rfl rfl rfl) <| AR.op rfl (aop_move (.inl rfl) rfl) ?_
            rcases Bool.eq_false_or_eq_true (decide (r285.2.2 ≠ 0)) with hb303 | hb303
            ·rw [hb303]
             replace h := Sh.if_t h hb303
             refine AR.op rfl (aop_move (.inl rfl) rfl) <| AR.keep [2, 10, 12, 13, 60, 61, 64, 65, 67, 68, 69, 70, 71] rfl <| AR.op rfl (aop_move (.inl rfl) rfl) <| AR.op (r := bl (decide (r291.2.2 ≠ r285.2.2))) rfl (aop_neq rfl rfl rfl) <| AR.op rfl (aop_pick rfl rfl rfl) <| AR.keep [2, 10, 12, 60, 61, 64, 65, 67, 68, 69, 70, 71, 72, 73, 74] rfl <| AR.op rfl (aop_pick rfl rfl rfl) <| AR.nil ?_
             exact hK37 (decide (r291.2.2 ≠ r285.2.2)) _ h (Weak.kt [2, 10, 12, 75] rfl)
            ·rw [hb303]
             replace h := Sh.if_f h hb303
             refine AR.skip rfl <| AR.keep [2, 10, 12, 13, 60, 61, 64, 65, 67, 68, 69, 70, 71] rfl <| AR.skip rfl <| AR.skip rfl <| AR.op rfl (aop_pick rfl rfl rfl) <| AR.keep [2, 10, 12, 60, 61, 64, 65, 67, 68, 69, 70, 71, 72, 73, 74] rfl <| AR.op rfl (aop_pick rfl rfl rfl) <| AR.nil ?_
             exact hK37 false _ h (Weak.kt [2, 10, 12, 75] rfl)
          ·rw [hb301]
           replace h := Sh.if_f h hb301
           refine AR.skip rfl <| AR.skip rfl <| AR.keep [2, 10, 12, 13, 14, 60, 61, 63, 64, 65] rfl <| AR.op rfl (aop_pick rfl rfl rfl) <| AR.op rfl (aop_move (.inl rfl) rfl) <| AR.op rfl (aop_move (.inl rfl) rfl) <| AR.keep [2, 10, 12, 13, 14, 60, 61, 64, 65, 67, 68] rfl <| AR.op (r := bl (decide (r285.2.2 ≠ 0))) rfl (aop_neq rfl rfl rfl) ?_
           refine AR.op rfl (aop_move (.inl rfl) rfl) ?_
           rcases Bool.eq_false_or_eq_true (decide (r285.2.2 ≠ 0)) with hb304 | hb304
           ·rw [hb304]
            replace h := Sh.if_t h hb304
            refine AR.op rfl (aop_move (.inl rfl) rfl) <| AR.keep [2, 10, 12, 13, 60, 61, 64, 65, 67, 68, 69, 70, 71] rfl <| AR.op rfl (aop_move (.inl rfl) rfl) <| AR.op (r := bl (decide (r291.2.2 ≠ r285.2.2))) rfl (aop_neq rfl rfl rfl) <| AR.op rfl (aop_pick rfl rfl rfl) <| AR.keep [2, 10, 12, 60, 61, 64, 65, 67, 68, 69, 70, 71, 72, 73, 74] rfl <| AR.op rfl (aop_pick rfl rfl rfl) <| AR.nil ?_
            exact hK37 (decide (r291.2.2 ≠ r285.2.2)) _ h (Weak.kt [2, 10, 12, 75] rfl)
           ·rw [hb304]
            replace h := Sh.if_f h hb304
            refine AR.skip rfl <| AR.keep [2, 10, 12, 13, 60, 61, 64, 65, 67, 68, 69, 70, 71] rfl <| AR.skip rfl <| AR.skip rfl <| AR.op rfl (aop_pick rfl rfl rfl) <| AR.keep [2, 10, 12, 60, 61, 64, 65, 67, 68, 69, 70, 71, 72, 73, 74] rfl <| AR.op rfl (aop_pick rfl rfl rfl) <| AR.nil ?_
            exact hK37 false _ h (Weak.kt [2, 10, 12, 75] rfl)
         ·rw [hb300]
          replace h := Sh.if_f h hb300
          refine AR.skip rfl <| AR.skip rfl <| AR.op rfl (aop_pick rfl rfl rfl) <| AR.keep [2, 10, 12, 13, 14, 60, 61, 62] rfl <| AR.op rfl (aop_move (.inl rfl) rfl) <| AR.skip rfl <| AR.skip rfl <| AR.keep [2, 10, 12, 13, 14, 60, 61, 63, 64, 65] rfl ?_
          refine AR.op rfl (aop_pick rfl rfl rfl) <| AR.op rfl (aop_move (.inl rfl) rfl) <| AR.op rfl (aop_move (.inl rfl) rfl) <| AR.keep [2, 10, 12, 13, 14, 60, 61, 64, 65, 67, 68] rfl <| AR.op (r := bl (decide (r285.2.2 ≠ 0))) rfl (aop_neq rfl rfl rfl) <| AR.op rfl (aop_move (.inl rfl) rfl) ?_
          rcases Bool.eq_false_or_eq_true (decide (r285.2.2 ≠ 0)) with hb305 | hb305
          ·rw [hb305]
           replace h := Sh.if_t h hb305
           refine AR.op rfl (aop_move (.inl rfl) rfl) <| AR.keep [2, 10, 12, 13, 60, 61, 64, 65, 67, 68, 69, 70, 71] rfl <| AR.op rfl (aop_move (.inl rfl) rfl) <| AR.op (r := bl (decide (r291.2.2 ≠ r285.2.2))) rfl (aop_neq rfl rfl rfl) <| AR.op rfl (aop_pick rfl rfl rfl) <| AR.keep [2, 10, 12, 60, 61, 64, 65, 67, 68, 69, 70, 71, 72, 73, 74] rfl <| AR.op rfl (aop_pick rfl rfl rfl) <| AR.nil ?_
           exact hK37 (decide (r291.2.2 ≠ r285.2.2)) _ h (Weak.kt [2, 10, 12, 75] rfl)
          ·rw [hb305]
           replace h := Sh.if_f h hb305
           refine AR.skip rfl <| AR.keep [2, 10, 12, 13, 60, 61, 64, 65, 67, 68, 69, 70, 71] rfl <| AR.skip rfl <| AR.skip rfl <| AR.op rfl (aop_pick rfl rfl rfl) <| AR.keep [2, 10, 12, 60, 61, 64, 65, 67, 68, 69, 70, 71, 72, 73, 74] rfl <| AR.op rfl (aop_pick rfl rfl rfl) <| AR.nil ?_
           exact hK37 false _ h (Weak.kt [2, 10, 12, 75] rfl)
       ·replace h := Sh.if_f h hb266
        refine awp_exit ?_
        replace h := Sh.exit_eq h hx3
        exact hK29 (sfactsall263, sfactsset264) _ h (Weak.kt [10] rfl)
  ·intro K38 hK38
   refine awp_reg rfl <| AR.op rfl (aop_move (.inl rfl) rfl) <| AR.op (r := bl (!r88)) rfl (aop_not rfl rfl) <| AR.op rfl (aop_move (.inl rfl) rfl) <| AR.keep [1, 2, 3, 9, 27] rfl ?_
   rcases Bool.eq_false_or_eq_true (!r88) with hb306 | hb306
   ·rw [hb306]
    replace h := Sh.if_t h hb306
    refine AR.skip rfl <| AR.skip rfl <| AR.op rfl (aop_pick rfl rfl rfl) <| AR.nil ?_
    exact hK38 true _ h (Weak.kt [1, 2, 3, 30] rfl)
   ·rw [hb306]
    replace h := Sh.if_f h hb306
    refine AR.op rfl (aop_move (.inl rfl) rfl) <| AR.op (r := bl (!r90)) rfl (aop_not rfl rfl) <| AR.op rfl (aop_pick rfl rfl rfl) <| AR.nil ?_
    exact hK38 (!r90) _ h (Weak.kt [1, 2, 3, 30] rfl)
theorem inquestlaw23_StoreOnce_ok {W0 : World} (hT : Tab W0) {h_0 : G.api_Hist} {level_1 : Int} {l_2 : List G.fact_Fact} {r : Bool} (h : G.inquestlaw23_StoreOnce h_0 level_1 l_2 = some r) : Fun1 Try.prog W0 5 [G.api_Hist.av h_0, i64 level_1, .sl (List.map G.fact_Fact.av l_2)] (bl r) := Fun1.two (inquestlaw23_StoreOnce_ok0 hT h) (by simp)

end Wk
