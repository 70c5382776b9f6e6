/- That a statement does what its plain function says. -/
import Derived.Test.YtfgndjgcfkfobaaDoorWkKinquestlaw17
open Go Go.Av Go.Proofs
set_option linter.unusedVariables false
set_option maxHeartbeats 8000000
set_option maxRecDepth 20000
namespace Wk
theorem inquestlaw17_KnownReads_ok0 {W0 : World} (hT : Tab W0) {h_0 : G.api_Hist} {a_1 : Int} {b_2 : Int} {r : Bool} (h : G.inquestlaw17_KnownReads h_0 a_1 b_2 = some r) : Fun2 Tryd.prog W0 5 [G.api_Hist.av h_0, i64 a_1, i64 b_2] (bl r) .empty := by
 refine fun2_of_awp Tryd.func5 rfl (by kernel_rfl) Tryd.ntmps5 (by simp) ?_
 unfold G.inquestlaw17_KnownReads at h
 show AWP _ _ _ _ ⟨[(0, G.api_Hist.av h_0), (1, i64 a_1), (2, i64 b_2)], .empty⟩ _
 refine awp_seqK fun K1 hK1 => awp_reg rfl <| AR.op (r := .ref 0 0 0) rfl (aop_box 1 [G.api_Hist.av h_0] rfl rfl rfl (.inl ⟨rfl, rfl⟩)) <| AR.op rfl (aop_move (.inr rfl) rfl) <| AR.nil <| hK1 _ (AWP.weak (Weak.e (fr' := [(1, i64 a_1), (2, i64 b_2), (3, .pp [.sl (List.map G.api_Txn.av h_0.Txns)] 0)]) (H' := .empty) ⟨.k, .k, ⟨_, rfl, .frzA rfl rfl rfl rfl (by simp)⟩, trivial⟩) ?_)
 refine awp_seqK fun K2 hK2 => awp_reg rfl ?_
 obtain ⟨r138, hr138, h⟩ := Sh.bind_some' h
 refine AR.op (r := bl r138) rfl (aop_call1 rfl rfl (by simp) (inquestlaw17_awake_ok hT hr138)) <| AR.op rfl (aop_move (.inr rfl) rfl) <| AR.nil <| hK2 _ (AWP.weak (Weak.kt [1, 2, 3, 7] rfl) ?_)
 refine awp_seqK fun K3 hK3 => awp_seqK fun K4 hK4 => awp_reg rfl <| AR.op rfl (aop_move (.inl rfl) rfl) <| AR.op (r := bl (!r138)) rfl (aop_not rfl rfl) <| AR.nil <| hK4 _ (AWP.weak (Weak.kt [1, 2, 3, 20] rfl) ?_)
 refine awp_cond rfl (fun hb139 => ?_) (fun hb139 => ?_)
 ·replace h := Sh.if_t h hb139
  refine awp_seqK fun K5 hK5 => awp_reg rfl <| AR.op rfl (aop_move (.inr rfl) rfl) <| AR.nil <| hK5 _ (AWP.weak (Weak.kt [6] rfl) ?_)
  refine awp_ret ?_
  obtain rfl := Option.some.inj h
  refine ⟨.inr rfl, bl false, rfl, ?_⟩
  exact Weak.e ⟨.k, trivial⟩
 ·replace h := Sh.if_f h hb139
  refine awp_skip <| hK3 _ (AWP.weak (Weak.kt [1, 2, 3] rfl) ?_)
  refine awp_seqK fun K6 hK6 => awp_reg rfl <| AR.op (r := G.api_Hist.av h_0) rfl (aop_load_pp rfl rfl sz24 rfl) ?_
  obtain ⟨r141, hr141, h⟩ := Sh.bind_some' h
  refine AR.op (r := bl r141) rfl (aop_call1 rfl rfl (by simp) (inquestref08_Few_ok hT hr141)) <| AR.op rfl (aop_move (.inr rfl) rfl) <| AR.nil <| hK6 _ (AWP.weak (Weak.kt [1, 2, 3, 8] rfl) ?_)
  refine awp_seqK fun K7 hK7 => awp_seqJ (fun (p : Bool) => (⟨[(1, i64 a_1), (2, i64 b_2), (3, .pp [.sl (List.map G.api_Txn.av h_0.Txns)] 0), (51, bl p)], .empty⟩ : St)) (fun (p : Bool) => G.inquestlaw17_KnownReads_j1 h_0 a_1 b_2 p = some r) ?_ ?_
  ·rintro v155 h
   replace h : G.inquestlaw17_KnownReads_j1 h_0 a_1 b_2 v155 = some r := h
   unfold G.inquestlaw17_KnownReads_j1 at h
   show AWP _ _ _ _ ⟨[(1, i64 a_1), (2, i64 b_2), (3, .pp [.sl (List.map G.api_Txn.av h_0.Txns)] 0), (51, bl v155)], .empty⟩ _
   refine awp_cond rfl (fun hb156 => ?_) (fun hb156 => ?_)
   ·replace h := Sh.if_t h hb156
    refine awp_seqK fun K8 hK8 => awp_reg rfl <| AR.op rfl (aop_move (.inr rfl) rfl) <| AR.nil <| hK8 _ (AWP.weak (Weak.kt [6] rfl) ?_)
    refine awp_ret ?_
    obtain rfl := Option.some.inj h
    refine ⟨.inr rfl, bl true, rfl, ?_⟩
    exact Weak.e ⟨.k, trivial⟩
   ·replace h := Sh.if_f h hb156
    refine awp_skip <| hK7 _ (AWP.weak (Weak.kt [1, 2, 3] rfl) ?_)
    refine awp_seqK fun K9 hK9 => awp_reg rfl <| AR.op rfl (aop_move (.inr rfl) rfl) <| AR.nil <| hK9 _ ?_
    refine awp_seqK fun K10 hK10 => awp_reg rfl <| AR.op rfl (aop_move (.inr rfl) rfl) <| AR.nil <| hK10 _ ?_
    refine awp_seqJ (fun (p : Bool × Bool) => (⟨[(1, i64 a_1), (2, i64 b_2), (3, .pp [.sl (List.map G.api_Txn.av h_0.Txns)] 0), (9, bl p.1), (10, bl p.2)], .empty⟩ : St)) (fun (p : Bool × Bool) => G.inquestlaw17_KnownReads_j2 h_0 a_1 b_2 p.1 p.2 = some r) ?_ ?_
    ·rintro ⟨from272, over273⟩ h
     replace h : G.inquestlaw17_KnownReads_j2 h_0 a_1 b_2 from272 over273 = some r := h
     unfold G.inquestlaw17_KnownReads_j2 at h
     show AWP _ _ _ _ ⟨[(1, i64 a_1), (2, i64 b_2), (3, .pp [.sl (List.map G.api_Txn.av h_0.Txns)] 0), (9, bl from272), (10, bl over273)], .empty⟩ _
     refine awp_seqK fun K11 hK11 => awp_reg rfl <| AR.op (r := G.api_Hist.av h_0) rfl (aop_load_pp rfl rfl sz24 rfl) ?_
     obtain ⟨r285, hr285, h⟩ := Sh.bind_some' h
     refine AR.op (r := G.graph_Graph.av r285) rfl (aop_call1 rfl rfl (by simp) (known_Wr_ok hT hr285)) <| AR.op rfl (aop_move (.inl rfl) rfl) <| AR.keep [1, 2, 3, 9, 10, 110, 111] rfl <| AR.op rfl (aop_move (.inl rfl) rfl) ?_
     obtain ⟨r286, hr286, h⟩ := Sh.bind_some' h
     refine AR.op (r := bl r286) rfl (aop_call1 rfl rfl (by simp) (graph_Has_ok hT hr286)) <| AR.op rfl (aop_move (.inl rfl) rfl) <| AR.keep [1, 2, 3, 9, 10, 113, 114] rfl <| AR.op (r := bl (r286 == from272)) rfl (aop_eqb rfl rfl rfl Tryd.underlying4) <| AR.op rfl (aop_move (.inl rfl) rfl) ?_
     rcases Bool.eq_false_or_eq_true (r286 == from272) with hb287 | hb287
     ·rw [hb287]
      replace h := Sh.if_t h hb287
      refine AR.op (r := G.api_Hist.av h_0) rfl (aop_load_pp rfl rfl sz24 rfl) <| AR.keep [1, 2, 3, 9, 10, 116, 117] rfl ?_
      obtain ⟨r288, hr288, h⟩ := Sh.bind_some' h
      refine AR.op (r := G.graph_Graph.av r288) rfl (aop_call1 rfl rfl (by simp) (known_Init_ok hT hr288)) <| AR.op rfl (aop_move (.inl rfl) rfl) <| AR.op rfl (aop_move (.inl rfl) rfl) <| AR.keep [1, 2, 3, 9, 10, 116, 118, 119, 120] rfl ?_
      obtain ⟨r289, hr289, h⟩ := Sh.bind_some' h
      refine AR.op (r := bl r289) rfl (aop_call1 rfl rfl (by simp) (graph_Has_ok hT hr289)) <| AR.op rfl (aop_move (.inl rfl) rfl) <| AR.op (r := bl (r289 == over273)) rfl (aop_eqb rfl rfl rfl Tryd.underlying4) <| AR.keep [1, 2, 3, 9, 116, 123] rfl <| AR.op rfl (aop_pick rfl rfl rfl) <| AR.op rfl (aop_move (.inl rfl) rfl) ?_
      rcases Bool.eq_false_or_eq_true (r289 == over273) with hb290 | hb290
      ·rw [hb290]
       replace h := Sh.if_t h hb290
       refine AR.op (r := G.api_Hist.av h_0) rfl (aop_load_pp rfl rfl sz24 rfl) <| AR.keep [1, 2, 3, 9, 125, 126] rfl ?_
       obtain ⟨r291, hr291, h⟩ := Sh.bind_some' h
       refine AR.op (r := G.graph_Graph.av r291) rfl (aop_call1 rfl rfl (by simp) (known_Past_ok hT hr291)) <| AR.op rfl (aop_move (.inl rfl) rfl) <| AR.op rfl (aop_move (.inl rfl) rfl) <| AR.keep [1, 2, 3, 9, 125, 127, 128, 129] rfl ?_
       obtain ⟨r292, hr292, h⟩ := Sh.bind_some' h
       refine AR.op (r := bl r292) rfl (aop_call1 rfl rfl (by simp) (graph_Has_ok hT hr292)) <| AR.op rfl (aop_move (.inl rfl) rfl) <| AR.op rfl (aop_move (.inl rfl) rfl) <| AR.keep [1, 2, 3, 125, 130, 132] rfl ?_
       rcases Bool.eq_false_or_eq_true (from272) with hb293 | hb293
       ·rw [hb293]
        replace h := Sh.if_t h hb293
        refine AR.skip rfl <| AR.skip rfl <| AR.skip rfl <| AR.keep [2, 125, 130, 132, 134, 135] rfl <| AR.skip rfl <| AR.skip rfl <| AR.op rfl (aop_pick rfl rfl rfl) <| AR.keep [125, 130, 138] rfl ?_
        refine AR.op (r := bl (r292 == true)) rfl (aop_eqb rfl rfl rfl Tryd.underlying4) <| AR.op rfl (aop_pick rfl rfl rfl) <| AR.op rfl (aop_move (.inr rfl) rfl) <| AR.nil <| hK11 _ (AWP.weak (Weak.kt [6] rfl) ?_)
        refine awp_ret ?_
        obtain rfl := Option.some.inj h
        refine ⟨.inr rfl, bl (r292 == true), rfl, ?_⟩
        exact Weak.e ⟨.k, trivial⟩
       ·rw [hb293]
        replace h := Sh.if_f h hb293
        refine AR.op (r := G.api_Hist.av h_0) rfl (aop_load_pp rfl rfl sz24 rfl) ?_
        obtain ⟨r294, hr294, h⟩ := Sh.bind_some' h
        refine AR.op (r := G.graph_Graph.av r294) rfl (aop_call1 rfl rfl (by simp) (known_So_ok hT hr294)) <| AR.op rfl (aop_move (.inl rfl) rfl) <| AR.keep [2, 125, 130, 132, 134, 135] rfl <| AR.op rfl (aop_move (.inl rfl) rfl) ?_
        obtain ⟨r295, hr295, h⟩ := Sh.bind_some' h
        refine AR.op (r := bl r295) rfl (aop_call1 rfl rfl (by simp) (graph_Has_ok hT hr295)) <| AR.op rfl (aop_pick rfl rfl rfl) <| AR.keep [125, 130, 138] rfl <| AR.op (r := bl (r292 == r295)) rfl (aop_eqb rfl rfl rfl Tryd.underlying4) <| AR.op rfl (aop_pick rfl rfl rfl) <| AR.op rfl (aop_move (.inr rfl) rfl) <| AR.nil <| hK11 _ (AWP.weak (Weak.kt [6] rfl) ?_)
        refine awp_ret ?_
        obtain rfl := Option.some.inj h
        refine ⟨.inr rfl, bl (r292 == r295), rfl, ?_⟩
        exact Weak.e ⟨.k, trivial⟩
      ·rw [hb290]
       replace h := Sh.if_f h hb290
       refine AR.skip rfl <| AR.keep [1, 2, 3, 9, 125, 126] rfl <| AR.skip rfl <| AR.skip rfl <| AR.skip rfl <| AR.keep [1, 2, 3, 9, 125, 127, 128, 129] rfl <| AR.skip rfl <| AR.skip rfl ?_
       refine AR.skip rfl <| AR.keep [1, 2, 3, 125, 130, 132] rfl <| AR.skip rfl <| AR.skip rfl <| AR.skip rfl <| AR.keep [2, 125, 130, 132, 134, 135] rfl <| AR.skip rfl <| AR.skip rfl ?_
       refine AR.skip rfl <| AR.keep [125, 130, 138] rfl <| AR.skip rfl <| AR.op rfl (aop_pick rfl rfl rfl) <| AR.op rfl (aop_move (.inr rfl) rfl) <| AR.nil <| hK11 _ (AWP.weak (Weak.kt [6] rfl) ?_)
       refine awp_ret ?_
       obtain rfl := Option.some.inj h
       refine ⟨.inr rfl, bl false, rfl, ?_⟩
       exact Weak.e ⟨.k, trivial⟩
     ·rw [hb287]
      replace h := Sh.if_f h hb287
      refine AR.skip rfl <| AR.keep [1, 2, 3, 9, 10, 116, 117] rfl <| AR.skip rfl <| AR.skip rfl <| AR.skip rfl <| AR.keep [1, 2, 3, 9, 10, 116, 118, 119, 120] rfl <| AR.skip rfl <| AR.skip rfl ?_
      refine AR.skip rfl <| AR.keep [1, 2, 3, 9, 116, 123] rfl <| AR.op rfl (aop_pick rfl rfl rfl) <| AR.op rfl (aop_move (.inl rfl) rfl) <| AR.skip rfl <| AR.keep [1, 2, 3, 9, 125, 126] rfl <| AR.skip rfl <| AR.skip rfl ?_
      refine AR.skip rfl <| AR.keep [1, 2, 3, 9, 125, 127, 128, 129] rfl <| AR.skip rfl <| AR.skip rfl <| AR.skip rfl <| AR.keep [1, 2, 3, 125, 130, 132] rfl <| AR.skip rfl <| AR.skip rfl ?_
      refine AR.skip rfl <| AR.keep [2, 125, 130, 132, 134, 135] rfl <| AR.skip rfl <| AR.skip rfl <| AR.skip rfl <| AR.keep [125, 130, 138] rfl <| AR.skip rfl <| AR.op rfl (aop_pick rfl rfl rfl) ?_
      refine AR.op rfl (aop_move (.inr rfl) rfl) <| AR.nil <| hK11 _ (AWP.weak (Weak.kt [6] rfl) ?_)
      refine awp_ret ?_
      obtain rfl := Option.some.inj h
      refine ⟨.inr rfl, bl false, rfl, ?_⟩
      exact Weak.e ⟨.k, trivial⟩
    ·intro K12 hK12
     refine awp_seqK fun K13 hK13 => awp_reg rfl <| AR.op rfl (aop_move (.inr rfl) rfl) <| AR.nil <| hK13 _ ?_
     refine awp_block <| awp_iter (fun (p : Bool × Bool × Int) => G.inquestlaw17_KnownReads_b1 h_0 a_1 b_2 p.1 p.2.1 p.2.2) (fun (p : Bool × Bool × Int) => (⟨[(1, i64 a_1), (2, i64 b_2), (3, .pp [.sl (List.map G.api_Txn.av h_0.Txns)] 0), (9, bl p.1), (10, bl p.2.1), (11, i64 p.2.2)], .empty⟩ : St)) h (Weak.kt [1, 2, 3, 9, 10, 11] rfl) ?_
     ·skip
      rintro ⟨from372, over373, key374⟩ o1 h hx1
      replace h : G.inquestlaw17_KnownReads_b1 h_0 a_1 b_2 from372 over373 key374 = some o1 := h
      unfold G.inquestlaw17_KnownReads_b1 at h
      show AWP _ _ _ _ ⟨[(1, i64 a_1), (2, i64 b_2), (3, .pp [.sl (List.map G.api_Txn.av h_0.Txns)] 0), (9, bl from372), (10, bl over373), (11, i64 key374)], .empty⟩ _
      refine awp_seqK fun K14 hK14 => awp_seqK fun K15 hK15 => awp_reg rfl <| AR.op rfl (aop_move (.inl rfl) rfl) <| AR.op rfl (aop_lss rfl rfl rfl) <| AR.nil <| hK15 _ (AWP.weak (Weak.kt [1, 2, 3, 9, 10, 11, 53] rfl) ?_)
      refine awp_cond rfl (fun hb375 => ?_) (fun hb375 => ?_)
      ·replace h := Sh.if_t h hb375
       refine awp_skip <| hK14 _ (AWP.weak (Weak.kt [1, 2, 3, 9, 10, 11] rfl) ?_)
       refine awp_seqJ (fun (p : Bool × Bool) => (⟨[(1, i64 a_1), (2, i64 b_2), (3, .pp [.sl (List.map G.api_Txn.av h_0.Txns)] 0), (10, bl p.1), (11, i64 key374), (9, bl p.2)], .empty⟩ : St)) (fun (p : Bool × Bool) => G.inquestlaw17_KnownReads_j3 key374 p.1 p.2 = some o1) ?_ ?_
       ·rintro ⟨over412, from413⟩ h
        replace h : G.inquestlaw17_KnownReads_j3 key374 over412 from413 = some o1 := h
        unfold G.inquestlaw17_KnownReads_j3 at h
        show AWP _ _ _ _ ⟨[(1, i64 a_1), (2, i64 b_2), (3, .pp [.sl (List.map G.api_Txn.av h_0.Txns)] 0), (10, bl over412), (11, i64 key374), (9, bl from413)], .empty⟩ _
        refine awp_reg rfl <| AR.op rfl (aop_move (.inl rfl) rfl) <| AR.op rfl (aop_add rfl rfl rfl rfl) <| AR.op rfl (aop_move (.inr rfl) rfl) <| AR.nil ?_
        replace h := Sh.next_eq h
        exact ⟨_, h, Weak.e (fr' := [(1, i64 a_1), (2, i64 b_2), (3, .pp [.sl (List.map G.api_Txn.av h_0.Txns)] 0), (9, bl from413), (10, bl over412), (11, i64 (w64 (key374 + 1)))]) (H' := .empty) ⟨.k, .k, .k, .k, .k, .k, trivial⟩⟩
       ·intro K16 hK16
        refine awp_block <| awp_seqK fun K17 hK17 => awp_reg rfl <| AR.op (r := G.api_Hist.av h_0) rfl (aop_load_pp rfl rfl sz24 rfl) <| AR.op rfl (aop_move (.inl rfl) rfl) <| AR.op rfl (aop_move (.inl rfl) rfl) <| AR.keep [1, 2, 3, 9, 10, 11, 57, 58, 59] rfl ?_
        obtain ⟨r415, hr415, h⟩ := Sh.bind_some' h
        refine AR.op (r := .tuple [i64 r415.1, bl r415.2]) rfl (aop_call1 rfl rfl (by simp) (index_From_ok hT hr415)) <| AR.op rfl (aop_move (.inl rfl) rfl) <| AR.op (r := i64 r415.1) rfl (aop_extract rfl rfl rfl) <| AR.keep [1, 2, 3, 9, 10, 11, 56, 61] rfl <| AR.op (r := bl r415.2) rfl (aop_extract rfl rfl rfl) <| AR.op rfl (aop_move (.inr rfl) rfl) <| AR.op rfl (aop_move (.inr rfl) rfl) <| AR.nil ?_
        refine hK17 _ (AWP.weak (Weak.kt [1, 2, 3, 9, 10, 11, 12, 13] rfl) ?_)
        refine awp_seqJ (fun (p : Bool) => (⟨[(1, i64 a_1), (2, i64 b_2), (3, .pp [.sl (List.map G.api_Txn.av h_0.Txns)] 0), (10, bl over373), (11, i64 key374), (9, bl p)], .empty⟩ : St)) (fun (p : Bool) => G.inquestlaw17_KnownReads_j4 h_0 a_1 b_2 over373 key374 p = some o1) ?_ ?_
        ·rintro from418 h
         replace h : G.inquestlaw17_KnownReads_j4 h_0 a_1 b_2 over373 key374 from418 = some o1 := h
         unfold G.inquestlaw17_KnownReads_j4 at h
         show AWP _ _ _ _ ⟨[(1, i64 a_1), (2, i64 b_2), (3, .pp [.sl (List.map G.api_Txn.av h_0.Txns)] 0), (10, bl over373), (11, i64 key374), (9, bl from418)], .empty⟩ _
         refine awp_seqK fun K18 hK18 => awp_reg rfl <| AR.op (r := G.api_Hist.av h_0) rfl (aop_load_pp rfl rfl sz24 rfl) <| AR.op rfl (aop_move (.inl rfl) rfl) <| AR.op rfl (aop_move (.inl rfl) rfl) <| AR.keep [1, 2, 3, 10, 11, 9, 73, 74, 75] rfl ?_
         obtain ⟨r420, hr420, h⟩ := Sh.bind_some' h
         refine AR.op (r := .tuple [i64 r420.1, bl r420.2]) rfl (aop_call1 rfl rfl (by simp) (index_From_ok hT hr420)) <| AR.op rfl (aop_move (.inl rfl) rfl) <| AR.op (r := i64 r420.1) rfl (aop_extract rfl rfl rfl) <| AR.keep [1, 2, 3, 10, 11, 9, 72, 77] rfl <| AR.op (r := bl r420.2) rfl (aop_extract rfl rfl rfl) <| AR.op rfl (aop_move (.inr rfl) rfl) <| AR.op rfl (aop_move (.inr rfl) rfl) <| AR.nil ?_
         refine hK18 _ (AWP.weak (Weak.kt [1, 2, 3, 10, 11, 9, 14, 15] rfl) ?_)
         refine awp_seqK fun K19 hK19 => awp_reg rfl <| AR.op (r := G.api_Hist.av h_0) rfl (aop_load_pp rfl rfl sz24 rfl) <| AR.op rfl (aop_move (.inl rfl) rfl) ?_
         obtain ⟨r422, hr422, h⟩ := Sh.bind_some' h
         refine AR.op (r := .sl (List.map i64 r422)) rfl (aop_call1 rfl rfl (by simp) (index_Writers_ok hT hr422)) <| AR.keep [1, 2, 3, 10, 11, 9, 14, 15, 81] rfl <| AR.op rfl (aop_move (.inr rfl) rfl) <| AR.nil <| hK19 _ (AWP.weak (Weak.kt [1, 2, 3, 10, 11, 9, 14, 15, 16] rfl) ?_)
         refine awp_seqK fun K20 hK20 => awp_reg rfl <| AR.op rfl (aop_move (.inr rfl) rfl) <| AR.nil <| hK20 _ ?_
         refine awp_block <| awp_iter (fun (p : Bool × Bool × Int) => G.inquestlaw17_KnownReads_b2 a_1 b_2 key374 from418 r420 r422 p.1 p.2.1 p.2.2) (fun (p : Bool × Bool × Int) => (⟨[(1, i64 a_1), (2, i64 b_2), (3, .pp [.sl (List.map G.api_Txn.av h_0.Txns)] 0), (10, bl p.1), (11, i64 key374), (9, bl from418), (14, i64 r420.1), (15, bl p.2.1), (16, .sl (List.map i64 r422)), (17, i64 p.2.2)], .empty⟩ : St)) h (Weak.kt [1, 2, 3, 10, 11, 9, 14, 15, 16, 17] rfl) ?_
         ·skip
          rintro ⟨over442, was443, i444⟩ o2 h hx2
          replace h : G.inquestlaw17_KnownReads_b2 a_1 b_2 key374 from418 r420 r422 over442 was443 i444 = some o2 := h
          unfold G.inquestlaw17_KnownReads_b2 at h
          show AWP _ _ _ _ ⟨[(1, i64 a_1), (2, i64 b_2), (3, .pp [.sl (List.map G.api_Txn.av h_0.Txns)] 0), (10, bl over442), (11, i64 key374), (9, bl from418), (14, i64 r420.1), (15, bl was443), (16, .sl (List.map i64 r422)), (17, i64 i444)], .empty⟩ _
          refine awp_seqK fun K21 hK21 => awp_seqK fun K22 hK22 => awp_reg rfl <| AR.op rfl (aop_move (.inl rfl) rfl) <| AR.op rfl (aop_move (.inl rfl) rfl) <| AR.op rfl (t_len_sl i64 r422 rfl rfl el37) <| AR.keep [1, 2, 3, 10, 11, 9, 14, 15, 16, 17, 82, 84] rfl <| AR.op rfl (aop_lss rfl rfl rfl) ?_
          refine AR.nil <| hK22 _ (AWP.weak (Weak.kt [1, 2, 3, 10, 11, 9, 14, 15, 16, 17, 85] rfl) ?_)
          refine awp_cond rfl (fun hb445 => ?_) (fun hb445 => ?_)
          ·replace h := Sh.if_t h hb445
           refine awp_skip <| hK21 _ (AWP.weak (Weak.kt [1, 2, 3, 10, 11, 9, 14, 15, 16, 17] rfl) ?_)
           refine awp_seqJ (fun (p : Bool × Bool) => (⟨[(1, i64 a_1), (2, i64 b_2), (3, .pp [.sl (List.map G.api_Txn.av h_0.Txns)] 0), (11, i64 key374), (9, bl from418), (14, i64 r420.1), (15, bl p.1), (16, .sl (List.map i64 r422)), (17, i64 i444), (10, bl p.2)], .empty⟩ : St)) (fun (p : Bool × Bool) => G.inquestlaw17_KnownReads_j5 i444 p.1 p.2 = some o2) ?_ ?_
           ·rintro ⟨was452, over453⟩ h
            replace h : G.inquestlaw17_KnownReads_j5 i444 was452 over453 = some o2 := h
            unfold G.inquestlaw17_KnownReads_j5 at h
            show AWP _ _ _ _ ⟨[(1, i64 a_1), (2, i64 b_2), (3, .pp [.sl (List.map G.api_Txn.av h_0.Txns)] 0), (11, i64 key374), (9, bl from418), (14, i64 r420.1), (15, bl was452), (16, .sl (List.map i64 r422)), (17, i64 i444), (10, bl over453)], .empty⟩ _
            refine awp_reg rfl <| AR.op rfl (aop_move (.inl rfl) rfl) <| AR.op rfl (aop_add rfl rfl rfl rfl) <| AR.op rfl (aop_move (.inr rfl) rfl) <| AR.nil ?_
            replace h := Sh.next_eq h
            exact ⟨_, h, Weak.e (fr' := [(1, i64 a_1), (2, i64 b_2), (3, .pp [.sl (List.map G.api_Txn.av h_0.Txns)] 0), (10, bl over453), (11, i64 key374), (9, bl from418), (14, i64 r420.1), (15, bl was452), (16, .sl (List.map i64 r422)), (17, i64 (w64 (i444 + 1)))]) (H' := .empty) ⟨.k, .k, .k, .k, .k, .k, .k, .k, ⟨.sl (List.map i64 r422), rfl, .sm⟩, .k, trivial⟩⟩
           ·intro K23 hK23
            refine awp_block <| awp_reg rfl <| AR.op rfl (aop_move (.inl rfl) rfl) <| AR.op rfl (aop_move (.inl rfl) rfl) ?_
            rcases Bool.eq_false_or_eq_true (over442) with hb454 | hb454
            ·rw [hb454]
             replace h := Sh.if_t h hb454
             refine AR.skip rfl <| AR.keep [1, 2, 3, 11, 9, 14, 15, 16, 17, 89, 90] rfl <| AR.skip rfl <| AR.skip rfl <| AR.skip rfl <| AR.keep [1, 2, 3, 11, 9, 14, 15, 16, 17, 89, 90, 91, 92, 93] rfl <| AR.skip rfl <| AR.skip rfl ?_
             refine AR.skip rfl <| AR.keep [1, 2, 3, 11, 9, 14, 15, 16, 17, 89, 90, 91, 92, 93, 94, 95, 96] rfl <| AR.skip rfl <| AR.skip rfl <| AR.skip rfl <| AR.keep [1, 2, 3, 11, 9, 14, 15, 16, 17, 89, 90, 91, 92, 93, 94, 95, 96, 97, 98, 99] rfl <| AR.skip rfl <| AR.skip rfl ?_
             refine AR.skip rfl <| AR.keep [1, 2, 3, 11, 9, 14, 15, 16, 17, 89, 90, 91, 92, 93, 94, 95, 96, 97, 98, 99, 100, 101, 102] rfl <| AR.skip rfl <| AR.skip rfl <| AR.skip rfl <| AR.keep [1, 2, 3, 11, 9, 14, 15, 16, 17, 89, 90, 91, 92, 93, 94, 95, 96, 97, 98, 99, 100, 101, 102, 103, 104, 105] rfl <| AR.skip rfl <| AR.skip rfl ?_
             refine AR.op rfl (aop_pick rfl rfl rfl) <| AR.keep [1, 2, 3, 11, 9, 14, 15, 16, 17, 90, 91, 92, 93, 94, 95, 96, 97, 98, 99, 100, 101, 102, 103, 104, 105, 106, 107, 108] rfl <| AR.op rfl (aop_move (.inr rfl) rfl) <| AR.nil ?_
             exact hK23 (was443, true) _ h (Weak.kt [1, 2, 3, 11, 9, 14, 15, 16, 17, 10] rfl)
            ·rw [hb454]
             replace h := Sh.if_f h hb454
             refine AR.op rfl (aop_move (.inl rfl) rfl) <| AR.keep [1, 2, 3, 11, 9, 14, 15, 16, 17, 89, 90] rfl <| AR.op rfl (aop_move (.inl rfl) rfl) ?_
             rcases Bool.eq_false_or_eq_true (was443) with hb455 | hb455
             ·rw [hb455]
              replace h := Sh.if_t h hb455
              refine AR.op rfl (aop_move (.inl rfl) rfl) <| AR.op (r := bl (decide (r420.1 = (-1)))) rfl (aop_eql rfl rfl rfl) <| AR.keep [1, 2, 3, 11, 9, 14, 15, 16, 17, 89, 90, 91, 92, 93] rfl <| AR.op rfl (aop_pick rfl rfl rfl) <| AR.op rfl (aop_move (.inl rfl) rfl) ?_
              rcases Bool.eq_false_or_eq_true (decide (r420.1 = (-1))) with hb456 | hb456
              ·rw [hb456]
               replace h := Sh.if_t h hb456
               refine AR.op rfl (aop_move (.inl rfl) rfl) <| AR.keep [1, 2, 3, 11, 9, 14, 15, 16, 17, 89, 90, 91, 92, 93, 94, 95, 96] rfl <| AR.op rfl (aop_move (.inl rfl) rfl) ?_
               obtain ⟨x457, hx457, h⟩ := Sh.bind_some' h
               obtain ⟨k458, hi458, hl458⟩ := Sh.idx_some hx457
               refine AR.op rfl (t_index_sl i64 r422 hi458 hl458 rfl rfl rfl el37 rfl) <| AR.op (r := i64 x457) rfl (aop_load_pp rfl rfl sz3 rfl) <| AR.keep [1, 2, 3, 11, 9, 14, 15, 16, 17, 89, 90, 91, 92, 93, 94, 95, 96, 97, 98, 99] rfl <| AR.op rfl (aop_move (.inl rfl) rfl) <| AR.op (r := bl (decide (x457 = b_2))) rfl (aop_eql rfl rfl rfl) <| AR.op rfl (aop_pick rfl rfl rfl) <| AR.keep [1, 2, 3, 11, 9, 14, 15, 16, 17, 89, 90, 91, 92, 93, 94, 95, 96, 97, 98, 99, 100, 101, 102] rfl <| AR.op rfl (aop_move (.inl rfl) rfl) ?_
               rcases Bool.eq_false_or_eq_true (decide (x457 = b_2)) with hb459 | hb459
               ·rw [hb459]
                replace h := Sh.if_t h hb459
                refine AR.op rfl (aop_move (.inl rfl) rfl) <| AR.op rfl (aop_move (.inl rfl) rfl) <| AR.keep [1, 2, 3, 11, 9, 14, 15, 16, 17, 89, 90, 91, 92, 93, 94, 95, 96, 97, 98, 99, 100, 101, 102, 103, 104, 105] rfl <| AR.op (r := bl (decide (a_1 ≠ b_2))) rfl (aop_neq rfl rfl rfl) <| AR.op rfl (aop_pick rfl rfl rfl) <| AR.op rfl (aop_pick rfl rfl rfl) <| AR.keep [1, 2, 3, 11, 9, 14, 15, 16, 17, 90, 91, 92, 93, 94, 95, 96, 97, 98, 99, 100, 101, 102, 103, 104, 105, 106, 107, 108] rfl <| AR.op rfl (aop_move (.inr rfl) rfl) ?_
                refine AR.nil ?_
                exact hK23 (true, decide (a_1 ≠ b_2)) _ h (Weak.e (fr' := [(1, i64 a_1), (2, i64 b_2), (3, .pp [.sl (List.map G.api_Txn.av h_0.Txns)] 0), (11, i64 key374), (9, bl from418), (14, i64 r420.1), (15, bl true), (16, .sl (List.map i64 r422)), (17, i64 i444), (10, bl (decide (a_1 ≠ b_2)))]) (H' := .empty) ⟨.k, .k, .k, .k, .k, .k, .k, ⟨.sl (List.map i64 r422), rfl, .sm⟩, .k, .k, trivial⟩)
               ·rw [hb459]
                replace h := Sh.if_f h hb459
                refine AR.skip rfl <| AR.skip rfl <| AR.keep [1, 2, 3, 11, 9, 14, 15, 16, 17, 89, 90, 91, 92, 93, 94, 95, 96, 97, 98, 99, 100, 101, 102, 103, 104, 105] rfl <| AR.skip rfl <| AR.op rfl (aop_pick rfl rfl rfl) <| AR.op rfl (aop_pick rfl rfl rfl) <| AR.keep [1, 2, 3, 11, 9, 14, 15, 16, 17, 90, 91, 92, 93, 94, 95, 96, 97, 98, 99, 100, 101, 102, 103, 104, 105, 106, 107, 108] rfl <| AR.op rfl (aop_move (.inr rfl) rfl) ?_
                refine AR.nil ?_
                exact hK23 (true, false) _ h (Weak.kt [1, 2, 3, 11, 9, 14, 15, 16, 17, 10] rfl)
              ·rw [hb456]
               replace h := Sh.if_f h hb456
               refine AR.skip rfl <| AR.keep [1, 2, 3, 11, 9, 14, 15, 16, 17, 89, 90, 91, 92, 93, 94, 95, 96] rfl <| AR.skip rfl <| AR.skip rfl <| AR.skip rfl <| AR.keep [1, 2, 3, 11, 9, 14, 15, 16, 17, 89, 90, 91, 92, 93, 94, 95, 96, 97, 98, 99] rfl <| AR.skip rfl <| AR.skip rfl ?_
               refine AR.op rfl (aop_pick rfl rfl rfl) <| AR.keep [1, 2, 3, 11, 9, 14, 15, 16, 17, 89, 90, 91, 92, 93, 94, 95, 96, 97, 98, 99, 100, 101, 102] rfl <| AR.op rfl (aop_move (.inl rfl) rfl) <| AR.skip rfl <| AR.skip rfl <| AR.keep [1, 2, 3, 11, 9, 14, 15, 16, 17, 89, 90, 91, 92, 93, 94, 95, 96, 97, 98, 99, 100, 101, 102, 103, 104, 105] rfl <| AR.skip rfl <| AR.op rfl (aop_pick rfl rfl rfl) ?_
               refine AR.op rfl (aop_pick rfl rfl rfl) <| AR.keep [1, 2, 3, 11, 9, 14, 15, 16, 17, 90, 91, 92, 93, 94, 95, 96, 97, 98, 99, 100, 101, 102, 103, 104, 105, 106, 107, 108] rfl <| AR.op rfl (aop_move (.inr rfl) rfl) <| AR.nil ?_
               exact hK23 (true, false) _ h (Weak.kt [1, 2, 3, 11, 9, 14, 15, 16, 17, 10] rfl)
             ·rw [hb455]
              replace h := Sh.if_f h hb455
              refine AR.skip rfl <| AR.skip rfl <| AR.keep [1, 2, 3, 11, 9, 14, 15, 16, 17, 89, 90, 91, 92, 93] rfl <| AR.op rfl (aop_pick rfl rfl rfl) <| AR.op rfl (aop_move (.inl rfl) rfl) <| AR.skip rfl <| AR.keep [1, 2, 3, 11, 9, 14, 15, 16, 17, 89, 90, 91, 92, 93, 94, 95, 96] rfl <| AR.skip rfl ?_
              refine AR.skip rfl <| AR.skip rfl <| AR.keep [1, 2, 3, 11, 9, 14, 15, 16, 17, 89, 90, 91, 92, 93, 94, 95, 96, 97, 98, 99] rfl <| AR.skip rfl <| AR.skip rfl <| AR.op rfl (aop_pick rfl rfl rfl) <| AR.keep [1, 2, 3, 11, 9, 14, 15, 16, 17, 89, 90, 91, 92, 93, 94, 95, 96, 97, 98, 99, 100, 101, 102] rfl <| AR.op rfl (aop_move (.inl rfl) rfl) ?_
              refine AR.skip rfl <| AR.skip rfl <| AR.keep [1, 2, 3, 11, 9, 14, 15, 16, 17, 89, 90, 91, 92, 93, 94, 95, 96, 97, 98, 99, 100, 101, 102, 103, 104, 105] rfl <| AR.skip rfl <| AR.op rfl (aop_pick rfl rfl rfl) <| AR.op rfl (aop_pick rfl rfl rfl) <| AR.keep [1, 2, 3, 11, 9, 14, 15, 16, 17, 90, 91, 92, 93, 94, 95, 96, 97, 98, 99, 100, 101, 102, 103, 104, 105, 106, 107, 108] rfl <| AR.op rfl (aop_move (.inr rfl) rfl) ?_
              refine AR.nil ?_
              exact hK23 (false, false) _ h (Weak.kt [1, 2, 3, 11, 9, 14, 15, 16, 17, 10] rfl)
          ·replace h := Sh.if_f h hb445
           refine awp_exit ?_
           replace h := Sh.exit_eq h hx2
           exact hK16 (over442, from418) _ h (Weak.kt [1, 2, 3, 10, 11, 9] rfl)
        ·intro K24 hK24
         refine awp_reg rfl <| AR.op rfl (aop_move (.inl rfl) rfl) <| AR.op rfl (aop_move (.inl rfl) rfl) ?_
         rcases Bool.eq_false_or_eq_true (from372) with hb460 | hb460
         ·rw [hb460]
          replace h := Sh.if_t h hb460
          refine AR.skip rfl <| AR.keep [1, 2, 3, 10, 11, 12, 64, 65] rfl <| AR.skip rfl <| AR.skip rfl <| AR.skip rfl <| AR.keep [1, 2, 3, 10, 11, 64, 65, 66, 67, 68] rfl <| AR.skip rfl <| AR.skip rfl ?_
          refine AR.op rfl (aop_pick rfl rfl rfl) <| AR.keep [1, 2, 3, 10, 11, 65, 66, 67, 68, 69, 70, 71] rfl <| AR.op rfl (aop_move (.inr rfl) rfl) <| AR.nil ?_
          exact hK24 true _ h (Weak.kt [1, 2, 3, 10, 11, 9] rfl)
         ·rw [hb460]
          replace h := Sh.if_f h hb460
          refine AR.op rfl (aop_move (.inl rfl) rfl) <| AR.keep [1, 2, 3, 10, 11, 12, 64, 65] rfl <| AR.op rfl (aop_move (.inl rfl) rfl) ?_
          rcases Bool.eq_false_or_eq_true (r415.2) with hb461 | hb461
          ·rw [hb461]
           replace h := Sh.if_t h hb461
           refine AR.op rfl (aop_move (.inl rfl) rfl) <| AR.op rfl (aop_move (.inl rfl) rfl) <| AR.keep [1, 2, 3, 10, 11, 64, 65, 66, 67, 68] rfl <| AR.op (r := bl (decide (r415.1 = a_1))) rfl (aop_eql rfl rfl rfl) <| AR.op rfl (aop_pick rfl rfl rfl) <| AR.op rfl (aop_pick rfl rfl rfl) <| AR.keep [1, 2, 3, 10, 11, 65, 66, 67, 68, 69, 70, 71] rfl <| AR.op rfl (aop_move (.inr rfl) rfl) ?_
           refine AR.nil ?_
           exact hK24 (decide (r415.1 = a_1)) _ h (Weak.e (fr' := [(1, i64 a_1), (2, i64 b_2), (3, .pp [.sl (List.map G.api_Txn.av h_0.Txns)] 0), (10, bl over373), (11, i64 key374), (9, bl (decide (r415.1 = a_1)))]) (H' := .empty) ⟨.k, .k, .k, .k, .k, .k, trivial⟩)
          ·rw [hb461]
           replace h := Sh.if_f h hb461
           refine AR.skip rfl <| AR.skip rfl <| AR.keep [1, 2, 3, 10, 11, 64, 65, 66, 67, 68] rfl <| AR.skip rfl <| AR.op rfl (aop_pick rfl rfl rfl) <| AR.op rfl (aop_pick rfl rfl rfl) <| AR.keep [1, 2, 3, 10, 11, 65, 66, 67, 68, 69, 70, 71] rfl <| AR.op rfl (aop_move (.inr rfl) rfl) ?_
           refine AR.nil ?_
           exact hK24 false _ h (Weak.kt [1, 2, 3, 10, 11, 9] rfl)
      ·replace h := Sh.if_f h hb375
       refine awp_exit ?_
       replace h := Sh.exit_eq h hx1
       exact hK12 (from372, over373) _ h (Weak.kt [1, 2, 3, 9, 10] rfl)
  ·intro K25 hK25
   refine awp_reg rfl <| AR.op rfl (aop_move (.inl rfl) rfl) <| AR.op (r := bl (!r141)) rfl (aop_not rfl rfl) <| AR.op rfl (aop_move (.inl rfl) rfl) <| AR.keep [1, 2, 3, 25] rfl ?_
   rcases Bool.eq_false_or_eq_true (!r141) with hb462 | hb462
   ·rw [hb462]
    replace h := Sh.if_t h hb462
    refine AR.skip rfl <| AR.skip rfl <| AR.skip rfl <| AR.keep [1, 2, 3, 25, 28] rfl <| AR.op rfl (aop_pick rfl rfl rfl) <| AR.op rfl (aop_move (.inl rfl) rfl) <| AR.skip rfl <| AR.keep [1, 2, 3, 30, 31] rfl ?_
    refine AR.skip rfl <| AR.op rfl (aop_pick rfl rfl rfl) <| AR.op rfl (aop_move (.inl rfl) rfl) <| AR.keep [1, 2, 3, 34] rfl <| AR.skip rfl <| AR.skip rfl <| AR.skip rfl <| AR.keep [1, 2, 3, 34, 35, 37] rfl ?_
    refine AR.skip rfl <| AR.skip rfl <| AR.op rfl (aop_pick rfl rfl rfl) <| AR.keep [1, 2, 3, 40] rfl <| AR.op rfl (aop_move (.inl rfl) rfl) <| AR.skip rfl <| AR.skip rfl <| AR.keep [1, 2, 3, 41, 43] rfl ?_
    refine AR.op rfl (aop_pick rfl rfl rfl) <| AR.op rfl (aop_move (.inl rfl) rfl) <| AR.skip rfl <| AR.keep [1, 2, 3, 45, 46] rfl <| AR.skip rfl <| AR.skip rfl <| AR.skip rfl <| AR.keep [1, 2, 3, 45, 46, 49] rfl ?_
    refine AR.skip rfl <| AR.op rfl (aop_pick rfl rfl rfl) <| AR.nil ?_
    exact hK25 true _ h (Weak.kt [1, 2, 3, 51] rfl)
   ·rw [hb462]
    replace h := Sh.if_f h hb462
    refine AR.op (r := G.api_Hist.av h_0) rfl (aop_load_pp rfl rfl sz24 rfl) ?_
    obtain ⟨r463, hr463, h⟩ := Sh.bind_some' h
    refine AR.op (r := bl r463) rfl (aop_call1 rfl rfl (by simp) (hist_Right_ok hT hr463)) <| AR.op (r := bl (!r463)) rfl (aop_not rfl rfl) <| AR.keep [1, 2, 3, 25, 28] rfl <| AR.op rfl (aop_pick rfl rfl rfl) <| AR.op rfl (aop_move (.inl rfl) rfl) ?_
    rcases Bool.eq_false_or_eq_true (!r463) with hb464 | hb464
    ·rw [hb464]
     replace h := Sh.if_t h hb464
     refine AR.skip rfl <| AR.keep [1, 2, 3, 30, 31] rfl <| AR.skip rfl <| AR.op rfl (aop_pick rfl rfl rfl) <| AR.op rfl (aop_move (.inl rfl) rfl) <| AR.keep [1, 2, 3, 34] rfl <| AR.skip rfl <| AR.skip rfl ?_
     refine AR.skip rfl <| AR.keep [1, 2, 3, 34, 35, 37] rfl <| AR.skip rfl <| AR.skip rfl <| AR.op rfl (aop_pick rfl rfl rfl) <| AR.keep [1, 2, 3, 40] rfl <| AR.op rfl (aop_move (.inl rfl) rfl) <| AR.skip rfl ?_
     refine AR.skip rfl <| AR.keep [1, 2, 3, 41, 43] rfl <| AR.op rfl (aop_pick rfl rfl rfl) <| AR.op rfl (aop_move (.inl rfl) rfl) <| AR.skip rfl <| AR.keep [1, 2, 3, 45, 46] rfl <| AR.skip rfl <| AR.skip rfl ?_
     refine AR.skip rfl <| AR.keep [1, 2, 3, 45, 46, 49] rfl <| AR.skip rfl <| AR.op rfl (aop_pick rfl rfl rfl) <| AR.nil ?_
     exact hK25 true _ h (Weak.kt [1, 2, 3, 51] rfl)
    ·rw [hb464]
     replace h := Sh.if_f h hb464
     refine AR.op rfl (aop_move (.inl rfl) rfl) <| AR.keep [1, 2, 3, 30, 31] rfl <| AR.op rfl (aop_lss rfl rfl rfl) <| AR.op rfl (aop_pick rfl rfl rfl) <| AR.op rfl (aop_move (.inl rfl) rfl) <| AR.keep [1, 2, 3, 34] rfl ?_
     rcases Bool.eq_false_or_eq_true (decide (a_1 < 0)) with hb465 | hb465
     ·rw [hb465]
      replace h := Sh.if_t h hb465
      refine AR.skip rfl <| AR.skip rfl <| AR.skip rfl <| AR.keep [1, 2, 3, 34, 35, 37] rfl <| AR.skip rfl <| AR.skip rfl <| AR.op rfl (aop_pick rfl rfl rfl) <| AR.keep [1, 2, 3, 40] rfl ?_
      refine AR.op rfl (aop_move (.inl rfl) rfl) <| AR.skip rfl <| AR.skip rfl <| AR.keep [1, 2, 3, 41, 43] rfl <| AR.op rfl (aop_pick rfl rfl rfl) <| AR.op rfl (aop_move (.inl rfl) rfl) <| AR.skip rfl <| AR.keep [1, 2, 3, 45, 46] rfl ?_
      refine AR.skip rfl <| AR.skip rfl <| AR.skip rfl <| AR.keep [1, 2, 3, 45, 46, 49] rfl <| AR.skip rfl <| AR.op rfl (aop_pick rfl rfl rfl) <| AR.nil ?_
      exact hK25 true _ h (Weak.kt [1, 2, 3, 51] rfl)
     ·rw [hb465]
      replace h := Sh.if_f h hb465
      refine AR.op rfl (aop_move (.inl rfl) rfl) <| AR.op rfl (aop_field_pp rfl rfl fd24_0 (by decide)) <| AR.op (r := .sl (List.map G.api_Txn.av h_0.Txns)) rfl (aop_load_pp rfl rfl sz22 rfl) <| AR.keep [1, 2, 3, 34, 35, 37] rfl <| AR.op rfl (t_len_sl G.api_Txn.av h_0.Txns rfl rfl el22) <| AR.op rfl (aop_geq rfl rfl rfl) <| AR.op rfl (aop_pick rfl rfl rfl) <| AR.keep [1, 2, 3, 40] rfl ?_
      refine AR.op rfl (aop_move (.inl rfl) rfl) ?_
      rcases Bool.eq_false_or_eq_true (decide ((Sh.len h_0.Txns) ≤ a_1)) with hb466 | hb466
      ·rw [hb466]
       replace h := Sh.if_t h hb466
       refine AR.skip rfl <| AR.skip rfl <| AR.keep [1, 2, 3, 41, 43] rfl <| AR.op rfl (aop_pick rfl rfl rfl) <| AR.op rfl (aop_move (.inl rfl) rfl) <| AR.skip rfl <| AR.keep [1, 2, 3, 45, 46] rfl <| AR.skip rfl ?_
       refine AR.skip rfl <| AR.skip rfl <| AR.keep [1, 2, 3, 45, 46, 49] rfl <| AR.skip rfl <| AR.op rfl (aop_pick rfl rfl rfl) <| AR.nil ?_
       exact hK25 true _ h (Weak.kt [1, 2, 3, 51] rfl)
      ·rw [hb466]
       replace h := Sh.if_f h hb466
       refine AR.op rfl (aop_move (.inl rfl) rfl) <| AR.op rfl (aop_lss rfl rfl rfl) <| AR.keep [1, 2, 3, 41, 43] rfl <| AR.op rfl (aop_pick rfl rfl rfl) <| AR.op rfl (aop_move (.inl rfl) rfl) ?_
       rcases Bool.eq_false_or_eq_true (decide (b_2 < 0)) with hb467 | hb467
       ·rw [hb467]
        replace h := Sh.if_t h hb467
        refine AR.skip rfl <| AR.keep [1, 2, 3, 45, 46] rfl <| AR.skip rfl <| AR.skip rfl <| AR.skip rfl <| AR.keep [1, 2, 3, 45, 46, 49] rfl <| AR.skip rfl <| AR.op rfl (aop_pick rfl rfl rfl) ?_
        refine AR.nil ?_
        exact hK25 true _ h (Weak.kt [1, 2, 3, 51] rfl)
       ·rw [hb467]
        replace h := Sh.if_f h hb467
        refine AR.op rfl (aop_move (.inl rfl) rfl) <| AR.keep [1, 2, 3, 45, 46] rfl <| AR.op rfl (aop_field_pp rfl rfl fd24_0 (by decide)) <| AR.op (r := .sl (List.map G.api_Txn.av h_0.Txns)) rfl (aop_load_pp rfl rfl sz22 rfl) <| AR.op rfl (t_len_sl G.api_Txn.av h_0.Txns rfl rfl el22) <| AR.keep [1, 2, 3, 45, 46, 49] rfl <| AR.op rfl (aop_geq rfl rfl rfl) <| AR.op rfl (aop_pick rfl rfl rfl) ?_
        refine AR.nil ?_
        exact hK25 (decide ((Sh.len h_0.Txns) ≤ b_2)) _ h (Weak.e (fr' := [(1, i64 a_1), (2, i64 b_2), (3, .pp [.sl (List.map G.api_Txn.av h_0.Txns)] 0), (51, bl (decide ((Sh.len h_0.Txns) ≤ b_2)))]) (H' := .empty) ⟨.k, .k, .k, .k, trivial⟩)
theorem inquestlaw17_KnownReads_ok {W0 : World} (hT : Tab W0) {h_0 : G.api_Hist} {a_1 : Int} {b_2 : Int} {r : Bool} (h : G.inquestlaw17_KnownReads h_0 a_1 b_2 = some r) : Fun1 Tryd.prog W0 5 [G.api_Hist.av h_0, i64 a_1, i64 b_2] (bl r) := Fun1.two (inquestlaw17_KnownReads_ok0 hT h) (by simp)

end Wk
