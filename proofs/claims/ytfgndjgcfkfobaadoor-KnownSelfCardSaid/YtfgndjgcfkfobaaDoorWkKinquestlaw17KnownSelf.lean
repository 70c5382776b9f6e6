/- That a statement does what its plain function says. -/
import Derived.Test.YtfgndjgcfkfobaaDoorWkKinquestlaw17
open Go Go.Av Go.Proofs
set_option linter.unusedVariables false
set_option maxHeartbeats 8000000
set_option maxRecDepth 20000
namespace Wk
theorem inquestlaw17_KnownSelf_ok0 {W0 : World} (hT : Tab W0) {h_0 : G.api_Hist} {r : Bool} (h : G.inquestlaw17_KnownSelf h_0 = some r) : Fun2 Tryd.prog W0 4 [G.api_Hist.av h_0] (bl r) .empty := by
 refine fun2_of_awp Tryd.func4 rfl (by kernel_rfl) Tryd.ntmps4 (by simp) ?_
 unfold G.inquestlaw17_KnownSelf at h
 show AWP _ _ _ _ ⟨[(0, G.api_Hist.av h_0)], .empty⟩ _
 refine awp_seqK fun K1 hK1 => awp_reg rfl <| AR.op (r := .ref 0 0 0) rfl (aop_box 1 [G.api_Hist.av h_0] rfl rfl rfl (.inl ⟨rfl, rfl⟩)) <| AR.op rfl (aop_move (.inr rfl) rfl) <| AR.nil <| hK1 _ (AWP.weak (Weak.e (fr' := [(1, .pp [.sl (List.map G.api_Txn.av h_0.Txns)] 0)]) (H' := .empty) ⟨⟨_, rfl, .frzA rfl rfl rfl rfl (by simp)⟩, trivial⟩) ?_)
 refine awp_seqK fun K2 hK2 => awp_reg rfl ?_
 obtain ⟨r66, hr66, h⟩ := Sh.bind_some' h
 refine AR.op (r := bl r66) rfl (aop_call1 rfl rfl (by simp) (inquestlaw17_awake_ok hT hr66)) <| AR.op rfl (aop_move (.inr rfl) rfl) <| AR.nil <| hK2 _ (AWP.weak (Weak.kt [1, 3] rfl) ?_)
 refine awp_seqK fun K3 hK3 => awp_seqK fun K4 hK4 => awp_reg rfl <| AR.op rfl (aop_move (.inl rfl) rfl) <| AR.op (r := bl (!r66)) rfl (aop_not rfl rfl) <| AR.nil <| hK4 _ (AWP.weak (Weak.kt [1, 14] rfl) ?_)
 refine awp_cond rfl (fun hb67 => ?_) (fun hb67 => ?_)
 ·replace h := Sh.if_t h hb67
  refine awp_seqK fun K5 hK5 => awp_reg rfl <| AR.op rfl (aop_move (.inr rfl) rfl) <| AR.nil <| hK5 _ (AWP.weak (Weak.kt [2] rfl) ?_)
  refine awp_ret ?_
  obtain rfl := Option.some.inj h
  refine ⟨.inr rfl, bl false, rfl, ?_⟩
  exact Weak.e ⟨.k, trivial⟩
 ·replace h := Sh.if_f h hb67
  refine awp_skip <| hK3 _ (AWP.weak (Weak.kt [1] rfl) ?_)
  refine awp_seqK fun K6 hK6 => awp_reg rfl <| AR.op (r := G.api_Hist.av h_0) rfl (aop_load_pp rfl rfl sz24 rfl) ?_
  obtain ⟨r69, hr69, h⟩ := Sh.bind_some' h
  refine AR.op (r := bl r69) rfl (aop_call1 rfl rfl (by simp) (inquestref08_Few_ok hT hr69)) <| AR.op rfl (aop_move (.inr rfl) rfl) <| AR.nil <| hK6 _ (AWP.weak (Weak.kt [1, 4] rfl) ?_)
  refine awp_seqK fun K7 hK7 => awp_seqJ (fun (p : Bool) => (⟨[(1, .pp [.sl (List.map G.api_Txn.av h_0.Txns)] 0), (23, bl p)], .empty⟩ : St)) (fun (p : Bool) => G.inquestlaw17_KnownSelf_j1 h_0 p = some r) ?_ ?_
  ·rintro v75 h
   replace h : G.inquestlaw17_KnownSelf_j1 h_0 v75 = some r := h
   unfold G.inquestlaw17_KnownSelf_j1 at h
   show AWP _ _ _ _ ⟨[(1, .pp [.sl (List.map G.api_Txn.av h_0.Txns)] 0), (23, bl v75)], .empty⟩ _
   refine awp_cond rfl (fun hb76 => ?_) (fun hb76 => ?_)
   ·replace h := Sh.if_t h hb76
    refine awp_seqK fun K8 hK8 => awp_reg rfl <| AR.op rfl (aop_move (.inr rfl) rfl) <| AR.nil <| hK8 _ (AWP.weak (Weak.kt [2] rfl) ?_)
    refine awp_ret ?_
    obtain rfl := Option.some.inj h
    refine ⟨.inr rfl, bl true, rfl, ?_⟩
    exact Weak.e ⟨.k, trivial⟩
   ·replace h := Sh.if_f h hb76
    refine awp_skip <| hK7 _ (AWP.weak (Weak.kt [1] rfl) ?_)
    refine awp_seqK fun K9 hK9 => awp_reg rfl <| AR.op (r := G.api_Hist.av h_0) rfl (aop_load_pp rfl rfl sz24 rfl) ?_
    obtain ⟨r78, hr78, h⟩ := Sh.bind_some' h
    refine AR.op (r := G.graph_Graph.av r78) rfl (aop_call1 rfl rfl (by simp) (known_So_ok hT hr78)) <| AR.op (r := .ref 0 0 0) rfl (aop_alloc 2 [.agg [i64 0, nilS]] rfl zr31 (by kernel_rfl) (.inl ⟨rfl, rfl⟩)) <| AR.keep [1, 25, 5] rfl <| AR.op rfl (aop_store (e' := G.graph_Graph.av r78) rfl rfl rfl rfl rfl rfl sz31 rfl dt rfl) <| AR.nil <| hK9 _ (AWP.weak (Weak.e (fr' := [(1, .pp [.sl (List.map G.api_Txn.av h_0.Txns)] 0), (5, .pp [i64 r78.N, .sl (List.map u64 r78.Rows)] 0)]) (H' := .empty) ⟨.k, ⟨_, rfl, .frzA rfl rfl rfl rfl (by simp)⟩, trivial⟩) ?_)
    refine awp_seqK fun K10 hK10 => awp_reg rfl <| AR.op (r := G.api_Hist.av h_0) rfl (aop_load_pp rfl rfl sz24 rfl) ?_
    obtain ⟨r80, hr80, h⟩ := Sh.bind_some' h
    refine AR.op (r := G.graph_Graph.av r80) rfl (aop_call1 rfl rfl (by simp) (known_Wr_ok hT hr80)) <| AR.op (r := .ref 0 0 0) rfl (aop_alloc 2 [.agg [i64 0, nilS]] rfl zr31 (by kernel_rfl) (.inl ⟨rfl, rfl⟩)) <| AR.keep [1, 5, 27, 6] rfl <| AR.op rfl (aop_store (e' := G.graph_Graph.av r80) rfl rfl rfl rfl rfl rfl sz31 rfl dt rfl) <| AR.nil <| hK10 _ (AWP.weak (Weak.e (fr' := [(1, .pp [.sl (List.map G.api_Txn.av h_0.Txns)] 0), (5, .pp [i64 r78.N, .sl (List.map u64 r78.Rows)] 0), (6, .pp [i64 r80.N, .sl (List.map u64 r80.Rows)] 0)]) (H' := .empty) ⟨.k, .k, ⟨_, rfl, .frzA rfl rfl rfl rfl (by simp)⟩, trivial⟩) ?_)
    refine awp_seqK fun K11 hK11 => awp_reg rfl <| AR.op (r := G.api_Hist.av h_0) rfl (aop_load_pp rfl rfl sz24 rfl) ?_
    obtain ⟨r82, hr82, h⟩ := Sh.bind_some' h
    refine AR.op (r := G.graph_Graph.av r82) rfl (aop_call1 rfl rfl (by simp) (known_Init_ok hT hr82)) <| AR.op (r := .ref 0 0 0) rfl (aop_alloc 2 [.agg [i64 0, nilS]] rfl zr31 (by kernel_rfl) (.inl ⟨rfl, rfl⟩)) <| AR.keep [1, 5, 6, 29, 7] rfl <| AR.op rfl (aop_store (e' := G.graph_Graph.av r82) rfl rfl rfl rfl rfl rfl sz31 rfl dt rfl) <| AR.nil <| hK11 _ (AWP.weak (Weak.e (fr' := [(1, .pp [.sl (List.map G.api_Txn.av h_0.Txns)] 0), (5, .pp [i64 r78.N, .sl (List.map u64 r78.Rows)] 0), (6, .pp [i64 r80.N, .sl (List.map u64 r80.Rows)] 0), (7, .pp [i64 r82.N, .sl (List.map u64 r82.Rows)] 0)]) (H' := .empty) ⟨.k, .k, .k, ⟨_, rfl, .frzA rfl rfl rfl rfl (by simp)⟩, trivial⟩) ?_)
    refine awp_seqK fun K12 hK12 => awp_reg rfl <| AR.op (r := G.api_Hist.av h_0) rfl (aop_load_pp rfl rfl sz24 rfl) ?_
    obtain ⟨r84, hr84, h⟩ := Sh.bind_some' h
    refine AR.op (r := G.graph_Graph.av r84) rfl (aop_call1 rfl rfl (by simp) (known_Past_ok hT hr84)) <| AR.op (r := .ref 0 0 0) rfl (aop_alloc 2 [.agg [i64 0, nilS]] rfl zr31 (by kernel_rfl) (.inl ⟨rfl, rfl⟩)) <| AR.keep [1, 5, 6, 7, 31, 8] rfl <| AR.op rfl (aop_store (e' := G.graph_Graph.av r84) rfl rfl rfl rfl rfl rfl sz31 rfl dt rfl) <| AR.nil <| hK12 _ (AWP.weak (Weak.e (fr' := [(1, .pp [.sl (List.map G.api_Txn.av h_0.Txns)] 0), (5, .pp [i64 r78.N, .sl (List.map u64 r78.Rows)] 0), (6, .pp [i64 r80.N, .sl (List.map u64 r80.Rows)] 0), (7, .pp [i64 r82.N, .sl (List.map u64 r82.Rows)] 0), (8, .pp [i64 r84.N, .sl (List.map u64 r84.Rows)] 0)]) (H' := .empty) ⟨.k, .k, .k, .k, ⟨_, rfl, .frzA rfl rfl rfl rfl (by simp)⟩, trivial⟩) ?_)
    refine awp_seqJ (fun (p : Unit) => (⟨[(1, .pp [.sl (List.map G.api_Txn.av h_0.Txns)] 0), (5, .pp [i64 r78.N, .sl (List.map u64 r78.Rows)] 0)], .empty⟩ : St)) (fun (p : Unit) => G.inquestlaw17_KnownSelf_j2 h_0 r78 = some r) ?_ ?_
    ·rintro ⟨⟩ h
     replace h : G.inquestlaw17_KnownSelf_j2 h_0 r78 = some r := h
     unfold G.inquestlaw17_KnownSelf_j2 at h
     show AWP _ _ _ _ ⟨[(1, .pp [.sl (List.map G.api_Txn.av h_0.Txns)] 0), (5, .pp [i64 r78.N, .sl (List.map u64 r78.Rows)] 0)], .empty⟩ _
     refine awp_seqK fun K13 hK13 => awp_reg rfl <| AR.op (r := .ref 0 0 0) rfl (aop_alloc 1 [.agg [nilS]] rfl zr24 (by kernel_rfl) (.inl ⟨rfl, rfl⟩)) <| AR.nil <| hK13 _ ?_
     refine awp_seqJ (fun (p : G.api_Hist) => (⟨[(5, .pp [i64 r78.N, .sl (List.map u64 r78.Rows)] 0), (10, .ref 0 0 0)], ⟨1, [(0, (1, [G.api_Hist.av p]))], []⟩⟩ : St)) (fun (p : G.api_Hist) => G.inquestlaw17_KnownSelf_j3 r78 p = some r) ?_ ?_
     ·rintro v130 h
      replace h : G.inquestlaw17_KnownSelf_j3 r78 v130 = some r := h
      unfold G.inquestlaw17_KnownSelf_j3 at h
      show AWP _ _ _ _ ⟨[(5, .pp [i64 r78.N, .sl (List.map u64 r78.Rows)] 0), (10, .ref 0 0 0)], ⟨1, [(0, (1, [G.api_Hist.av v130]))], []⟩⟩ _
      refine awp_seqK fun K14 hK14 => awp_any [(false, false), (true, false), (true, false), (true, false), (false, false), (true, false), (true, false), (true, false), (true, false), (true, false), (true, false), (false, false), (true, false), (true, false), (true, false), (true, false), (true, false), (true, false), (true, false)] (by kernel_rfl) (by kernel_rfl) rfl ?_
      refine ARH.op (r := G.api_Hist.av v130) rfl rfl (aop_load_ref rfl rfl rfl rfl sz24 rfl) ?_
      obtain ⟨r140, hr140, h⟩ := Sh.bind_some' h
      refine ARH.dry (r := G.graph_Graph.av r140) rfl (fun _ => aop_call1 rfl rfl (by simp) (known_Wr_ok hT hr140)) ?_
      obtain ⟨r141, hr141, h⟩ := Sh.bind_some' h
      refine ARH.dry (r := .sl (List.map G.graph_Edge.av r141)) rfl (fun _ => aop_call1 rfl rfl (by simp) (graph_Edges_ok hT hr141)) <| ARH.keep [5, 10, 88] rfl <| ARH.dry rfl (fun _ => t_len_sl G.graph_Edge.av r141 rfl rfl el41) <| ARH.op (r := G.api_Hist.av v130) rfl rfl (aop_load_ref rfl rfl rfl rfl sz24 rfl) ?_
      obtain ⟨r142, hr142, h⟩ := Sh.bind_some' h
      refine ARH.dry (r := G.graph_Graph.av r142) rfl (fun _ => aop_call1 rfl rfl (by simp) (known_Init_ok hT hr142)) <| ARH.keep [5, 10, 89, 91] rfl ?_
      obtain ⟨r143, hr143, h⟩ := Sh.bind_some' h
      refine ARH.dry (r := .sl (List.map G.graph_Edge.av r143)) rfl (fun _ => aop_call1 rfl rfl (by simp) (graph_Edges_ok hT hr143)) <| ARH.dry rfl (fun _ => t_len_sl G.graph_Edge.av r143 rfl rfl el41) <| ARH.dry rfl (fun _ => aop_add rfl rfl rfl rfl) <| ARH.keep [5, 10, 94] rfl <| ARH.dry (r := bl (decide ((w64 ((Sh.len r141) + (Sh.len r143))) = 0))) rfl (fun _ => aop_eql rfl rfl rfl) <| ARH.dry rfl (fun _ => aop_move (.inl rfl) rfl) ?_
      rcases Bool.eq_false_or_eq_true (decide ((w64 ((Sh.len r141) + (Sh.len r143))) = 0)) with hb144 | hb144
      ·rw [hb144]
       replace h := Sh.if_t h hb144
       refine ARH.op (r := G.api_Hist.av v130) rfl rfl (aop_load_ref rfl rfl rfl rfl sz24 rfl) <| ARH.keep [5, 96, 97] rfl ?_
       obtain ⟨r145, hr145, h⟩ := Sh.bind_some' h
       refine ARH.dry (r := G.graph_Graph.av r145) rfl (fun _ => aop_call1 rfl rfl (by simp) (known_Past_ok hT hr145)) ?_
       obtain ⟨r146, hr146, h⟩ := Sh.bind_some' h
       refine ARH.dry (r := G.inquestref12_G.av r146) rfl (fun _ => aop_call1 rfl rfl (by simp) (inquestlaw17_plain_ok hT hr146)) <| ARH.dry (r := G.graph_Graph.av r78) rfl (fun _ => aop_load_pp rfl rfl sz31 rfl) <| ARH.keep [96, 99, 100] rfl ?_
       obtain ⟨r147, hr147, h⟩ := Sh.bind_some' h
       refine ARH.dry (r := G.inquestref12_G.av r147) rfl (fun _ => aop_call1 rfl rfl (by simp) (inquestlaw17_plain_ok hT hr147)) ?_
       obtain ⟨r148, hr148, h⟩ := Sh.bind_some' h
       refine ARH.dry (r := bl r148) rfl (fun _ => aop_call1 rfl rfl (by simp) (inquestref12_Same_ok hT hr148)) <| ARH.dry rfl (fun _ => aop_pick rfl rfl rfl) <| ARH.keep [103] rfl <| ARH.dry rfl (fun _ => aop_move (.inr rfl) rfl) <| ARH.nil <| hK14 _ (AWP.weak (Weak.e (fr' := [(2, bl r148)]) (H' := .empty) ⟨.k, trivial⟩) ?_)
       refine awp_ret ?_
       obtain rfl := Option.some.inj h
       refine ⟨.inr rfl, bl r148, rfl, ?_⟩
       exact Weak.e ⟨.k, trivial⟩
      ·rw [hb144]
       replace h := Sh.if_f h hb144
       refine ARH.skip rfl <| ARH.keep [5, 96, 97] rfl <| ARH.skip rfl <| ARH.skip rfl <| ARH.skip rfl <| ARH.keep [96, 99, 100] rfl <| ARH.skip rfl <| ARH.skip rfl ?_
       refine ARH.dry rfl (fun _ => aop_pick rfl rfl rfl) <| ARH.keep [103] rfl <| ARH.dry rfl (fun _ => aop_move (.inr rfl) rfl) <| ARH.nil <| hK14 _ (AWP.weak (Weak.e (fr' := [(2, bl false)]) (H' := .empty) ⟨.k, trivial⟩) ?_)
       refine awp_ret ?_
       obtain rfl := Option.some.inj h
       refine ⟨.inr rfl, bl false, rfl, ?_⟩
       exact Weak.e ⟨.k, trivial⟩
     ·intro K15 hK15
      refine awp_seqK fun K16 hK16 => awp_reg rfl <| AR.op rfl (aop_move (.inr rfl) rfl) <| AR.nil <| hK16 _ ?_
      refine awp_block <| awp_iter (fun (p : (List G.api_Txn) × Int) => G.inquestlaw17_KnownSelf_b1 h_0 r78 p.1 p.2) (fun (p : (List G.api_Txn) × Int) => (⟨[(1, .pp [.sl (List.map G.api_Txn.av h_0.Txns)] 0), (5, .pp [i64 r78.N, .sl (List.map u64 r78.Rows)] 0), (10, .ref 0 0 0), (11, i64 p.2)], ⟨2, [(0, (1, [.agg [.view 1 0 (List.map G.api_Txn.av p.1).length]])), (1, (3, List.map G.api_Txn.av p.1))], []⟩⟩ : St)) h (Weak.re (fr' := [(1, .pp [.sl (List.map G.api_Txn.av h_0.Txns)] 0), (5, .pp [i64 r78.N, .sl (List.map u64 r78.Rows)] 0), (10, .ref 0 0 0), (11, i64 0)]) (H' := ⟨2, [(0, (1, [.agg [.view 1 0 (List.map G.api_Txn.av []).length]])), (1, (3, List.map G.api_Txn.av []))], []⟩) [(0, 0)] [1] rfl rfl rfl (.cons rfl rfl (.one (.ag ⟨.nil (by simp), trivial⟩) rfl) dt (.fresh (by simp) dt trivial)) ⟨.k, .k, ⟨_, rfl, .ref rfl⟩, .k, trivial⟩) ?_
      ·skip
       rintro ⟨bareTxns161, n162⟩ o1 h hx1
       replace h : G.inquestlaw17_KnownSelf_b1 h_0 r78 bareTxns161 n162 = some o1 := h
       unfold G.inquestlaw17_KnownSelf_b1 at h
       show AWP _ _ _ _ ⟨[(1, .pp [.sl (List.map G.api_Txn.av h_0.Txns)] 0), (5, .pp [i64 r78.N, .sl (List.map u64 r78.Rows)] 0), (10, .ref 0 0 0), (11, i64 n162)], ⟨2, [(0, (1, [.agg [.view 1 0 (List.map G.api_Txn.av bareTxns161).length]])), (1, (3, List.map G.api_Txn.av bareTxns161))], []⟩⟩ _
       refine awp_seqK fun K17 hK17 => awp_seqK fun K18 hK18 => awp_reg rfl <| AR.op rfl (aop_move (.inl rfl) rfl) <| AR.op rfl (aop_field_pp rfl rfl fd24_0 (by decide)) <| AR.op (r := .sl (List.map G.api_Txn.av h_0.Txns)) rfl (aop_load_pp rfl rfl sz22 rfl) <| AR.keep [1, 5, 10, 11, 61, 63] rfl <| AR.op rfl (t_len_sl G.api_Txn.av h_0.Txns rfl rfl el22) ?_
       refine AR.op rfl (aop_lss rfl rfl rfl) <| AR.nil <| hK18 _ (AWP.weak (Weak.re (fr' := [(1, .pp [.sl (List.map G.api_Txn.av h_0.Txns)] 0), (5, .pp [i64 r78.N, .sl (List.map u64 r78.Rows)] 0), (10, .ref 0 0 0), (11, i64 n162), (65, bl (decide (n162 < (Sh.len h_0.Txns))))]) (H' := ⟨2, [(0, (1, [.agg [.view 1 0 (List.map G.api_Txn.av bareTxns161).length]])), (1, (3, List.map G.api_Txn.av bareTxns161))], []⟩) [(0, 0), (1, 1)] [] rfl rfl rfl (.cons rfl rfl (.one (.ag ⟨.view rfl, trivial⟩) rfl) dt (.cons rfl rfl (.same (by simp)) dt trivial)) ⟨.k, .k, ⟨_, rfl, .ref rfl⟩, .k, .k, trivial⟩) ?_)
       refine awp_cond rfl (fun hb163 => ?_) (fun hb163 => ?_)
       ·replace h := Sh.if_t h hb163
        refine awp_skip <| hK17 _ (AWP.weak (Weak.re (fr' := [(1, .pp [.sl (List.map G.api_Txn.av h_0.Txns)] 0), (5, .pp [i64 r78.N, .sl (List.map u64 r78.Rows)] 0), (10, .ref 0 0 0), (11, i64 n162)]) (H' := ⟨2, [(0, (1, [.agg [.view 1 0 (List.map G.api_Txn.av bareTxns161).length]])), (1, (3, List.map G.api_Txn.av bareTxns161))], []⟩) [(0, 0), (1, 1)] [] rfl rfl rfl (.cons rfl rfl (.one (.ag ⟨.view rfl, trivial⟩) rfl) dt (.cons rfl rfl (.same (by simp)) dt trivial)) ⟨.k, .k, ⟨_, rfl, .ref rfl⟩, .k, trivial⟩) ?_)
        refine awp_seqK fun K19 hK19 => awp_block <| awp_any [(false, false), (false, false), (true, false), (true, false), (true, false), (true, false), (true, false), (true, false), (true, false), (true, false), (true, false), (true, false), (true, false), (true, false), (true, false), (true, false), (false, true), (false, false), (false, true)] (by kernel_rfl) (by kernel_rfl) rfl ?_
        refine ARH.op rfl rfl (aop_field_ref rfl rfl rfl fd24_0 (by decide)) <| ARH.op (r := .view 1 0 (List.map G.api_Txn.av bareTxns161).length) rfl rfl (aop_load_ref rfl rfl rfl rfl sz22 rfl) <| ARH.dry rfl (fun _ => aop_field_pp rfl rfl fd24_0 (by decide)) <| ARH.keep [1, 5, 10, 11, 69, 70] rfl <| ARH.dry (r := .sl (List.map G.api_Txn.av h_0.Txns)) rfl (fun _ => aop_load_pp rfl rfl sz22 rfl) <| ARH.dry rfl (fun _ => aop_move (.inl rfl) rfl) ?_
        obtain ⟨x169, hx169, h⟩ := Sh.bind_some' h
        obtain ⟨k170, hi170, hl170⟩ := Sh.idx_some hx169
        refine ARH.dry rfl (fun _ => t_index_sl G.api_Txn.av h_0.Txns hi170 hl170 rfl rfl rfl el22 rfl) <| ARH.keep [1, 5, 10, 11, 69, 73] rfl <| ARH.dry rfl (fun _ => aop_field_pp rfl rfl fd40_0 (by decide)) <| ARH.dry (r := i64 x169.Session) rfl (fun _ => aop_load_pp rfl rfl sz3 rfl) <| ARH.dry rfl (fun _ => aop_field_pp rfl rfl fd24_0 (by decide)) <| ARH.keep [1, 5, 10, 11, 69, 75, 76] rfl <| ARH.dry (r := .sl (List.map G.api_Txn.av h_0.Txns)) rfl (fun _ => aop_load_pp rfl rfl sz22 rfl) <| ARH.dry rfl (fun _ => aop_move (.inl rfl) rfl) ?_
        obtain ⟨x171, hx171, h⟩ := Sh.bind_some' h
        obtain ⟨k172, hi172, hl172⟩ := Sh.idx_some hx171
        refine ARH.dry rfl (fun _ => t_index_sl G.api_Txn.av h_0.Txns hi172 hl172 rfl rfl rfl el22 rfl) <| ARH.keep [1, 5, 10, 11, 69, 75, 79] rfl <| ARH.dry rfl (fun _ => aop_field_pp rfl rfl fd40_1 (by decide)) <| ARH.dry (r := .sl (List.map i64 x171.Writes)) rfl (fun _ => aop_load_pp rfl rfl sz37 rfl) <| ARH.dry (r := .agg [i64 x169.Session, .sl (List.map i64 x171.Writes), nilS]) rfl (fun _ => aop_build rfl bd40 rfl rfl rfl) <| ARH.keep [1, 5, 10, 11, 69, 82] rfl <| ARH.dry (r := .clip (List.map G.api_Txn.av ([(G.api_Txn.mk x169.Session x171.Writes [])] : List G.api_Txn))) rfl (fun _ => (aop_buildSlice (xs := [.agg [i64 x169.Session, .sl (List.map i64 x171.Writes), nilS]]) rfl (xo := [.tmp 82]) rfl rfl rfl (by simp [AV.solid]) (by simp [AV.flat]) el22 ze22 (by decide)).clipw ⟨⟨.same _, .same _, .nil, trivial⟩, trivial⟩) ?_
        obtain ⟨l173, hl173, h⟩ := Sh.bind_some' h
        refine ARH.loud (r := .view 2 0 (List.map G.api_Txn.av l173).length) rfl rfl (t_app_view G.api_Txn.av bareTxns161 ([(G.api_Txn.mk x169.Session x171.Writes [])] : List G.api_Txn) l173 hl173 rfl et22 (fun _ => rfl) rfl rfl rfl rfl rfl rfl rfl) <| ARH.op rfl rfl (aop_field_ref rfl rfl rfl fd24_0 (by decide)) <| ARH.keep [1, 5, 10, 11, 84, 85] rfl <| ARH.loud rfl rfl (aop_store (e' := .agg [.view 2 0 (List.map G.api_Txn.av l173).length]) rfl rfl rfl rfl rfl rfl sz22 rfl dt rfl) <| ARH.nil <| hK19 _ (AWP.weak (Weak.re (fr' := [(1, .pp [.sl (List.map G.api_Txn.av h_0.Txns)] 0), (5, .pp [i64 r78.N, .sl (List.map u64 r78.Rows)] 0), (10, .ref 0 0 0), (11, i64 n162)]) (H' := ⟨2, [(0, (1, [.agg [.view 1 0 (List.map G.api_Txn.av l173).length]])), (1, (3, List.map G.api_Txn.av l173))], []⟩) [(0, 0), (1, 2)] [] rfl rfl rfl (.cons rfl rfl (.one (.ag ⟨.view rfl, trivial⟩) rfl) dt (.cons rfl rfl (.same (by simp)) dt trivial)) ⟨.k, .k, ⟨_, rfl, .ref rfl⟩, .k, trivial⟩) ?_)
        refine awp_reg rfl <| AR.op rfl (aop_move (.inl rfl) rfl) <| AR.op rfl (aop_add rfl rfl rfl rfl) <| AR.op rfl (aop_move (.inr rfl) rfl) <| AR.nil ?_
        replace h := Sh.next_eq h
        exact ⟨_, h, Weak.re (fr' := [(1, .pp [.sl (List.map G.api_Txn.av h_0.Txns)] 0), (5, .pp [i64 r78.N, .sl (List.map u64 r78.Rows)] 0), (10, .ref 0 0 0), (11, i64 (w64 (n162 + 1)))]) (H' := ⟨2, [(0, (1, [.agg [.view 1 0 (List.map G.api_Txn.av l173).length]])), (1, (3, List.map G.api_Txn.av l173))], []⟩) [(0, 0), (1, 1)] [] rfl rfl rfl (.cons rfl rfl (.one (.ag ⟨.view rfl, trivial⟩) rfl) dt (.cons rfl rfl (.same (by simp)) dt trivial)) ⟨.k, .k, ⟨_, rfl, .ref rfl⟩, .k, trivial⟩⟩
       ·replace h := Sh.if_f h hb163
        refine awp_exit ?_
        replace h := Sh.exit_eq h hx1
        exact hK15 (G.api_Hist.mk bareTxns161) _ h (Weak.re (fr' := [(5, .pp [i64 r78.N, .sl (List.map u64 r78.Rows)] 0), (10, .ref 0 0 0)]) (H' := ⟨1, [(0, (1, [G.api_Hist.av (G.api_Hist.mk bareTxns161)]))], []⟩) [(0, 0)] [] rfl rfl rfl (.cons rfl rfl (.one (.ag ⟨.lendAll rfl rfl (by simp), trivial⟩) rfl) dt trivial) ⟨.k, ⟨_, rfl, .ref rfl⟩, trivial⟩)
    ·intro K20 hK20
     refine awp_seqK fun K21 hK21 => awp_reg rfl <| AR.op rfl (aop_move (.inr rfl) rfl) <| AR.nil <| hK21 _ ?_
     refine awp_block <| awp_iter (fun (p : Int) => G.inquestlaw17_KnownSelf_b2 h_0 r78 r80 r82 r84 p) (fun (p : Int) => (⟨[(1, .pp [.sl (List.map G.api_Txn.av h_0.Txns)] 0), (5, .pp [i64 r78.N, .sl (List.map u64 r78.Rows)] 0), (6, .pp [i64 r80.N, .sl (List.map u64 r80.Rows)] 0), (7, .pp [i64 r82.N, .sl (List.map u64 r82.Rows)] 0), (8, .pp [i64 r84.N, .sl (List.map u64 r84.Rows)] 0), (9, i64 p)], .empty⟩ : St)) h (Weak.kt [1, 5, 6, 7, 8, 9] rfl) ?_
     ·skip
      rintro n191 o2 h hx2
      replace h : G.inquestlaw17_KnownSelf_b2 h_0 r78 r80 r82 r84 n191 = some o2 := h
      unfold G.inquestlaw17_KnownSelf_b2 at h
      show AWP _ _ _ _ ⟨[(1, .pp [.sl (List.map G.api_Txn.av h_0.Txns)] 0), (5, .pp [i64 r78.N, .sl (List.map u64 r78.Rows)] 0), (6, .pp [i64 r80.N, .sl (List.map u64 r80.Rows)] 0), (7, .pp [i64 r82.N, .sl (List.map u64 r82.Rows)] 0), (8, .pp [i64 r84.N, .sl (List.map u64 r84.Rows)] 0), (9, i64 n191)], .empty⟩ _
      refine awp_seqK fun K22 hK22 => awp_seqK fun K23 hK23 => awp_reg rfl <| AR.op rfl (aop_move (.inl rfl) rfl) <| AR.op rfl (aop_field_pp rfl rfl fd24_0 (by decide)) <| AR.op (r := .sl (List.map G.api_Txn.av h_0.Txns)) rfl (aop_load_pp rfl rfl sz22 rfl) <| AR.keep [1, 5, 6, 7, 8, 9, 32, 34] rfl <| AR.op rfl (t_len_sl G.api_Txn.av h_0.Txns rfl rfl el22) ?_
      refine AR.op rfl (aop_lss rfl rfl rfl) <| AR.nil <| hK23 _ (AWP.weak (Weak.kt [1, 5, 6, 7, 8, 9, 36] rfl) ?_)
      refine awp_cond rfl (fun hb192 => ?_) (fun hb192 => ?_)
      ·replace h := Sh.if_t h hb192
       refine awp_skip <| hK22 _ (AWP.weak (Weak.kt [1, 5, 6, 7, 8, 9] rfl) ?_)
       refine awp_seqK fun K24 hK24 => awp_block <| awp_seqJ (fun (p : Bool) => (⟨[(1, .pp [.sl (List.map G.api_Txn.av h_0.Txns)] 0), (5, .pp [i64 r78.N, .sl (List.map u64 r78.Rows)] 0), (6, .pp [i64 r80.N, .sl (List.map u64 r80.Rows)] 0), (7, .pp [i64 r82.N, .sl (List.map u64 r82.Rows)] 0), (8, .pp [i64 r84.N, .sl (List.map u64 r84.Rows)] 0), (9, i64 n191), (60, bl p)], .empty⟩ : St)) (fun (p : Bool) => G.inquestlaw17_KnownSelf_j4 n191 p = some o2) ?_ ?_
       ·rintro v208 h
        replace h : G.inquestlaw17_KnownSelf_j4 n191 v208 = some o2 := h
        unfold G.inquestlaw17_KnownSelf_j4 at h
        show AWP _ _ _ _ ⟨[(1, .pp [.sl (List.map G.api_Txn.av h_0.Txns)] 0), (5, .pp [i64 r78.N, .sl (List.map u64 r78.Rows)] 0), (6, .pp [i64 r80.N, .sl (List.map u64 r80.Rows)] 0), (7, .pp [i64 r82.N, .sl (List.map u64 r82.Rows)] 0), (8, .pp [i64 r84.N, .sl (List.map u64 r84.Rows)] 0), (9, i64 n191), (60, bl v208)], .empty⟩ _
        refine awp_cond rfl (fun hb209 => ?_) (fun hb209 => ?_)
        ·replace h := Sh.if_t h hb209
         refine awp_seqK fun K25 hK25 => awp_reg rfl <| AR.op rfl (aop_move (.inr rfl) rfl) <| AR.nil <| hK25 _ (AWP.weak (Weak.kt [2] rfl) ?_)
         refine awp_ret ?_
         replace h := Sh.exit_eq h hx2
         obtain rfl := Option.some.inj h
         refine ⟨.inr rfl, bl false, rfl, ?_⟩
         exact Weak.e ⟨.k, trivial⟩
        ·replace h := Sh.if_f h hb209
         refine awp_skip <| hK24 _ (AWP.weak (Weak.kt [1, 5, 6, 7, 8, 9] rfl) ?_)
         refine awp_reg rfl <| AR.op rfl (aop_move (.inl rfl) rfl) <| AR.op rfl (aop_add rfl rfl rfl rfl) <| AR.op rfl (aop_move (.inr rfl) rfl) <| AR.nil ?_
         replace h := Sh.next_eq h
         exact ⟨_, h, Weak.e (fr' := [(1, .pp [.sl (List.map G.api_Txn.av h_0.Txns)] 0), (5, .pp [i64 r78.N, .sl (List.map u64 r78.Rows)] 0), (6, .pp [i64 r80.N, .sl (List.map u64 r80.Rows)] 0), (7, .pp [i64 r82.N, .sl (List.map u64 r82.Rows)] 0), (8, .pp [i64 r84.N, .sl (List.map u64 r84.Rows)] 0), (9, i64 (w64 (n191 + 1)))]) (H' := .empty) ⟨.k, .k, .k, .k, .k, .k, trivial⟩⟩
       ·intro K26 hK26
        refine awp_reg rfl <| AR.op (r := G.graph_Graph.av r78) rfl (aop_load_pp rfl rfl sz31 rfl) <| AR.op rfl (aop_move (.inl rfl) rfl) <| AR.op rfl (aop_move (.inl rfl) rfl) <| AR.keep [1, 5, 6, 7, 8, 9, 39, 40, 41] rfl ?_
        obtain ⟨r210, hr210, h⟩ := Sh.bind_some' h
        refine AR.op (r := bl r210) rfl (aop_call1 rfl rfl (by simp) (graph_Has_ok hT hr210)) <| AR.op rfl (aop_move (.inl rfl) rfl) ?_
        rcases Bool.eq_false_or_eq_true (r210) with hb211 | hb211
        ·rw [hb211]
         replace h := Sh.if_t h hb211
         refine AR.skip rfl <| AR.keep [1, 5, 6, 7, 8, 9, 43, 44] rfl <| AR.skip rfl <| AR.skip rfl <| AR.skip rfl <| AR.keep [1, 5, 6, 7, 8, 9, 43, 44, 45, 46, 47] rfl <| AR.op rfl (aop_pick rfl rfl rfl) <| AR.op rfl (aop_move (.inl rfl) rfl) ?_
         refine AR.skip rfl <| AR.keep [1, 5, 6, 7, 8, 9, 44, 45, 46, 47, 49, 50] rfl <| AR.skip rfl <| AR.skip rfl <| AR.skip rfl <| AR.keep [1, 5, 6, 7, 8, 9, 44, 45, 46, 47, 49, 50, 51, 52, 53] rfl <| AR.op rfl (aop_pick rfl rfl rfl) <| AR.op rfl (aop_move (.inl rfl) rfl) ?_
         refine AR.skip rfl <| AR.keep [1, 5, 6, 7, 8, 9, 44, 45, 46, 47, 50, 51, 52, 53, 55, 56] rfl <| AR.skip rfl <| AR.skip rfl <| AR.skip rfl <| AR.keep [1, 5, 6, 7, 8, 9, 44, 45, 46, 47, 50, 51, 52, 53, 55, 56, 57, 58, 59] rfl <| AR.op rfl (aop_pick rfl rfl rfl) <| AR.nil ?_
         exact hK26 true _ h (Weak.kt [1, 5, 6, 7, 8, 9, 60] rfl)
        ·rw [hb211]
         replace h := Sh.if_f h hb211
         refine AR.op (r := G.graph_Graph.av r80) rfl (aop_load_pp rfl rfl sz31 rfl) <| AR.keep [1, 5, 6, 7, 8, 9, 43, 44] rfl <| AR.op rfl (aop_move (.inl rfl) rfl) <| AR.op rfl (aop_move (.inl rfl) rfl) ?_
         obtain ⟨r212, hr212, h⟩ := Sh.bind_some' h
         refine AR.op (r := bl r212) rfl (aop_call1 rfl rfl (by simp) (graph_Has_ok hT hr212)) <| AR.keep [1, 5, 6, 7, 8, 9, 43, 44, 45, 46, 47] rfl <| AR.op rfl (aop_pick rfl rfl rfl) <| AR.op rfl (aop_move (.inl rfl) rfl) ?_
         rcases Bool.eq_false_or_eq_true (r212) with hb213 | hb213
         ·rw [hb213]
          replace h := Sh.if_t h hb213
          refine AR.skip rfl <| AR.keep [1, 5, 6, 7, 8, 9, 44, 45, 46, 47, 49, 50] rfl <| AR.skip rfl <| AR.skip rfl <| AR.skip rfl <| AR.keep [1, 5, 6, 7, 8, 9, 44, 45, 46, 47, 49, 50, 51, 52, 53] rfl <| AR.op rfl (aop_pick rfl rfl rfl) <| AR.op rfl (aop_move (.inl rfl) rfl) ?_
          refine AR.skip rfl <| AR.keep [1, 5, 6, 7, 8, 9, 44, 45, 46, 47, 50, 51, 52, 53, 55, 56] rfl <| AR.skip rfl <| AR.skip rfl <| AR.skip rfl <| AR.keep [1, 5, 6, 7, 8, 9, 44, 45, 46, 47, 50, 51, 52, 53, 55, 56, 57, 58, 59] rfl <| AR.op rfl (aop_pick rfl rfl rfl) <| AR.nil ?_
          exact hK26 true _ h (Weak.kt [1, 5, 6, 7, 8, 9, 60] rfl)
         ·rw [hb213]
          replace h := Sh.if_f h hb213
          refine AR.op (r := G.graph_Graph.av r82) rfl (aop_load_pp rfl rfl sz31 rfl) <| AR.keep [1, 5, 6, 7, 8, 9, 44, 45, 46, 47, 49, 50] rfl <| AR.op rfl (aop_move (.inl rfl) rfl) <| AR.op rfl (aop_move (.inl rfl) rfl) ?_
          obtain ⟨r214, hr214, h⟩ := Sh.bind_some' h
          refine AR.op (r := bl r214) rfl (aop_call1 rfl rfl (by simp) (graph_Has_ok hT hr214)) <| AR.keep [1, 5, 6, 7, 8, 9, 44, 45, 46, 47, 49, 50, 51, 52, 53] rfl <| AR.op rfl (aop_pick rfl rfl rfl) <| AR.op rfl (aop_move (.inl rfl) rfl) ?_
          rcases Bool.eq_false_or_eq_true (r214) with hb215 | hb215
          ·rw [hb215]
           replace h := Sh.if_t h hb215
           refine AR.skip rfl <| AR.keep [1, 5, 6, 7, 8, 9, 44, 45, 46, 47, 50, 51, 52, 53, 55, 56] rfl <| AR.skip rfl <| AR.skip rfl <| AR.skip rfl <| AR.keep [1, 5, 6, 7, 8, 9, 44, 45, 46, 47, 50, 51, 52, 53, 55, 56, 57, 58, 59] rfl <| AR.op rfl (aop_pick rfl rfl rfl) <| AR.nil ?_
           exact hK26 true _ h (Weak.kt [1, 5, 6, 7, 8, 9, 60] rfl)
          ·rw [hb215]
           replace h := Sh.if_f h hb215
           refine AR.op (r := G.graph_Graph.av r84) rfl (aop_load_pp rfl rfl sz31 rfl) <| AR.keep [1, 5, 6, 7, 8, 9, 44, 45, 46, 47, 50, 51, 52, 53, 55, 56] rfl <| AR.op rfl (aop_move (.inl rfl) rfl) <| AR.op rfl (aop_move (.inl rfl) rfl) ?_
           obtain ⟨r216, hr216, h⟩ := Sh.bind_some' h
           refine AR.op (r := bl r216) rfl (aop_call1 rfl rfl (by simp) (graph_Has_ok hT hr216)) <| AR.keep [1, 5, 6, 7, 8, 9, 44, 45, 46, 47, 50, 51, 52, 53, 55, 56, 57, 58, 59] rfl <| AR.op rfl (aop_pick rfl rfl rfl) <| AR.nil ?_
           exact hK26 r216 _ h (Weak.kt [1, 5, 6, 7, 8, 9, 60] rfl)
      ·replace h := Sh.if_f h hb192
       refine awp_exit ?_
       replace h := Sh.exit_eq h hx2
       exact hK20 () _ h (Weak.kt [1, 5] rfl)
  ·intro K27 hK27
   refine awp_reg rfl <| AR.op rfl (aop_move (.inl rfl) rfl) <| AR.op (r := bl (!r69)) rfl (aop_not rfl rfl) <| AR.op rfl (aop_move (.inl rfl) rfl) <| AR.keep [1, 19] rfl ?_
   rcases Bool.eq_false_or_eq_true (!r69) with hb217 | hb217
   ·rw [hb217]
    replace h := Sh.if_t h hb217
    refine AR.skip rfl <| AR.skip rfl <| AR.skip rfl <| AR.keep [1, 19, 22] rfl <| AR.op rfl (aop_pick rfl rfl rfl) <| AR.nil ?_
    exact hK27 true _ h (Weak.kt [1, 23] rfl)
   ·rw [hb217]
    replace h := Sh.if_f h hb217
    refine AR.op (r := G.api_Hist.av h_0) rfl (aop_load_pp rfl rfl sz24 rfl) ?_
    obtain ⟨r218, hr218, h⟩ := Sh.bind_some' h
    refine AR.op (r := bl r218) rfl (aop_call1 rfl rfl (by simp) (hist_Right_ok hT hr218)) <| AR.op (r := bl (!r218)) rfl (aop_not rfl rfl) <| AR.keep [1, 19, 22] rfl <| AR.op rfl (aop_pick rfl rfl rfl) <| AR.nil ?_
    exact hK27 (!r218) _ h (Weak.e (fr' := [(1, .pp [.sl (List.map G.api_Txn.av h_0.Txns)] 0), (23, bl (!r218))]) (H' := .empty) ⟨.k, .k, trivial⟩)
theorem inquestlaw17_KnownSelf_ok {W0 : World} (hT : Tab W0) {h_0 : G.api_Hist} {r : Bool} (h : G.inquestlaw17_KnownSelf h_0 = some r) : Fun1 Tryd.prog W0 4 [G.api_Hist.av h_0] (bl r) := Fun1.two (inquestlaw17_KnownSelf_ok0 hT h) (by simp)

end Wk
