/- That a statement does what its plain function says. -/
import Derived.Test.YtfgndjgcfkfobaaDoorWkKinquestlaw18
open Go Go.Av Go.Proofs
set_option linter.unusedVariables false
set_option maxHeartbeats 8000000
set_option maxRecDepth 20000
namespace Wk
theorem inquestlaw18_ChoiceMore_ok0 {W0 : World} (hT : Tab W0) {x_0 : G.inquestlaw18_More} {r : Bool} (h : G.inquestlaw18_ChoiceMore x_0 = some r) : Fun2 Tryd.prog W0 8 [G.inquestlaw18_More.av x_0] (bl r) .empty := by
 refine fun2_of_awp Tryd.func8 rfl (by kernel_rfl) Tryd.ntmps8 (by simp) ?_
 unfold G.inquestlaw18_ChoiceMore at h
 show AWP _ _ _ _ ⟨[(0, G.inquestlaw18_More.av x_0)], .empty⟩ _
 refine awp_seqK fun K1 hK1 => awp_reg rfl <| AR.op (r := .ref 0 0 0) rfl (aop_box 6 [G.inquestlaw18_More.av x_0] rfl rfl rfl (.inl ⟨rfl, rfl⟩)) <| AR.op rfl (aop_move (.inr rfl) rfl) <| AR.nil <| hK1 _ (AWP.weak (Weak.e (fr' := [(1, .pp [.sl (List.map G.api_Txn.av x_0.H.Txns), i64 x_0.Level, .sl (List.map G.api_Choice.av x_0.L), i64 x_0.C.Key, i64 x_0.C.A, i64 x_0.C.B] 0)]) (H' := .empty) ⟨⟨_, rfl, .frzA rfl rfl rfl rfl (by simp)⟩, trivial⟩) ?_)
 refine awp_seqK fun K2 hK2 => awp_reg rfl <| AR.op rfl (aop_field_pp rfl rfl fd58_0 (by decide)) <| AR.op (r := G.api_Hist.av x_0.H) rfl (aop_load_pp rfl rfl sz24 rfl) <| AR.op (r := .ref 0 0 0) rfl (aop_alloc 1 [.agg [nilS]] rfl zr24 (by kernel_rfl) (.inl ⟨rfl, rfl⟩)) <| AR.keep [1, 24, 3] rfl <| AR.op rfl (aop_store (e' := G.api_Hist.av x_0.H) rfl rfl rfl rfl rfl rfl sz24 rfl dt rfl) <| AR.nil ?_
 refine hK2 _ (AWP.weak (Weak.e (fr' := [(1, .pp [.sl (List.map G.api_Txn.av x_0.H.Txns), i64 x_0.Level, .sl (List.map G.api_Choice.av x_0.L), i64 x_0.C.Key, i64 x_0.C.A, i64 x_0.C.B] 0), (3, .pp [.sl (List.map G.api_Txn.av x_0.H.Txns)] 0)]) (H' := .empty) ⟨.k, ⟨_, rfl, .frzA rfl rfl rfl rfl (by simp)⟩, trivial⟩) ?_)
 refine awp_seqK fun K3 hK3 => awp_reg rfl <| AR.op rfl (aop_field_pp rfl rfl fd58_1 (by decide)) <| AR.op (r := i64 x_0.Level) rfl (aop_load_pp rfl rfl sz3 rfl) <| AR.op rfl (aop_move (.inr rfl) rfl) <| AR.nil <| hK3 _ (AWP.weak (Weak.kt [1, 3, 4] rfl) ?_)
 refine awp_seqK fun K4 hK4 => awp_reg rfl <| AR.op rfl (aop_field_pp rfl rfl fd58_2 (by decide)) <| AR.op (r := .sl (List.map G.api_Choice.av x_0.L)) rfl (aop_load_pp rfl rfl sz51 rfl) <| AR.op rfl (aop_move (.inr rfl) rfl) <| AR.nil <| hK4 _ (AWP.weak (Weak.kt [1, 3, 4, 5] rfl) ?_)
 refine awp_seqK fun K5 hK5 => awp_reg rfl <| AR.op rfl (aop_field_pp rfl rfl fd58_3 (by decide)) <| AR.op (r := G.api_Choice.av x_0.C) rfl (aop_load_pp rfl rfl sz54 rfl) <| AR.op (r := .ref 0 0 0) rfl (aop_alloc 3 [.agg [i64 0, i64 0, i64 0]] rfl zr54 (by kernel_rfl) (.inl ⟨rfl, rfl⟩)) <| AR.keep [3, 4, 5, 30, 6] rfl <| AR.op rfl (aop_store (e' := G.api_Choice.av x_0.C) rfl rfl rfl rfl rfl rfl sz54 rfl dt rfl) <| AR.nil ?_
 refine hK5 _ (AWP.weak (Weak.e (fr' := [(3, .pp [.sl (List.map G.api_Txn.av x_0.H.Txns)] 0), (4, i64 x_0.Level), (5, .sl (List.map G.api_Choice.av x_0.L)), (6, .pp [i64 x_0.C.Key, i64 x_0.C.A, i64 x_0.C.B] 0)]) (H' := .empty) ⟨.k, .k, ⟨.sl (List.map G.api_Choice.av x_0.L), rfl, .sm⟩, ⟨_, rfl, .frzA rfl rfl rfl rfl (by simp)⟩, trivial⟩) ?_)
 refine awp_seqK fun K6 hK6 => awp_reg rfl ?_
 obtain ⟨r64, hr64, h⟩ := Sh.bind_some' h
 refine AR.op (r := bl r64) rfl (aop_call1 rfl rfl (by simp) (inquestlaw18_awake_ok hT hr64)) <| AR.op rfl (aop_move (.inr rfl) rfl) <| AR.nil <| hK6 _ (AWP.weak (Weak.kt [3, 4, 5, 6, 7] rfl) ?_)
 refine awp_seqK fun K7 hK7 => awp_seqK fun K8 hK8 => awp_reg rfl <| AR.op rfl (aop_move (.inl rfl) rfl) <| AR.op (r := bl (!r64)) rfl (aop_not rfl rfl) <| AR.nil <| hK8 _ (AWP.weak (Weak.kt [3, 4, 5, 6, 33] rfl) ?_)
 refine awp_cond rfl (fun hb65 => ?_) (fun hb65 => ?_)
 ·replace h := Sh.if_t h hb65
  refine awp_seqK fun K9 hK9 => awp_reg rfl <| AR.op rfl (aop_move (.inr rfl) rfl) <| AR.nil <| hK9 _ (AWP.weak (Weak.kt [2] rfl) ?_)
  refine awp_ret ?_
  obtain rfl := Option.some.inj h
  refine ⟨.inr rfl, bl false, rfl, ?_⟩
  exact Weak.e ⟨.k, trivial⟩
 ·replace h := Sh.if_f h hb65
  refine awp_skip <| hK7 _ (AWP.weak (Weak.kt [3, 4, 5, 6] rfl) ?_)
  refine awp_seqK fun K10 hK10 => awp_reg rfl <| AR.op (r := G.api_Hist.av x_0.H) rfl (aop_load_pp rfl rfl sz24 rfl) ?_
  obtain ⟨r67, hr67, h⟩ := Sh.bind_some' h
  refine AR.op (r := bl r67) rfl (aop_call1 rfl rfl (by simp) (inquestref08_Few_ok hT hr67)) <| AR.op rfl (aop_move (.inr rfl) rfl) <| AR.nil <| hK10 _ (AWP.weak (Weak.kt [3, 4, 5, 6, 8] rfl) ?_)
  refine awp_seqK fun K11 hK11 => awp_seqJ (fun (p : Bool) => (⟨[(3, .pp [.sl (List.map G.api_Txn.av x_0.H.Txns)] 0), (4, i64 x_0.Level), (5, .sl (List.map G.api_Choice.av x_0.L)), (6, .pp [i64 x_0.C.Key, i64 x_0.C.A, i64 x_0.C.B] 0), (48, bl p)], .empty⟩ : St)) (fun (p : Bool) => G.inquestlaw18_ChoiceMore_j1 x_0 p = some r) ?_ ?_
  ·rintro v75 h
   replace h : G.inquestlaw18_ChoiceMore_j1 x_0 v75 = some r := h
   unfold G.inquestlaw18_ChoiceMore_j1 at h
   show AWP _ _ _ _ ⟨[(3, .pp [.sl (List.map G.api_Txn.av x_0.H.Txns)] 0), (4, i64 x_0.Level), (5, .sl (List.map G.api_Choice.av x_0.L)), (6, .pp [i64 x_0.C.Key, i64 x_0.C.A, i64 x_0.C.B] 0), (48, bl v75)], .empty⟩ _
   refine awp_cond rfl (fun hb76 => ?_) (fun hb76 => ?_)
   ·replace h := Sh.if_t h hb76
    refine awp_seqK fun K12 hK12 => awp_reg rfl <| AR.op rfl (aop_move (.inr rfl) rfl) <| AR.nil <| hK12 _ (AWP.weak (Weak.kt [2] rfl) ?_)
    refine awp_ret ?_
    obtain rfl := Option.some.inj h
    refine ⟨.inr rfl, bl true, rfl, ?_⟩
    exact Weak.e ⟨.k, trivial⟩
   ·replace h := Sh.if_f h hb76
    refine awp_skip <| hK11 _ (AWP.weak (Weak.kt [3, 4, 5, 6] rfl) ?_)
    refine awp_seqK fun K13 hK13 => awp_reg rfl <| AR.op rfl (aop_move (.inr rfl) rfl) <| AR.nil <| hK13 _ ?_
    refine awp_seqK fun K14 hK14 => awp_reg rfl <| AR.op rfl (aop_move (.inl rfl) rfl) <| AR.op rfl (aop_move (.inl rfl) rfl) ?_
    obtain ⟨more78, hmore78, h⟩ := Sh.bind_some' h
    refine AR.op (r := .view 0 0 (List.map G.api_Choice.av more78).length) rfl (t_app_nil G.api_Choice.av x_0.L more78 hmore78 et51 (fun _ => rfl) rfl rfl rfl rfl rfl) <| AR.keep [3, 4, 5, 6, 51] rfl <| AR.op rfl (aop_move (.inr rfl) rfl) <| AR.nil <| hK14 _ (AWP.weak (Weak.re (fr' := [(3, .pp [.sl (List.map G.api_Txn.av x_0.H.Txns)] 0), (4, i64 x_0.Level), (5, .sl (List.map G.api_Choice.av x_0.L)), (6, .pp [i64 x_0.C.Key, i64 x_0.C.A, i64 x_0.C.B] 0), (9, .view 0 0 (List.map G.api_Choice.av more78).length)]) (H' := ⟨1, [(0, (3, List.map G.api_Choice.av more78))], []⟩) [(0, 0)] [] rfl rfl rfl (.cons rfl rfl (.same (by simp)) dt trivial) ⟨.k, .k, ⟨.sl (List.map G.api_Choice.av x_0.L), rfl, .sm⟩, .k, ⟨_, rfl, .view rfl⟩, trivial⟩) ?_)
    refine awp_seqK fun K15 hK15 => awp_reg rfl <| AR.op rfl (aop_move (.inl rfl) rfl) <| AR.op (r := G.api_Choice.av x_0.C) rfl (aop_load_pp rfl rfl sz54 rfl) <| AR.op (r := .clip (List.map G.api_Choice.av ([x_0.C] : List G.api_Choice))) rfl (aop_buildSlice rfl (xo := [.tmp 53]) rfl rfl rfl (by simp) (by simp) el51 ze51 (by decide)) <| AR.keep [3, 4, 5, 6, 52, 54] rfl ?_
    obtain ⟨more80, hmore80, h⟩ := Sh.bind_some' h
    refine AR.op (r := .view 1 0 (List.map G.api_Choice.av more80).length) rfl (t_app_view G.api_Choice.av more78 ([x_0.C] : List G.api_Choice) more80 hmore80 rfl et51 (fun _ => rfl) rfl rfl rfl rfl rfl rfl rfl) <| AR.op rfl (aop_move (.inr rfl) rfl) <| AR.nil <| hK15 _ (AWP.weak (Weak.e (fr' := [(3, .pp [.sl (List.map G.api_Txn.av x_0.H.Txns)] 0), (4, i64 x_0.Level), (5, .sl (List.map G.api_Choice.av x_0.L)), (6, .pp [i64 x_0.C.Key, i64 x_0.C.A, i64 x_0.C.B] 0), (9, .sl (List.map G.api_Choice.av more80))]) (H' := .empty) ⟨.k, .k, ⟨.sl (List.map G.api_Choice.av x_0.L), rfl, .sm⟩, .k, ⟨_, rfl, .lendAll rfl rfl (by simp)⟩, trivial⟩) ?_)
    refine awp_seqK fun K16 hK16 => awp_seqK fun K17 hK17 => awp_reg rfl <| AR.op (r := G.api_Hist.av x_0.H) rfl (aop_load_pp rfl rfl sz24 rfl) <| AR.op rfl (aop_move (.inl rfl) rfl) ?_
    obtain ⟨r88, hr88, h⟩ := Sh.bind_some' h
    refine AR.op (r := bl r88) rfl (aop_call1 rfl rfl (by simp) (choice_Right_ok hT hr88)) <| AR.keep [3, 4, 5, 6, 9, 58] rfl <| AR.op (r := bl (!r88)) rfl (aop_not rfl rfl) <| AR.nil <| hK17 _ (AWP.weak (Weak.kt [3, 4, 5, 6, 9, 59] rfl) ?_)
    refine awp_cond rfl (fun hb89 => ?_) (fun hb89 => ?_)
    ·replace h := Sh.if_t h hb89
     refine awp_seqK fun K18 hK18 => awp_reg rfl <| AR.op (r := G.api_Hist.av x_0.H) rfl (aop_load_pp rfl rfl sz24 rfl) ?_
     obtain ⟨r94, hr94, h⟩ := Sh.bind_some' h
     refine AR.op (r := bl r94) rfl (aop_callN rfl (ys := [G.api_Hist.av x_0.H, nilS]) (xs := [G.api_Hist.av x_0.H, .sl (List.map G.api_Choice.av [])]) rfl (Weak.e (fr' := argsFr 0 [G.api_Hist.av x_0.H, .sl (List.map G.api_Choice.av [])]) (H' := .empty) ⟨⟨G.api_Hist.av x_0.H, rfl, .sm⟩, ⟨_, rfl, .nilsl⟩, trivial⟩) rfl (by simp) (choice_Right_ok hT hr94)) <| AR.op rfl (aop_move (.inl rfl) rfl) <| AR.keep [3, 9, 62] rfl ?_
     rcases Bool.eq_false_or_eq_true (r94) with hb95 | hb95
     ·rw [hb95]
      replace h := Sh.if_t h hb95
      refine AR.op (r := G.api_Hist.av x_0.H) rfl (aop_load_pp rfl rfl sz24 rfl) <| AR.op rfl (aop_move (.inl rfl) rfl) ?_
      obtain ⟨r96, hr96, h⟩ := Sh.bind_some' h
      refine AR.op (r := G.graph_Graph.av r96) rfl (aop_call1 rfl rfl (by simp) (choice_Ww_ok hT hr96)) <| AR.keep [62, 65] rfl ?_
      obtain ⟨r97, hr97, h⟩ := Sh.bind_some' h
      refine AR.op (r := .sl (List.map G.graph_Edge.av r97)) rfl (aop_call1 rfl rfl (by simp) (graph_Edges_ok hT hr97)) <| AR.op rfl (t_len_sl G.graph_Edge.av r97 rfl rfl el41) <| AR.op (r := bl (decide ((Sh.len r97) = 0))) rfl (aop_eql rfl rfl rfl) <| AR.keep [62, 68] rfl <| AR.op rfl (aop_pick rfl rfl rfl) <| AR.op rfl (aop_move (.inr rfl) rfl) <| AR.nil <| hK18 _ (AWP.weak (Weak.kt [2] rfl) ?_)
      refine awp_ret ?_
      obtain rfl := Option.some.inj h
      refine ⟨.inr rfl, bl (decide ((Sh.len r97) = 0)), rfl, ?_⟩
      exact Weak.e ⟨.k, trivial⟩
     ·rw [hb95]
      replace h := Sh.if_f h hb95
      refine AR.skip rfl <| AR.skip rfl <| AR.skip rfl <| AR.keep [62, 65] rfl <| AR.skip rfl <| AR.skip rfl <| AR.skip rfl <| AR.keep [62, 68] rfl ?_
      refine AR.op rfl (aop_pick rfl rfl rfl) <| AR.op rfl (aop_move (.inr rfl) rfl) <| AR.nil <| hK18 _ (AWP.weak (Weak.kt [2] rfl) ?_)
      refine awp_ret ?_
      obtain rfl := Option.some.inj h
      refine ⟨.inr rfl, bl false, rfl, ?_⟩
      exact Weak.e ⟨.k, trivial⟩
    ·replace h := Sh.if_f h hb89
     refine awp_skip <| hK16 _ (AWP.weak (Weak.kt [3, 4, 5, 6, 9] rfl) ?_)
     refine awp_seqK fun K19 hK19 => awp_reg rfl <| AR.op (r := G.api_Hist.av x_0.H) rfl (aop_load_pp rfl rfl sz24 rfl) <| AR.op rfl (aop_move (.inl rfl) rfl) <| AR.op rfl (aop_move (.inl rfl) rfl) <| AR.keep [3, 4, 5, 6, 9, 71, 72, 73] rfl ?_
     obtain ⟨r99, hr99, h⟩ := Sh.bind_some' h
     refine AR.op (r := .tuple [G.graph_Graph.av r99.1, i64 r99.2]) rfl (aop_call1 rfl rfl (by simp) (choice_Full_ok hT hr99)) <| AR.op rfl (aop_move (.inl rfl) rfl) <| AR.op (r := G.graph_Graph.av r99.1) rfl (aop_extract rfl rfl rfl) <| AR.keep [3, 4, 5, 6, 9, 70, 75] rfl <| AR.op (r := i64 r99.2) rfl (aop_extract rfl rfl rfl) <| AR.op (r := .ref 0 0 0) rfl (aop_alloc 2 [.agg [i64 0, nilS]] rfl zr31 (by kernel_rfl) (.inl ⟨rfl, rfl⟩)) <| AR.op rfl (aop_store (e' := G.graph_Graph.av r99.1) rfl rfl rfl rfl rfl rfl sz31 rfl dt rfl) <| AR.keep [3, 4, 5, 6, 9, 76, 10] rfl ?_
     refine AR.op rfl (aop_move (.inr rfl) rfl) <| AR.nil <| hK19 _ (AWP.weak (Weak.e (fr' := [(3, .pp [.sl (List.map G.api_Txn.av x_0.H.Txns)] 0), (4, i64 x_0.Level), (5, .sl (List.map G.api_Choice.av x_0.L)), (6, .pp [i64 x_0.C.Key, i64 x_0.C.A, i64 x_0.C.B] 0), (9, .sl (List.map G.api_Choice.av more80)), (10, .pp [i64 r99.1.N, .sl (List.map u64 r99.1.Rows)] 0), (11, i64 r99.2)]) (H' := .empty) ⟨.k, .k, ⟨.sl (List.map G.api_Choice.av x_0.L), rfl, .sm⟩, .k, ⟨.sl (List.map G.api_Choice.av more80), rfl, .sm⟩, ⟨_, rfl, .frzA rfl rfl rfl rfl (by simp)⟩, .k, trivial⟩) ?_)
     refine awp_seqK fun K20 hK20 => awp_reg rfl <| AR.op (r := G.api_Hist.av x_0.H) rfl (aop_load_pp rfl rfl sz24 rfl) <| AR.op rfl (aop_move (.inl rfl) rfl) <| AR.op rfl (aop_move (.inl rfl) rfl) <| AR.keep [3, 5, 6, 9, 10, 11, 78, 79, 80] rfl ?_
     obtain ⟨r101, hr101, h⟩ := Sh.bind_some' h
     refine AR.op (r := .tuple [G.graph_Graph.av r101.1, i64 r101.2]) rfl (aop_call1 rfl rfl (by simp) (choice_Full_ok hT hr101)) <| AR.op rfl (aop_move (.inl rfl) rfl) <| AR.op (r := G.graph_Graph.av r101.1) rfl (aop_extract rfl rfl rfl) <| AR.keep [3, 5, 6, 9, 10, 11, 77, 82] rfl <| AR.op (r := i64 r101.2) rfl (aop_extract rfl rfl rfl) <| AR.op (r := .ref 0 0 0) rfl (aop_alloc 2 [.agg [i64 0, nilS]] rfl zr31 (by kernel_rfl) (.inl ⟨rfl, rfl⟩)) <| AR.op rfl (aop_store (e' := G.graph_Graph.av r101.1) rfl rfl rfl rfl rfl rfl sz31 rfl dt rfl) <| AR.keep [3, 5, 6, 9, 10, 11, 83, 12] rfl ?_
     refine AR.op rfl (aop_move (.inr rfl) rfl) <| AR.nil <| hK20 _ (AWP.weak (Weak.e (fr' := [(3, .pp [.sl (List.map G.api_Txn.av x_0.H.Txns)] 0), (5, .sl (List.map G.api_Choice.av x_0.L)), (6, .pp [i64 x_0.C.Key, i64 x_0.C.A, i64 x_0.C.B] 0), (9, .sl (List.map G.api_Choice.av more80)), (10, .pp [i64 r99.1.N, .sl (List.map u64 r99.1.Rows)] 0), (11, i64 r99.2), (12, .pp [i64 r101.1.N, .sl (List.map u64 r101.1.Rows)] 0), (13, i64 r101.2)]) (H' := .empty) ⟨.k, ⟨.sl (List.map G.api_Choice.av x_0.L), rfl, .sm⟩, .k, ⟨.sl (List.map G.api_Choice.av more80), rfl, .sm⟩, .k, .k, ⟨_, rfl, .frzA rfl rfl rfl rfl (by simp)⟩, .k, trivial⟩) ?_)
     refine awp_seqK fun K21 hK21 => awp_seqK fun K22 hK22 => awp_reg rfl <| AR.op rfl (aop_move (.inl rfl) rfl) <| AR.op rfl (aop_move (.inl rfl) rfl) <| AR.op (r := bl (decide (r99.2 ≠ r101.2))) rfl (aop_neq rfl rfl rfl) <| AR.nil <| hK22 _ (AWP.weak (Weak.kt [3, 5, 6, 9, 10, 12, 86] rfl) ?_)
     refine awp_cond rfl (fun hb102 => ?_) (fun hb102 => ?_)
     ·replace h := Sh.if_t h hb102
      refine awp_seqK fun K23 hK23 => awp_reg rfl <| AR.op rfl (aop_move (.inr rfl) rfl) <| AR.nil <| hK23 _ (AWP.weak (Weak.kt [2] rfl) ?_)
      refine awp_ret ?_
      obtain rfl := Option.some.inj h
      refine ⟨.inr rfl, bl false, rfl, ?_⟩
      exact Weak.e ⟨.k, trivial⟩
     ·replace h := Sh.if_f h hb102
      refine awp_skip <| hK21 _ (AWP.weak (Weak.kt [3, 5, 6, 9, 10, 12] rfl) ?_)
      refine awp_seqK fun K24 hK24 => awp_reg rfl <| AR.op (r := G.api_Hist.av x_0.H) rfl (aop_load_pp rfl rfl sz24 rfl) <| AR.op rfl (aop_move (.inl rfl) rfl) ?_
      obtain ⟨r104, hr104, h⟩ := Sh.bind_some' h
      refine AR.op (r := G.graph_Graph.av r104) rfl (aop_call1 rfl rfl (by simp) (choice_Rw_ok hT hr104)) <| AR.keep [3, 6, 9, 10, 12, 89] rfl <| AR.op (r := .ref 0 0 0) rfl (aop_alloc 2 [.agg [i64 0, nilS]] rfl zr31 (by kernel_rfl) (.inl ⟨rfl, rfl⟩)) <| AR.op rfl (aop_store (e' := G.graph_Graph.av r104) rfl rfl rfl rfl rfl rfl sz31 rfl dt rfl) <| AR.nil <| hK24 _ (AWP.weak (Weak.e (fr' := [(3, .pp [.sl (List.map G.api_Txn.av x_0.H.Txns)] 0), (6, .pp [i64 x_0.C.Key, i64 x_0.C.A, i64 x_0.C.B] 0), (9, .sl (List.map G.api_Choice.av more80)), (10, .pp [i64 r99.1.N, .sl (List.map u64 r99.1.Rows)] 0), (12, .pp [i64 r101.1.N, .sl (List.map u64 r101.1.Rows)] 0), (14, .pp [i64 r104.N, .sl (List.map u64 r104.Rows)] 0)]) (H' := .empty) ⟨.k, .k, ⟨.sl (List.map G.api_Choice.av more80), rfl, .sm⟩, .k, .k, ⟨_, rfl, .frzA rfl rfl rfl rfl (by simp)⟩, trivial⟩) ?_)
      refine awp_seqK fun K25 hK25 => awp_reg rfl <| AR.op (r := G.api_Hist.av x_0.H) rfl (aop_load_pp rfl rfl sz24 rfl) <| AR.op rfl (aop_move (.inl rfl) rfl) ?_
      obtain ⟨r106, hr106, h⟩ := Sh.bind_some' h
      refine AR.op (r := G.graph_Graph.av r106) rfl (aop_call1 rfl rfl (by simp) (choice_Rw_ok hT hr106)) <| AR.keep [3, 6, 9, 10, 12, 14, 92] rfl <| AR.op (r := .ref 0 0 0) rfl (aop_alloc 2 [.agg [i64 0, nilS]] rfl zr31 (by kernel_rfl) (.inl ⟨rfl, rfl⟩)) <| AR.op rfl (aop_store (e' := G.graph_Graph.av r106) rfl rfl rfl rfl rfl rfl sz31 rfl dt rfl) <| AR.nil <| hK25 _ (AWP.weak (Weak.e (fr' := [(3, .pp [.sl (List.map G.api_Txn.av x_0.H.Txns)] 0), (6, .pp [i64 x_0.C.Key, i64 x_0.C.A, i64 x_0.C.B] 0), (9, .sl (List.map G.api_Choice.av more80)), (10, .pp [i64 r99.1.N, .sl (List.map u64 r99.1.Rows)] 0), (12, .pp [i64 r101.1.N, .sl (List.map u64 r101.1.Rows)] 0), (14, .pp [i64 r104.N, .sl (List.map u64 r104.Rows)] 0), (15, .pp [i64 r106.N, .sl (List.map u64 r106.Rows)] 0)]) (H' := .empty) ⟨.k, .k, ⟨.sl (List.map G.api_Choice.av more80), rfl, .sm⟩, .k, .k, .k, ⟨_, rfl, .frzA rfl rfl rfl rfl (by simp)⟩, trivial⟩) ?_)
      refine awp_seqK fun K26 hK26 => awp_reg rfl <| AR.op (r := G.api_Hist.av x_0.H) rfl (aop_load_pp rfl rfl sz24 rfl) <| AR.op rfl (aop_move (.inl rfl) rfl) ?_
      obtain ⟨r108, hr108, h⟩ := Sh.bind_some' h
      refine AR.op (r := G.graph_Graph.av r108) rfl (aop_call1 rfl rfl (by simp) (choice_Ww_ok hT hr108)) <| AR.keep [3, 6, 9, 10, 12, 14, 15, 95] rfl <| AR.op (r := .ref 0 0 0) rfl (aop_alloc 2 [.agg [i64 0, nilS]] rfl zr31 (by kernel_rfl) (.inl ⟨rfl, rfl⟩)) <| AR.op rfl (aop_store (e' := G.graph_Graph.av r108) rfl rfl rfl rfl rfl rfl sz31 rfl dt rfl) <| AR.nil <| hK26 _ (AWP.weak (Weak.e (fr' := [(3, .pp [.sl (List.map G.api_Txn.av x_0.H.Txns)] 0), (6, .pp [i64 x_0.C.Key, i64 x_0.C.A, i64 x_0.C.B] 0), (9, .sl (List.map G.api_Choice.av more80)), (10, .pp [i64 r99.1.N, .sl (List.map u64 r99.1.Rows)] 0), (12, .pp [i64 r101.1.N, .sl (List.map u64 r101.1.Rows)] 0), (14, .pp [i64 r104.N, .sl (List.map u64 r104.Rows)] 0), (15, .pp [i64 r106.N, .sl (List.map u64 r106.Rows)] 0), (16, .pp [i64 r108.N, .sl (List.map u64 r108.Rows)] 0)]) (H' := .empty) ⟨.k, .k, ⟨.sl (List.map G.api_Choice.av more80), rfl, .sm⟩, .k, .k, .k, .k, ⟨_, rfl, .frzA rfl rfl rfl rfl (by simp)⟩, trivial⟩) ?_)
      refine awp_seqK fun K27 hK27 => awp_seqJ (fun (p : Bool) => (⟨[(3, .pp [.sl (List.map G.api_Txn.av x_0.H.Txns)] 0), (6, .pp [i64 x_0.C.Key, i64 x_0.C.A, i64 x_0.C.B] 0), (9, .sl (List.map G.api_Choice.av more80)), (10, .pp [i64 r99.1.N, .sl (List.map u64 r99.1.Rows)] 0), (12, .pp [i64 r101.1.N, .sl (List.map u64 r101.1.Rows)] 0), (14, .pp [i64 r104.N, .sl (List.map u64 r104.Rows)] 0), (15, .pp [i64 r106.N, .sl (List.map u64 r106.Rows)] 0), (120, bl p)], .empty⟩ : St)) (fun (p : Bool) => G.inquestlaw18_ChoiceMore_j2 x_0 more80 r99 r101 r104 r106 p = some r) ?_ ?_
      ·rintro v116 h
       replace h : G.inquestlaw18_ChoiceMore_j2 x_0 more80 r99 r101 r104 r106 v116 = some r := h
       unfold G.inquestlaw18_ChoiceMore_j2 at h
       show AWP _ _ _ _ ⟨[(3, .pp [.sl (List.map G.api_Txn.av x_0.H.Txns)] 0), (6, .pp [i64 x_0.C.Key, i64 x_0.C.A, i64 x_0.C.B] 0), (9, .sl (List.map G.api_Choice.av more80)), (10, .pp [i64 r99.1.N, .sl (List.map u64 r99.1.Rows)] 0), (12, .pp [i64 r101.1.N, .sl (List.map u64 r101.1.Rows)] 0), (14, .pp [i64 r104.N, .sl (List.map u64 r104.Rows)] 0), (15, .pp [i64 r106.N, .sl (List.map u64 r106.Rows)] 0), (120, bl v116)], .empty⟩ _
       refine awp_cond rfl (fun hb117 => ?_) (fun hb117 => ?_)
       ·replace h := Sh.if_t h hb117
        refine awp_seqK fun K28 hK28 => awp_reg rfl <| AR.op rfl (aop_move (.inr rfl) rfl) <| AR.nil <| hK28 _ (AWP.weak (Weak.kt [2] rfl) ?_)
        refine awp_ret ?_
        obtain rfl := Option.some.inj h
        refine ⟨.inr rfl, bl false, rfl, ?_⟩
        exact Weak.e ⟨.k, trivial⟩
       ·replace h := Sh.if_f h hb117
        refine awp_skip <| hK27 _ (AWP.weak (Weak.kt [3, 6, 9, 10, 12, 14, 15] rfl) ?_)
        refine awp_seqJ (fun (p : Unit) => (⟨[(3, .pp [.sl (List.map G.api_Txn.av x_0.H.Txns)] 0), (6, .pp [i64 x_0.C.Key, i64 x_0.C.A, i64 x_0.C.B] 0), (9, .sl (List.map G.api_Choice.av more80)), (10, .pp [i64 r99.1.N, .sl (List.map u64 r99.1.Rows)] 0), (12, .pp [i64 r101.1.N, .sl (List.map u64 r101.1.Rows)] 0)], .empty⟩ : St)) (fun (p : Unit) => G.inquestlaw18_ChoiceMore_j3 x_0 more80 r99 r101 = some r) ?_ ?_
        ·rintro ⟨⟩ h
         replace h : G.inquestlaw18_ChoiceMore_j3 x_0 more80 r99 r101 = some r := h
         unfold G.inquestlaw18_ChoiceMore_j3 at h
         show AWP _ _ _ _ ⟨[(3, .pp [.sl (List.map G.api_Txn.av x_0.H.Txns)] 0), (6, .pp [i64 x_0.C.Key, i64 x_0.C.A, i64 x_0.C.B] 0), (9, .sl (List.map G.api_Choice.av more80)), (10, .pp [i64 r99.1.N, .sl (List.map u64 r99.1.Rows)] 0), (12, .pp [i64 r101.1.N, .sl (List.map u64 r101.1.Rows)] 0)], .empty⟩ _
         refine awp_seqJ (fun (p : Unit) => (⟨[(3, .pp [.sl (List.map G.api_Txn.av x_0.H.Txns)] 0), (6, .pp [i64 x_0.C.Key, i64 x_0.C.A, i64 x_0.C.B] 0), (9, .sl (List.map G.api_Choice.av more80))], .empty⟩ : St)) (fun (p : Unit) => G.inquestlaw18_ChoiceMore_j4 x_0 more80 = some r) ?_ ?_
         ·rintro ⟨⟩ h
          replace h : G.inquestlaw18_ChoiceMore_j4 x_0 more80 = some r := h
          unfold G.inquestlaw18_ChoiceMore_j4 at h
          show AWP _ _ _ _ ⟨[(3, .pp [.sl (List.map G.api_Txn.av x_0.H.Txns)] 0), (6, .pp [i64 x_0.C.Key, i64 x_0.C.A, i64 x_0.C.B] 0), (9, .sl (List.map G.api_Choice.av more80))], .empty⟩ _
          refine awp_seqK fun K29 hK29 => awp_reg rfl <| AR.op (r := G.api_Hist.av x_0.H) rfl (aop_load_pp rfl rfl sz24 rfl) <| AR.op rfl (aop_move (.inl rfl) rfl) ?_
          obtain ⟨r153, hr153, h⟩ := Sh.bind_some' h
          refine AR.op (r := .tuple [G.api_Choice.av r153.1, bl r153.2]) rfl (aop_call1 rfl rfl (by simp) (choice_Open_ok hT hr153)) <| AR.keep [6, 164] rfl <| AR.op rfl (aop_move (.inl rfl) rfl) <| AR.op (r := G.api_Choice.av r153.1) rfl (aop_extract rfl rfl rfl) <| AR.op (r := bl r153.2) rfl (aop_extract rfl rfl rfl) <| AR.keep [6, 165, 166] rfl <| AR.op (r := .ref 0 0 0) rfl (aop_alloc 3 [.agg [i64 0, i64 0, i64 0]] rfl zr54 (by kernel_rfl) (.inl ⟨rfl, rfl⟩)) <| AR.op rfl (aop_store (e' := G.api_Choice.av r153.1) rfl rfl rfl rfl rfl rfl sz54 rfl dt rfl) ?_
          refine AR.op rfl (aop_move (.inr rfl) rfl) <| AR.nil <| hK29 _ (AWP.weak (Weak.e (fr' := [(6, .pp [i64 x_0.C.Key, i64 x_0.C.A, i64 x_0.C.B] 0), (21, .pp [i64 r153.1.Key, i64 r153.1.A, i64 r153.1.B] 0), (22, bl r153.2)]) (H' := .empty) ⟨.k, ⟨_, rfl, .frzA rfl rfl rfl rfl (by simp)⟩, .k, trivial⟩) ?_)
          refine awp_seqK fun K30 hK30 => awp_any [(true, false), (true, false), (true, false), (true, false), (true, false), (true, false), (true, false), (true, false), (true, false), (true, false), (true, false), (true, false), (true, false), (true, false)] (by kernel_rfl) (by kernel_rfl) rfl ?_
          refine ARH.dry rfl (fun _ => aop_move (.inl rfl) rfl) <| ARH.dry (r := bl (!r153.2)) rfl (fun _ => aop_not rfl rfl) <| ARH.dry rfl (fun _ => aop_move (.inl rfl) rfl) <| ARH.keep [6, 21, 169] rfl ?_
          rcases Bool.eq_false_or_eq_true (!r153.2) with hb157 | hb157
          ·rw [hb157]
           replace h := Sh.if_t h hb157
           refine ARH.skip rfl <| ARH.skip rfl <| ARH.skip rfl <| ARH.keep [6, 21, 169, 172] rfl <| ARH.skip rfl <| ARH.skip rfl <| ARH.skip rfl <| ARH.keep [169, 173, 174, 175] rfl ?_
           refine ARH.skip rfl <| ARH.skip rfl <| ARH.skip rfl <| ARH.keep [169, 178] rfl <| ARH.dry rfl (fun _ => aop_pick rfl rfl rfl) <| ARH.dry rfl (fun _ => aop_move (.inr rfl) rfl) <| ARH.nil <| hK30 _ (AWP.weak (Weak.kt [2] rfl) ?_)
           refine awp_ret ?_
           obtain rfl := Option.some.inj h
           refine ⟨.inr rfl, bl true, rfl, ?_⟩
           exact Weak.e ⟨.k, trivial⟩
          ·rw [hb157]
           replace h := Sh.if_f h hb157
           refine ARH.dry (r := G.api_Choice.av r153.1) rfl (fun _ => aop_load_pp rfl rfl sz54 rfl) <| ARH.dry (r := G.api_Choice.av x_0.C) rfl (fun _ => aop_load_pp rfl rfl sz54 rfl) <| ARH.dry (r := bl (!decide (r153.1 = x_0.C))) rfl (fun _ => t_ne_api_Choice (a := r153.1) (b := x_0.C) rfl rfl rfl) <| ARH.keep [6, 21, 169, 172] rfl <| ARH.dry rfl (fun _ => aop_move (.inl rfl) rfl) ?_
           rcases Bool.eq_false_or_eq_true (!decide (r153.1 = x_0.C)) with hb158 | hb158
           ·rw [hb158]
            replace h := Sh.if_t h hb158
            refine ARH.dry (r := G.api_Choice.av r153.1) rfl (fun _ => aop_load_pp rfl rfl sz54 rfl) <| ARH.dry (r := G.api_Choice.av x_0.C) rfl (fun _ => aop_load_pp rfl rfl sz54 rfl) <| ARH.keep [169, 173, 174, 175] rfl ?_
            obtain ⟨r159, hr159, h⟩ := Sh.bind_some' h
            refine ARH.dry (r := G.api_Choice.av r159) rfl (fun _ => aop_call1 rfl rfl (by simp) (inquestref18_Back_ok hT hr159)) <| ARH.dry (r := bl (!decide (r153.1 = r159))) rfl (fun _ => t_ne_api_Choice (a := r153.1) (b := r159) rfl rfl rfl) <| ARH.dry rfl (fun _ => aop_pick rfl rfl rfl) <| ARH.keep [169, 178] rfl <| ARH.dry rfl (fun _ => aop_pick rfl rfl rfl) <| ARH.dry rfl (fun _ => aop_move (.inr rfl) rfl) <| ARH.nil <| hK30 _ (AWP.weak (Weak.kt [2] rfl) ?_)
            refine awp_ret ?_
            obtain rfl := Option.some.inj h
            refine ⟨.inr rfl, bl (!decide (r153.1 = r159)), rfl, ?_⟩
            exact Weak.e ⟨.k, trivial⟩
           ·rw [hb158]
            replace h := Sh.if_f h hb158
            refine ARH.skip rfl <| ARH.skip rfl <| ARH.keep [169, 173, 174, 175] rfl <| ARH.skip rfl <| ARH.skip rfl <| ARH.dry rfl (fun _ => aop_pick rfl rfl rfl) <| ARH.keep [169, 178] rfl <| ARH.dry rfl (fun _ => aop_pick rfl rfl rfl) ?_
            refine ARH.dry rfl (fun _ => aop_move (.inr rfl) rfl) <| ARH.nil <| hK30 _ (AWP.weak (Weak.kt [2] rfl) ?_)
            refine awp_ret ?_
            obtain rfl := Option.some.inj h
            refine ⟨.inr rfl, bl false, rfl, ?_⟩
            exact Weak.e ⟨.k, trivial⟩
         ·intro K31 hK31
          refine awp_seqK fun K32 hK32 => awp_reg rfl <| AR.op rfl (aop_move (.inr rfl) rfl) <| AR.nil <| hK32 _ ?_
          refine awp_block <| awp_iter (fun (p : Int) => G.inquestlaw18_ChoiceMore_b1 x_0 more80 r99 r101 p) (fun (p : Int) => (⟨[(3, .pp [.sl (List.map G.api_Txn.av x_0.H.Txns)] 0), (6, .pp [i64 x_0.C.Key, i64 x_0.C.A, i64 x_0.C.B] 0), (9, .sl (List.map G.api_Choice.av more80)), (10, .pp [i64 r99.1.N, .sl (List.map u64 r99.1.Rows)] 0), (12, .pp [i64 r101.1.N, .sl (List.map u64 r101.1.Rows)] 0), (19, i64 p)], .empty⟩ : St)) h (Weak.kt [3, 6, 9, 10, 12, 19] rfl) ?_
          ·skip
           rintro i171 o1 h hx1
           replace h : G.inquestlaw18_ChoiceMore_b1 x_0 more80 r99 r101 i171 = some o1 := h
           unfold G.inquestlaw18_ChoiceMore_b1 at h
           show AWP _ _ _ _ ⟨[(3, .pp [.sl (List.map G.api_Txn.av x_0.H.Txns)] 0), (6, .pp [i64 x_0.C.Key, i64 x_0.C.A, i64 x_0.C.B] 0), (9, .sl (List.map G.api_Choice.av more80)), (10, .pp [i64 r99.1.N, .sl (List.map u64 r99.1.Rows)] 0), (12, .pp [i64 r101.1.N, .sl (List.map u64 r101.1.Rows)] 0), (19, i64 i171)], .empty⟩ _
           refine awp_seqK fun K33 hK33 => awp_seqK fun K34 hK34 => awp_reg rfl <| AR.op rfl (aop_move (.inl rfl) rfl) <| AR.op rfl (aop_field_pp rfl rfl fd31_1 (by decide)) <| AR.op (r := .sl (List.map u64 r99.1.Rows)) rfl (aop_load_pp rfl rfl sz27 rfl) <| AR.keep [3, 6, 9, 10, 12, 19, 141, 143] rfl <| AR.op rfl (t_len_sl u64 r99.1.Rows rfl rfl el27) ?_
           refine AR.op rfl (aop_lss rfl rfl rfl) <| AR.nil <| hK34 _ (AWP.weak (Weak.kt [3, 6, 9, 10, 12, 19, 145] rfl) ?_)
           refine awp_cond rfl (fun hb172 => ?_) (fun hb172 => ?_)
           ·replace h := Sh.if_t h hb172
            refine awp_skip <| hK33 _ (AWP.weak (Weak.kt [3, 6, 9, 10, 12, 19] rfl) ?_)
            refine awp_seqK fun K35 hK35 => awp_block <| awp_seqK fun K36 hK36 => awp_any [(true, false), (true, false), (true, false), (true, false), (true, false), (true, false), (true, false), (true, false), (true, false), (true, false), (true, false), (true, false)] (by kernel_rfl) (by kernel_rfl) rfl ?_
            refine ARH.dry rfl (fun _ => aop_field_pp rfl rfl fd31_1 (by decide)) <| ARH.dry (r := .sl (List.map u64 r99.1.Rows)) rfl (fun _ => aop_load_pp rfl rfl sz27 rfl) <| ARH.dry rfl (fun _ => aop_move (.inl rfl) rfl) <| ARH.keep [3, 6, 9, 10, 12, 19, 149, 150] rfl ?_
            obtain ⟨x183, hx183, h⟩ := Sh.bind_some' h
            obtain ⟨k184, hi184, hl184⟩ := Sh.idx_some hx183
            refine ARH.dry rfl (fun _ => t_index_sl u64 r99.1.Rows hi184 hl184 rfl rfl rfl el27 rfl) <| ARH.dry (r := u64 x183) rfl (fun _ => aop_load_pp rfl rfl sz61 rfl) <| ARH.dry rfl (fun _ => aop_field_pp rfl rfl fd31_1 (by decide)) <| ARH.keep [3, 6, 9, 10, 12, 19, 152, 153] rfl <| ARH.dry (r := .sl (List.map u64 r101.1.Rows)) rfl (fun _ => aop_load_pp rfl rfl sz27 rfl) <| ARH.dry rfl (fun _ => aop_move (.inl rfl) rfl) ?_
            obtain ⟨x185, hx185, h⟩ := Sh.bind_some' h
            obtain ⟨k186, hi186, hl186⟩ := Sh.idx_some hx185
            refine ARH.dry rfl (fun _ => t_index_sl u64 r101.1.Rows hi186 hl186 rfl rfl rfl el27 rfl) <| ARH.keep [3, 6, 9, 10, 12, 19, 152, 156] rfl <| ARH.dry (r := u64 x185) rfl (fun _ => aop_load_pp rfl rfl sz61 rfl) ?_
            obtain ⟨r187, hr187, h⟩ := Sh.bind_some' h
            refine ARH.dry (r := bl r187) rfl (fun _ => aop_call1 rfl rfl (by simp) (inquestref10_Sub_ok hT hr187)) <| ARH.dry rfl (fun _ => aop_move (.inr rfl) rfl) <| ARH.nil <| hK36 _ (AWP.weak (Weak.kt [3, 6, 9, 10, 12, 19, 20] rfl) ?_)
            refine awp_seqK fun K37 hK37 => awp_reg rfl <| AR.op rfl (aop_move (.inl rfl) rfl) <| AR.op (r := bl (!r187)) rfl (aop_not rfl rfl) <| AR.nil <| hK37 _ (AWP.weak (Weak.kt [3, 6, 9, 10, 12, 19, 160] rfl) ?_)
            refine awp_cond rfl (fun hb188 => ?_) (fun hb188 => ?_)
            ·replace h := Sh.if_t h hb188
             refine awp_seqK fun K38 hK38 => awp_reg rfl <| AR.op rfl (aop_move (.inr rfl) rfl) <| AR.nil <| hK38 _ (AWP.weak (Weak.kt [2] rfl) ?_)
             refine awp_ret ?_
             replace h := Sh.exit_eq h hx1
             obtain rfl := Option.some.inj h
             refine ⟨.inr rfl, bl false, rfl, ?_⟩
             exact Weak.e ⟨.k, trivial⟩
            ·replace h := Sh.if_f h hb188
             refine awp_skip <| hK35 _ (AWP.weak (Weak.kt [3, 6, 9, 10, 12, 19] rfl) ?_)
             refine awp_reg rfl <| AR.op rfl (aop_move (.inl rfl) rfl) <| AR.op rfl (aop_add rfl rfl rfl rfl) <| AR.op rfl (aop_move (.inr rfl) rfl) <| AR.nil ?_
             replace h := Sh.next_eq h
             exact ⟨_, h, Weak.e (fr' := [(3, .pp [.sl (List.map G.api_Txn.av x_0.H.Txns)] 0), (6, .pp [i64 x_0.C.Key, i64 x_0.C.A, i64 x_0.C.B] 0), (9, .sl (List.map G.api_Choice.av more80)), (10, .pp [i64 r99.1.N, .sl (List.map u64 r99.1.Rows)] 0), (12, .pp [i64 r101.1.N, .sl (List.map u64 r101.1.Rows)] 0), (19, i64 (w64 (i171 + 1)))]) (H' := .empty) ⟨.k, .k, ⟨.sl (List.map G.api_Choice.av more80), rfl, .sm⟩, .k, .k, .k, trivial⟩⟩
           ·replace h := Sh.if_f h hb172
            refine awp_exit ?_
            replace h := Sh.exit_eq h hx1
            exact hK31 () _ h (Weak.kt [3, 6, 9] rfl)
        ·intro K39 hK39
         refine awp_seqK fun K40 hK40 => awp_reg rfl <| AR.op rfl (aop_move (.inr rfl) rfl) <| AR.nil <| hK40 _ ?_
         refine awp_block <| awp_iter (fun (p : Int) => G.inquestlaw18_ChoiceMore_b2 x_0 more80 r99 r101 r104 r106 p) (fun (p : Int) => (⟨[(3, .pp [.sl (List.map G.api_Txn.av x_0.H.Txns)] 0), (6, .pp [i64 x_0.C.Key, i64 x_0.C.A, i64 x_0.C.B] 0), (9, .sl (List.map G.api_Choice.av more80)), (10, .pp [i64 r99.1.N, .sl (List.map u64 r99.1.Rows)] 0), (12, .pp [i64 r101.1.N, .sl (List.map u64 r101.1.Rows)] 0), (14, .pp [i64 r104.N, .sl (List.map u64 r104.Rows)] 0), (15, .pp [i64 r106.N, .sl (List.map u64 r106.Rows)] 0), (17, i64 p)], .empty⟩ : St)) h (Weak.kt [3, 6, 9, 10, 12, 14, 15, 17] rfl) ?_
         ·skip
          rintro i200 o2 h hx2
          replace h : G.inquestlaw18_ChoiceMore_b2 x_0 more80 r99 r101 r104 r106 i200 = some o2 := h
          unfold G.inquestlaw18_ChoiceMore_b2 at h
          show AWP _ _ _ _ ⟨[(3, .pp [.sl (List.map G.api_Txn.av x_0.H.Txns)] 0), (6, .pp [i64 x_0.C.Key, i64 x_0.C.A, i64 x_0.C.B] 0), (9, .sl (List.map G.api_Choice.av more80)), (10, .pp [i64 r99.1.N, .sl (List.map u64 r99.1.Rows)] 0), (12, .pp [i64 r101.1.N, .sl (List.map u64 r101.1.Rows)] 0), (14, .pp [i64 r104.N, .sl (List.map u64 r104.Rows)] 0), (15, .pp [i64 r106.N, .sl (List.map u64 r106.Rows)] 0), (17, i64 i200)], .empty⟩ _
          refine awp_seqK fun K41 hK41 => awp_seqK fun K42 hK42 => awp_reg rfl <| AR.op rfl (aop_move (.inl rfl) rfl) <| AR.op rfl (aop_field_pp rfl rfl fd31_1 (by decide)) <| AR.op (r := .sl (List.map u64 r104.Rows)) rfl (aop_load_pp rfl rfl sz27 rfl) <| AR.keep [3, 6, 9, 10, 12, 14, 15, 17, 121, 123] rfl <| AR.op rfl (t_len_sl u64 r104.Rows rfl rfl el27) ?_
          refine AR.op rfl (aop_lss rfl rfl rfl) <| AR.nil <| hK42 _ (AWP.weak (Weak.kt [3, 6, 9, 10, 12, 14, 15, 17, 125] rfl) ?_)
          refine awp_cond rfl (fun hb201 => ?_) (fun hb201 => ?_)
          ·replace h := Sh.if_t h hb201
           refine awp_skip <| hK41 _ (AWP.weak (Weak.kt [3, 6, 9, 10, 12, 14, 15, 17] rfl) ?_)
           refine awp_seqK fun K43 hK43 => awp_block <| awp_seqK fun K44 hK44 => awp_any [(true, false), (true, false), (true, false), (true, false), (true, false), (true, false), (true, false), (true, false), (true, false), (true, false), (true, false), (true, false)] (by kernel_rfl) (by kernel_rfl) rfl ?_
           refine ARH.dry rfl (fun _ => aop_field_pp rfl rfl fd31_1 (by decide)) <| ARH.dry (r := .sl (List.map u64 r104.Rows)) rfl (fun _ => aop_load_pp rfl rfl sz27 rfl) <| ARH.dry rfl (fun _ => aop_move (.inl rfl) rfl) <| ARH.keep [3, 6, 9, 10, 12, 14, 15, 17, 129, 130] rfl ?_
           obtain ⟨x212, hx212, h⟩ := Sh.bind_some' h
           obtain ⟨k213, hi213, hl213⟩ := Sh.idx_some hx212
           refine ARH.dry rfl (fun _ => t_index_sl u64 r104.Rows hi213 hl213 rfl rfl rfl el27 rfl) <| ARH.dry (r := u64 x212) rfl (fun _ => aop_load_pp rfl rfl sz61 rfl) <| ARH.dry rfl (fun _ => aop_field_pp rfl rfl fd31_1 (by decide)) <| ARH.keep [3, 6, 9, 10, 12, 14, 15, 17, 132, 133] rfl <| ARH.dry (r := .sl (List.map u64 r106.Rows)) rfl (fun _ => aop_load_pp rfl rfl sz27 rfl) <| ARH.dry rfl (fun _ => aop_move (.inl rfl) rfl) ?_
           obtain ⟨x214, hx214, h⟩ := Sh.bind_some' h
           obtain ⟨k215, hi215, hl215⟩ := Sh.idx_some hx214
           refine ARH.dry rfl (fun _ => t_index_sl u64 r106.Rows hi215 hl215 rfl rfl rfl el27 rfl) <| ARH.keep [3, 6, 9, 10, 12, 14, 15, 17, 132, 136] rfl <| ARH.dry (r := u64 x214) rfl (fun _ => aop_load_pp rfl rfl sz61 rfl) ?_
           obtain ⟨r216, hr216, h⟩ := Sh.bind_some' h
           refine ARH.dry (r := bl r216) rfl (fun _ => aop_call1 rfl rfl (by simp) (inquestref10_Sub_ok hT hr216)) <| ARH.dry rfl (fun _ => aop_move (.inr rfl) rfl) <| ARH.nil <| hK44 _ (AWP.weak (Weak.kt [3, 6, 9, 10, 12, 14, 15, 17, 18] rfl) ?_)
           refine awp_seqK fun K45 hK45 => awp_reg rfl <| AR.op rfl (aop_move (.inl rfl) rfl) <| AR.op (r := bl (!r216)) rfl (aop_not rfl rfl) <| AR.nil <| hK45 _ (AWP.weak (Weak.kt [3, 6, 9, 10, 12, 14, 15, 17, 140] rfl) ?_)
           refine awp_cond rfl (fun hb217 => ?_) (fun hb217 => ?_)
           ·replace h := Sh.if_t h hb217
            refine awp_seqK fun K46 hK46 => awp_reg rfl <| AR.op rfl (aop_move (.inr rfl) rfl) <| AR.nil <| hK46 _ (AWP.weak (Weak.kt [2] rfl) ?_)
            refine awp_ret ?_
            replace h := Sh.exit_eq h hx2
            obtain rfl := Option.some.inj h
            refine ⟨.inr rfl, bl false, rfl, ?_⟩
            exact Weak.e ⟨.k, trivial⟩
           ·replace h := Sh.if_f h hb217
            refine awp_skip <| hK43 _ (AWP.weak (Weak.kt [3, 6, 9, 10, 12, 14, 15, 17] rfl) ?_)
            refine awp_reg rfl <| AR.op rfl (aop_move (.inl rfl) rfl) <| AR.op rfl (aop_add rfl rfl rfl rfl) <| AR.op rfl (aop_move (.inr rfl) rfl) <| AR.nil ?_
            replace h := Sh.next_eq h
            exact ⟨_, h, Weak.e (fr' := [(3, .pp [.sl (List.map G.api_Txn.av x_0.H.Txns)] 0), (6, .pp [i64 x_0.C.Key, i64 x_0.C.A, i64 x_0.C.B] 0), (9, .sl (List.map G.api_Choice.av more80)), (10, .pp [i64 r99.1.N, .sl (List.map u64 r99.1.Rows)] 0), (12, .pp [i64 r101.1.N, .sl (List.map u64 r101.1.Rows)] 0), (14, .pp [i64 r104.N, .sl (List.map u64 r104.Rows)] 0), (15, .pp [i64 r106.N, .sl (List.map u64 r106.Rows)] 0), (17, i64 (w64 (i200 + 1)))]) (H' := .empty) ⟨.k, .k, ⟨.sl (List.map G.api_Choice.av more80), rfl, .sm⟩, .k, .k, .k, .k, .k, trivial⟩⟩
          ·replace h := Sh.if_f h hb201
           refine awp_exit ?_
           replace h := Sh.exit_eq h hx2
           exact hK39 () _ h (Weak.kt [3, 6, 9, 10, 12] rfl)
      ·intro K47 hK47
       refine awp_reg rfl <| AR.op rfl (aop_field_pp rfl rfl fd31_1 (by decide)) <| AR.op (r := .sl (List.map u64 r104.Rows)) rfl (aop_load_pp rfl rfl sz27 rfl) <| AR.op rfl (t_len_sl u64 r104.Rows rfl rfl el27) <| AR.keep [3, 6, 9, 10, 12, 14, 15, 16, 98] rfl <| AR.op rfl (aop_field_pp rfl rfl fd31_1 (by decide)) <| AR.op (r := .sl (List.map u64 r106.Rows)) rfl (aop_load_pp rfl rfl sz27 rfl) <| AR.op rfl (t_len_sl u64 r106.Rows rfl rfl el27) ?_
       refine AR.keep [3, 6, 9, 10, 12, 14, 15, 16, 98, 101] rfl <| AR.op (r := bl (decide ((Sh.len r104.Rows) ≠ (Sh.len r106.Rows)))) rfl (aop_neq rfl rfl rfl) <| AR.op rfl (aop_move (.inl rfl) rfl) ?_
       rcases Bool.eq_false_or_eq_true (decide ((Sh.len r104.Rows) ≠ (Sh.len r106.Rows))) with hb218 | hb218
       ·rw [hb218]
        replace h := Sh.if_t h hb218
        refine AR.skip rfl <| AR.keep [3, 6, 9, 10, 12, 14, 15, 16, 103, 104] rfl <| AR.skip rfl <| AR.skip rfl <| AR.skip rfl <| AR.keep [3, 6, 9, 10, 12, 14, 15, 16, 103, 106, 107] rfl <| AR.skip rfl <| AR.skip rfl ?_
        refine AR.skip rfl <| AR.keep [3, 6, 9, 10, 12, 14, 15, 16, 103, 110] rfl <| AR.op rfl (aop_pick rfl rfl rfl) <| AR.op rfl (aop_move (.inl rfl) rfl) <| AR.skip rfl <| AR.keep [3, 6, 9, 10, 12, 14, 15, 112, 113] rfl <| AR.skip rfl <| AR.skip rfl ?_
        refine AR.skip rfl <| AR.keep [3, 6, 9, 10, 12, 14, 15, 112, 113, 115, 116] rfl <| AR.skip rfl <| AR.skip rfl <| AR.skip rfl <| AR.keep [3, 6, 9, 10, 12, 14, 15, 112, 119] rfl <| AR.op rfl (aop_pick rfl rfl rfl) <| AR.nil ?_
        exact hK47 true _ h (Weak.kt [3, 6, 9, 10, 12, 14, 15, 120] rfl)
       ·rw [hb218]
        replace h := Sh.if_f h hb218
        refine AR.op rfl (aop_field_pp rfl rfl fd31_1 (by decide)) <| AR.keep [3, 6, 9, 10, 12, 14, 15, 16, 103, 104] rfl <| AR.op (r := .sl (List.map u64 r99.1.Rows)) rfl (aop_load_pp rfl rfl sz27 rfl) <| AR.op rfl (t_len_sl u64 r99.1.Rows rfl rfl el27) <| AR.op rfl (aop_field_pp rfl rfl fd31_1 (by decide)) <| AR.keep [3, 6, 9, 10, 12, 14, 15, 16, 103, 106, 107] rfl <| AR.op (r := .sl (List.map u64 r101.1.Rows)) rfl (aop_load_pp rfl rfl sz27 rfl) <| AR.op rfl (t_len_sl u64 r101.1.Rows rfl rfl el27) ?_
        refine AR.op (r := bl (decide ((Sh.len r99.1.Rows) ≠ (Sh.len r101.1.Rows)))) rfl (aop_neq rfl rfl rfl) <| AR.keep [3, 6, 9, 10, 12, 14, 15, 16, 103, 110] rfl <| AR.op rfl (aop_pick rfl rfl rfl) <| AR.op rfl (aop_move (.inl rfl) rfl) ?_
        rcases Bool.eq_false_or_eq_true (decide ((Sh.len r99.1.Rows) ≠ (Sh.len r101.1.Rows))) with hb219 | hb219
        ·rw [hb219]
         replace h := Sh.if_t h hb219
         refine AR.skip rfl <| AR.keep [3, 6, 9, 10, 12, 14, 15, 112, 113] rfl <| AR.skip rfl <| AR.skip rfl <| AR.skip rfl <| AR.keep [3, 6, 9, 10, 12, 14, 15, 112, 113, 115, 116] rfl <| AR.skip rfl <| AR.skip rfl ?_
         refine AR.skip rfl <| AR.keep [3, 6, 9, 10, 12, 14, 15, 112, 119] rfl <| AR.op rfl (aop_pick rfl rfl rfl) <| AR.nil ?_
         exact hK47 true _ h (Weak.kt [3, 6, 9, 10, 12, 14, 15, 120] rfl)
        ·rw [hb219]
         replace h := Sh.if_f h hb219
         refine AR.op (r := G.graph_Graph.av r108) rfl (aop_load_pp rfl rfl sz31 rfl) <| AR.keep [3, 6, 9, 10, 12, 14, 15, 112, 113] rfl <| AR.op rfl (aop_field_pp rfl rfl fd54_1 (by decide)) <| AR.op (r := i64 x_0.C.A) rfl (aop_load_pp rfl rfl sz3 rfl) <| AR.op rfl (aop_field_pp rfl rfl fd54_2 (by decide)) <| AR.keep [3, 6, 9, 10, 12, 14, 15, 112, 113, 115, 116] rfl <| AR.op (r := i64 x_0.C.B) rfl (aop_load_pp rfl rfl sz3 rfl) ?_
         obtain ⟨r220, hr220, h⟩ := Sh.bind_some' h
         refine AR.op (r := bl r220) rfl (aop_call1 rfl rfl (by simp) (graph_Has_ok hT hr220)) <| AR.op (r := bl (!r220)) rfl (aop_not rfl rfl) <| AR.keep [3, 6, 9, 10, 12, 14, 15, 112, 119] rfl <| AR.op rfl (aop_pick rfl rfl rfl) <| AR.nil ?_
         exact hK47 (!r220) _ h (Weak.e (fr' := [(3, .pp [.sl (List.map G.api_Txn.av x_0.H.Txns)] 0), (6, .pp [i64 x_0.C.Key, i64 x_0.C.A, i64 x_0.C.B] 0), (9, .sl (List.map G.api_Choice.av more80)), (10, .pp [i64 r99.1.N, .sl (List.map u64 r99.1.Rows)] 0), (12, .pp [i64 r101.1.N, .sl (List.map u64 r101.1.Rows)] 0), (14, .pp [i64 r104.N, .sl (List.map u64 r104.Rows)] 0), (15, .pp [i64 r106.N, .sl (List.map u64 r106.Rows)] 0), (120, bl (!r220))]) (H' := .empty) ⟨.k, .k, ⟨.sl (List.map G.api_Choice.av more80), rfl, .sm⟩, .k, .k, .k, .k, .k, trivial⟩)
  ·intro K48 hK48
   refine awp_reg rfl <| AR.op rfl (aop_move (.inl rfl) rfl) <| AR.op (r := bl (!r67)) rfl (aop_not rfl rfl) <| AR.op rfl (aop_move (.inl rfl) rfl) <| AR.keep [3, 4, 5, 6, 38] rfl ?_
   rcases Bool.eq_false_or_eq_true (!r67) with hb221 | hb221
   ·rw [hb221]
    replace h := Sh.if_t h hb221
    refine AR.skip rfl <| AR.skip rfl <| AR.skip rfl <| AR.keep [3, 4, 5, 6, 38, 41] rfl <| AR.op rfl (aop_pick rfl rfl rfl) <| AR.op rfl (aop_move (.inl rfl) rfl) <| AR.skip rfl <| AR.keep [3, 4, 5, 6, 43, 44] rfl ?_
    refine AR.skip rfl <| AR.skip rfl <| AR.skip rfl <| AR.keep [3, 4, 5, 6, 43, 47] rfl <| AR.op rfl (aop_pick rfl rfl rfl) <| AR.nil ?_
    exact hK48 true _ h (Weak.kt [3, 4, 5, 6, 48] rfl)
   ·rw [hb221]
    replace h := Sh.if_f h hb221
    refine AR.op rfl (aop_move (.inl rfl) rfl) <| AR.op rfl (t_len_sl G.api_Choice.av x_0.L rfl rfl el51) <| AR.op rfl (aop_gtr rfl rfl rfl) <| AR.keep [3, 4, 5, 6, 38, 41] rfl <| AR.op rfl (aop_pick rfl rfl rfl) <| AR.op rfl (aop_move (.inl rfl) rfl) ?_
    rcases Bool.eq_false_or_eq_true (decide ((60 : Int) < (Sh.len x_0.L))) with hb222 | hb222
    ·rw [hb222]
     replace h := Sh.if_t h hb222
     refine AR.skip rfl <| AR.keep [3, 4, 5, 6, 43, 44] rfl <| AR.skip rfl <| AR.skip rfl <| AR.skip rfl <| AR.keep [3, 4, 5, 6, 43, 47] rfl <| AR.op rfl (aop_pick rfl rfl rfl) <| AR.nil ?_
     exact hK48 true _ h (Weak.kt [3, 4, 5, 6, 48] rfl)
    ·rw [hb222]
     replace h := Sh.if_f h hb222
     refine AR.op (r := G.api_Hist.av x_0.H) rfl (aop_load_pp rfl rfl sz24 rfl) <| AR.keep [3, 4, 5, 6, 43, 44] rfl <| AR.op rfl (aop_move (.inl rfl) rfl) ?_
     obtain ⟨r223, hr223, h⟩ := Sh.bind_some' h
     refine AR.op (r := bl r223) rfl (aop_call1 rfl rfl (by simp) (choice_Right_ok hT hr223)) <| AR.op (r := bl (!r223)) rfl (aop_not rfl rfl) <| AR.keep [3, 4, 5, 6, 43, 47] rfl <| AR.op rfl (aop_pick rfl rfl rfl) <| AR.nil ?_
     exact hK48 (!r223) _ h (Weak.e (fr' := [(3, .pp [.sl (List.map G.api_Txn.av x_0.H.Txns)] 0), (4, i64 x_0.Level), (5, .sl (List.map G.api_Choice.av x_0.L)), (6, .pp [i64 x_0.C.Key, i64 x_0.C.A, i64 x_0.C.B] 0), (48, bl (!r223))]) (H' := .empty) ⟨.k, .k, ⟨.sl (List.map G.api_Choice.av x_0.L), rfl, .sm⟩, .k, .k, trivial⟩)
theorem inquestlaw18_ChoiceMore_ok {W0 : World} (hT : Tab W0) {x_0 : G.inquestlaw18_More} {r : Bool} (h : G.inquestlaw18_ChoiceMore x_0 = some r) : Fun1 Tryd.prog W0 8 [G.inquestlaw18_More.av x_0] (bl r) := Fun1.two (inquestlaw18_ChoiceMore_ok0 hT h) (by simp)

end Wk
