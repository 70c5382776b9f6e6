/- That the functions of a package do what their plain functions say. -/
import Derived.Test.YtdeepljikmgjjaaSh
import Derived.Test.YtdeepljikmgjjaaWkSFacts
import Derived.Test.YtdeepljikmgjjaaWkShist
import Derived.Test.YtdeepljikmgjjaaWkSstdslices
open Go Go.Av Go.Proofs
set_option linter.unusedVariables false
set_option maxHeartbeats 8000000
set_option maxRecDepth 20000
namespace Wk
theorem store_copied_own {W0 : World} (hT : Tab W0) {h_0 : G.api_Hist} {r : G.api_Hist} (h : G.store_copied h_0 = some r) : Fun2 Try.prog W0 26 [G.api_Hist.av h_0] (.agg [.view 0 0 (List.map G.api_Txn.av r.Txns).length]) ⟨1, [(0, (3, List.map G.api_Txn.av r.Txns))], []⟩ := by
 refine fun2_of_awp Try.func26 rfl (by kernel_rfl) Try.ntmps26 (by simp) ?_
 unfold G.store_copied at h
 show AWP _ _ _ _ ⟨[(0, G.api_Hist.av h_0)], .empty⟩ _
 refine awp_seqK fun K1 hK1 => awp_reg rfl <| AR.op (r := .ref 0 0 0) rfl (aop_box 1 [G.api_Hist.av h_0] rfl rfl rfl (.inl ⟨rfl, rfl⟩)) <| AR.op (r := .ref 1 0 0) rfl (aop_alloc 1 [.agg [nilS]] rfl zr24 (by kernel_rfl) (.inl ⟨rfl, rfl⟩)) <| AR.nil <| hK1 _ (AWP.weak (Weak.re (fr' := [(1, .pp [.sl (List.map G.api_Txn.av h_0.Txns)] 0), (2, .ref 0 0 0)]) (H' := ⟨1, [(0, (1, [.agg [nilS]]))], []⟩) [(0, 1)] [] rfl rfl rfl (.cons rfl rfl (.one (.sm) rfl) dt trivial) ⟨⟨_, rfl, .frzA rfl rfl rfl rfl (by simp)⟩, ⟨_, rfl, .ref rfl⟩, trivial⟩) ?_)
 refine awp_seqK fun K2 hK2 => awp_reg rfl <| AR.op (r := .ref 1 0 0) rfl (aop_alloc 1 [.agg [nilS]] rfl zr24 (by kernel_rfl) (.inl ⟨rfl, rfl⟩)) <| AR.nil <| hK2 _ ?_
 refine awp_seqJ (fun (p : (List G.api_Txn)) => (⟨[(2, .ref 0 0 0), (3, .ref 1 0 0)], ⟨3, [(0, (1, [.agg [nilS]])), (1, (1, [.agg [.view 2 0 (List.map G.api_Txn.av p).length]])), (2, (3, List.map G.api_Txn.av p))], []⟩⟩ : St)) (fun (p : (List G.api_Txn)) => G.store_copied_j1 p = some r) ?_ ?_
 ·rintro v39 h
  replace h : G.store_copied_j1 v39 = some r := h
  unfold G.store_copied_j1 at h
  refine awp_seqK fun K3 hK3 => awp_reg rfl <| AR.op (r := .agg [.view 2 0 (List.map G.api_Txn.av v39).length]) rfl (aop_load_ref rfl rfl rfl rfl sz24 rfl) <| AR.op rfl (aop_store (e' := .agg [.view 2 0 (List.map G.api_Txn.av v39).length]) rfl rfl rfl rfl rfl rfl sz24 rfl dt rfl) <| AR.nil <| hK3 _ (AWP.weak (Weak.re (fr' := [(2, .ref 0 0 0)]) (H' := ⟨2, [(0, (1, [.agg [.view 1 0 (List.map G.api_Txn.av v39).length]])), (1, (3, List.map G.api_Txn.av v39))], []⟩) [(0, 0), (1, 2)] [] rfl rfl rfl (.cons rfl rfl (.one (.ag ⟨.view rfl, trivial⟩) rfl) dt (.cons rfl rfl (.same (by simp)) dt trivial)) ⟨⟨_, rfl, .ref rfl⟩, trivial⟩) ?_)
  refine awp_ret ?_
  obtain rfl := Option.some.inj h
  refine ⟨.inr rfl, .agg [.view 1 0 (List.map G.api_Txn.av v39).length], rfl, ?_⟩
  exact Weak.re [(0, 1)] [] rfl rfl rfl (.cons rfl rfl (.same (by simp)) dt trivial) ⟨⟨.agg [.view 1 0 (List.map G.api_Txn.av v39).length], rfl, .ag ⟨.view rfl, trivial⟩⟩, trivial⟩
 ·intro K4 hK4
  refine awp_seqK fun K5 hK5 => awp_reg rfl <| AR.op rfl (aop_field_pp rfl rfl fd24_0 (by decide)) <| AR.op (r := .sl (List.map G.api_Txn.av h_0.Txns)) rfl (aop_load_pp rfl rfl sz22 rfl) <| AR.op rfl (t_len_sl G.api_Txn.av h_0.Txns rfl rfl el22) <| AR.keep [2, 3, 7, 8] rfl <| AR.op rfl (aop_move (.inl rfl) rfl) <| AR.nil ?_
  refine hK5 _ ?_
  refine awp_block <| awp_iter (fun (p : (List G.api_Txn) × Int) => G.store_copied_b1 h_0 p.1 p.2) (fun (p : (List G.api_Txn) × Int) => (⟨[(2, .ref 0 0 0), (3, .ref 1 0 0), (7, .sl (List.map G.api_Txn.av h_0.Txns)), (8, i64 (Sh.len h_0.Txns)), (9, i64 p.2)], ⟨3, [(0, (1, [.agg [nilS]])), (1, (1, [.agg [.view 2 0 (List.map G.api_Txn.av p.1).length]])), (2, (3, List.map G.api_Txn.av p.1))], []⟩⟩ : St)) h (Weak.re [(0, 0), (1, 1)] [2] rfl rfl rfl (.cons rfl rfl (.one (.sm) rfl) dt (.cons rfl rfl (.one (.ag ⟨.nil (by simp), trivial⟩) rfl) dt (.fresh (by simp) dt trivial))) ⟨⟨_, rfl, .ref rfl⟩, ⟨_, rfl, .ref rfl⟩, ⟨.sl (List.map G.api_Txn.av h_0.Txns), rfl, .sm⟩, .k, .k, trivial⟩) ?_
  ·skip
   rintro ⟨outTxns52, v53⟩ o1 h hx1
   replace h : G.store_copied_b1 h_0 outTxns52 v53 = some o1 := h
   unfold G.store_copied_b1 at h
   refine awp_seqK fun K6 hK6 => awp_reg rfl <| AR.op rfl (aop_lss rfl rfl rfl) <| AR.nil <| hK6 _ ?_
   refine awp_seqK fun K7 hK7 => awp_cond rfl (fun hb54 => ?_) (fun hb54 => ?_)
   ·replace h := Sh.if_t h hb54
    refine awp_skip <| hK7 _ (AWP.weak (Weak.kt [2, 3, 7, 8, 9] rfl) ?_)
    refine awp_seqK fun K8 hK8 => awp_block <| awp_seqK fun K9 hK9 => awp_reg rfl ?_
    obtain ⟨x62, hx62, h⟩ := Sh.bind_some' h
    obtain ⟨k63, hi63, hl63⟩ := Sh.idx_some hx62
    refine AR.op rfl (t_index_sl G.api_Txn.av h_0.Txns hi63 hl63 rfl rfl rfl el22 rfl) <| AR.op (r := G.api_Txn.av x62) rfl (aop_load_pp rfl rfl sz58 rfl) <| AR.op (r := .ref 3 0 0) rfl (aop_alloc 3 [.agg [i64 0, nilS, nilS]] rfl zr58 (by kernel_rfl) (.inl ⟨rfl, rfl⟩)) <| AR.keep [2, 3, 7, 8, 9, 12, 5] rfl <| AR.op rfl (aop_store (e' := G.api_Txn.av x62) rfl rfl rfl rfl rfl rfl sz58 rfl dt rfl) <| AR.nil <| hK9 _ (AWP.weak (Weak.re (fr' := [(2, .ref 0 0 0), (3, .ref 1 0 0), (7, .sl (List.map G.api_Txn.av h_0.Txns)), (8, i64 (Sh.len h_0.Txns)), (9, i64 v53), (5, .pp [i64 x62.Session, .sl (List.map i64 x62.Writes), .sl (List.map G.api_Take.av x62.Reads)] 0)]) (H' := ⟨3, [(0, (1, [.agg [nilS]])), (1, (1, [.agg [.view 2 0 (List.map G.api_Txn.av outTxns52).length]])), (2, (3, List.map G.api_Txn.av outTxns52))], []⟩) [(0, 0), (1, 1), (2, 2)] [] rfl rfl rfl (.cons rfl rfl (.one (.sm) rfl) dt (.cons rfl rfl (.one (.ag ⟨.view rfl, trivial⟩) rfl) dt (.cons rfl rfl (.same (by simp)) dt trivial))) ⟨⟨_, rfl, .ref rfl⟩, ⟨_, rfl, .ref rfl⟩, ⟨.sl (List.map G.api_Txn.av h_0.Txns), rfl, .sm⟩, .k, .k, ⟨_, rfl, .frzA rfl rfl rfl rfl (by simp)⟩, trivial⟩) ?_)
    refine awp_any [(false, false), (false, false), (true, false), (true, false), (true, false), (true, false), (true, false), (true, false), (true, false), (true, false), (true, false), (true, false), (false, true), (false, false), (false, true)] (by kernel_rfl) (by kernel_rfl) rfl ?_
    refine ARH.op rfl rfl (aop_field_ref rfl rfl rfl fd24_0 (by decide)) <| ARH.op (r := .view 2 0 (List.map G.api_Txn.av outTxns52).length) rfl rfl (aop_load_ref rfl rfl rfl rfl sz22 rfl) <| ARH.dry rfl (fun _ => aop_field_pp rfl rfl fd58_0 (by decide)) <| ARH.keep [2, 3, 7, 8, 9, 5, 14, 15] rfl <| ARH.dry (r := i64 x62.Session) rfl (fun _ => aop_load_pp rfl rfl sz3 rfl) <| ARH.dry rfl (fun _ => aop_field_pp rfl rfl fd58_1 (by decide)) <| ARH.dry (r := .sl (List.map i64 x62.Writes)) rfl (fun _ => aop_load_pp rfl rfl sz36 rfl) <| ARH.keep [2, 3, 7, 8, 9, 5, 14, 16, 18] rfl ?_
    obtain ⟨r64, hr64, h⟩ := Sh.bind_some' h
    refine ARH.dry (r := .sl (List.map i64 r64)) rfl (fun _ => aop_call1 rfl rfl (by simp) (slices_Clone_int_int_ok hT hr64)) <| ARH.dry rfl (fun _ => aop_field_pp rfl rfl fd58_2 (by decide)) <| ARH.dry (r := .sl (List.map G.api_Take.av x62.Reads)) rfl (fun _ => aop_load_pp rfl rfl sz56 rfl) <| ARH.keep [2, 3, 7, 8, 9, 14, 16, 19, 21] rfl ?_
    obtain ⟨r65, hr65, h⟩ := Sh.bind_some' h
    refine ARH.dry (r := .sl (List.map G.api_Take.av r65)) rfl (fun _ => aop_call1 rfl rfl (by simp) (slices_Clone_api_Take_api_Take_ok hT hr65)) <| ARH.dry (r := .agg [i64 x62.Session, .sl (List.map i64 r64), .sl (List.map G.api_Take.av r65)]) rfl (fun _ => aop_build rfl bd58 rfl rfl rfl) <| ARH.dry (r := .clip (List.map G.api_Txn.av ([(G.api_Txn.mk x62.Session r64 r65)] : List G.api_Txn))) rfl (fun _ => aop_buildSlice rfl (xo := [.tmp 23]) rfl rfl rfl (by simp) (by simp) el22 ze22 (by decide)) <| ARH.keep [2, 3, 7, 8, 9, 14, 24] rfl ?_
    obtain ⟨l66, hl66, h⟩ := Sh.bind_some' h
    refine ARH.loud (r := .view 3 0 (List.map G.api_Txn.av l66).length) rfl rfl (t_app_view G.api_Txn.av outTxns52 ([(G.api_Txn.mk x62.Session r64 r65)] : List G.api_Txn) l66 hl66 rfl et22 (fun _ => rfl) rfl rfl rfl rfl rfl rfl rfl) <| ARH.op rfl rfl (aop_field_ref rfl rfl rfl fd24_0 (by decide)) <| ARH.loud rfl rfl (aop_store (e' := .agg [.view 3 0 (List.map G.api_Txn.av l66).length]) rfl rfl rfl rfl rfl rfl sz22 rfl dt rfl) <| ARH.nil <| hK8 _ (AWP.weak (Weak.re (fr' := [(2, .ref 0 0 0), (3, .ref 1 0 0), (7, .sl (List.map G.api_Txn.av h_0.Txns)), (8, i64 (Sh.len h_0.Txns)), (9, i64 v53)]) (H' := ⟨3, [(0, (1, [.agg [nilS]])), (1, (1, [.agg [.view 2 0 (List.map G.api_Txn.av l66).length]])), (2, (3, List.map G.api_Txn.av l66))], []⟩) [(0, 0), (1, 1), (2, 3)] [] rfl rfl rfl (.cons rfl rfl (.one (.sm) rfl) dt (.cons rfl rfl (.one (.ag ⟨.view rfl, trivial⟩) rfl) dt (.cons rfl rfl (.same (by simp)) dt trivial))) ⟨⟨_, rfl, .ref rfl⟩, ⟨_, rfl, .ref rfl⟩, ⟨.sl (List.map G.api_Txn.av h_0.Txns), rfl, .sm⟩, .k, .k, trivial⟩) ?_)
    refine awp_reg rfl <| AR.op rfl (aop_add rfl rfl rfl rfl) <| AR.op rfl (aop_move (.inl rfl) rfl) <| AR.nil ?_
    replace h := Sh.next_eq h
    exact ⟨_, h, Weak.kt [2, 3, 7, 8, 9] rfl⟩
   ·replace h := Sh.if_f h hb54
    refine awp_exit ?_
    replace h := Sh.exit_eq h hx1
    exact hK4 outTxns52 _ h (Weak.kt [2, 3] rfl)
theorem store_copied_ok {W0 : World} (hT : Tab W0) {h_0 : G.api_Hist} {r : G.api_Hist} (h : G.store_copied h_0 = some r) : Fun1 Try.prog W0 26 [G.api_Hist.av h_0] (G.api_Hist.av r) :=
 (store_copied_own hT h).give (Weak.e ⟨⟨_, rfl, .ag ⟨.lendAll rfl rfl (by simp), trivial⟩⟩, trivial⟩) (by simp)


theorem store_New_ok0 {W0 : World} (hT : Tab W0) {h_0 : G.api_Hist} {level_1 : Int} {r : Unit} (h : G.store_New h_0 level_1 = some (Sum.inl r)) : Fun3 Try.prog (.pinned W0 0) 10 [G.api_Hist.av h_0, i64 level_1] .empty (.tuple [.imm (.pointer none), i64 1]) .empty := by
 refine fun3_of_awp rfl Try.func10 rfl (by kernel_rfl) Try.ntmps10 (by simp) ?_
 unfold G.store_New at h
 show AWP _ _ _ _ ⟨[(0, G.api_Hist.av h_0), (1, i64 level_1)], .empty⟩ _
 refine awp_seqK fun K1 hK1 => awp_reg rfl <| AR.op (r := .ref 0 0 0) rfl (aop_box 1 [G.api_Hist.av h_0] rfl rfl rfl (.inl ⟨rfl, rfl⟩)) <| AR.op rfl (aop_move (.inr rfl) rfl) <| AR.op rfl (aop_move (.inr rfl) rfl) <| AR.nil <| hK1 _ (AWP.weak (Weak.e (fr' := [(1, i64 level_1), (2, .pp [.sl (List.map G.api_Txn.av h_0.Txns)] 0)]) (H' := .empty) ⟨.k, ⟨_, rfl, .frzA rfl rfl rfl rfl (by simp)⟩, trivial⟩) ?_)
 refine awp_seqK fun K2 hK2 => awp_seqJ (fun (p : Bool) => (⟨[(1, i64 level_1), (2, .pp [.sl (List.map G.api_Txn.av h_0.Txns)] 0), (16, bl p)], .empty⟩ : St)) (fun (p : Bool) => G.store_New_j1 h_0 p = some (Sum.inl r)) ?_ ?_
 ·rintro v14 h
  replace h : G.store_New_j1 h_0 v14 = some (Sum.inl r) := h
  unfold G.store_New_j1 at h
  refine awp_cond rfl (fun hb15 => ?_) (fun hb15 => ?_)
  ·replace h := Sh.if_t h hb15
   refine awp_seqK fun K3 hK3 => awp_reg rfl <| AR.op rfl (aop_move (.inr rfl) rfl) <| AR.op rfl (aop_move (.inr rfl) rfl) <| AR.nil <| hK3 _ (AWP.weak (Weak.kt [4, 5] rfl) ?_)
   refine awp_ret ?_
   obtain rfl := Sum.inl.inj (Option.some.inj h)
   refine ⟨.inr rfl, .tuple [.imm (.pointer none), i64 1], rfl, ?_⟩
   exact Weak.e ⟨⟨.tuple [.imm (.pointer none), i64 1], rfl, .tp ⟨.sm, .sm, trivial⟩⟩, trivial⟩
  ·replace h := Sh.if_f h hb15
   refine awp_skip <| hK2 _ (AWP.weak (Weak.kt [1, 2] rfl) ?_)
   refine awp_seqK fun K4 hK4 => awp_reg rfl <| AR.op (r := .mref 0) rfl (t_makeMap G.api_Choice.ky rfl Try.underlying59) <| AR.op (r := .agg [nilS, .mref 0]) rfl (aop_build rfl bd61 rfl rfl rfl) <| AR.op (r := G.api_Hist.av h_0) rfl (aop_load_pp rfl rfl sz24 rfl) <| AR.keep [1, 18, 19] rfl ?_
   obtain ⟨r17, hr17, h⟩ := Sh.bind_some' h
   refine AR.op (r := G.api_Hist.av r17) rfl (aop_call1 rfl rfl (by simp) (store_copied_ok hT hr17)) <| AR.op rfl (aop_move (.inl rfl) rfl) <| AR.op (r := .agg [nilS, .mref 0, .sl (List.map G.api_Txn.av r17.Txns), i64 level_1]) rfl (aop_build rfl bd64 rfl rfl rfl) <| AR.keep [22] rfl <| AR.op (r := .ref 1 0 0) rfl (aop_box 4 [.agg [nilS, .mref 0, .sl (List.map G.api_Txn.av r17.Txns), i64 level_1]] rfl rfl rfl (.inl ⟨rfl, rfl⟩)) <| AR.op rfl (aop_move (.inr rfl) rfl) <| AR.op rfl (aop_move (.inr rfl) rfl) <| AR.nil ?_
   refine hK4 _ (AWP.weak (Weak.re (fr' := [(4, .ref 0 0 0), (5, i64 0)]) (H' := ⟨2, [(0, (4, [.agg [nilS, .mref 1, .sl (List.map G.api_Txn.av r17.Txns), i64 level_1]])), (1, (0, [mpC G.api_Choice.ky []]))], []⟩) [(0, 1), (1, 0)] [] rfl rfl rfl (.cons rfl rfl (.one (.ag ⟨.sm, .mref rfl, .sm, .sm, trivial⟩) rfl) dt (.cons rfl rfl (.same (by simp)) dt trivial)) ⟨⟨_, rfl, .ref rfl⟩, .k, trivial⟩) ?_)
   refine awp_ret ?_
   cases h
 ·intro K5 hK5
  refine awp_reg rfl <| AR.op (r := G.api_Hist.av h_0) rfl (aop_load_pp rfl rfl sz24 rfl) ?_
  obtain ⟨r18, hr18, h⟩ := Sh.bind_some' h
  refine AR.op (r := bl r18) rfl (aop_call1 rfl rfl (by simp) (hist_Right_ok hT hr18)) <| AR.op (r := bl (!r18)) rfl (aop_not rfl rfl) <| AR.keep [1, 2, 8] rfl <| AR.op rfl (aop_move (.inl rfl) rfl) ?_
  rcases Bool.eq_false_or_eq_true (!r18) with hb19 | hb19
  ·rw [hb19]
   replace h := Sh.if_t h hb19
   refine AR.skip rfl <| AR.skip rfl <| AR.keep [1, 2, 9, 11] rfl <| AR.skip rfl <| AR.skip rfl <| AR.skip rfl <| AR.keep [1, 2, 9, 12, 14] rfl <| AR.skip rfl ?_
   refine AR.op rfl (aop_pick rfl rfl rfl) <| AR.nil ?_
   exact hK5 true _ h (Weak.kt [1, 2, 16] rfl)
  ·rw [hb19]
   replace h := Sh.if_f h hb19
   refine AR.op rfl (aop_move (.inl rfl) rfl) <| AR.op (r := bl (decide (level_1 ≠ 0))) rfl (aop_neq rfl rfl rfl) <| AR.keep [1, 2, 9, 11] rfl <| AR.op rfl (aop_move (.inl rfl) rfl) ?_
   rcases Bool.eq_false_or_eq_true (decide (level_1 ≠ 0)) with hb20 | hb20
   ·rw [hb20]
    replace h := Sh.if_t h hb20
    refine AR.op rfl (aop_move (.inl rfl) rfl) <| AR.op (r := bl (decide (level_1 ≠ 1))) rfl (aop_neq rfl rfl rfl) <| AR.keep [1, 2, 9, 12, 14] rfl <| AR.op rfl (aop_pick rfl rfl rfl) <| AR.op rfl (aop_pick rfl rfl rfl) <| AR.nil ?_
    exact hK5 (decide (level_1 ≠ 1)) _ h (Weak.kt [1, 2, 16] rfl)
   ·rw [hb20]
    replace h := Sh.if_f h hb20
    refine AR.skip rfl <| AR.skip rfl <| AR.keep [1, 2, 9, 12, 14] rfl <| AR.op rfl (aop_pick rfl rfl rfl) <| AR.op rfl (aop_pick rfl rfl rfl) <| AR.nil ?_
    exact hK5 false _ h (Weak.kt [1, 2, 16] rfl)
theorem store_New_ok1 {W0 : World} (hT : Tab W0) {h_0 : G.api_Hist} {level_1 : Int} {r : (List G.api_Txn)} (h : G.store_New h_0 level_1 = some (Sum.inr r)) : Fun3 Try.prog (.pinned W0 0) 10 [G.api_Hist.av h_0, i64 level_1] .empty (.tuple [.ref 0 0 0, i64 0]) ⟨2, [(0, (4, [.agg [nilS, .mref 1, .sl (List.map G.api_Txn.av r), i64 level_1]])), (1, (0, [mpC G.api_Choice.ky []]))], []⟩ := by
 refine fun3_of_awp rfl Try.func10 rfl (by kernel_rfl) Try.ntmps10 (by simp) ?_
 unfold G.store_New at h
 show AWP _ _ _ _ ⟨[(0, G.api_Hist.av h_0), (1, i64 level_1)], .empty⟩ _
 refine awp_seqK fun K1 hK1 => awp_reg rfl <| AR.op (r := .ref 0 0 0) rfl (aop_box 1 [G.api_Hist.av h_0] rfl rfl rfl (.inl ⟨rfl, rfl⟩)) <| AR.op rfl (aop_move (.inr rfl) rfl) <| AR.op rfl (aop_move (.inr rfl) rfl) <| AR.nil <| hK1 _ (AWP.weak (Weak.e (fr' := [(1, i64 level_1), (2, .pp [.sl (List.map G.api_Txn.av h_0.Txns)] 0)]) (H' := .empty) ⟨.k, ⟨_, rfl, .frzA rfl rfl rfl rfl (by simp)⟩, trivial⟩) ?_)
 refine awp_seqK fun K2 hK2 => awp_seqJ (fun (p : Bool) => (⟨[(1, i64 level_1), (2, .pp [.sl (List.map G.api_Txn.av h_0.Txns)] 0), (16, bl p)], .empty⟩ : St)) (fun (p : Bool) => G.store_New_j1 h_0 p = some (Sum.inr r)) ?_ ?_
 ·rintro v14 h
  replace h : G.store_New_j1 h_0 v14 = some (Sum.inr r) := h
  unfold G.store_New_j1 at h
  refine awp_cond rfl (fun hb15 => ?_) (fun hb15 => ?_)
  ·replace h := Sh.if_t h hb15
   refine awp_seqK fun K3 hK3 => awp_reg rfl <| AR.op rfl (aop_move (.inr rfl) rfl) <| AR.op rfl (aop_move (.inr rfl) rfl) <| AR.nil <| hK3 _ (AWP.weak (Weak.kt [4, 5] rfl) ?_)
   refine awp_ret ?_
   cases h
  ·replace h := Sh.if_f h hb15
   refine awp_skip <| hK2 _ (AWP.weak (Weak.kt [1, 2] rfl) ?_)
   refine awp_seqK fun K4 hK4 => awp_reg rfl <| AR.op (r := .mref 0) rfl (t_makeMap G.api_Choice.ky rfl Try.underlying59) <| AR.op (r := .agg [nilS, .mref 0]) rfl (aop_build rfl bd61 rfl rfl rfl) <| AR.op (r := G.api_Hist.av h_0) rfl (aop_load_pp rfl rfl sz24 rfl) <| AR.keep [1, 18, 19] rfl ?_
   obtain ⟨r17, hr17, h⟩ := Sh.bind_some' h
   refine AR.op (r := G.api_Hist.av r17) rfl (aop_call1 rfl rfl (by simp) (store_copied_ok hT hr17)) <| AR.op rfl (aop_move (.inl rfl) rfl) <| AR.op (r := .agg [nilS, .mref 0, .sl (List.map G.api_Txn.av r17.Txns), i64 level_1]) rfl (aop_build rfl bd64 rfl rfl rfl) <| AR.keep [22] rfl <| AR.op (r := .ref 1 0 0) rfl (aop_box 4 [.agg [nilS, .mref 0, .sl (List.map G.api_Txn.av r17.Txns), i64 level_1]] rfl rfl rfl (.inl ⟨rfl, rfl⟩)) <| AR.op rfl (aop_move (.inr rfl) rfl) <| AR.op rfl (aop_move (.inr rfl) rfl) <| AR.nil ?_
   refine hK4 _ (AWP.weak (Weak.re (fr' := [(4, .ref 0 0 0), (5, i64 0)]) (H' := ⟨2, [(0, (4, [.agg [nilS, .mref 1, .sl (List.map G.api_Txn.av r17.Txns), i64 level_1]])), (1, (0, [mpC G.api_Choice.ky []]))], []⟩) [(0, 1), (1, 0)] [] rfl rfl rfl (.cons rfl rfl (.one (.ag ⟨.sm, .mref rfl, .sm, .sm, trivial⟩) rfl) dt (.cons rfl rfl (.same (by simp)) dt trivial)) ⟨⟨_, rfl, .ref rfl⟩, .k, trivial⟩) ?_)
   refine awp_ret ?_
   obtain rfl := Sum.inr.inj (Option.some.inj h)
   refine ⟨.inr rfl, .tuple [.ref 0 0 0, i64 0], rfl, ?_⟩
   exact Weak.re [(0, 0), (1, 1)] [] rfl rfl rfl (.cons rfl rfl (.one (.ag ⟨.sm, .mref rfl, .sm, .sm, trivial⟩) rfl) dt (.cons rfl rfl (.same (by simp)) dt trivial)) ⟨⟨.tuple [.ref 0 0 0, i64 0], rfl, .tp ⟨.ref rfl, .sm, trivial⟩⟩, trivial⟩
 ·intro K5 hK5
  refine awp_reg rfl <| AR.op (r := G.api_Hist.av h_0) rfl (aop_load_pp rfl rfl sz24 rfl) ?_
  obtain ⟨r18, hr18, h⟩ := Sh.bind_some' h
  refine AR.op (r := bl r18) rfl (aop_call1 rfl rfl (by simp) (hist_Right_ok hT hr18)) <| AR.op (r := bl (!r18)) rfl (aop_not rfl rfl) <| AR.keep [1, 2, 8] rfl <| AR.op rfl (aop_move (.inl rfl) rfl) ?_
  rcases Bool.eq_false_or_eq_true (!r18) with hb19 | hb19
  ·rw [hb19]
   replace h := Sh.if_t h hb19
   refine AR.skip rfl <| AR.skip rfl <| AR.keep [1, 2, 9, 11] rfl <| AR.skip rfl <| AR.skip rfl <| AR.skip rfl <| AR.keep [1, 2, 9, 12, 14] rfl <| AR.skip rfl ?_
   refine AR.op rfl (aop_pick rfl rfl rfl) <| AR.nil ?_
   exact hK5 true _ h (Weak.kt [1, 2, 16] rfl)
  ·rw [hb19]
   replace h := Sh.if_f h hb19
   refine AR.op rfl (aop_move (.inl rfl) rfl) <| AR.op (r := bl (decide (level_1 ≠ 0))) rfl (aop_neq rfl rfl rfl) <| AR.keep [1, 2, 9, 11] rfl <| AR.op rfl (aop_move (.inl rfl) rfl) ?_
   rcases Bool.eq_false_or_eq_true (decide (level_1 ≠ 0)) with hb20 | hb20
   ·rw [hb20]
    replace h := Sh.if_t h hb20
    refine AR.op rfl (aop_move (.inl rfl) rfl) <| AR.op (r := bl (decide (level_1 ≠ 1))) rfl (aop_neq rfl rfl rfl) <| AR.keep [1, 2, 9, 12, 14] rfl <| AR.op rfl (aop_pick rfl rfl rfl) <| AR.op rfl (aop_pick rfl rfl rfl) <| AR.nil ?_
    exact hK5 (decide (level_1 ≠ 1)) _ h (Weak.kt [1, 2, 16] rfl)
   ·rw [hb20]
    replace h := Sh.if_f h hb20
    refine AR.skip rfl <| AR.skip rfl <| AR.keep [1, 2, 9, 12, 14] rfl <| AR.op rfl (aop_pick rfl rfl rfl) <| AR.op rfl (aop_pick rfl rfl rfl) <| AR.nil ?_
    exact hK5 false _ h (Weak.kt [1, 2, 16] rfl)

end Wk
