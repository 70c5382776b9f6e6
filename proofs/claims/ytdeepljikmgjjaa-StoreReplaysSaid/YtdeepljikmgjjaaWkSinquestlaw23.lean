/- That the functions of a package do what their plain functions say. -/
import Derived.Test.YtdeepljikmgjjaaSh
import Derived.Test.YtdeepljikmgjjaaWkSFacts
import Derived.Test.YtdeepljikmgjjaaWkSfact
import Derived.Test.YtdeepljikmgjjaaWkSinquestref08
import Derived.Test.YtdeepljikmgjjaaWkSinquestref09
import Derived.Test.YtdeepljikmgjjaaWkSinquestref22
import Derived.Test.YtdeepljikmgjjaaWkSinquestref23
import Derived.Test.YtdeepljikmgjjaaWkSstdslices
import Derived.Test.YtdeepljikmgjjaaWkSstore
open Go Go.Av Go.Proofs
set_option linter.unusedVariables false
set_option maxHeartbeats 8000000
set_option maxRecDepth 20000
namespace Wk
theorem store_facts_put__1_ok {W0 : World} (hT : Tab W0) {x_0 : G.fact_Fact} {chTxns_1 : List G.api_Txn} {clevel_2 : Int} {l_3 : List G.fact_Fact} {l_4 : List (G.api_Choice × Bool)} {r : (List G.fact_Fact)} (h : G.store_facts_put__1 x_0 chTxns_1 clevel_2 l_3 l_4 = some r) : Fun3 Try.prog (.pinned W0 1) 28 [.ref 0 0 0, G.fact_Fact.av x_0] ⟨3, [(0, (4, [.agg [.view 1 0 (List.map G.fact_Fact.av l_3).length, .mref 2, .sl (List.map G.api_Txn.av chTxns_1), i64 clevel_2]])), (1, (7, List.map G.fact_Fact.av l_3)), (2, (0, [mpC G.api_Choice.ky l_4]))], []⟩ (.tuple []) ⟨3, [(0, (4, [.agg [.view 1 0 (List.map G.fact_Fact.av r).length, .mref 2, .sl (List.map G.api_Txn.av chTxns_1), i64 clevel_2]])), (1, (7, List.map G.fact_Fact.av r)), (2, (0, [mpC G.api_Choice.ky (Sh.mput (G.api_Choice.mk x_0.C.Key x_0.C.A x_0.C.B) true l_4)]))], []⟩ := by
 refine fun3_of_awp rfl Try.func28 rfl (by kernel_rfl) Try.ntmps28 (by simp) ?_
 unfold G.store_facts_put__1 at h
 show AWP _ _ _ _ ⟨[(0, .ref 0 0 0), (1, G.fact_Fact.av x_0)], ⟨3, [(0, (4, [.agg [.view 1 0 (List.map G.fact_Fact.av l_3).length, .mref 2, .sl (List.map G.api_Txn.av chTxns_1), i64 clevel_2]])), (1, (7, List.map G.fact_Fact.av l_3)), (2, (0, [mpC G.api_Choice.ky l_4]))], []⟩⟩ _
 refine awp_seqK fun K1 hK1 => awp_reg rfl <| AR.op (r := .ref 3 0 0) rfl (aop_box 7 [G.fact_Fact.av x_0] rfl rfl rfl (.inl ⟨rfl, rfl⟩)) <| AR.nil <| hK1 _ (AWP.weak (Weak.kt [0, 3] rfl) ?_)
 refine awp_seqK fun K2 hK2 => awp_reg rfl <| AR.op rfl (aop_field_ref rfl rfl rfl fd38_4 (by decide)) <| AR.op (r := .sl (List.map i64 x_0.Cycle)) rfl (aop_load_ref rfl rfl rfl rfl sz36 rfl) ?_
 obtain ⟨r5, hr5, h⟩ := Sh.bind_some' h
 refine AR.op (r := .sl (List.map i64 r5)) rfl (aop_call1 rfl rfl (by simp) (slices_Clone_int_int_ok hT hr5)) <| AR.keep [0, 3, 6] rfl <| AR.op rfl (aop_field_ref rfl rfl rfl fd38_4 (by decide)) <| AR.op rfl (aop_store (e' := .agg [i64 x_0.C.Key, i64 x_0.C.A, i64 x_0.C.B, i64 x_0.Kind, i64 x_0.I, i64 x_0.J, .sl (List.map i64 r5)]) rfl rfl rfl rfl rfl rfl sz36 rfl dt rfl) <| AR.nil <| hK2 _ (AWP.weak (Weak.kt [0, 3] rfl) ?_)
 refine awp_seqK fun K3 hK3 => awp_any [(true, false), (true, false), (false, false), (false, false), (false, false), (false, false), (true, false), (false, true), (false, false), (false, false), (false, true)] (by kernel_rfl) (by kernel_rfl) rfl ?_
 refine ARH.dry rfl (fun _ => aop_move (.inl rfl) rfl) <| ARH.dry rfl (fun _ => aop_move (.inl rfl) rfl) <| ARH.op (r := .ref 0 0 0) rfl rfl (aop_nilCheck_ref rfl rfl rfl) <| ARH.keep [0, 3, 8, 10] rfl <| ARH.op rfl rfl (aop_field_ref rfl rfl rfl fd61_0 (by decide)) <| ARH.op (r := .view 1 0 (List.map G.fact_Fact.av l_3).length) rfl rfl (aop_load_ref rfl rfl rfl rfl sz25 rfl) <| ARH.op (r := .agg [i64 x_0.C.Key, i64 x_0.C.A, i64 x_0.C.B, i64 x_0.Kind, i64 x_0.I, i64 x_0.J, .sl (List.map i64 r5)]) rfl rfl (aop_load_ref rfl rfl rfl rfl sz38 rfl) <| ARH.keep [0, 3, 8, 12, 13] rfl ?_
 refine ARH.dry (r := .clip (List.map G.fact_Fact.av ([(G.fact_Fact.mk (G.api_Choice.mk x_0.C.Key x_0.C.A x_0.C.B) x_0.Kind x_0.I x_0.J r5)] : List G.fact_Fact))) rfl (fun _ => aop_buildSlice rfl (xo := [.tmp 13]) rfl rfl rfl (by simp) (by simp) el25 ze25 (by decide)) ?_
 obtain ⟨l7, hl7, h⟩ := Sh.bind_some' h
 refine ARH.loud (r := .view 4 0 (List.map G.fact_Fact.av l7).length) rfl rfl (t_app_view G.fact_Fact.av l_3 ([(G.fact_Fact.mk (G.api_Choice.mk x_0.C.Key x_0.C.A x_0.C.B) x_0.Kind x_0.I x_0.J r5)] : List G.fact_Fact) l7 hl7 rfl et25 (fun _ => rfl) rfl rfl rfl rfl rfl rfl rfl) <| ARH.op (r := .ref 0 0 0) rfl rfl (aop_nilCheck_ref rfl rfl rfl) <| ARH.keep [0, 3, 15, 16] rfl <| ARH.op rfl rfl (aop_field_ref rfl rfl rfl fd61_0 (by decide)) <| ARH.loud rfl rfl (aop_store (e' := .agg [.view 4 0 (List.map G.fact_Fact.av l7).length, .mref 2, .sl (List.map G.api_Txn.av chTxns_1), i64 clevel_2]) rfl rfl rfl rfl rfl rfl sz25 rfl dt rfl) <| ARH.nil <| hK3 _ (AWP.weak (Weak.re (fr' := [(0, .ref 0 0 0), (3, .ref 3 0 0)]) (H' := ⟨4, [(0, (4, [.agg [.view 1 0 (List.map G.fact_Fact.av l7).length, .mref 2, .sl (List.map G.api_Txn.av chTxns_1), i64 clevel_2]])), (1, (7, List.map G.fact_Fact.av l7)), (2, (0, [mpC G.api_Choice.ky l_4])), (3, (7, [.agg [i64 x_0.C.Key, i64 x_0.C.A, i64 x_0.C.B, i64 x_0.Kind, i64 x_0.I, i64 x_0.J, .sl (List.map i64 r5)]]))], []⟩) [(0, 0), (1, 4), (2, 2), (3, 3)] [] rfl rfl rfl (.cons rfl rfl (.one (.ag ⟨.view rfl, .mref rfl, .sm, .sm, trivial⟩) rfl) dt (.cons rfl rfl (.same (by simp)) dt (.cons rfl rfl (.same (by simp)) dt (.cons rfl rfl (.one (.sm) rfl) dt trivial)))) ⟨⟨_, rfl, .ref rfl⟩, ⟨_, rfl, .ref rfl⟩, trivial⟩) ?_)
 refine awp_any [(true, false), (false, false), (false, false), (false, false), (false, false), (false, false), (false, true)] (by kernel_rfl) (by kernel_rfl) rfl ?_
 refine ARH.dry rfl (fun _ => aop_move (.inl rfl) rfl) <| ARH.op (r := .ref 0 0 0) rfl rfl (aop_nilCheck_ref rfl rfl rfl) <| ARH.op rfl rfl (aop_field_ref rfl rfl rfl fd61_1 (by decide)) <| ARH.keep [3, 20] rfl <| ARH.op (r := .mref 2) rfl rfl (aop_load_ref rfl rfl rfl rfl sz59 rfl) <| ARH.op rfl rfl (aop_field_ref rfl rfl rfl fd38_0 (by decide)) <| ARH.op (r := .agg [i64 x_0.C.Key, i64 x_0.C.A, i64 x_0.C.B]) rfl rfl (aop_load_ref rfl rfl rfl rfl sz35 rfl) <| ARH.keep [21, 23] rfl ?_
 refine ARH.loud (r := .any) rfl rfl (t_mapUpdate G.api_Choice.ky_inj G.api_Choice.ky_len (G.api_Choice.mk x_0.C.Key x_0.C.A x_0.C.B) true l_4 ints_api_Choice rfl rfl rfl Try.underlying59 rfl rfl rfl) <| ARH.nil ?_
 obtain rfl := Option.some.inj h
 refine ⟨.inl rfl, .tuple [], rfl, ?_⟩
 exact Weak.re [(0, 0), (1, 1), (2, 2)] [] rfl rfl rfl (.cons rfl rfl (.one (.ag ⟨.view rfl, .mref rfl, .sm, .sm, trivial⟩) rfl) dt (.cons rfl rfl (.same (by simp)) dt (.cons rfl rfl (.same (by simp)) dt trivial))) ⟨⟨.tuple [], rfl, .tp trivial⟩, trivial⟩


theorem store_Store_Learn__1_ok {W0 : World} (hT : Tab W0) {f_0 : G.fact_Fact} {chTxns_1 : List G.api_Txn} {clevel_2 : Int} {l_3 : List G.fact_Fact} {l_4 : List (G.api_Choice × Bool)} {r : (List G.fact_Fact) × (List (G.api_Choice × Bool)) × Int} (h : G.store_Store_Learn__1 f_0 chTxns_1 clevel_2 l_3 l_4 = some r) : Fun3 Try.prog (.pinned W0 1) 11 [.ref 0 0 0, G.fact_Fact.av f_0] ⟨3, [(0, (4, [.agg [.view 1 0 (List.map G.fact_Fact.av l_3).length, .mref 2, .sl (List.map G.api_Txn.av chTxns_1), i64 clevel_2]])), (1, (7, List.map G.fact_Fact.av l_3)), (2, (0, [mpC G.api_Choice.ky l_4]))], []⟩ (i64 r.2.2) ⟨3, [(0, (4, [.agg [.view 1 0 (List.map G.fact_Fact.av r.1).length, .mref 2, .sl (List.map G.api_Txn.av chTxns_1), i64 clevel_2]])), (1, (7, List.map G.fact_Fact.av r.1)), (2, (0, [mpC G.api_Choice.ky r.2.1]))], []⟩ := by
 refine fun3_of_awp rfl Try.func11 rfl (by kernel_rfl) Try.ntmps11 (by simp) ?_
 unfold G.store_Store_Learn__1 at h
 show AWP _ _ _ _ ⟨[(0, .ref 0 0 0), (1, G.fact_Fact.av f_0)], ⟨3, [(0, (4, [.agg [.view 1 0 (List.map G.fact_Fact.av l_3).length, .mref 2, .sl (List.map G.api_Txn.av chTxns_1), i64 clevel_2]])), (1, (7, List.map G.fact_Fact.av l_3)), (2, (0, [mpC G.api_Choice.ky l_4]))], []⟩⟩ _
 refine awp_seqK fun K1 hK1 => awp_reg rfl <| AR.op (r := .ref 3 0 0) rfl (aop_box 7 [G.fact_Fact.av f_0] rfl rfl rfl (.inl ⟨rfl, rfl⟩)) <| AR.op rfl (aop_move (.inr rfl) rfl) <| AR.nil <| hK1 _ (AWP.weak (Weak.re (fr' := [(0, .ref 0 0 0), (3, .pp [i64 f_0.C.Key, i64 f_0.C.A, i64 f_0.C.B, i64 f_0.Kind, i64 f_0.I, i64 f_0.J, .sl (List.map i64 f_0.Cycle)] 0)]) (H' := ⟨3, [(0, (4, [.agg [.view 1 0 (List.map G.fact_Fact.av l_3).length, .mref 2, .sl (List.map G.api_Txn.av chTxns_1), i64 clevel_2]])), (1, (7, List.map G.fact_Fact.av l_3)), (2, (0, [mpC G.api_Choice.ky l_4]))], []⟩) [(0, 0), (1, 1), (2, 2)] [] rfl rfl rfl (.cons rfl rfl (.one (.ag ⟨.view rfl, .mref rfl, .sm, .sm, trivial⟩) rfl) dt (.cons rfl rfl (.same (by simp)) dt (.cons rfl rfl (.same (by simp)) dt trivial))) ⟨⟨_, rfl, .ref rfl⟩, ⟨_, rfl, .frzA rfl rfl rfl rfl (by simp)⟩, trivial⟩) ?_)
 refine awp_seqK fun K2 hK2 => awp_block <| awp_seqK fun K3 hK3 => awp_any [(true, false), (false, false), (true, false), (true, false), (false, false), (false, false), (false, false), (true, false), (false, false), (false, false), (false, false), (true, false), (false, false), (false, false), (false, false), (false, false), (true, false), (false, false), (true, false), (true, false), (true, false)] (by kernel_rfl) (by kernel_rfl) rfl ?_
 refine ARH.dry rfl (fun _ => aop_move (.inl rfl) rfl) <| ARH.op (r := bl false) rfl rfl (aop_eq_ref rfl rfl rfl rfl pt29) <| ARH.dry rfl (fun _ => aop_move (.inl rfl) rfl) <| ARH.keep [0, 3, 8] rfl <| ARH.dry rfl (fun _ => aop_move (.inl rfl) rfl) <| ARH.op (r := .ref 0 0 0) rfl rfl (aop_nilCheck_ref rfl rfl rfl) <| ARH.op rfl rfl (aop_field_ref rfl rfl rfl fd64_1 (by decide)) <| ARH.keep [0, 3, 8, 11] rfl ?_
 refine ARH.op (r := .agg [.sl (List.map G.api_Txn.av chTxns_1)]) rfl rfl (aop_load_ref rfl rfl rfl rfl sz24 rfl) <| ARH.dry rfl (fun _ => aop_move (.inl rfl) rfl) <| ARH.op (r := .ref 0 0 0) rfl rfl (aop_nilCheck_ref rfl rfl rfl) <| ARH.keep [0, 3, 8, 12, 14] rfl <| ARH.op rfl rfl (aop_field_ref rfl rfl rfl fd64_2 (by decide)) <| ARH.op (r := i64 clevel_2) rfl rfl (aop_load_ref rfl rfl rfl rfl sz3 rfl) <| ARH.dry rfl (fun _ => aop_move (.inl rfl) rfl) <| ARH.keep [0, 3, 8, 12, 16, 17] rfl ?_
 refine ARH.op (r := .ref 0 0 0) rfl rfl (aop_nilCheck_ref rfl rfl rfl) <| ARH.op rfl rfl (aop_field_ref rfl rfl rfl fd64_0 (by decide)) <| ARH.op rfl rfl (aop_field_ref rfl rfl rfl fd61_0 (by decide)) <| ARH.keep [0, 3, 8, 12, 16, 20] rfl <| ARH.op (r := .view 1 0 (List.map G.fact_Fact.av l_3).length) rfl rfl (aop_load_ref rfl rfl rfl rfl sz25 rfl) <| ARH.dry (r := G.fact_Fact.av f_0) rfl (fun _ => aop_load_pp rfl rfl sz38 rfl) ?_
 obtain ⟨r8, hr8, h⟩ := Sh.bind_some' h
 refine ARH.op (r := bl r8) rfl rfl (aop_callL rfl (ys := [.agg [.sl (List.map G.api_Txn.av chTxns_1)], i64 clevel_2, .view 1 0 (List.map G.fact_Fact.av l_3).length, G.fact_Fact.av f_0]) (xs := [G.api_Hist.av (G.api_Hist.mk chTxns_1), i64 clevel_2, .sl (List.map G.fact_Fact.av l_3), G.fact_Fact.av f_0]) rfl (Weak.e (fr' := argsFr 0 [G.api_Hist.av (G.api_Hist.mk chTxns_1), i64 clevel_2, .sl (List.map G.fact_Fact.av l_3), G.fact_Fact.av f_0]) (H' := .empty) ⟨⟨.agg [.sl (List.map G.api_Txn.av chTxns_1)], rfl, .sm⟩, .k, ⟨_, rfl, .lendAll rfl rfl (by simp)⟩, ⟨G.fact_Fact.av f_0, rfl, .sm⟩, trivial⟩) rfl (fact_Holds_ok hT hr8) (by simp)) <| ARH.keep [0, 3, 8, 23] rfl <| ARH.dry (r := bl (!r8)) rfl (fun _ => aop_not rfl rfl) <| ARH.dry rfl (fun _ => aop_pick rfl rfl rfl) <| ARH.dry rfl (fun _ => aop_move (.inr rfl) rfl) <| ARH.nil <| hK3 _ (AWP.weak (Weak.kt [0, 3, 5] rfl) ?_)
 refine awp_cond rfl (fun hb9 => ?_) (fun hb9 => ?_)
 ·replace h := Sh.if_t h hb9
  refine awp_seqK fun K4 hK4 => awp_reg rfl <| AR.op rfl (aop_move (.inr rfl) rfl) <| AR.nil <| hK4 _ (AWP.weak (Weak.kt [4] rfl) ?_)
  refine awp_ret ?_
  obtain rfl := Option.some.inj h
  refine ⟨.inr rfl, i64 17, rfl, ?_⟩
  exact Weak.re [(0, 0), (1, 1), (2, 2)] [] rfl rfl rfl (.cons rfl rfl (.one (.ag ⟨.view rfl, .mref rfl, .sm, .sm, trivial⟩) rfl) dt (.cons rfl rfl (.same (by simp)) dt (.cons rfl rfl (.same (by simp)) dt trivial))) ⟨.k, trivial⟩
 ·replace h := Sh.if_f h hb9
  refine awp_seqK fun K5 hK5 => awp_any [(true, false), (false, false), (false, false), (false, false), (false, false), (true, false), (true, false), (false, false), (true, false)] (by kernel_rfl) (by kernel_rfl) rfl ?_
  refine ARH.dry rfl (fun _ => aop_move (.inl rfl) rfl) <| ARH.op (r := .ref 0 0 0) rfl rfl (aop_nilCheck_ref rfl rfl rfl) <| ARH.op rfl rfl (aop_field_ref rfl rfl rfl fd64_0 (by decide)) <| ARH.keep [0, 3, 29] rfl <| ARH.op rfl rfl (aop_field_ref rfl rfl rfl fd61_1 (by decide)) <| ARH.op (r := .mref 2) rfl rfl (aop_load_ref rfl rfl rfl rfl sz59 rfl) <| ARH.dry rfl (fun _ => aop_field_pp rfl rfl fd38_0 (by decide)) <| ARH.keep [0, 3, 31, 32] rfl ?_
  refine ARH.dry (r := G.api_Choice.av f_0.C) rfl (fun _ => aop_load_pp rfl rfl sz35 rfl) <| ARH.op (r := bl (Sh.mget f_0.C l_4)) rfl rfl (t_lookup G.api_Choice.ky_inj G.api_Choice.ky_len f_0.C l_4 ints_api_Choice rfl rfl rfl Try.underlying59 rfl rfl zr4) <| ARH.dry rfl (fun _ => aop_move (.inr rfl) rfl) <| ARH.nil <| hK5 _ (AWP.weak (Weak.kt [0, 3, 26] rfl) ?_)
  refine awp_cond rfl (fun hb10 => ?_) (fun hb10 => ?_)
  ·replace h := Sh.if_t h hb10
   refine awp_seqK fun K6 hK6 => awp_reg rfl <| AR.op rfl (aop_move (.inr rfl) rfl) <| AR.nil <| hK6 _ (AWP.weak (Weak.kt [4] rfl) ?_)
   refine awp_ret ?_
   obtain rfl := Option.some.inj h
   refine ⟨.inr rfl, i64 8, rfl, ?_⟩
   exact Weak.re [(0, 0), (1, 1), (2, 2)] [] rfl rfl rfl (.cons rfl rfl (.one (.ag ⟨.view rfl, .mref rfl, .sm, .sm, trivial⟩) rfl) dt (.cons rfl rfl (.same (by simp)) dt (.cons rfl rfl (.same (by simp)) dt trivial))) ⟨.k, trivial⟩
  ·replace h := Sh.if_f h hb10
   refine awp_skip <| hK2 _ (AWP.weak (Weak.kt [0, 3] rfl) ?_)
   refine awp_seqK fun K7 hK7 => awp_any [(true, false), (false, false), (false, false), (true, false), (false, true)] (by kernel_rfl) (by kernel_rfl) rfl ?_
   refine ARH.dry rfl (fun _ => aop_move (.inl rfl) rfl) <| ARH.op (r := .ref 0 0 0) rfl rfl (aop_nilCheck_ref rfl rfl rfl) <| ARH.op rfl rfl (aop_field_ref rfl rfl rfl fd64_0 (by decide)) <| ARH.keep [3, 37] rfl <| ARH.dry (r := G.fact_Fact.av f_0) rfl (fun _ => aop_load_pp rfl rfl sz38 rfl) ?_
   obtain ⟨r12, hr12, h⟩ := Sh.bind_some' h
   refine ARH.loud (r := .tuple []) rfl rfl (aop_call3E (ok := NoId) (ys := [.ref 0 0 0, G.fact_Fact.av f_0]) (xs := [.ref 0 0 0, G.fact_Fact.av f_0]) (r' := .tuple []) (Hs := ⟨3, [(0, (4, [.agg [.view 1 0 (List.map G.fact_Fact.av l_3).length, .mref 2, .sl (List.map G.api_Txn.av chTxns_1), i64 clevel_2]])), (1, (7, List.map G.fact_Fact.av l_3)), (2, (0, [mpC G.api_Choice.ky l_4]))], []⟩) (H' := ⟨6, [(0, (4, [.agg [.view 4 0 (List.map G.fact_Fact.av r12).length, .mref 5, .sl (List.map G.api_Txn.av chTxns_1), i64 clevel_2]])), (4, (7, List.map G.fact_Fact.av r12)), (5, (0, [mpC G.api_Choice.ky (Sh.mput (G.api_Choice.mk f_0.C.Key f_0.C.A f_0.C.B) true l_4)]))], []⟩) (g := [(0, 0), (1, 1), (2, 2)]) (m := [(0, 0), (1, 4), (2, 5)]) (nw := []) (p := 1) (.func rfl rfl (store_facts_put__1_ok hT hr12).call) (store_facts_put__1_ok hT hr12) { next := rfl, part := ⟨rfl, rfl, rfl, trivial⟩, inj := rfl, lt := rfl, nwf := rfl, gin := rfl, held := .cons rfl rfl (.one (.ag ⟨.view rfl, .mref rfl, .sm, .sm, trivial⟩) rfl) dt (.cons rfl rfl (.same (by simp)) dt (.cons rfl rfl (.same (by simp)) dt trivial)), seen := ⟨⟨_, rfl, .ref rfl⟩, ⟨G.fact_Fact.av f_0, rfl, .sm⟩, trivial⟩, inlps := rfl, ple := rfl, map := rfl, next' := rfl, back := .new 0 rfl rfl (.one ⟨.view rfl, .mref rfl, .sm, .sm, trivial⟩) (.new 1 rfl rfl (.same (by simp [AV.flat, G.fact_Fact.av])) (.new 2 rfl rfl (.same (by simp)) trivial)), lps := .inl ⟨rfl, rfl⟩, mode := .inr ⟨fun _ h => h, rfl⟩, ren := .sm } rfl) <| ARH.nil <| hK7 _ (AWP.weak (Weak.re (fr' := []) (H' := ⟨3, [(0, (4, [.agg [.view 1 0 (List.map G.fact_Fact.av r12).length, .mref 2, .sl (List.map G.api_Txn.av chTxns_1), i64 clevel_2]])), (1, (7, List.map G.fact_Fact.av r12)), (2, (0, [mpC G.api_Choice.ky (Sh.mput (G.api_Choice.mk f_0.C.Key f_0.C.A f_0.C.B) true l_4)]))], []⟩) [(0, 0), (1, 4), (2, 5)] [] rfl rfl rfl (.cons rfl rfl (.one (.ag ⟨.view rfl, .mref rfl, .sm, .sm, trivial⟩) rfl) dt (.cons rfl rfl (.same (by simp)) dt (.cons rfl rfl (.same (by simp)) dt trivial))) trivial) ?_)
   refine awp_seqK fun K8 hK8 => awp_reg rfl <| AR.op rfl (aop_move (.inr rfl) rfl) <| AR.nil <| hK8 _ ?_
   refine awp_ret ?_
   obtain rfl := Option.some.inj h
   refine ⟨.inr rfl, i64 0, rfl, ?_⟩
   exact Weak.re [(0, 0), (1, 1), (2, 2)] [] rfl rfl rfl (.cons rfl rfl (.one (.ag ⟨.view rfl, .mref rfl, .sm, .sm, trivial⟩) rfl) dt (.cons rfl rfl (.same (by simp)) dt (.cons rfl rfl (.same (by simp)) dt trivial))) ⟨.k, trivial⟩


theorem store_facts_Len__1_ok {W0 : World} (hT : Tab W0) {chTxns_0 : List G.api_Txn} {clevel_1 : Int} {l_2 : List G.fact_Fact} {l_3 : List (G.api_Choice × Bool)} {r : Unit} (h : G.store_facts_Len__1 chTxns_0 clevel_1 l_2 l_3 = some r) : Fun3 Try.prog (.pinned W0 1) 34 [.ref 0 0 0] ⟨3, [(0, (4, [.agg [.view 1 0 (List.map G.fact_Fact.av l_2).length, .mref 2, .sl (List.map G.api_Txn.av chTxns_0), i64 clevel_1]])), (1, (7, List.map G.fact_Fact.av l_2)), (2, (0, [mpC G.api_Choice.ky l_3]))], []⟩ (i64 (Sh.len l_2)) ⟨3, [(0, (4, [.agg [.view 1 0 (List.map G.fact_Fact.av l_2).length, .mref 2, .sl (List.map G.api_Txn.av chTxns_0), i64 clevel_1]])), (1, (7, List.map G.fact_Fact.av l_2)), (2, (0, [mpC G.api_Choice.ky l_3]))], []⟩ := by
 refine fun3_of_awp rfl Try.func34 rfl (by kernel_rfl) Try.ntmps34 (by simp) ?_
 unfold G.store_facts_Len__1 at h
 show AWP _ _ _ _ ⟨[(0, .ref 0 0 0)], ⟨3, [(0, (4, [.agg [.view 1 0 (List.map G.fact_Fact.av l_2).length, .mref 2, .sl (List.map G.api_Txn.av chTxns_0), i64 clevel_1]])), (1, (7, List.map G.fact_Fact.av l_2)), (2, (0, [mpC G.api_Choice.ky l_3]))], []⟩⟩ _
 refine awp_seqK fun K1 hK1 => awp_reg rfl <| AR.op rfl (aop_move (.inr rfl) rfl) <| AR.nil <| hK1 _ (AWP.weak (Weak.kt [0] rfl) ?_)
 refine awp_seqK fun K2 hK2 => awp_seqK fun K3 hK3 => awp_reg rfl <| AR.op rfl (aop_move (.inl rfl) rfl) <| AR.op (r := bl false) rfl (aop_eq_ref rfl rfl rfl rfl pt87) <| AR.nil <| hK3 _ (AWP.weak (Weak.kt [0, 4] rfl) ?_)
 refine awp_cond_f rfl ?_
 refine awp_skip <| hK2 _ (AWP.weak (Weak.kt [0] rfl) ?_)
 refine awp_seqK fun K4 hK4 => awp_reg rfl <| AR.op rfl (aop_move (.inl rfl) rfl) <| AR.op (r := .ref 0 0 0) rfl (aop_nilCheck_ref rfl rfl rfl) <| AR.op rfl (aop_field_ref rfl rfl rfl fd61_0 (by decide)) <| AR.keep [7] rfl <| AR.op (r := .view 1 0 (List.map G.fact_Fact.av l_2).length) rfl (aop_load_ref rfl rfl rfl rfl sz25 rfl) <| AR.op (r := i64 (Sh.len l_2)) rfl (t_len_view G.fact_Fact.av l_2 rfl rfl rfl rfl el25) ?_
 refine AR.op rfl (aop_move (.inr rfl) rfl) <| AR.nil <| hK4 _ (AWP.weak (Weak.kt [2] rfl) ?_)
 refine awp_ret ?_
 obtain rfl := Option.some.inj h
 refine ⟨.inr rfl, i64 (Sh.len l_2), rfl, ?_⟩
 exact Weak.re [(0, 0), (1, 1), (2, 2)] [] rfl rfl rfl (.cons rfl rfl (.one (.ag ⟨.view rfl, .mref rfl, .sm, .sm, trivial⟩) rfl) dt (.cons rfl rfl (.same (by simp)) dt (.cons rfl rfl (.same (by simp)) dt trivial))) ⟨.k, trivial⟩


theorem store_Store_Len__1_ok {W0 : World} (hT : Tab W0) {chTxns_0 : List G.api_Txn} {clevel_1 : Int} {l_2 : List G.fact_Fact} {l_3 : List (G.api_Choice × Bool)} {r : Unit} (h : G.store_Store_Len__1 chTxns_0 clevel_1 l_2 l_3 = some r) : Fun3 Try.prog (.pinned W0 1) 19 [.ref 0 0 0] ⟨3, [(0, (4, [.agg [.view 1 0 (List.map G.fact_Fact.av l_2).length, .mref 2, .sl (List.map G.api_Txn.av chTxns_0), i64 clevel_1]])), (1, (7, List.map G.fact_Fact.av l_2)), (2, (0, [mpC G.api_Choice.ky l_3]))], []⟩ (i64 (Sh.len l_2)) ⟨3, [(0, (4, [.agg [.view 1 0 (List.map G.fact_Fact.av l_2).length, .mref 2, .sl (List.map G.api_Txn.av chTxns_0), i64 clevel_1]])), (1, (7, List.map G.fact_Fact.av l_2)), (2, (0, [mpC G.api_Choice.ky l_3]))], []⟩ := by
 refine fun3_of_awp rfl Try.func19 rfl (by kernel_rfl) Try.ntmps19 (by simp) ?_
 unfold G.store_Store_Len__1 at h
 show AWP _ _ _ _ ⟨[(0, .ref 0 0 0)], ⟨3, [(0, (4, [.agg [.view 1 0 (List.map G.fact_Fact.av l_2).length, .mref 2, .sl (List.map G.api_Txn.av chTxns_0), i64 clevel_1]])), (1, (7, List.map G.fact_Fact.av l_2)), (2, (0, [mpC G.api_Choice.ky l_3]))], []⟩⟩ _
 refine awp_seqK fun K1 hK1 => awp_reg rfl <| AR.op rfl (aop_move (.inr rfl) rfl) <| AR.nil <| hK1 _ (AWP.weak (Weak.kt [0] rfl) ?_)
 refine awp_seqK fun K2 hK2 => awp_seqK fun K3 hK3 => awp_reg rfl <| AR.op rfl (aop_move (.inl rfl) rfl) <| AR.op (r := bl false) rfl (aop_eq_ref rfl rfl rfl rfl pt29) <| AR.nil <| hK3 _ (AWP.weak (Weak.kt [0, 4] rfl) ?_)
 refine awp_cond_f rfl ?_
 refine awp_skip <| hK2 _ (AWP.weak (Weak.kt [0] rfl) ?_)
 refine awp_seqK fun K4 hK4 => awp_reg rfl <| AR.op rfl (aop_move (.inl rfl) rfl) <| AR.op (r := .ref 0 0 0) rfl (aop_nilCheck_ref rfl rfl rfl) <| AR.op rfl (aop_field_ref rfl rfl rfl fd64_0 (by decide)) <| AR.keep [7] rfl ?_
 obtain ⟨r3, hr3, h⟩ := Sh.bind_some' h
 refine AR.op (r := i64 (Sh.len l_2)) rfl (aop_call3E (ok := NoId) (ys := [.ref 0 0 0]) (xs := [.ref 0 0 0]) (r' := i64 (Sh.len l_2)) (Hs := ⟨3, [(0, (4, [.agg [.view 1 0 (List.map G.fact_Fact.av l_2).length, .mref 2, .sl (List.map G.api_Txn.av chTxns_0), i64 clevel_1]])), (1, (7, List.map G.fact_Fact.av l_2)), (2, (0, [mpC G.api_Choice.ky l_3]))], []⟩) (H' := ⟨6, [(0, (4, [.agg [.view 4 0 (List.map G.fact_Fact.av l_2).length, .mref 5, .sl (List.map G.api_Txn.av chTxns_0), i64 clevel_1]])), (4, (7, List.map G.fact_Fact.av l_2)), (5, (0, [mpC G.api_Choice.ky l_3]))], []⟩) (g := [(0, 0), (1, 1), (2, 2)]) (m := [(0, 0), (1, 4), (2, 5)]) (nw := []) (p := 1) (.func rfl rfl (store_facts_Len__1_ok hT hr3).call) (store_facts_Len__1_ok hT hr3) { next := rfl, part := ⟨rfl, rfl, rfl, trivial⟩, inj := rfl, lt := rfl, nwf := rfl, gin := rfl, held := .cons rfl rfl (.one (.ag ⟨.view rfl, .mref rfl, .sm, .sm, trivial⟩) rfl) dt (.cons rfl rfl (.same (by simp)) dt (.cons rfl rfl (.same (by simp)) dt trivial)), seen := ⟨⟨_, rfl, .ref rfl⟩, trivial⟩, inlps := rfl, ple := rfl, map := rfl, next' := rfl, back := .new 0 rfl rfl (.one ⟨.view rfl, .mref rfl, .sm, .sm, trivial⟩) (.new 1 rfl rfl (.same (by simp [AV.flat, G.fact_Fact.av])) (.new 2 rfl rfl (.same (by simp)) trivial)), lps := .inl ⟨rfl, rfl⟩, mode := .inr ⟨fun _ h => h, rfl⟩, ren := .sm } rfl) <| AR.op rfl (aop_move (.inr rfl) rfl) <| AR.nil <| hK4 _ (AWP.weak (Weak.re (fr' := [(2, i64 (Sh.len l_2))]) (H' := ⟨3, [(0, (4, [.agg [.view 1 0 (List.map G.fact_Fact.av l_2).length, .mref 2, .sl (List.map G.api_Txn.av chTxns_0), i64 clevel_1]])), (1, (7, List.map G.fact_Fact.av l_2)), (2, (0, [mpC G.api_Choice.ky l_3]))], []⟩) [(0, 0), (1, 4), (2, 5)] [] rfl rfl rfl (.cons rfl rfl (.one (.ag ⟨.view rfl, .mref rfl, .sm, .sm, trivial⟩) rfl) dt (.cons rfl rfl (.same (by simp)) dt (.cons rfl rfl (.same (by simp)) dt trivial))) ⟨.k, trivial⟩) ?_)
 refine awp_ret ?_
 obtain rfl := Option.some.inj h
 refine ⟨.inr rfl, i64 (Sh.len l_2), rfl, ?_⟩
 exact Weak.re [(0, 0), (1, 1), (2, 2)] [] rfl rfl rfl (.cons rfl rfl (.one (.ag ⟨.view rfl, .mref rfl, .sm, .sm, trivial⟩) rfl) dt (.cons rfl rfl (.same (by simp)) dt (.cons rfl rfl (.same (by simp)) dt trivial))) ⟨.k, trivial⟩


theorem store_Store_Decides__1_ok {W0 : World} (hT : Tab W0) {c_0 : G.api_Choice} {chTxns_1 : List G.api_Txn} {clevel_2 : Int} {l_3 : List G.fact_Fact} {l_4 : List (G.api_Choice × Bool)} {r : Int} (h : G.store_Store_Decides__1 c_0 chTxns_1 clevel_2 l_3 l_4 = some r) : Fun3 Try.prog (.pinned W0 1) 14 [.ref 0 0 0, G.api_Choice.av c_0] ⟨3, [(0, (4, [.agg [.view 1 0 (List.map G.fact_Fact.av l_3).length, .mref 2, .sl (List.map G.api_Txn.av chTxns_1), i64 clevel_2]])), (1, (7, List.map G.fact_Fact.av l_3)), (2, (0, [mpC G.api_Choice.ky l_4]))], []⟩ (i64 r) ⟨3, [(0, (4, [.agg [.view 1 0 (List.map G.fact_Fact.av l_3).length, .mref 2, .sl (List.map G.api_Txn.av chTxns_1), i64 clevel_2]])), (1, (7, List.map G.fact_Fact.av l_3)), (2, (0, [mpC G.api_Choice.ky l_4]))], []⟩ := by
 refine fun3_of_awp rfl Try.func14 rfl (by kernel_rfl) Try.ntmps14 (by simp) ?_
 unfold G.store_Store_Decides__1 at h
 show AWP _ _ _ _ ⟨[(0, .ref 0 0 0), (1, G.api_Choice.av c_0)], ⟨3, [(0, (4, [.agg [.view 1 0 (List.map G.fact_Fact.av l_3).length, .mref 2, .sl (List.map G.api_Txn.av chTxns_1), i64 clevel_2]])), (1, (7, List.map G.fact_Fact.av l_3)), (2, (0, [mpC G.api_Choice.ky l_4]))], []⟩⟩ _
 refine awp_seqK fun K1 hK1 => awp_reg rfl <| AR.op (r := .ref 3 0 0) rfl (aop_box 3 [G.api_Choice.av c_0] rfl rfl rfl (.inl ⟨rfl, rfl⟩)) <| AR.op rfl (aop_move (.inr rfl) rfl) <| AR.nil <| hK1 _ (AWP.weak (Weak.re (fr' := [(0, .ref 0 0 0), (3, .pp [i64 c_0.Key, i64 c_0.A, i64 c_0.B] 0)]) (H' := ⟨3, [(0, (4, [.agg [.view 1 0 (List.map G.fact_Fact.av l_3).length, .mref 2, .sl (List.map G.api_Txn.av chTxns_1), i64 clevel_2]])), (1, (7, List.map G.fact_Fact.av l_3)), (2, (0, [mpC G.api_Choice.ky l_4]))], []⟩) [(0, 0), (1, 1), (2, 2)] [] rfl rfl rfl (.cons rfl rfl (.one (.ag ⟨.view rfl, .mref rfl, .sm, .sm, trivial⟩) rfl) dt (.cons rfl rfl (.same (by simp)) dt (.cons rfl rfl (.same (by simp)) dt trivial))) ⟨⟨_, rfl, .ref rfl⟩, ⟨_, rfl, .frzA rfl rfl rfl rfl (by simp)⟩, trivial⟩) ?_)
 refine awp_seqK fun K2 hK2 => awp_block <| awp_seqK fun K3 hK3 => awp_reg rfl <| AR.op rfl (aop_move (.inl rfl) rfl) <| AR.op (r := bl false) rfl (aop_eq_ref rfl rfl rfl rfl pt29) <| AR.op rfl (aop_move (.inr rfl) rfl) <| AR.nil ?_
 refine hK3 _ (AWP.weak (Weak.kt [0, 3, 5] rfl) ?_)
 refine awp_cond_f rfl ?_
 refine awp_seqK fun K4 hK4 => awp_any [(true, false), (false, false), (false, false), (false, false), (false, false), (true, false), (false, false), (true, false)] (by kernel_rfl) (by kernel_rfl) rfl ?_
 refine ARH.dry rfl (fun _ => aop_move (.inl rfl) rfl) <| ARH.op (r := .ref 0 0 0) rfl rfl (aop_nilCheck_ref rfl rfl rfl) <| ARH.op rfl rfl (aop_field_ref rfl rfl rfl fd64_0 (by decide)) <| ARH.keep [0, 3, 11] rfl <| ARH.op rfl rfl (aop_field_ref rfl rfl rfl fd61_1 (by decide)) <| ARH.op (r := .mref 2) rfl rfl (aop_load_ref rfl rfl rfl rfl sz59 rfl) <| ARH.dry (r := G.api_Choice.av c_0) rfl (fun _ => aop_load_pp rfl rfl sz35 rfl) <| ARH.keep [0, 3, 13, 14] rfl ?_
 refine ARH.op (r := bl (Sh.mget c_0 l_4)) rfl rfl (t_lookup G.api_Choice.ky_inj G.api_Choice.ky_len c_0 l_4 ints_api_Choice rfl rfl rfl Try.underlying59 rfl rfl zr4) <| ARH.dry rfl (fun _ => aop_move (.inr rfl) rfl) <| ARH.nil <| hK4 _ (AWP.weak (Weak.kt [0, 3, 8] rfl) ?_)
 refine awp_cond rfl (fun hb2 => ?_) (fun hb2 => ?_)
 ·replace h := Sh.if_t h hb2
  refine awp_seqK fun K5 hK5 => awp_reg rfl <| AR.op rfl (aop_move (.inr rfl) rfl) <| AR.nil <| hK5 _ (AWP.weak (Weak.kt [4] rfl) ?_)
  refine awp_ret ?_
  obtain rfl := Option.some.inj h
  refine ⟨.inr rfl, i64 1, rfl, ?_⟩
  exact Weak.re [(0, 0), (1, 1), (2, 2)] [] rfl rfl rfl (.cons rfl rfl (.one (.ag ⟨.view rfl, .mref rfl, .sm, .sm, trivial⟩) rfl) dt (.cons rfl rfl (.same (by simp)) dt (.cons rfl rfl (.same (by simp)) dt trivial))) ⟨.k, trivial⟩
 ·replace h := Sh.if_f h hb2
  refine awp_seqK fun K6 hK6 => awp_any [(true, false), (false, false), (false, false), (false, false), (false, false), (true, false), (true, false), (true, false), (true, false), (true, false), (true, false), (true, false), (false, false), (true, false)] (by kernel_rfl) (by kernel_rfl) rfl ?_
  refine ARH.dry rfl (fun _ => aop_move (.inl rfl) rfl) <| ARH.op (r := .ref 0 0 0) rfl rfl (aop_nilCheck_ref rfl rfl rfl) <| ARH.op rfl rfl (aop_field_ref rfl rfl rfl fd64_0 (by decide)) <| ARH.keep [3, 19] rfl <| ARH.op rfl rfl (aop_field_ref rfl rfl rfl fd61_1 (by decide)) <| ARH.op (r := .mref 2) rfl rfl (aop_load_ref rfl rfl rfl rfl sz59 rfl) <| ARH.dry rfl (fun _ => aop_field_pp rfl rfl fd35_0 (by decide)) <| ARH.keep [3, 21, 22] rfl ?_
  refine ARH.dry (r := i64 c_0.Key) rfl (fun _ => aop_load_pp rfl rfl sz3 rfl) <| ARH.dry rfl (fun _ => aop_field_pp rfl rfl fd35_2 (by decide)) <| ARH.dry (r := i64 c_0.B) rfl (fun _ => aop_load_pp rfl rfl sz3 rfl) <| ARH.keep [3, 21, 23, 25] rfl <| ARH.dry rfl (fun _ => aop_field_pp rfl rfl fd35_1 (by decide)) <| ARH.dry (r := i64 c_0.A) rfl (fun _ => aop_load_pp rfl rfl sz3 rfl) <| ARH.dry (r := .agg [i64 c_0.Key, i64 c_0.B, i64 c_0.A]) rfl (fun _ => aop_build rfl bd35 rfl rfl rfl) <| ARH.keep [21, 28] rfl ?_
  refine ARH.op (r := bl (Sh.mget (G.api_Choice.mk c_0.Key c_0.B c_0.A) l_4)) rfl rfl (t_lookup G.api_Choice.ky_inj G.api_Choice.ky_len (G.api_Choice.mk c_0.Key c_0.B c_0.A) l_4 ints_api_Choice rfl rfl rfl Try.underlying59 rfl rfl zr4) <| ARH.dry rfl (fun _ => aop_move (.inr rfl) rfl) <| ARH.nil <| hK6 _ (AWP.weak (Weak.kt [16] rfl) ?_)
  refine awp_cond rfl (fun hb3 => ?_) (fun hb3 => ?_)
  ·replace h := Sh.if_t h hb3
   refine awp_seqK fun K7 hK7 => awp_reg rfl <| AR.op rfl (aop_move (.inr rfl) rfl) <| AR.nil <| hK7 _ (AWP.weak (Weak.kt [4] rfl) ?_)
   refine awp_ret ?_
   obtain rfl := Option.some.inj h
   refine ⟨.inr rfl, i64 (-1), rfl, ?_⟩
   exact Weak.re [(0, 0), (1, 1), (2, 2)] [] rfl rfl rfl (.cons rfl rfl (.one (.ag ⟨.view rfl, .mref rfl, .sm, .sm, trivial⟩) rfl) dt (.cons rfl rfl (.same (by simp)) dt (.cons rfl rfl (.same (by simp)) dt trivial))) ⟨.k, trivial⟩
  ·replace h := Sh.if_f h hb3
   refine awp_skip <| hK2 _ (AWP.weak (Weak.kt [] rfl) ?_)
   refine awp_seqK fun K8 hK8 => awp_reg rfl <| AR.op rfl (aop_move (.inr rfl) rfl) <| AR.nil <| hK8 _ ?_
   refine awp_ret ?_
   obtain rfl := Option.some.inj h
   refine ⟨.inr rfl, i64 0, rfl, ?_⟩
   exact Weak.re [(0, 0), (1, 1), (2, 2)] [] rfl rfl rfl (.cons rfl rfl (.one (.ag ⟨.view rfl, .mref rfl, .sm, .sm, trivial⟩) rfl) dt (.cons rfl rfl (.same (by simp)) dt (.cons rfl rfl (.same (by simp)) dt trivial))) ⟨.k, trivial⟩


theorem inquestlaw23_awake_ok0 {W0 : World} (hT : Tab W0) {r : Bool} (h : G.inquestlaw23_awake = some r) : Fun2 Try.prog W0 7 [] (bl r) .empty := by
 refine fun2_of_awp Try.func7 rfl (by kernel_rfl) Try.ntmps7 (by simp) ?_
 unfold G.inquestlaw23_awake at h
 show AWP _ _ _ _ ⟨[], .empty⟩ _
 refine awp_seqK fun K1 hK1 => awp_reg rfl <| AR.op rfl (aop_move (.inr rfl) rfl) <| AR.nil <| hK1 _ (AWP.weak (Weak.kt [] rfl) ?_)
 refine awp_seqK fun K2 hK2 => awp_reg rfl <| AR.op (r := .clip (List.map i64 [2])) rfl (aop_buildSlice rfl (xo := [.const (.int .i64 2)]) rfl rfl rfl (by simp [AV.solid]) (by simp [AV.flat]) el36 ze36 (by decide)) <| AR.op (r := .agg [i64 0, .clip (List.map i64 [2]), nilS]) rfl (aop_build rfl bd58 rfl rfl rfl) <| AR.op (r := .clip (List.map i64 [2])) rfl (aop_buildSlice rfl (xo := [.const (.int .i64 2)]) rfl rfl rfl (by simp [AV.solid]) (by simp [AV.flat]) el36 ze36 (by decide)) <| AR.keep [11, 12] rfl <| AR.op (r := .agg [i64 0, .clip (List.map i64 [2]), nilS]) rfl (aop_build rfl bd58 rfl rfl rfl) <| AR.op (r := .clip (List.map G.api_Txn.av ([(G.api_Txn.mk 0 [2] []), (G.api_Txn.mk 0 [2] [])] : List G.api_Txn))) rfl ((aop_buildSlice (xs := [.agg [i64 0, .clip (List.map i64 [2]), nilS], .agg [i64 0, .clip (List.map i64 [2]), nilS]]) rfl (xo := [.tmp 11, .tmp 13]) rfl rfl rfl (by simp [AV.solid]) (by simp [AV.flat]) el22 ze22 (by decide)).clipw ⟨⟨.same _, .clip _, .nil, trivial⟩, ⟨.same _, .clip _, .nil, trivial⟩, trivial⟩) ?_
 refine AR.op (r := .agg [.clip (List.map G.api_Txn.av ([(G.api_Txn.mk 0 [2] []), (G.api_Txn.mk 0 [2] [])] : List G.api_Txn))]) rfl (aop_build rfl bd24 rfl rfl rfl) <| AR.keep [15] rfl <| AR.op (r := .ref 0 0 0) rfl (aop_alloc 1 [.agg [nilS]] rfl zr24 (by kernel_rfl) (.inl ⟨rfl, rfl⟩)) <| AR.op rfl (aop_store (e' := .agg [.clip (List.map G.api_Txn.av ([(G.api_Txn.mk 0 [2] []), (G.api_Txn.mk 0 [2] [])] : List G.api_Txn))]) rfl rfl rfl rfl rfl rfl sz24 rfl dt rfl) <| AR.nil <| hK2 _ (AWP.weak (Weak.e (fr' := [(1, .pp [.clip (List.map G.api_Txn.av ([(G.api_Txn.mk 0 [2] []), (G.api_Txn.mk 0 [2] [])] : List G.api_Txn))] 0)]) (H' := .empty) ⟨⟨_, rfl, .frzA rfl rfl rfl rfl (by simp)⟩, trivial⟩) ?_)
 refine awp_seqK fun K3 hK3 => awp_reg rfl <| AR.op (r := .agg [.clip (List.map G.api_Txn.av ([(G.api_Txn.mk 0 [2] []), (G.api_Txn.mk 0 [2] [])] : List G.api_Txn))]) rfl (aop_load_pp rfl rfl sz24 rfl) ?_
 obtain ⟨r22, hr22, h⟩ := Sh.bind_some' h
 rcases r22 with r22 | r22
 ·replace h := Sh.either_l h
  refine AR.op (r := .tuple [.imm (.pointer none), i64 1]) rfl (aop_call3E (ok := NoId) (ys := [.agg [.clip (List.map G.api_Txn.av ([(G.api_Txn.mk 0 [2] []), (G.api_Txn.mk 0 [2] [])] : List G.api_Txn))], i64 0]) (xs := [G.api_Hist.av (G.api_Hist.mk ([(G.api_Txn.mk 0 [2] []), (G.api_Txn.mk 0 [2] [])] : List G.api_Txn)), i64 0]) (r' := .tuple [.imm (.pointer none), i64 1]) (Hs := ⟨0, [], []⟩) (H' := ⟨0, [], []⟩) (g := []) (m := []) (nw := []) (p := 0) (.func rfl rfl (store_New_ok0 hT hr22).call) (store_New_ok0 hT hr22) { next := rfl, part := trivial, inj := rfl, lt := rfl, nwf := rfl, gin := rfl, held := trivial, seen := ⟨⟨.agg [.clip (List.map G.api_Txn.av ([(G.api_Txn.mk 0 [2] []), (G.api_Txn.mk 0 [2] [])] : List G.api_Txn))], rfl, .ag ⟨.wide _ (by simp), trivial⟩⟩, ⟨_, rfl, .sm⟩, trivial⟩, inlps := rfl, ple := rfl, map := rfl, next' := rfl, back := trivial, lps := .inl ⟨rfl, rfl⟩, mode := .inr ⟨fun _ h => h, rfl⟩, ren := .sm } rfl) <| AR.op rfl (aop_move (.inl rfl) rfl) <| AR.keep [1, 16] rfl <| AR.op (r := .imm (.pointer none)) rfl (aop_extract rfl rfl rfl) <| AR.op (r := i64 1) rfl (aop_extract rfl rfl rfl) <| AR.op rfl (aop_move (.inr rfl) rfl) <| AR.keep [1, 20, 2] rfl <| AR.op rfl (aop_move (.inr rfl) rfl) ?_
  refine AR.nil <| hK3 _ (AWP.weak (Weak.kt [1, 2, 3] rfl) ?_)
  refine awp_seqK fun K4 hK4 => awp_reg rfl <| AR.op (r := .agg [.clip (List.map G.api_Txn.av ([(G.api_Txn.mk 0 [2] []), (G.api_Txn.mk 0 [2] [])] : List G.api_Txn))]) rfl (aop_load_pp rfl rfl sz24 rfl) ?_
  obtain ⟨r24, hr24, h⟩ := Sh.bind_some' h
  rcases r24 with r24 | r24
  ·replace h := Sh.either_l h
   refine AR.op (r := .tuple [.imm (.pointer none), i64 1]) rfl (aop_call3E (ok := NoId) (ys := [.agg [.clip (List.map G.api_Txn.av ([(G.api_Txn.mk 0 [2] []), (G.api_Txn.mk 0 [2] [])] : List G.api_Txn))], i64 2]) (xs := [G.api_Hist.av (G.api_Hist.mk ([(G.api_Txn.mk 0 [2] []), (G.api_Txn.mk 0 [2] [])] : List G.api_Txn)), i64 2]) (r' := .tuple [.imm (.pointer none), i64 1]) (Hs := ⟨0, [], []⟩) (H' := ⟨0, [], []⟩) (g := []) (m := []) (nw := []) (p := 0) (.func rfl rfl (store_New_ok0 hT hr24).call) (store_New_ok0 hT hr24) { next := rfl, part := trivial, inj := rfl, lt := rfl, nwf := rfl, gin := rfl, held := trivial, seen := ⟨⟨.agg [.clip (List.map G.api_Txn.av ([(G.api_Txn.mk 0 [2] []), (G.api_Txn.mk 0 [2] [])] : List G.api_Txn))], rfl, .ag ⟨.wide _ (by simp), trivial⟩⟩, ⟨_, rfl, .sm⟩, trivial⟩, inlps := rfl, ple := rfl, map := rfl, next' := rfl, back := trivial, lps := .inl ⟨rfl, rfl⟩, mode := .inr ⟨fun _ h => h, rfl⟩, ren := .sm } rfl) <| AR.op rfl (aop_move (.inl rfl) rfl) <| AR.keep [2, 3, 21] rfl <| AR.op (r := .imm (.pointer none)) rfl (aop_extract rfl rfl rfl) <| AR.op (r := i64 1) rfl (aop_extract rfl rfl rfl) <| AR.op rfl (aop_move (.inr rfl) rfl) <| AR.keep [2, 3, 25, 4] rfl <| AR.op rfl (aop_move (.inr rfl) rfl) ?_
   refine AR.nil <| hK4 _ (AWP.weak (Weak.kt [2, 3, 4, 5] rfl) ?_)
   refine awp_seqK fun K5 hK5 => awp_seqK fun K6 hK6 => awp_reg rfl <| AR.op rfl (aop_move (.inl rfl) rfl) <| AR.op (r := bl true) rfl (aop_eq_nilp rfl rfl rfl pt29) <| AR.op rfl (aop_move (.inl rfl) rfl) <| AR.keep [2, 3, 4, 5, 28] rfl <| AR.skip rfl ?_
   refine AR.skip rfl <| AR.op rfl (aop_pick rfl rfl rfl) <| AR.nil <| hK6 _ (AWP.weak (Weak.kt [2, 4, 5, 31] rfl) ?_)
   refine awp_cond_t rfl ?_
   refine awp_seqK fun K7 hK7 => awp_reg rfl <| AR.op rfl (aop_move (.inr rfl) rfl) <| AR.nil <| hK7 _ (AWP.weak (Weak.kt [0] rfl) ?_)
   refine awp_ret ?_
   obtain rfl := Option.some.inj h
   refine ⟨.inr rfl, bl false, rfl, ?_⟩
   exact Weak.e ⟨.k, trivial⟩
  ·replace h := Sh.either_r h
   refine AR.op (r := .tuple [.ref 0 0 0, i64 0]) rfl (aop_call3E (ok := NoId) (ys := [.agg [.clip (List.map G.api_Txn.av ([(G.api_Txn.mk 0 [2] []), (G.api_Txn.mk 0 [2] [])] : List G.api_Txn))], i64 2]) (xs := [G.api_Hist.av (G.api_Hist.mk ([(G.api_Txn.mk 0 [2] []), (G.api_Txn.mk 0 [2] [])] : List G.api_Txn)), i64 2]) (r' := .tuple [.ref 0 0 0, i64 0]) (Hs := ⟨0, [], []⟩) (H' := ⟨2, [(0, (4, [.agg [nilS, .mref 1, .sl (List.map G.api_Txn.av r24), i64 2]])), (1, (0, [mpC G.api_Choice.ky []]))], []⟩) (g := []) (m := [(0, 0), (1, 1)]) (nw := []) (p := 0) (.func rfl rfl (store_New_ok1 hT hr24).call) (store_New_ok1 hT hr24) { next := rfl, part := trivial, inj := rfl, lt := rfl, nwf := rfl, gin := rfl, held := trivial, seen := ⟨⟨.agg [.clip (List.map G.api_Txn.av ([(G.api_Txn.mk 0 [2] []), (G.api_Txn.mk 0 [2] [])] : List G.api_Txn))], rfl, .ag ⟨.wide _ (by simp), trivial⟩⟩, ⟨_, rfl, .sm⟩, trivial⟩, inlps := rfl, ple := rfl, map := rfl, next' := rfl, back := .new 0 rfl rfl (.one ⟨.sm, .mref rfl, .sm, .sm, trivial⟩) (.new 1 rfl rfl (.same (by simp)) trivial), lps := .inl ⟨rfl, rfl⟩, mode := .inr ⟨fun _ h => h, rfl⟩, ren := .tp ⟨.ref rfl, .sm, trivial⟩ } rfl) <| AR.op rfl (aop_move (.inl rfl) rfl) <| AR.keep [2, 3, 21] rfl <| AR.op (r := .ref 0 0 0) rfl (aop_extract rfl rfl rfl) <| AR.op (r := i64 0) rfl (aop_extract rfl rfl rfl) <| AR.op rfl (aop_move (.inr rfl) rfl) <| AR.keep [2, 3, 25, 4] rfl <| AR.op rfl (aop_move (.inr rfl) rfl) ?_
   refine AR.nil <| hK4 _ (AWP.weak (Weak.kt [2, 3, 4, 5] rfl) ?_)
   refine awp_seqK fun K8 hK8 => awp_seqK fun K9 hK9 => awp_reg rfl <| AR.op rfl (aop_move (.inl rfl) rfl) <| AR.op (r := bl true) rfl (aop_eq_nilp rfl rfl rfl pt29) <| AR.op rfl (aop_move (.inl rfl) rfl) <| AR.keep [2, 3, 4, 5, 28] rfl <| AR.skip rfl ?_
   refine AR.skip rfl <| AR.op rfl (aop_pick rfl rfl rfl) <| AR.nil <| hK9 _ (AWP.weak (Weak.kt [2, 4, 5, 31] rfl) ?_)
   refine awp_cond_t rfl ?_
   refine awp_seqK fun K10 hK10 => awp_reg rfl <| AR.op rfl (aop_move (.inr rfl) rfl) <| AR.nil <| hK10 _ (AWP.weak (Weak.e (fr' := [(0, bl false)]) (H' := .empty) ⟨.k, trivial⟩) ?_)
   refine awp_ret ?_
   obtain rfl := Option.some.inj h
   refine ⟨.inr rfl, bl false, rfl, ?_⟩
   exact Weak.e ⟨.k, trivial⟩
 ·replace h := Sh.either_r h
  refine AR.op (r := .tuple [.ref 0 0 0, i64 0]) rfl (aop_call3E (ok := NoId) (ys := [.agg [.clip (List.map G.api_Txn.av ([(G.api_Txn.mk 0 [2] []), (G.api_Txn.mk 0 [2] [])] : List G.api_Txn))], i64 0]) (xs := [G.api_Hist.av (G.api_Hist.mk ([(G.api_Txn.mk 0 [2] []), (G.api_Txn.mk 0 [2] [])] : List G.api_Txn)), i64 0]) (r' := .tuple [.ref 0 0 0, i64 0]) (Hs := ⟨0, [], []⟩) (H' := ⟨2, [(0, (4, [.agg [nilS, .mref 1, .sl (List.map G.api_Txn.av r22), i64 0]])), (1, (0, [mpC G.api_Choice.ky []]))], []⟩) (g := []) (m := [(0, 0), (1, 1)]) (nw := []) (p := 0) (.func rfl rfl (store_New_ok1 hT hr22).call) (store_New_ok1 hT hr22) { next := rfl, part := trivial, inj := rfl, lt := rfl, nwf := rfl, gin := rfl, held := trivial, seen := ⟨⟨.agg [.clip (List.map G.api_Txn.av ([(G.api_Txn.mk 0 [2] []), (G.api_Txn.mk 0 [2] [])] : List G.api_Txn))], rfl, .ag ⟨.wide _ (by simp), trivial⟩⟩, ⟨_, rfl, .sm⟩, trivial⟩, inlps := rfl, ple := rfl, map := rfl, next' := rfl, back := .new 0 rfl rfl (.one ⟨.sm, .mref rfl, .sm, .sm, trivial⟩) (.new 1 rfl rfl (.same (by simp)) trivial), lps := .inl ⟨rfl, rfl⟩, mode := .inr ⟨fun _ h => h, rfl⟩, ren := .tp ⟨.ref rfl, .sm, trivial⟩ } rfl) <| AR.op rfl (aop_move (.inl rfl) rfl) <| AR.keep [1, 16] rfl <| AR.op (r := .ref 0 0 0) rfl (aop_extract rfl rfl rfl) <| AR.op (r := i64 0) rfl (aop_extract rfl rfl rfl) <| AR.op rfl (aop_move (.inr rfl) rfl) <| AR.keep [1, 20, 2] rfl <| AR.op rfl (aop_move (.inr rfl) rfl) ?_
  refine AR.nil <| hK3 _ (AWP.weak (Weak.kt [1, 2, 3] rfl) ?_)
  refine awp_seqK fun K11 hK11 => awp_reg rfl <| AR.op (r := .agg [.clip (List.map G.api_Txn.av ([(G.api_Txn.mk 0 [2] []), (G.api_Txn.mk 0 [2] [])] : List G.api_Txn))]) rfl (aop_load_pp rfl rfl sz24 rfl) ?_
  obtain ⟨r26, hr26, h⟩ := Sh.bind_some' h
  rcases r26 with r26 | r26
  ·replace h := Sh.either_l h
   refine AR.op (r := .tuple [.imm (.pointer none), i64 1]) rfl (aop_call3E (ok := NoId) (ys := [.agg [.clip (List.map G.api_Txn.av ([(G.api_Txn.mk 0 [2] []), (G.api_Txn.mk 0 [2] [])] : List G.api_Txn))], i64 2]) (xs := [G.api_Hist.av (G.api_Hist.mk ([(G.api_Txn.mk 0 [2] []), (G.api_Txn.mk 0 [2] [])] : List G.api_Txn)), i64 2]) (r' := .tuple [.imm (.pointer none), i64 1]) (Hs := ⟨2, [], []⟩) (H' := ⟨2, [(0, (4, [.agg [nilS, .mref 1, .sl (List.map G.api_Txn.av r22), i64 0]])), (1, (0, [mpC G.api_Choice.ky []]))], []⟩) (g := []) (m := []) (nw := []) (p := 0) (.func rfl rfl (store_New_ok0 hT hr26).call) (store_New_ok0 hT hr26) { next := rfl, part := trivial, inj := rfl, lt := rfl, nwf := rfl, gin := rfl, held := trivial, seen := ⟨⟨.agg [.clip (List.map G.api_Txn.av ([(G.api_Txn.mk 0 [2] []), (G.api_Txn.mk 0 [2] [])] : List G.api_Txn))], rfl, .ag ⟨.wide _ (by simp), trivial⟩⟩, ⟨_, rfl, .sm⟩, trivial⟩, inlps := rfl, ple := rfl, map := rfl, next' := rfl, back := .kept rfl rfl (.kept rfl rfl trivial), lps := .inl ⟨rfl, rfl⟩, mode := .inr ⟨fun _ h => h, rfl⟩, ren := .sm } rfl) <| AR.op rfl (aop_move (.inl rfl) rfl) <| AR.keep [2, 3, 21] rfl <| AR.op (r := .imm (.pointer none)) rfl (aop_extract rfl rfl rfl) <| AR.op (r := i64 1) rfl (aop_extract rfl rfl rfl) <| AR.op rfl (aop_move (.inr rfl) rfl) <| AR.keep [2, 3, 25, 4] rfl <| AR.op rfl (aop_move (.inr rfl) rfl) ?_
   refine AR.nil <| hK11 _ (AWP.weak (Weak.kt [2, 3, 4, 5] rfl) ?_)
   refine awp_seqK fun K12 hK12 => awp_seqK fun K13 hK13 => awp_reg rfl <| AR.op rfl (aop_move (.inl rfl) rfl) <| AR.op (r := bl false) rfl (aop_eq_ref rfl rfl rfl rfl pt29) <| AR.op rfl (aop_move (.inl rfl) rfl) <| AR.keep [2, 3, 4, 5, 28] rfl <| AR.op rfl (aop_move (.inl rfl) rfl) ?_
   refine AR.op (r := bl false) rfl ((aop_neq rfl rfl rfl).ff (by decide)) <| AR.op rfl (aop_pick rfl rfl rfl) <| AR.nil <| hK13 _ (AWP.weak (Weak.kt [2, 4, 5, 31] rfl) ?_)
   refine awp_cond_f rfl ?_
   refine awp_skip <| hK12 _ (AWP.weak (Weak.kt [2, 4, 5] rfl) ?_)
   refine awp_seqK fun K14 hK14 => awp_reg rfl <| AR.op (r := .agg [i64 2, i64 0, i64 1]) rfl (aop_build rfl bd35 rfl rfl rfl) <| AR.op (r := .ref 2 0 0) rfl (aop_alloc 3 [.agg [i64 0, i64 0, i64 0]] rfl zr35 (by kernel_rfl) (.inl ⟨rfl, rfl⟩)) <| AR.op rfl (aop_store (e' := .agg [i64 2, i64 0, i64 1]) rfl rfl rfl rfl rfl rfl sz35 rfl dt rfl) <| AR.nil <| hK14 _ (AWP.weak (Weak.re (fr' := [(2, .ref 0 0 0), (4, .imm (.pointer none)), (5, i64 1), (6, .pp [i64 2, i64 0, i64 1] 0)]) (H' := ⟨2, [(0, (4, [.agg [nilS, .mref 1, .sl (List.map G.api_Txn.av r22), i64 0]])), (1, (0, [mpC G.api_Choice.ky []]))], []⟩) [(0, 0), (1, 1)] [] rfl rfl rfl (.cons rfl rfl (.one (.ag ⟨.sm, .mref rfl, .sm, .sm, trivial⟩) rfl) dt (.cons rfl rfl (.same (by simp)) dt trivial)) ⟨⟨_, rfl, .ref rfl⟩, .k, .k, ⟨_, rfl, .frzA rfl rfl rfl rfl (by simp)⟩, trivial⟩) ?_)
   refine awp_seqK fun K15 hK15 => awp_reg rfl <| AR.op rfl (aop_move (.inl rfl) rfl) <| AR.op (r := .agg [i64 2, i64 0, i64 1]) rfl (aop_load_pp rfl rfl sz35 rfl) <| AR.op (r := .agg [i64 2, i64 0, i64 1, i64 1, i64 0, i64 0, nilS]) rfl (aop_build rfl bd38 rfl rfl rfl) <| AR.keep [2, 4, 5, 6, 33, 35] rfl ?_
   obtain ⟨r28, hr28, h⟩ := Sh.bind_some' h
   refine AR.op (r := i64 r28.2.2) rfl (aop_call3E (ok := NoId) (ys := [.ref 0 0 0, .agg [i64 2, i64 0, i64 1, i64 1, i64 0, i64 0, nilS]]) (xs := [.ref 0 0 0, G.fact_Fact.av (G.fact_Fact.mk (G.api_Choice.mk 2 0 1) 1 0 0 [])]) (r' := i64 r28.2.2) (Hs := ⟨2, [(0, (4, [.agg [nilS, .mref 1, .sl (List.map G.api_Txn.av r22), i64 0]])), (1, (0, [mpC G.api_Choice.ky []]))], []⟩) (H' := ⟨5, [(0, (4, [.agg [.view 3 0 (List.map G.fact_Fact.av r28.1).length, .mref 4, .sl (List.map G.api_Txn.av r22), i64 0]])), (3, (7, List.map G.fact_Fact.av r28.1)), (4, (0, [mpC G.api_Choice.ky r28.2.1]))], []⟩) (g := [(0, 0), (2, 1)]) (m := [(0, 0), (1, 3), (2, 4)]) (nw := [1]) (p := 1) (.func rfl rfl (store_Store_Learn__1_ok hT hr28).call) (store_Store_Learn__1_ok hT hr28) { next := rfl, part := ⟨rfl, rfl, trivial⟩, inj := rfl, lt := rfl, nwf := rfl, gin := rfl, held := .cons rfl rfl (.one (.ag ⟨.nil (by simp), .mref rfl, .sm, .sm, trivial⟩) rfl) dt (.fresh (by simp) dt (.cons rfl rfl (.same (by simp)) dt trivial)), seen := ⟨⟨_, rfl, .ref rfl⟩, ⟨.agg [i64 2, i64 0, i64 1, i64 1, i64 0, i64 0, nilS], rfl, .ag ⟨.sm, .sm, .sm, .sm, .sm, .sm, .nilsl, trivial⟩⟩, trivial⟩, inlps := rfl, ple := rfl, map := rfl, next' := rfl, back := .new 0 rfl rfl (.one ⟨.view rfl, .mref rfl, .sm, .sm, trivial⟩) (.new 1 rfl rfl (.same (by simp [AV.flat, G.fact_Fact.av])) (.new 2 rfl rfl (.same (by simp)) trivial)), lps := .inl ⟨rfl, rfl⟩, mode := .inr ⟨fun _ h => h, rfl⟩, ren := .sm } rfl) <| AR.op rfl (aop_move (.inr rfl) rfl) <| AR.nil <| hK15 _ (AWP.weak (Weak.re (fr' := [(2, .ref 0 0 0), (4, .imm (.pointer none)), (5, i64 1), (6, .pp [i64 2, i64 0, i64 1] 0), (7, i64 r28.2.2)]) (H' := ⟨3, [(0, (4, [.agg [.view 1 0 (List.map G.fact_Fact.av r28.1).length, .mref 2, .sl (List.map G.api_Txn.av r22), i64 0]])), (1, (7, List.map G.fact_Fact.av r28.1)), (2, (0, [mpC G.api_Choice.ky r28.2.1]))], []⟩) [(0, 0), (1, 3), (2, 4)] [] rfl rfl rfl (.cons rfl rfl (.one (.ag ⟨.view rfl, .mref rfl, .sm, .sm, trivial⟩) rfl) dt (.cons rfl rfl (.same (by simp)) dt (.cons rfl rfl (.same (by simp)) dt trivial))) ⟨⟨_, rfl, .ref rfl⟩, .k, .k, .k, .k, trivial⟩) ?_)
   refine awp_seqK fun K16 hK16 => awp_reg rfl <| AR.op rfl (aop_move (.inl rfl) rfl) <| AR.op (r := .agg [i64 2, i64 0, i64 1]) rfl (aop_load_pp rfl rfl sz35 rfl) <| AR.op (r := .agg [i64 2, i64 0, i64 1, i64 1, i64 0, i64 0, nilS]) rfl (aop_build rfl bd38 rfl rfl rfl) <| AR.keep [2, 4, 5, 6, 7, 37, 39] rfl ?_
   obtain ⟨r30, hr30, h⟩ := Sh.bind_some' h
   refine AR.op (r := i64 r30.2.2) rfl (aop_call3E (ok := NoId) (ys := [.ref 0 0 0, .agg [i64 2, i64 0, i64 1, i64 1, i64 0, i64 0, nilS]]) (xs := [.ref 0 0 0, G.fact_Fact.av (G.fact_Fact.mk (G.api_Choice.mk 2 0 1) 1 0 0 [])]) (r' := i64 r30.2.2) (Hs := ⟨3, [(0, (4, [.agg [.view 1 0 (List.map G.fact_Fact.av r28.1).length, .mref 2, .sl (List.map G.api_Txn.av r22), i64 0]])), (1, (7, List.map G.fact_Fact.av r28.1)), (2, (0, [mpC G.api_Choice.ky r28.2.1]))], []⟩) (H' := ⟨6, [(0, (4, [.agg [.view 4 0 (List.map G.fact_Fact.av r30.1).length, .mref 5, .sl (List.map G.api_Txn.av r22), i64 0]])), (4, (7, List.map G.fact_Fact.av r30.1)), (5, (0, [mpC G.api_Choice.ky r30.2.1]))], []⟩) (g := [(0, 0), (1, 1), (2, 2)]) (m := [(0, 0), (1, 4), (2, 5)]) (nw := []) (p := 1) (.func rfl rfl (store_Store_Learn__1_ok hT hr30).call) (store_Store_Learn__1_ok hT hr30) { next := rfl, part := ⟨rfl, rfl, rfl, trivial⟩, inj := rfl, lt := rfl, nwf := rfl, gin := rfl, held := .cons rfl rfl (.one (.ag ⟨.view rfl, .mref rfl, .sm, .sm, trivial⟩) rfl) dt (.cons rfl rfl (.same (by simp)) dt (.cons rfl rfl (.same (by simp)) dt trivial)), seen := ⟨⟨_, rfl, .ref rfl⟩, ⟨.agg [i64 2, i64 0, i64 1, i64 1, i64 0, i64 0, nilS], rfl, .ag ⟨.sm, .sm, .sm, .sm, .sm, .sm, .nilsl, trivial⟩⟩, trivial⟩, inlps := rfl, ple := rfl, map := rfl, next' := rfl, back := .new 0 rfl rfl (.one ⟨.view rfl, .mref rfl, .sm, .sm, trivial⟩) (.new 1 rfl rfl (.same (by simp [AV.flat, G.fact_Fact.av])) (.new 2 rfl rfl (.same (by simp)) trivial)), lps := .inl ⟨rfl, rfl⟩, mode := .inr ⟨fun _ h => h, rfl⟩, ren := .sm } rfl) <| AR.op rfl (aop_move (.inr rfl) rfl) <| AR.nil <| hK16 _ (AWP.weak (Weak.re (fr' := [(2, .ref 0 0 0), (4, .imm (.pointer none)), (5, i64 1), (6, .pp [i64 2, i64 0, i64 1] 0), (7, i64 r28.2.2), (8, i64 r30.2.2)]) (H' := ⟨3, [(0, (4, [.agg [.view 1 0 (List.map G.fact_Fact.av r30.1).length, .mref 2, .sl (List.map G.api_Txn.av r22), i64 0]])), (1, (7, List.map G.fact_Fact.av r30.1)), (2, (0, [mpC G.api_Choice.ky r30.2.1]))], []⟩) [(0, 0), (1, 4), (2, 5)] [] rfl rfl rfl (.cons rfl rfl (.one (.ag ⟨.view rfl, .mref rfl, .sm, .sm, trivial⟩) rfl) dt (.cons rfl rfl (.same (by simp)) dt (.cons rfl rfl (.same (by simp)) dt trivial))) ⟨⟨_, rfl, .ref rfl⟩, .k, .k, .k, .k, .k, trivial⟩) ?_)
   refine awp_seqK fun K17 hK17 => awp_reg rfl <| AR.op rfl (aop_move (.inl rfl) rfl) <| AR.op (r := .agg [i64 2, i64 1, i64 0]) rfl (aop_build rfl bd35 rfl rfl rfl) <| AR.op (r := .agg [i64 2, i64 1, i64 0, i64 1, i64 0, i64 0, nilS]) rfl (aop_build rfl bd38 rfl rfl rfl) <| AR.keep [2, 4, 5, 6, 7, 8, 41, 43] rfl ?_
   obtain ⟨r32, hr32, h⟩ := Sh.bind_some' h
   refine AR.op (r := i64 r32.2.2) rfl (aop_call3E (ok := NoId) (ys := [.ref 0 0 0, .agg [i64 2, i64 1, i64 0, i64 1, i64 0, i64 0, nilS]]) (xs := [.ref 0 0 0, G.fact_Fact.av (G.fact_Fact.mk (G.api_Choice.mk 2 1 0) 1 0 0 [])]) (r' := i64 r32.2.2) (Hs := ⟨3, [(0, (4, [.agg [.view 1 0 (List.map G.fact_Fact.av r30.1).length, .mref 2, .sl (List.map G.api_Txn.av r22), i64 0]])), (1, (7, List.map G.fact_Fact.av r30.1)), (2, (0, [mpC G.api_Choice.ky r30.2.1]))], []⟩) (H' := ⟨6, [(0, (4, [.agg [.view 4 0 (List.map G.fact_Fact.av r32.1).length, .mref 5, .sl (List.map G.api_Txn.av r22), i64 0]])), (4, (7, List.map G.fact_Fact.av r32.1)), (5, (0, [mpC G.api_Choice.ky r32.2.1]))], []⟩) (g := [(0, 0), (1, 1), (2, 2)]) (m := [(0, 0), (1, 4), (2, 5)]) (nw := []) (p := 1) (.func rfl rfl (store_Store_Learn__1_ok hT hr32).call) (store_Store_Learn__1_ok hT hr32) { next := rfl, part := ⟨rfl, rfl, rfl, trivial⟩, inj := rfl, lt := rfl, nwf := rfl, gin := rfl, held := .cons rfl rfl (.one (.ag ⟨.view rfl, .mref rfl, .sm, .sm, trivial⟩) rfl) dt (.cons rfl rfl (.same (by simp)) dt (.cons rfl rfl (.same (by simp)) dt trivial)), seen := ⟨⟨_, rfl, .ref rfl⟩, ⟨.agg [i64 2, i64 1, i64 0, i64 1, i64 0, i64 0, nilS], rfl, .ag ⟨.sm, .sm, .sm, .sm, .sm, .sm, .nilsl, trivial⟩⟩, trivial⟩, inlps := rfl, ple := rfl, map := rfl, next' := rfl, back := .new 0 rfl rfl (.one ⟨.view rfl, .mref rfl, .sm, .sm, trivial⟩) (.new 1 rfl rfl (.same (by simp [AV.flat, G.fact_Fact.av])) (.new 2 rfl rfl (.same (by simp)) trivial)), lps := .inl ⟨rfl, rfl⟩, mode := .inr ⟨fun _ h => h, rfl⟩, ren := .sm } rfl) <| AR.op rfl (aop_move (.inr rfl) rfl) <| AR.nil <| hK17 _ (AWP.weak (Weak.re (fr' := [(2, .ref 0 0 0), (4, .imm (.pointer none)), (5, i64 1), (6, .pp [i64 2, i64 0, i64 1] 0), (7, i64 r28.2.2), (8, i64 r30.2.2), (9, i64 r32.2.2)]) (H' := ⟨3, [(0, (4, [.agg [.view 1 0 (List.map G.fact_Fact.av r32.1).length, .mref 2, .sl (List.map G.api_Txn.av r22), i64 0]])), (1, (7, List.map G.fact_Fact.av r32.1)), (2, (0, [mpC G.api_Choice.ky r32.2.1]))], []⟩) [(0, 0), (1, 4), (2, 5)] [] rfl rfl rfl (.cons rfl rfl (.one (.ag ⟨.view rfl, .mref rfl, .sm, .sm, trivial⟩) rfl) dt (.cons rfl rfl (.same (by simp)) dt (.cons rfl rfl (.same (by simp)) dt trivial))) ⟨⟨_, rfl, .ref rfl⟩, .k, .k, .k, .k, .k, .k, trivial⟩) ?_)
   refine awp_seqK fun K18 hK18 => awp_reg rfl <| AR.op rfl (aop_move (.inl rfl) rfl) <| AR.op (r := bl true) rfl (aop_eq_nilp rfl rfl rfl pt29) <| AR.op rfl (aop_move (.inl rfl) rfl) <| AR.keep [2, 5, 6, 7, 8, 9, 47] rfl <| AR.op rfl (aop_move (.inl rfl) rfl) <| AR.op (r := bl true) rfl ((aop_eql rfl rfl rfl).tt (by decide)) ?_
   refine AR.op rfl (aop_pick rfl rfl rfl) <| AR.keep [2, 6, 7, 8, 9, 50] rfl <| AR.op rfl (aop_move (.inl rfl) rfl) <| AR.op rfl (aop_move (.inl rfl) rfl) <| AR.op (r := bl (decide (r28.2.2 = 0))) rfl (aop_eql rfl rfl rfl) <| AR.keep [2, 6, 8, 9, 51, 53] rfl <| AR.op rfl (aop_pick rfl rfl rfl) <| AR.op rfl (aop_move (.inl rfl) rfl) ?_
   rcases Bool.eq_false_or_eq_true (decide (r28.2.2 = 0)) with hb43 | hb43
   ·rw [hb43]
    replace h := Sh.if_t h hb43
    refine AR.op rfl (aop_move (.inl rfl) rfl) <| AR.keep [2, 6, 9, 55, 56] rfl <| AR.op (r := bl (decide (r30.2.2 = 8))) rfl (aop_eql rfl rfl rfl) <| AR.op rfl (aop_pick rfl rfl rfl) <| AR.op rfl (aop_move (.inl rfl) rfl) <| AR.keep [2, 6, 9, 59] rfl ?_
    rcases Bool.eq_false_or_eq_true (decide (r30.2.2 = 8)) with hb44 | hb44
    ·rw [hb44]
     replace h := Sh.if_t h hb44
     refine AR.op rfl (aop_move (.inl rfl) rfl) <| AR.op (r := bl (decide (r32.2.2 = 17))) rfl (aop_eql rfl rfl rfl) <| AR.op rfl (aop_pick rfl rfl rfl) <| AR.keep [2, 6, 62] rfl <| AR.op rfl (aop_move (.inl rfl) rfl) ?_
     rcases Bool.eq_false_or_eq_true (decide (r32.2.2 = 17)) with hb45 | hb45
     ·rw [hb45]
      replace h := Sh.if_t h hb45
      refine AR.op rfl (aop_move (.inl rfl) rfl) ?_
      obtain ⟨r46, hr46, h⟩ := Sh.bind_some' h
      refine AR.op (r := i64 (Sh.len r32.1)) rfl (aop_call3E (ok := NoId) (ys := [.ref 0 0 0]) (xs := [.ref 0 0 0]) (r' := i64 (Sh.len r32.1)) (Hs := ⟨3, [(0, (4, [.agg [.view 1 0 (List.map G.fact_Fact.av r32.1).length, .mref 2, .sl (List.map G.api_Txn.av r22), i64 0]])), (1, (7, List.map G.fact_Fact.av r32.1)), (2, (0, [mpC G.api_Choice.ky r32.2.1]))], []⟩) (H' := ⟨6, [(0, (4, [.agg [.view 4 0 (List.map G.fact_Fact.av r32.1).length, .mref 5, .sl (List.map G.api_Txn.av r22), i64 0]])), (4, (7, List.map G.fact_Fact.av r32.1)), (5, (0, [mpC G.api_Choice.ky r32.2.1]))], []⟩) (g := [(0, 0), (1, 1), (2, 2)]) (m := [(0, 0), (1, 4), (2, 5)]) (nw := []) (p := 1) (.func rfl rfl (store_Store_Len__1_ok hT hr46).call) (store_Store_Len__1_ok hT hr46) { next := rfl, part := ⟨rfl, rfl, rfl, trivial⟩, inj := rfl, lt := rfl, nwf := rfl, gin := rfl, held := .cons rfl rfl (.one (.ag ⟨.view rfl, .mref rfl, .sm, .sm, trivial⟩) rfl) dt (.cons rfl rfl (.same (by simp)) dt (.cons rfl rfl (.same (by simp)) dt trivial)), seen := ⟨⟨_, rfl, .ref rfl⟩, trivial⟩, inlps := rfl, ple := rfl, map := rfl, next' := rfl, back := .new 0 rfl rfl (.one ⟨.view rfl, .mref rfl, .sm, .sm, trivial⟩) (.new 1 rfl rfl (.same (by simp [AV.flat, G.fact_Fact.av])) (.new 2 rfl rfl (.same (by simp)) trivial)), lps := .inl ⟨rfl, rfl⟩, mode := .inr ⟨fun _ h => h, rfl⟩, ren := .sm } rfl) <| AR.keep [2, 6, 63, 65] rfl <| AR.op (r := bl (decide ((Sh.len r32.1) = 1))) rfl (aop_eql rfl rfl rfl) <| AR.op rfl (aop_pick rfl rfl rfl) <| AR.op rfl (aop_move (.inl rfl) rfl) <| AR.keep [2, 6, 68] rfl ?_
      rcases Bool.eq_false_or_eq_true (decide ((Sh.len r32.1) = 1)) with hb47 | hb47
      ·rw [hb47]
       replace h := Sh.if_t h hb47
       refine AR.op rfl (aop_move (.inl rfl) rfl) <| AR.op (r := .agg [i64 2, i64 0, i64 1]) rfl (aop_load_pp rfl rfl sz35 rfl) ?_
       obtain ⟨r48, hr48, h⟩ := Sh.bind_some' h
       refine AR.op (r := i64 r48) rfl (aop_call3E (ok := NoId) (ys := [.ref 0 0 0, .agg [i64 2, i64 0, i64 1]]) (xs := [.ref 0 0 0, G.api_Choice.av (G.api_Choice.mk 2 0 1)]) (r' := i64 r48) (Hs := ⟨6, [(0, (4, [.agg [.view 4 0 (List.map G.fact_Fact.av r32.1).length, .mref 5, .sl (List.map G.api_Txn.av r22), i64 0]])), (4, (7, List.map G.fact_Fact.av r32.1)), (5, (0, [mpC G.api_Choice.ky r32.2.1]))], []⟩) (H' := ⟨9, [(0, (4, [.agg [.view 7 0 (List.map G.fact_Fact.av r32.1).length, .mref 8, .sl (List.map G.api_Txn.av r22), i64 0]])), (7, (7, List.map G.fact_Fact.av r32.1)), (8, (0, [mpC G.api_Choice.ky r32.2.1]))], []⟩) (g := [(0, 0), (1, 4), (2, 5)]) (m := [(0, 0), (1, 7), (2, 8)]) (nw := []) (p := 1) (.func rfl rfl (store_Store_Decides__1_ok hT hr48).call) (store_Store_Decides__1_ok hT hr48) { next := rfl, part := ⟨rfl, rfl, rfl, trivial⟩, inj := rfl, lt := rfl, nwf := rfl, gin := rfl, held := .cons rfl rfl (.one (.ag ⟨.view rfl, .mref rfl, .sm, .sm, trivial⟩) rfl) dt (.cons rfl rfl (.same (by simp)) dt (.cons rfl rfl (.same (by simp)) dt trivial)), seen := ⟨⟨_, rfl, .ref rfl⟩, ⟨.agg [i64 2, i64 0, i64 1], rfl, .sm⟩, trivial⟩, inlps := rfl, ple := rfl, map := rfl, next' := rfl, back := .new 0 rfl rfl (.one ⟨.view rfl, .mref rfl, .sm, .sm, trivial⟩) (.new 1 rfl rfl (.same (by simp [AV.flat, G.fact_Fact.av])) (.new 2 rfl rfl (.same (by simp)) trivial)), lps := .inl ⟨rfl, rfl⟩, mode := .inr ⟨fun _ h => h, rfl⟩, ren := .sm } rfl) <| AR.keep [2, 68, 71] rfl <| AR.op (r := bl (decide (r48 = 1))) rfl (aop_eql rfl rfl rfl) <| AR.op rfl (aop_pick rfl rfl rfl) <| AR.op rfl (aop_move (.inl rfl) rfl) <| AR.keep [2, 74] rfl ?_
       rcases Bool.eq_false_or_eq_true (decide (r48 = 1)) with hb49 | hb49
       ·rw [hb49]
        replace h := Sh.if_t h hb49
        refine AR.op rfl (aop_move (.inl rfl) rfl) <| AR.op (r := .agg [i64 2, i64 1, i64 0]) rfl (aop_build rfl bd35 rfl rfl rfl) ?_
        obtain ⟨r50, hr50, h⟩ := Sh.bind_some' h
        refine AR.op (r := i64 r50) rfl (aop_call3E (ok := NoId) (ys := [.ref 0 0 0, .agg [i64 2, i64 1, i64 0]]) (xs := [.ref 0 0 0, G.api_Choice.av (G.api_Choice.mk 2 1 0)]) (r' := i64 r50) (Hs := ⟨9, [(0, (4, [.agg [.view 7 0 (List.map G.fact_Fact.av r32.1).length, .mref 8, .sl (List.map G.api_Txn.av r22), i64 0]])), (7, (7, List.map G.fact_Fact.av r32.1)), (8, (0, [mpC G.api_Choice.ky r32.2.1]))], []⟩) (H' := ⟨12, [(0, (4, [.agg [.view 10 0 (List.map G.fact_Fact.av r32.1).length, .mref 11, .sl (List.map G.api_Txn.av r22), i64 0]])), (10, (7, List.map G.fact_Fact.av r32.1)), (11, (0, [mpC G.api_Choice.ky r32.2.1]))], []⟩) (g := [(0, 0), (1, 7), (2, 8)]) (m := [(0, 0), (1, 10), (2, 11)]) (nw := []) (p := 1) (.func rfl rfl (store_Store_Decides__1_ok hT hr50).call) (store_Store_Decides__1_ok hT hr50) { next := rfl, part := ⟨rfl, rfl, rfl, trivial⟩, inj := rfl, lt := rfl, nwf := rfl, gin := rfl, held := .cons rfl rfl (.one (.ag ⟨.view rfl, .mref rfl, .sm, .sm, trivial⟩) rfl) dt (.cons rfl rfl (.same (by simp)) dt (.cons rfl rfl (.same (by simp)) dt trivial)), seen := ⟨⟨_, rfl, .ref rfl⟩, ⟨.agg [i64 2, i64 1, i64 0], rfl, .sm⟩, trivial⟩, inlps := rfl, ple := rfl, map := rfl, next' := rfl, back := .new 0 rfl rfl (.one ⟨.view rfl, .mref rfl, .sm, .sm, trivial⟩) (.new 1 rfl rfl (.same (by simp [AV.flat, G.fact_Fact.av])) (.new 2 rfl rfl (.same (by simp)) trivial)), lps := .inl ⟨rfl, rfl⟩, mode := .inr ⟨fun _ h => h, rfl⟩, ren := .sm } rfl) <| AR.keep [2, 74, 77] rfl <| AR.op (r := bl (decide (r50 = (-1)))) rfl (aop_eql rfl rfl rfl) <| AR.op rfl (aop_pick rfl rfl rfl) <| AR.op rfl (aop_move (.inl rfl) rfl) <| AR.keep [2, 80] rfl ?_
        rcases Bool.eq_false_or_eq_true (decide (r50 = (-1))) with hb51 | hb51
        ·rw [hb51]
         replace h := Sh.if_t h hb51
         refine AR.op rfl (aop_move (.inl rfl) rfl) <| AR.op (r := .agg [i64 3, i64 1, i64 0]) rfl (aop_build rfl bd35 rfl rfl rfl) ?_
         obtain ⟨r52, hr52, h⟩ := Sh.bind_some' h
         refine AR.op (r := i64 r52) rfl (aop_call3E (ok := NoId) (ys := [.ref 0 0 0, .agg [i64 3, i64 1, i64 0]]) (xs := [.ref 0 0 0, G.api_Choice.av (G.api_Choice.mk 3 1 0)]) (r' := i64 r52) (Hs := ⟨12, [(0, (4, [.agg [.view 10 0 (List.map G.fact_Fact.av r32.1).length, .mref 11, .sl (List.map G.api_Txn.av r22), i64 0]])), (10, (7, List.map G.fact_Fact.av r32.1)), (11, (0, [mpC G.api_Choice.ky r32.2.1]))], []⟩) (H' := ⟨15, [(0, (4, [.agg [.view 13 0 (List.map G.fact_Fact.av r32.1).length, .mref 14, .sl (List.map G.api_Txn.av r22), i64 0]])), (13, (7, List.map G.fact_Fact.av r32.1)), (14, (0, [mpC G.api_Choice.ky r32.2.1]))], []⟩) (g := [(0, 0), (1, 10), (2, 11)]) (m := [(0, 0), (1, 13), (2, 14)]) (nw := []) (p := 1) (.func rfl rfl (store_Store_Decides__1_ok hT hr52).call) (store_Store_Decides__1_ok hT hr52) { next := rfl, part := ⟨rfl, rfl, rfl, trivial⟩, inj := rfl, lt := rfl, nwf := rfl, gin := rfl, held := .cons rfl rfl (.one (.ag ⟨.view rfl, .mref rfl, .sm, .sm, trivial⟩) rfl) dt (.cons rfl rfl (.same (by simp)) dt (.cons rfl rfl (.same (by simp)) dt trivial)), seen := ⟨⟨_, rfl, .ref rfl⟩, ⟨.agg [i64 3, i64 1, i64 0], rfl, .sm⟩, trivial⟩, inlps := rfl, ple := rfl, map := rfl, next' := rfl, back := .new 0 rfl rfl (.one ⟨.view rfl, .mref rfl, .sm, .sm, trivial⟩) (.new 1 rfl rfl (.same (by simp [AV.flat, G.fact_Fact.av])) (.new 2 rfl rfl (.same (by simp)) trivial)), lps := .inl ⟨rfl, rfl⟩, mode := .inr ⟨fun _ h => h, rfl⟩, ren := .sm } rfl) <| AR.keep [80, 83] rfl <| AR.op (r := bl (decide (r52 = 0))) rfl (aop_eql rfl rfl rfl) <| AR.op rfl (aop_pick rfl rfl rfl) <| AR.op rfl (aop_move (.inr rfl) rfl) <| AR.nil <| hK18 _ (AWP.weak (Weak.e (fr' := [(0, bl (decide (r52 = 0)))]) (H' := .empty) ⟨.k, trivial⟩) ?_)
         refine awp_ret ?_
         obtain rfl := Option.some.inj h
         refine ⟨.inr rfl, bl (decide (r52 = 0)), rfl, ?_⟩
         exact Weak.e ⟨.k, trivial⟩
        ·rw [hb51]
         replace h := Sh.if_f h hb51
         refine AR.skip rfl <| AR.skip rfl <| AR.skip rfl <| AR.keep [80, 83] rfl <| AR.skip rfl <| AR.op rfl (aop_pick rfl rfl rfl) <| AR.op rfl (aop_move (.inr rfl) rfl) <| AR.nil ?_
         refine hK18 _ (AWP.weak (Weak.e (fr' := [(0, bl false)]) (H' := .empty) ⟨.k, trivial⟩) ?_)
         refine awp_ret ?_
         obtain rfl := Option.some.inj h
         refine ⟨.inr rfl, bl false, rfl, ?_⟩
         exact Weak.e ⟨.k, trivial⟩
       ·rw [hb49]
        replace h := Sh.if_f h hb49
        refine AR.skip rfl <| AR.skip rfl <| AR.skip rfl <| AR.keep [2, 74, 77] rfl <| AR.skip rfl <| AR.op rfl (aop_pick rfl rfl rfl) <| AR.op rfl (aop_move (.inl rfl) rfl) <| AR.keep [2, 80] rfl ?_
        refine AR.skip rfl <| AR.skip rfl <| AR.skip rfl <| AR.keep [80, 83] rfl <| AR.skip rfl <| AR.op rfl (aop_pick rfl rfl rfl) <| AR.op rfl (aop_move (.inr rfl) rfl) <| AR.nil ?_
        refine hK18 _ (AWP.weak (Weak.e (fr' := [(0, bl false)]) (H' := .empty) ⟨.k, trivial⟩) ?_)
        refine awp_ret ?_
        obtain rfl := Option.some.inj h
        refine ⟨.inr rfl, bl false, rfl, ?_⟩
        exact Weak.e ⟨.k, trivial⟩
      ·rw [hb47]
       replace h := Sh.if_f h hb47
       refine AR.skip rfl <| AR.skip rfl <| AR.skip rfl <| AR.keep [2, 68, 71] rfl <| AR.skip rfl <| AR.op rfl (aop_pick rfl rfl rfl) <| AR.op rfl (aop_move (.inl rfl) rfl) <| AR.keep [2, 74] rfl ?_
       refine AR.skip rfl <| AR.skip rfl <| AR.skip rfl <| AR.keep [2, 74, 77] rfl <| AR.skip rfl <| AR.op rfl (aop_pick rfl rfl rfl) <| AR.op rfl (aop_move (.inl rfl) rfl) <| AR.keep [2, 80] rfl ?_
       refine AR.skip rfl <| AR.skip rfl <| AR.skip rfl <| AR.keep [80, 83] rfl <| AR.skip rfl <| AR.op rfl (aop_pick rfl rfl rfl) <| AR.op rfl (aop_move (.inr rfl) rfl) <| AR.nil ?_
       refine hK18 _ (AWP.weak (Weak.e (fr' := [(0, bl false)]) (H' := .empty) ⟨.k, trivial⟩) ?_)
       refine awp_ret ?_
       obtain rfl := Option.some.inj h
       refine ⟨.inr rfl, bl false, rfl, ?_⟩
       exact Weak.e ⟨.k, trivial⟩
     ·rw [hb45]
      replace h := Sh.if_f h hb45
      refine AR.skip rfl <| AR.skip rfl <| AR.keep [2, 6, 63, 65] rfl <| AR.skip rfl <| AR.op rfl (aop_pick rfl rfl rfl) <| AR.op rfl (aop_move (.inl rfl) rfl) <| AR.keep [2, 6, 68] rfl <| AR.skip rfl ?_
      refine AR.skip rfl <| AR.skip rfl <| AR.keep [2, 68, 71] rfl <| AR.skip rfl <| AR.op rfl (aop_pick rfl rfl rfl) <| AR.op rfl (aop_move (.inl rfl) rfl) <| AR.keep [2, 74] rfl <| AR.skip rfl ?_
      refine AR.skip rfl <| AR.skip rfl <| AR.keep [2, 74, 77] rfl <| AR.skip rfl <| AR.op rfl (aop_pick rfl rfl rfl) <| AR.op rfl (aop_move (.inl rfl) rfl) <| AR.keep [2, 80] rfl <| AR.skip rfl ?_
      refine AR.skip rfl <| AR.skip rfl <| AR.keep [80, 83] rfl <| AR.skip rfl <| AR.op rfl (aop_pick rfl rfl rfl) <| AR.op rfl (aop_move (.inr rfl) rfl) <| AR.nil <| hK18 _ (AWP.weak (Weak.e (fr' := [(0, bl false)]) (H' := .empty) ⟨.k, trivial⟩) ?_)
      refine awp_ret ?_
      obtain rfl := Option.some.inj h
      refine ⟨.inr rfl, bl false, rfl, ?_⟩
      exact Weak.e ⟨.k, trivial⟩
    ·rw [hb44]
     replace h := Sh.if_f h hb44
     refine AR.skip rfl <| AR.skip rfl <| AR.op rfl (aop_pick rfl rfl rfl) <| AR.keep [2, 6, 62] rfl <| AR.op rfl (aop_move (.inl rfl) rfl) <| AR.skip rfl <| AR.skip rfl <| AR.keep [2, 6, 63, 65] rfl ?_
     refine AR.skip rfl <| AR.op rfl (aop_pick rfl rfl rfl) <| AR.op rfl (aop_move (.inl rfl) rfl) <| AR.keep [2, 6, 68] rfl <| AR.skip rfl <| AR.skip rfl <| AR.skip rfl <| AR.keep [2, 68, 71] rfl ?_
     refine AR.skip rfl <| AR.op rfl (aop_pick rfl rfl rfl) <| AR.op rfl (aop_move (.inl rfl) rfl) <| AR.keep [2, 74] rfl <| AR.skip rfl <| AR.skip rfl <| AR.skip rfl <| AR.keep [2, 74, 77] rfl ?_
     refine AR.skip rfl <| AR.op rfl (aop_pick rfl rfl rfl) <| AR.op rfl (aop_move (.inl rfl) rfl) <| AR.keep [2, 80] rfl <| AR.skip rfl <| AR.skip rfl <| AR.skip rfl <| AR.keep [80, 83] rfl ?_
     refine AR.skip rfl <| AR.op rfl (aop_pick rfl rfl rfl) <| AR.op rfl (aop_move (.inr rfl) rfl) <| AR.nil <| hK18 _ (AWP.weak (Weak.e (fr' := [(0, bl false)]) (H' := .empty) ⟨.k, trivial⟩) ?_)
     refine awp_ret ?_
     obtain rfl := Option.some.inj h
     refine ⟨.inr rfl, bl false, rfl, ?_⟩
     exact Weak.e ⟨.k, trivial⟩
   ·rw [hb43]
    replace h := Sh.if_f h hb43
    refine AR.skip rfl <| AR.keep [2, 6, 9, 55, 56] rfl <| AR.skip rfl <| AR.op rfl (aop_pick rfl rfl rfl) <| AR.op rfl (aop_move (.inl rfl) rfl) <| AR.keep [2, 6, 9, 59] rfl <| AR.skip rfl <| AR.skip rfl ?_
    refine AR.op rfl (aop_pick rfl rfl rfl) <| AR.keep [2, 6, 62] rfl <| AR.op rfl (aop_move (.inl rfl) rfl) <| AR.skip rfl <| AR.skip rfl <| AR.keep [2, 6, 63, 65] rfl <| AR.skip rfl <| AR.op rfl (aop_pick rfl rfl rfl) ?_
    refine AR.op rfl (aop_move (.inl rfl) rfl) <| AR.keep [2, 6, 68] rfl <| AR.skip rfl <| AR.skip rfl <| AR.skip rfl <| AR.keep [2, 68, 71] rfl <| AR.skip rfl <| AR.op rfl (aop_pick rfl rfl rfl) ?_
    refine AR.op rfl (aop_move (.inl rfl) rfl) <| AR.keep [2, 74] rfl <| AR.skip rfl <| AR.skip rfl <| AR.skip rfl <| AR.keep [2, 74, 77] rfl <| AR.skip rfl <| AR.op rfl (aop_pick rfl rfl rfl) ?_
    refine AR.op rfl (aop_move (.inl rfl) rfl) <| AR.keep [2, 80] rfl <| AR.skip rfl <| AR.skip rfl <| AR.skip rfl <| AR.keep [80, 83] rfl <| AR.skip rfl <| AR.op rfl (aop_pick rfl rfl rfl) ?_
    refine AR.op rfl (aop_move (.inr rfl) rfl) <| AR.nil <| hK18 _ (AWP.weak (Weak.e (fr' := [(0, bl false)]) (H' := .empty) ⟨.k, trivial⟩) ?_)
    refine awp_ret ?_
    obtain rfl := Option.some.inj h
    refine ⟨.inr rfl, bl false, rfl, ?_⟩
    exact Weak.e ⟨.k, trivial⟩
  ·replace h := Sh.either_r h
   refine AR.op (r := .tuple [.ref 2 0 0, i64 0]) rfl (aop_call3E (ok := NoId) (ys := [.agg [.clip (List.map G.api_Txn.av ([(G.api_Txn.mk 0 [2] []), (G.api_Txn.mk 0 [2] [])] : List G.api_Txn))], i64 2]) (xs := [G.api_Hist.av (G.api_Hist.mk ([(G.api_Txn.mk 0 [2] []), (G.api_Txn.mk 0 [2] [])] : List G.api_Txn)), i64 2]) (r' := .tuple [.ref 2 0 0, i64 0]) (Hs := ⟨2, [], []⟩) (H' := ⟨4, [(0, (4, [.agg [nilS, .mref 1, .sl (List.map G.api_Txn.av r22), i64 0]])), (1, (0, [mpC G.api_Choice.ky []])), (2, (4, [.agg [nilS, .mref 3, .sl (List.map G.api_Txn.av r26), i64 2]])), (3, (0, [mpC G.api_Choice.ky []]))], []⟩) (g := []) (m := [(0, 2), (1, 3)]) (nw := []) (p := 0) (.func rfl rfl (store_New_ok1 hT hr26).call) (store_New_ok1 hT hr26) { next := rfl, part := trivial, inj := rfl, lt := rfl, nwf := rfl, gin := rfl, held := trivial, seen := ⟨⟨.agg [.clip (List.map G.api_Txn.av ([(G.api_Txn.mk 0 [2] []), (G.api_Txn.mk 0 [2] [])] : List G.api_Txn))], rfl, .ag ⟨.wide _ (by simp), trivial⟩⟩, ⟨_, rfl, .sm⟩, trivial⟩, inlps := rfl, ple := rfl, map := rfl, next' := rfl, back := .kept rfl rfl (.kept rfl rfl (.new 0 rfl rfl (.one ⟨.sm, .mref rfl, .sm, .sm, trivial⟩) (.new 1 rfl rfl (.same (by simp)) trivial))), lps := .inl ⟨rfl, rfl⟩, mode := .inr ⟨fun _ h => h, rfl⟩, ren := .tp ⟨.ref rfl, .sm, trivial⟩ } rfl) <| AR.op rfl (aop_move (.inl rfl) rfl) <| AR.keep [2, 3, 21] rfl <| AR.op (r := .ref 2 0 0) rfl (aop_extract rfl rfl rfl) <| AR.op (r := i64 0) rfl (aop_extract rfl rfl rfl) <| AR.op rfl (aop_move (.inr rfl) rfl) <| AR.keep [2, 3, 25, 4] rfl <| AR.op rfl (aop_move (.inr rfl) rfl) ?_
   refine AR.nil <| hK11 _ (AWP.weak (Weak.kt [2, 3, 4, 5] rfl) ?_)
   refine awp_seqK fun K19 hK19 => awp_seqK fun K20 hK20 => awp_reg rfl <| AR.op rfl (aop_move (.inl rfl) rfl) <| AR.op (r := bl false) rfl (aop_eq_ref rfl rfl rfl rfl pt29) <| AR.op rfl (aop_move (.inl rfl) rfl) <| AR.keep [2, 3, 4, 5, 28] rfl <| AR.op rfl (aop_move (.inl rfl) rfl) ?_
   refine AR.op (r := bl false) rfl ((aop_neq rfl rfl rfl).ff (by decide)) <| AR.op rfl (aop_pick rfl rfl rfl) <| AR.nil <| hK20 _ (AWP.weak (Weak.kt [2, 4, 5, 31] rfl) ?_)
   refine awp_cond_f rfl ?_
   refine awp_skip <| hK19 _ (AWP.weak (Weak.kt [2, 4, 5] rfl) ?_)
   refine awp_seqK fun K21 hK21 => awp_reg rfl <| AR.op (r := .agg [i64 2, i64 0, i64 1]) rfl (aop_build rfl bd35 rfl rfl rfl) <| AR.op (r := .ref 4 0 0) rfl (aop_alloc 3 [.agg [i64 0, i64 0, i64 0]] rfl zr35 (by kernel_rfl) (.inl ⟨rfl, rfl⟩)) <| AR.op rfl (aop_store (e' := .agg [i64 2, i64 0, i64 1]) rfl rfl rfl rfl rfl rfl sz35 rfl dt rfl) <| AR.nil <| hK21 _ (AWP.weak (Weak.re (fr' := [(2, .ref 0 0 0), (4, .ref 2 0 0), (5, i64 0), (6, .pp [i64 2, i64 0, i64 1] 0)]) (H' := ⟨4, [(0, (4, [.agg [nilS, .mref 1, .sl (List.map G.api_Txn.av r22), i64 0]])), (1, (0, [mpC G.api_Choice.ky []])), (2, (4, [.agg [nilS, .mref 3, .sl (List.map G.api_Txn.av r26), i64 2]])), (3, (0, [mpC G.api_Choice.ky []]))], []⟩) [(0, 0), (1, 1), (2, 2), (3, 3)] [] rfl rfl rfl (.cons rfl rfl (.one (.ag ⟨.sm, .mref rfl, .sm, .sm, trivial⟩) rfl) dt (.cons rfl rfl (.same (by simp)) dt (.cons rfl rfl (.one (.ag ⟨.sm, .mref rfl, .sm, .sm, trivial⟩) rfl) dt (.cons rfl rfl (.same (by simp)) dt trivial)))) ⟨⟨_, rfl, .ref rfl⟩, ⟨_, rfl, .ref rfl⟩, .k, ⟨_, rfl, .frzA rfl rfl rfl rfl (by simp)⟩, trivial⟩) ?_)
   refine awp_seqK fun K22 hK22 => awp_reg rfl <| AR.op rfl (aop_move (.inl rfl) rfl) <| AR.op (r := .agg [i64 2, i64 0, i64 1]) rfl (aop_load_pp rfl rfl sz35 rfl) <| AR.op (r := .agg [i64 2, i64 0, i64 1, i64 1, i64 0, i64 0, nilS]) rfl (aop_build rfl bd38 rfl rfl rfl) <| AR.keep [2, 4, 5, 6, 33, 35] rfl ?_
   obtain ⟨r54, hr54, h⟩ := Sh.bind_some' h
   refine AR.op (r := i64 r54.2.2) rfl (aop_call3E (ok := NoId) (ys := [.ref 0 0 0, .agg [i64 2, i64 0, i64 1, i64 1, i64 0, i64 0, nilS]]) (xs := [.ref 0 0 0, G.fact_Fact.av (G.fact_Fact.mk (G.api_Choice.mk 2 0 1) 1 0 0 [])]) (r' := i64 r54.2.2) (Hs := ⟨4, [(0, (4, [.agg [nilS, .mref 1, .sl (List.map G.api_Txn.av r22), i64 0]])), (1, (0, [mpC G.api_Choice.ky []]))], []⟩) (H' := ⟨7, [(0, (4, [.agg [.view 5 0 (List.map G.fact_Fact.av r54.1).length, .mref 6, .sl (List.map G.api_Txn.av r22), i64 0]])), (2, (4, [.agg [nilS, .mref 3, .sl (List.map G.api_Txn.av r26), i64 2]])), (3, (0, [mpC G.api_Choice.ky []])), (5, (7, List.map G.fact_Fact.av r54.1)), (6, (0, [mpC G.api_Choice.ky r54.2.1]))], []⟩) (g := [(0, 0), (2, 1)]) (m := [(0, 0), (1, 5), (2, 6)]) (nw := [1]) (p := 1) (.func rfl rfl (store_Store_Learn__1_ok hT hr54).call) (store_Store_Learn__1_ok hT hr54) { next := rfl, part := ⟨rfl, rfl, trivial⟩, inj := rfl, lt := rfl, nwf := rfl, gin := rfl, held := .cons rfl rfl (.one (.ag ⟨.nil (by simp), .mref rfl, .sm, .sm, trivial⟩) rfl) dt (.fresh (by simp) dt (.cons rfl rfl (.same (by simp)) dt trivial)), seen := ⟨⟨_, rfl, .ref rfl⟩, ⟨.agg [i64 2, i64 0, i64 1, i64 1, i64 0, i64 0, nilS], rfl, .ag ⟨.sm, .sm, .sm, .sm, .sm, .sm, .nilsl, trivial⟩⟩, trivial⟩, inlps := rfl, ple := rfl, map := rfl, next' := rfl, back := .new 0 rfl rfl (.one ⟨.view rfl, .mref rfl, .sm, .sm, trivial⟩) (.kept rfl rfl (.kept rfl rfl (.new 1 rfl rfl (.same (by simp [AV.flat, G.fact_Fact.av])) (.new 2 rfl rfl (.same (by simp)) trivial)))), lps := .inl ⟨rfl, rfl⟩, mode := .inr ⟨fun _ h => h, rfl⟩, ren := .sm } rfl) <| AR.op rfl (aop_move (.inr rfl) rfl) <| AR.nil <| hK22 _ (AWP.weak (Weak.re (fr' := [(2, .ref 0 0 0), (4, .ref 3 0 0), (5, i64 0), (6, .pp [i64 2, i64 0, i64 1] 0), (7, i64 r54.2.2)]) (H' := ⟨5, [(0, (4, [.agg [.view 1 0 (List.map G.fact_Fact.av r54.1).length, .mref 2, .sl (List.map G.api_Txn.av r22), i64 0]])), (1, (7, List.map G.fact_Fact.av r54.1)), (2, (0, [mpC G.api_Choice.ky r54.2.1])), (3, (4, [.agg [nilS, .mref 4, .sl (List.map G.api_Txn.av r26), i64 2]])), (4, (0, [mpC G.api_Choice.ky []]))], []⟩) [(0, 0), (1, 5), (2, 6), (3, 2), (4, 3)] [] rfl rfl rfl (.cons rfl rfl (.one (.ag ⟨.view rfl, .mref rfl, .sm, .sm, trivial⟩) rfl) dt (.cons rfl rfl (.same (by simp)) dt (.cons rfl rfl (.same (by simp)) dt (.cons rfl rfl (.one (.ag ⟨.sm, .mref rfl, .sm, .sm, trivial⟩) rfl) dt (.cons rfl rfl (.same (by simp)) dt trivial))))) ⟨⟨_, rfl, .ref rfl⟩, ⟨_, rfl, .ref rfl⟩, .k, .k, .k, trivial⟩) ?_)
   refine awp_seqK fun K23 hK23 => awp_reg rfl <| AR.op rfl (aop_move (.inl rfl) rfl) <| AR.op (r := .agg [i64 2, i64 0, i64 1]) rfl (aop_load_pp rfl rfl sz35 rfl) <| AR.op (r := .agg [i64 2, i64 0, i64 1, i64 1, i64 0, i64 0, nilS]) rfl (aop_build rfl bd38 rfl rfl rfl) <| AR.keep [2, 4, 5, 6, 7, 37, 39] rfl ?_
   obtain ⟨r56, hr56, h⟩ := Sh.bind_some' h
   refine AR.op (r := i64 r56.2.2) rfl (aop_call3E (ok := NoId) (ys := [.ref 0 0 0, .agg [i64 2, i64 0, i64 1, i64 1, i64 0, i64 0, nilS]]) (xs := [.ref 0 0 0, G.fact_Fact.av (G.fact_Fact.mk (G.api_Choice.mk 2 0 1) 1 0 0 [])]) (r' := i64 r56.2.2) (Hs := ⟨5, [(0, (4, [.agg [.view 1 0 (List.map G.fact_Fact.av r54.1).length, .mref 2, .sl (List.map G.api_Txn.av r22), i64 0]])), (1, (7, List.map G.fact_Fact.av r54.1)), (2, (0, [mpC G.api_Choice.ky r54.2.1]))], []⟩) (H' := ⟨8, [(0, (4, [.agg [.view 6 0 (List.map G.fact_Fact.av r56.1).length, .mref 7, .sl (List.map G.api_Txn.av r22), i64 0]])), (3, (4, [.agg [nilS, .mref 4, .sl (List.map G.api_Txn.av r26), i64 2]])), (4, (0, [mpC G.api_Choice.ky []])), (6, (7, List.map G.fact_Fact.av r56.1)), (7, (0, [mpC G.api_Choice.ky r56.2.1]))], []⟩) (g := [(0, 0), (1, 1), (2, 2)]) (m := [(0, 0), (1, 6), (2, 7)]) (nw := []) (p := 1) (.func rfl rfl (store_Store_Learn__1_ok hT hr56).call) (store_Store_Learn__1_ok hT hr56) { next := rfl, part := ⟨rfl, rfl, rfl, trivial⟩, inj := rfl, lt := rfl, nwf := rfl, gin := rfl, held := .cons rfl rfl (.one (.ag ⟨.view rfl, .mref rfl, .sm, .sm, trivial⟩) rfl) dt (.cons rfl rfl (.same (by simp)) dt (.cons rfl rfl (.same (by simp)) dt trivial)), seen := ⟨⟨_, rfl, .ref rfl⟩, ⟨.agg [i64 2, i64 0, i64 1, i64 1, i64 0, i64 0, nilS], rfl, .ag ⟨.sm, .sm, .sm, .sm, .sm, .sm, .nilsl, trivial⟩⟩, trivial⟩, inlps := rfl, ple := rfl, map := rfl, next' := rfl, back := .new 0 rfl rfl (.one ⟨.view rfl, .mref rfl, .sm, .sm, trivial⟩) (.kept rfl rfl (.kept rfl rfl (.new 1 rfl rfl (.same (by simp [AV.flat, G.fact_Fact.av])) (.new 2 rfl rfl (.same (by simp)) trivial)))), lps := .inl ⟨rfl, rfl⟩, mode := .inr ⟨fun _ h => h, rfl⟩, ren := .sm } rfl) <| AR.op rfl (aop_move (.inr rfl) rfl) <| AR.nil <| hK23 _ (AWP.weak (Weak.re (fr' := [(2, .ref 0 0 0), (4, .ref 3 0 0), (5, i64 0), (6, .pp [i64 2, i64 0, i64 1] 0), (7, i64 r54.2.2), (8, i64 r56.2.2)]) (H' := ⟨5, [(0, (4, [.agg [.view 1 0 (List.map G.fact_Fact.av r56.1).length, .mref 2, .sl (List.map G.api_Txn.av r22), i64 0]])), (1, (7, List.map G.fact_Fact.av r56.1)), (2, (0, [mpC G.api_Choice.ky r56.2.1])), (3, (4, [.agg [nilS, .mref 4, .sl (List.map G.api_Txn.av r26), i64 2]])), (4, (0, [mpC G.api_Choice.ky []]))], []⟩) [(0, 0), (1, 6), (2, 7), (3, 3), (4, 4)] [] rfl rfl rfl (.cons rfl rfl (.one (.ag ⟨.view rfl, .mref rfl, .sm, .sm, trivial⟩) rfl) dt (.cons rfl rfl (.same (by simp)) dt (.cons rfl rfl (.same (by simp)) dt (.cons rfl rfl (.one (.ag ⟨.sm, .mref rfl, .sm, .sm, trivial⟩) rfl) dt (.cons rfl rfl (.same (by simp)) dt trivial))))) ⟨⟨_, rfl, .ref rfl⟩, ⟨_, rfl, .ref rfl⟩, .k, .k, .k, .k, trivial⟩) ?_)
   refine awp_seqK fun K24 hK24 => awp_reg rfl <| AR.op rfl (aop_move (.inl rfl) rfl) <| AR.op (r := .agg [i64 2, i64 1, i64 0]) rfl (aop_build rfl bd35 rfl rfl rfl) <| AR.op (r := .agg [i64 2, i64 1, i64 0, i64 1, i64 0, i64 0, nilS]) rfl (aop_build rfl bd38 rfl rfl rfl) <| AR.keep [2, 4, 5, 6, 7, 8, 41, 43] rfl ?_
   obtain ⟨r58, hr58, h⟩ := Sh.bind_some' h
   refine AR.op (r := i64 r58.2.2) rfl (aop_call3E (ok := NoId) (ys := [.ref 0 0 0, .agg [i64 2, i64 1, i64 0, i64 1, i64 0, i64 0, nilS]]) (xs := [.ref 0 0 0, G.fact_Fact.av (G.fact_Fact.mk (G.api_Choice.mk 2 1 0) 1 0 0 [])]) (r' := i64 r58.2.2) (Hs := ⟨5, [(0, (4, [.agg [.view 1 0 (List.map G.fact_Fact.av r56.1).length, .mref 2, .sl (List.map G.api_Txn.av r22), i64 0]])), (1, (7, List.map G.fact_Fact.av r56.1)), (2, (0, [mpC G.api_Choice.ky r56.2.1]))], []⟩) (H' := ⟨8, [(0, (4, [.agg [.view 6 0 (List.map G.fact_Fact.av r58.1).length, .mref 7, .sl (List.map G.api_Txn.av r22), i64 0]])), (3, (4, [.agg [nilS, .mref 4, .sl (List.map G.api_Txn.av r26), i64 2]])), (4, (0, [mpC G.api_Choice.ky []])), (6, (7, List.map G.fact_Fact.av r58.1)), (7, (0, [mpC G.api_Choice.ky r58.2.1]))], []⟩) (g := [(0, 0), (1, 1), (2, 2)]) (m := [(0, 0), (1, 6), (2, 7)]) (nw := []) (p := 1) (.func rfl rfl (store_Store_Learn__1_ok hT hr58).call) (store_Store_Learn__1_ok hT hr58) { next := rfl, part := ⟨rfl, rfl, rfl, trivial⟩, inj := rfl, lt := rfl, nwf := rfl, gin := rfl, held := .cons rfl rfl (.one (.ag ⟨.view rfl, .mref rfl, .sm, .sm, trivial⟩) rfl) dt (.cons rfl rfl (.same (by simp)) dt (.cons rfl rfl (.same (by simp)) dt trivial)), seen := ⟨⟨_, rfl, .ref rfl⟩, ⟨.agg [i64 2, i64 1, i64 0, i64 1, i64 0, i64 0, nilS], rfl, .ag ⟨.sm, .sm, .sm, .sm, .sm, .sm, .nilsl, trivial⟩⟩, trivial⟩, inlps := rfl, ple := rfl, map := rfl, next' := rfl, back := .new 0 rfl rfl (.one ⟨.view rfl, .mref rfl, .sm, .sm, trivial⟩) (.kept rfl rfl (.kept rfl rfl (.new 1 rfl rfl (.same (by simp [AV.flat, G.fact_Fact.av])) (.new 2 rfl rfl (.same (by simp)) trivial)))), lps := .inl ⟨rfl, rfl⟩, mode := .inr ⟨fun _ h => h, rfl⟩, ren := .sm } rfl) <| AR.op rfl (aop_move (.inr rfl) rfl) <| AR.nil <| hK24 _ (AWP.weak (Weak.re (fr' := [(2, .ref 0 0 0), (4, .ref 3 0 0), (5, i64 0), (6, .pp [i64 2, i64 0, i64 1] 0), (7, i64 r54.2.2), (8, i64 r56.2.2), (9, i64 r58.2.2)]) (H' := ⟨5, [(0, (4, [.agg [.view 1 0 (List.map G.fact_Fact.av r58.1).length, .mref 2, .sl (List.map G.api_Txn.av r22), i64 0]])), (1, (7, List.map G.fact_Fact.av r58.1)), (2, (0, [mpC G.api_Choice.ky r58.2.1])), (3, (4, [.agg [nilS, .mref 4, .sl (List.map G.api_Txn.av r26), i64 2]])), (4, (0, [mpC G.api_Choice.ky []]))], []⟩) [(0, 0), (1, 6), (2, 7), (3, 3), (4, 4)] [] rfl rfl rfl (.cons rfl rfl (.one (.ag ⟨.view rfl, .mref rfl, .sm, .sm, trivial⟩) rfl) dt (.cons rfl rfl (.same (by simp)) dt (.cons rfl rfl (.same (by simp)) dt (.cons rfl rfl (.one (.ag ⟨.sm, .mref rfl, .sm, .sm, trivial⟩) rfl) dt (.cons rfl rfl (.same (by simp)) dt trivial))))) ⟨⟨_, rfl, .ref rfl⟩, ⟨_, rfl, .ref rfl⟩, .k, .k, .k, .k, .k, trivial⟩) ?_)
   refine awp_seqK fun K25 hK25 => awp_reg rfl <| AR.op rfl (aop_move (.inl rfl) rfl) <| AR.op (r := bl false) rfl (aop_eq_ref rfl rfl rfl rfl pt29) <| AR.op rfl (aop_move (.inl rfl) rfl) <| AR.keep [2, 5, 6, 7, 8, 9, 47] rfl <| AR.skip rfl <| AR.skip rfl ?_
   refine AR.op rfl (aop_pick rfl rfl rfl) <| AR.keep [2, 6, 7, 8, 9, 50] rfl <| AR.op rfl (aop_move (.inl rfl) rfl) <| AR.skip rfl <| AR.skip rfl <| AR.keep [2, 6, 8, 9, 51, 53] rfl <| AR.op rfl (aop_pick rfl rfl rfl) <| AR.op rfl (aop_move (.inl rfl) rfl) ?_
   refine AR.skip rfl <| AR.keep [2, 6, 9, 55, 56] rfl <| AR.skip rfl <| AR.op rfl (aop_pick rfl rfl rfl) <| AR.op rfl (aop_move (.inl rfl) rfl) <| AR.keep [2, 6, 9, 59] rfl <| AR.skip rfl <| AR.skip rfl ?_
   refine AR.op rfl (aop_pick rfl rfl rfl) <| AR.keep [2, 6, 62] rfl <| AR.op rfl (aop_move (.inl rfl) rfl) <| AR.skip rfl <| AR.skip rfl <| AR.keep [2, 6, 63, 65] rfl <| AR.skip rfl <| AR.op rfl (aop_pick rfl rfl rfl) ?_
   refine AR.op rfl (aop_move (.inl rfl) rfl) <| AR.keep [2, 6, 68] rfl <| AR.skip rfl <| AR.skip rfl <| AR.skip rfl <| AR.keep [2, 68, 71] rfl <| AR.skip rfl <| AR.op rfl (aop_pick rfl rfl rfl) ?_
   refine AR.op rfl (aop_move (.inl rfl) rfl) <| AR.keep [2, 74] rfl <| AR.skip rfl <| AR.skip rfl <| AR.skip rfl <| AR.keep [2, 74, 77] rfl <| AR.skip rfl <| AR.op rfl (aop_pick rfl rfl rfl) ?_
   refine AR.op rfl (aop_move (.inl rfl) rfl) <| AR.keep [2, 80] rfl <| AR.skip rfl <| AR.skip rfl <| AR.skip rfl <| AR.keep [80, 83] rfl <| AR.skip rfl <| AR.op rfl (aop_pick rfl rfl rfl) ?_
   refine AR.op rfl (aop_move (.inr rfl) rfl) <| AR.nil <| hK25 _ (AWP.weak (Weak.e (fr' := [(0, bl false)]) (H' := .empty) ⟨.k, trivial⟩) ?_)
   refine awp_ret ?_
   obtain rfl := Option.some.inj h
   refine ⟨.inr rfl, bl false, rfl, ?_⟩
   exact Weak.e ⟨.k, trivial⟩
theorem inquestlaw23_awake_ok {W0 : World} (hT : Tab W0) {r : Bool} (h : G.inquestlaw23_awake = some r) : Fun1 Try.prog W0 7 [] (bl r) := Fun1.two (inquestlaw23_awake_ok0 hT h) (by simp)


theorem inquestlaw23_few_ok0 {W0 : World} (hT : Tab W0) {l_0 : List G.fact_Fact} {r : Bool} (h : G.inquestlaw23_few l_0 = some r) : Fun2 Try.prog W0 9 [.sl (List.map G.fact_Fact.av l_0)] (bl r) .empty := by
 refine fun2_of_awp Try.func9 rfl (by kernel_rfl) Try.ntmps9 (by simp) ?_
 unfold G.inquestlaw23_few at h
 show AWP _ _ _ _ ⟨[(0, .sl (List.map G.fact_Fact.av l_0))], .empty⟩ _
 refine awp_seqK fun K1 hK1 => awp_reg rfl <| AR.op rfl (aop_move (.inr rfl) rfl) <| AR.nil <| hK1 _ (AWP.weak (Weak.kt [0] rfl) ?_)
 refine awp_seqK fun K2 hK2 => awp_seqK fun K3 hK3 => awp_reg rfl <| AR.op rfl (aop_move (.inl rfl) rfl) <| AR.op rfl (t_len_sl G.fact_Fact.av l_0 rfl rfl el25) <| AR.op rfl (aop_gtr rfl rfl rfl) <| AR.nil <| hK3 _ (AWP.weak (Weak.kt [0, 6] rfl) ?_)
 refine awp_cond rfl (fun hb9 => ?_) (fun hb9 => ?_)
 ·replace h := Sh.if_t h hb9
  refine awp_seqK fun K4 hK4 => awp_reg rfl <| AR.op rfl (aop_move (.inr rfl) rfl) <| AR.nil <| hK4 _ (AWP.weak (Weak.kt [2] rfl) ?_)
  refine awp_ret ?_
  obtain rfl := Option.some.inj h
  refine ⟨.inr rfl, bl false, rfl, ?_⟩
  exact Weak.e ⟨.k, trivial⟩
 ·replace h := Sh.if_f h hb9
  refine awp_skip <| hK2 _ (AWP.weak (Weak.kt [0] rfl) ?_)
  refine awp_seqJ (fun (p : Unit) => (⟨[], .empty⟩ : St)) (fun (p : Unit) => G.inquestlaw23_few_j1 = some r) ?_ ?_
  ·rintro ⟨⟩ h
   replace h : G.inquestlaw23_few_j1 = some r := h
   unfold G.inquestlaw23_few_j1 at h
   refine awp_seqK fun K5 hK5 => awp_reg rfl <| AR.op rfl (aop_move (.inr rfl) rfl) <| AR.nil <| hK5 _ ?_
   refine awp_ret ?_
   obtain rfl := Option.some.inj h
   refine ⟨.inr rfl, bl true, rfl, ?_⟩
   exact Weak.e ⟨.k, trivial⟩
  ·intro K6 hK6
   refine awp_seqK fun K7 hK7 => awp_reg rfl <| AR.op rfl (aop_move (.inr rfl) rfl) <| AR.nil <| hK7 _ ?_
   refine awp_block <| awp_iter (fun (p : Int) => G.inquestlaw23_few_b1 l_0 p) (fun (p : Int) => (⟨[(0, .sl (List.map G.fact_Fact.av l_0)), (3, i64 p)], .empty⟩ : St)) h (Weak.kt [0, 3] rfl) ?_
   ·skip
    rintro i23 o1 h hx1
    replace h : G.inquestlaw23_few_b1 l_0 i23 = some o1 := h
    unfold G.inquestlaw23_few_b1 at h
    refine awp_seqK fun K8 hK8 => awp_seqK fun K9 hK9 => awp_reg rfl <| AR.op rfl (aop_move (.inl rfl) rfl) <| AR.op rfl (aop_move (.inl rfl) rfl) <| AR.op rfl (t_len_sl G.fact_Fact.av l_0 rfl rfl el25) <| AR.keep [0, 3, 7, 9] rfl <| AR.op rfl (aop_lss rfl rfl rfl) ?_
    refine AR.nil <| hK9 _ (AWP.weak (Weak.kt [0, 3, 10] rfl) ?_)
    refine awp_cond rfl (fun hb24 => ?_) (fun hb24 => ?_)
    ·replace h := Sh.if_t h hb24
     refine awp_skip <| hK8 _ (AWP.weak (Weak.kt [0, 3] rfl) ?_)
     refine awp_seqK fun K10 hK10 => awp_block <| awp_seqK fun K11 hK11 => awp_reg rfl <| AR.op rfl (aop_move (.inl rfl) rfl) <| AR.op rfl (aop_move (.inl rfl) rfl) ?_
     obtain ⟨x29, hx29, h⟩ := Sh.bind_some' h
     obtain ⟨k30, hi30, hl30⟩ := Sh.idx_some hx29
     refine AR.op rfl (t_index_sl G.fact_Fact.av l_0 hi30 hl30 rfl rfl rfl el25 rfl) <| AR.keep [0, 3, 15] rfl <| AR.op rfl (aop_field_pp rfl rfl fd38_4 (by decide)) <| AR.op (r := .sl (List.map i64 x29.Cycle)) rfl (aop_load_pp rfl rfl sz36 rfl) <| AR.op rfl (t_len_sl i64 x29.Cycle rfl rfl el36) <| AR.keep [0, 3, 18] rfl <| AR.op rfl (aop_gtr rfl rfl rfl) <| AR.nil ?_
     refine hK11 _ (AWP.weak (Weak.kt [0, 3, 19] rfl) ?_)
     refine awp_cond rfl (fun hb31 => ?_) (fun hb31 => ?_)
     ·replace h := Sh.if_t h hb31
      refine awp_seqK fun K12 hK12 => awp_reg rfl <| AR.op rfl (aop_move (.inr rfl) rfl) <| AR.nil <| hK12 _ (AWP.weak (Weak.kt [2] rfl) ?_)
      refine awp_ret ?_
      replace h := Sh.exit_eq h hx1
      obtain rfl := Option.some.inj h
      refine ⟨.inr rfl, bl false, rfl, ?_⟩
      exact Weak.e ⟨.k, trivial⟩
     ·replace h := Sh.if_f h hb31
      refine awp_skip <| hK10 _ (AWP.weak (Weak.kt [0, 3] rfl) ?_)
      refine awp_reg rfl <| AR.op rfl (aop_move (.inl rfl) rfl) <| AR.op rfl (aop_add rfl rfl rfl rfl) <| AR.op rfl (aop_move (.inr rfl) rfl) <| AR.nil ?_
      replace h := Sh.next_eq h
      exact ⟨_, h, Weak.kt [0, 3] rfl⟩
    ·replace h := Sh.if_f h hb24
     refine awp_exit ?_
     replace h := Sh.exit_eq h hx1
     exact hK6 () _ h (Weak.kt [] rfl)
theorem inquestlaw23_few_ok {W0 : World} (hT : Tab W0) {l_0 : List G.fact_Fact} {r : Bool} (h : G.inquestlaw23_few l_0 = some r) : Fun1 Try.prog W0 9 [.sl (List.map G.fact_Fact.av l_0)] (bl r) := Fun1.two (inquestlaw23_few_ok0 hT h) (by simp)


theorem inquestlaw23_one_ok0 {W0 : World} (hT : Tab W0) {f_0 : G.fact_Fact} {r : G.inquestref22_F} (h : G.inquestlaw23_one f_0 = some r) : Fun2 Try.prog W0 18 [G.fact_Fact.av f_0] (G.inquestref22_F.av r) .empty := by
 refine fun2_of_awp Try.func18 rfl (by kernel_rfl) Try.ntmps18 (by simp) ?_
 unfold G.inquestlaw23_one at h
 show AWP _ _ _ _ ⟨[(0, G.fact_Fact.av f_0)], .empty⟩ _
 refine awp_seqK fun K1 hK1 => awp_reg rfl <| AR.op (r := .ref 0 0 0) rfl (aop_box 7 [G.fact_Fact.av f_0] rfl rfl rfl (.inl ⟨rfl, rfl⟩)) <| AR.op (r := .ref 1 0 0) rfl (aop_alloc 7 [.agg [i64 0, i64 0, i64 0, i64 0, i64 0, i64 0, nilS]] rfl zr48 (by kernel_rfl) (.inl ⟨rfl, rfl⟩)) <| AR.nil <| hK1 _ (AWP.weak (Weak.re (fr' := [(1, .pp [i64 f_0.C.Key, i64 f_0.C.A, i64 f_0.C.B, i64 f_0.Kind, i64 f_0.I, i64 f_0.J, .sl (List.map i64 f_0.Cycle)] 0), (2, .ref 0 0 0)]) (H' := ⟨1, [(0, (7, [.agg [i64 0, i64 0, i64 0, i64 0, i64 0, i64 0, nilS]]))], []⟩) [(0, 1)] [] rfl rfl rfl (.cons rfl rfl (.one (.sm) rfl) dt trivial) ⟨⟨_, rfl, .frzA rfl rfl rfl rfl (by simp)⟩, ⟨_, rfl, .ref rfl⟩, trivial⟩) ?_)
 refine awp_seqK fun K2 hK2 => awp_reg rfl <| AR.op rfl (aop_field_pp rfl rfl fd38_0 (by decide)) <| AR.op (r := G.api_Choice.av f_0.C) rfl (aop_load_pp rfl rfl sz35 rfl) <| AR.op rfl (aop_field_pp rfl rfl fd38_1 (by decide)) <| AR.keep [1, 2, 4, 5] rfl <| AR.op (r := i64 f_0.Kind) rfl (aop_load_pp rfl rfl sz3 rfl) <| AR.op rfl (aop_field_pp rfl rfl fd38_2 (by decide)) ?_
 refine AR.op (r := i64 f_0.I) rfl (aop_load_pp rfl rfl sz3 rfl) <| AR.keep [1, 2, 4, 6, 8] rfl <| AR.op rfl (aop_field_pp rfl rfl fd38_3 (by decide)) <| AR.op (r := i64 f_0.J) rfl (aop_load_pp rfl rfl sz3 rfl) <| AR.op rfl (aop_field_pp rfl rfl fd38_4 (by decide)) <| AR.keep [2, 4, 6, 8, 10, 11] rfl <| AR.op (r := .sl (List.map i64 f_0.Cycle)) rfl (aop_load_pp rfl rfl sz36 rfl) <| AR.op (r := .agg [i64 f_0.C.Key, i64 f_0.C.A, i64 f_0.C.B, i64 f_0.Kind, i64 f_0.I, i64 f_0.J, .sl (List.map i64 f_0.Cycle)]) rfl (aop_build rfl bd48 rfl rfl rfl) ?_
 refine AR.op rfl (aop_store (e' := .agg [i64 f_0.C.Key, i64 f_0.C.A, i64 f_0.C.B, i64 f_0.Kind, i64 f_0.I, i64 f_0.J, .sl (List.map i64 f_0.Cycle)]) rfl rfl rfl rfl rfl rfl sz48 rfl dt rfl) <| AR.nil <| hK2 _ (AWP.weak (Weak.kt [2] rfl) ?_)
 refine awp_ret ?_
 obtain rfl := Option.some.inj h
 refine ⟨.inr rfl, .agg [i64 f_0.C.Key, i64 f_0.C.A, i64 f_0.C.B, i64 f_0.Kind, i64 f_0.I, i64 f_0.J, .sl (List.map i64 f_0.Cycle)], rfl, ?_⟩
 exact Weak.e ⟨⟨.agg [i64 f_0.C.Key, i64 f_0.C.A, i64 f_0.C.B, i64 f_0.Kind, i64 f_0.I, i64 f_0.J, .sl (List.map i64 f_0.Cycle)], rfl, .sm⟩, trivial⟩
theorem inquestlaw23_one_ok {W0 : World} (hT : Tab W0) {f_0 : G.fact_Fact} {r : G.inquestref22_F} (h : G.inquestlaw23_one f_0 = some r) : Fun1 Try.prog W0 18 [G.fact_Fact.av f_0] (G.inquestref22_F.av r) := Fun1.two (inquestlaw23_one_ok0 hT h) (by simp)


theorem inquestlaw23_Plain_own {W0 : World} (hT : Tab W0) {l_0 : List G.fact_Fact} {r : (List G.inquestref22_F)} (h : G.inquestlaw23_Plain l_0 = some r) : Fun2 Try.prog W0 13 [.sl (List.map G.fact_Fact.av l_0)] (.view 0 0 (List.map G.inquestref22_F.av r).length) ⟨1, [(0, (7, List.map G.inquestref22_F.av r))], []⟩ := by
 refine fun2_of_awp Try.func13 rfl (by kernel_rfl) Try.ntmps13 (by simp) ?_
 unfold G.inquestlaw23_Plain at h
 show AWP _ _ _ _ ⟨[(0, .sl (List.map G.fact_Fact.av l_0))], .empty⟩ _
 refine awp_seqK fun K1 hK1 => awp_reg rfl <| AR.op rfl (aop_move (.inr rfl) rfl) <| AR.nil <| hK1 _ (AWP.weak (Weak.kt [0] rfl) ?_)
 refine awp_seqK fun K2 hK2 => awp_reg rfl <| AR.op rfl (aop_move (.inr rfl) rfl) <| AR.nil <| hK2 _ ?_
 refine awp_seqJ (fun (p : (List G.inquestref22_F)) => (⟨[(3, .view 0 0 (List.map G.inquestref22_F.av p).length)], ⟨1, [(0, (7, List.map G.inquestref22_F.av p))], []⟩⟩ : St)) (fun (p : (List G.inquestref22_F)) => G.inquestlaw23_Plain_j1 p = some r) ?_ ?_
 ·rintro out33 h
  replace h : G.inquestlaw23_Plain_j1 out33 = some r := h
  unfold G.inquestlaw23_Plain_j1 at h
  refine awp_seqK fun K3 hK3 => awp_reg rfl <| AR.op rfl (aop_move (.inl rfl) rfl) <| AR.op rfl (aop_move (.inr rfl) rfl) <| AR.nil <| hK3 _ (AWP.weak (Weak.kt [2] rfl) ?_)
  refine awp_ret ?_
  obtain rfl := Option.some.inj h
  refine ⟨.inr rfl, .view 0 0 (List.map G.inquestref22_F.av out33).length, rfl, ?_⟩
  exact Weak.re [(0, 0)] [] rfl rfl rfl (.cons rfl rfl (.same (by simp)) dt trivial) ⟨⟨_, rfl, .view rfl⟩, trivial⟩
 ·intro K4 hK4
  refine awp_seqK fun K5 hK5 => awp_reg rfl <| AR.op rfl (aop_move (.inr rfl) rfl) <| AR.nil <| hK5 _ ?_
  refine awp_block <| awp_iter (fun (p : (List G.inquestref22_F) × Int) => G.inquestlaw23_Plain_b1 l_0 p.1 p.2) (fun (p : (List G.inquestref22_F) × Int) => (⟨[(0, .sl (List.map G.fact_Fact.av l_0)), (3, .view 0 0 (List.map G.inquestref22_F.av p.1).length), (4, i64 p.2)], ⟨1, [(0, (7, List.map G.inquestref22_F.av p.1))], []⟩⟩ : St)) h (Weak.re [] [0] rfl rfl rfl (.fresh (by simp) dt trivial) ⟨⟨.sl (List.map G.fact_Fact.av l_0), rfl, .sm⟩, ⟨_, rfl, .nil (by simp)⟩, .k, trivial⟩) ?_
  ·skip
   rintro ⟨out44, i45⟩ o1 h hx1
   replace h : G.inquestlaw23_Plain_b1 l_0 out44 i45 = some o1 := h
   unfold G.inquestlaw23_Plain_b1 at h
   refine awp_seqK fun K6 hK6 => awp_seqK fun K7 hK7 => awp_reg rfl <| AR.op rfl (aop_move (.inl rfl) rfl) <| AR.op rfl (aop_move (.inl rfl) rfl) <| AR.op rfl (t_len_sl G.fact_Fact.av l_0 rfl rfl el25) <| AR.keep [0, 3, 4, 5, 7] rfl <| AR.op rfl (aop_lss rfl rfl rfl) ?_
   refine AR.nil <| hK7 _ (AWP.weak (Weak.kt [0, 3, 4, 8] rfl) ?_)
   refine awp_cond rfl (fun hb46 => ?_) (fun hb46 => ?_)
   ·replace h := Sh.if_t h hb46
    refine awp_skip <| hK6 _ (AWP.weak (Weak.kt [0, 3, 4] rfl) ?_)
    refine awp_seqK fun K8 hK8 => awp_block <| awp_reg rfl <| AR.op rfl (aop_move (.inl rfl) rfl) <| AR.op rfl (aop_move (.inl rfl) rfl) <| AR.op rfl (aop_move (.inl rfl) rfl) <| AR.keep [0, 4, 11, 12, 13] rfl ?_
    obtain ⟨x51, hx51, h⟩ := Sh.bind_some' h
    obtain ⟨k52, hi52, hl52⟩ := Sh.idx_some hx51
    refine AR.op rfl (t_index_sl G.fact_Fact.av l_0 hi52 hl52 rfl rfl rfl el25 rfl) <| AR.op (r := G.fact_Fact.av x51) rfl (aop_load_pp rfl rfl sz38 rfl) ?_
    obtain ⟨r53, hr53, h⟩ := Sh.bind_some' h
    refine AR.op (r := G.inquestref22_F.av r53) rfl (aop_call1 rfl rfl (by simp) (inquestlaw23_one_ok hT hr53)) <| AR.keep [0, 4, 11, 16] rfl <| AR.op (r := .clip (List.map G.inquestref22_F.av ([r53] : List G.inquestref22_F))) rfl (aop_buildSlice rfl (xo := [.tmp 16]) rfl rfl rfl (by simp) (by simp) el40 ze40 (by decide)) ?_
    obtain ⟨out54, hout54, h⟩ := Sh.bind_some' h
    refine AR.op (r := .view 1 0 (List.map G.inquestref22_F.av out54).length) rfl (t_app_view G.inquestref22_F.av out44 ([r53] : List G.inquestref22_F) out54 hout54 rfl et40 (fun _ => rfl) rfl rfl rfl rfl rfl rfl rfl) <| AR.op rfl (aop_move (.inr rfl) rfl) <| AR.nil <| hK8 _ (AWP.weak (Weak.re (fr' := [(0, .sl (List.map G.fact_Fact.av l_0)), (4, i64 i45), (3, .view 0 0 (List.map G.inquestref22_F.av out54).length)]) (H' := ⟨1, [(0, (7, List.map G.inquestref22_F.av out54))], []⟩) [(0, 1)] [] rfl rfl rfl (.cons rfl rfl (.same (by simp)) dt trivial) ⟨⟨.sl (List.map G.fact_Fact.av l_0), rfl, .sm⟩, .k, ⟨_, rfl, .view rfl⟩, trivial⟩) ?_)
    refine awp_reg rfl <| AR.op rfl (aop_move (.inl rfl) rfl) <| AR.op rfl (aop_add rfl rfl rfl rfl) <| AR.op rfl (aop_move (.inr rfl) rfl) <| AR.nil ?_
    replace h := Sh.next_eq h
    exact ⟨_, h, Weak.kt [0, 3, 4] rfl⟩
   ·replace h := Sh.if_f h hb46
    refine awp_exit ?_
    replace h := Sh.exit_eq h hx1
    exact hK4 out44 _ h (Weak.kt [3] rfl)
theorem inquestlaw23_Plain_ok {W0 : World} (hT : Tab W0) {l_0 : List G.fact_Fact} {r : (List G.inquestref22_F)} (h : G.inquestlaw23_Plain l_0 = some r) : Fun1 Try.prog W0 13 [.sl (List.map G.fact_Fact.av l_0)] (.sl (List.map G.inquestref22_F.av r)) :=
 (inquestlaw23_Plain_own hT h).give (Weak.e ⟨⟨_, rfl, .lendAll rfl rfl (by simp)⟩, trivial⟩) (by simp)


theorem store_Store_Facts__1_ok {W0 : World} (hT : Tab W0) {chTxns_0 : List G.api_Txn} {clevel_1 : Int} {l_2 : List G.fact_Fact} {l_3 : List (G.api_Choice × Bool)} {r : (List G.fact_Fact)} (h : G.store_Store_Facts__1 chTxns_0 clevel_1 l_2 l_3 = some r) : Fun3 Try.prog (.pinned W0 1) 12 [.ref 0 0 0] ⟨3, [(0, (4, [.agg [.view 1 0 (List.map G.fact_Fact.av l_2).length, .mref 2, .sl (List.map G.api_Txn.av chTxns_0), i64 clevel_1]])), (1, (7, List.map G.fact_Fact.av l_2)), (2, (0, [mpC G.api_Choice.ky l_3]))], []⟩ (.view 1 0 (List.map G.fact_Fact.av r).length) ⟨4, [(0, (4, [.agg [.view 2 0 (List.map G.fact_Fact.av l_2).length, .mref 3, .sl (List.map G.api_Txn.av chTxns_0), i64 clevel_1]])), (1, (7, List.map G.fact_Fact.av r)), (2, (7, List.map G.fact_Fact.av l_2)), (3, (0, [mpC G.api_Choice.ky l_3]))], []⟩ := by
 refine fun3_of_awp rfl Try.func12 rfl (by kernel_rfl) Try.ntmps12 (by simp) ?_
 unfold G.store_Store_Facts__1 at h
 show AWP _ _ _ _ ⟨[(0, .ref 0 0 0)], ⟨3, [(0, (4, [.agg [.view 1 0 (List.map G.fact_Fact.av l_2).length, .mref 2, .sl (List.map G.api_Txn.av chTxns_0), i64 clevel_1]])), (1, (7, List.map G.fact_Fact.av l_2)), (2, (0, [mpC G.api_Choice.ky l_3]))], []⟩⟩ _
 refine awp_seqK fun K1 hK1 => awp_reg rfl <| AR.op rfl (aop_move (.inr rfl) rfl) <| AR.nil <| hK1 _ (AWP.weak (Weak.kt [0] rfl) ?_)
 refine awp_seqK fun K2 hK2 => awp_seqK fun K3 hK3 => awp_reg rfl <| AR.op rfl (aop_move (.inl rfl) rfl) <| AR.op (r := bl false) rfl (aop_eq_ref rfl rfl rfl rfl pt29) <| AR.nil <| hK3 _ (AWP.weak (Weak.kt [0, 6] rfl) ?_)
 refine awp_cond_f rfl ?_
 refine awp_skip <| hK2 _ (AWP.weak (Weak.kt [0] rfl) ?_)
 refine awp_seqK fun K4 hK4 => awp_reg rfl <| AR.op rfl (aop_move (.inl rfl) rfl) <| AR.op (r := .ref 0 0 0) rfl (aop_nilCheck_ref rfl rfl rfl) <| AR.op rfl (aop_field_ref rfl rfl rfl fd64_0 (by decide)) <| AR.keep [9] rfl <| AR.op rfl (aop_field_ref rfl rfl rfl fd61_0 (by decide)) <| AR.op (r := .view 1 0 (List.map G.fact_Fact.av l_2).length) rfl (aop_load_ref rfl rfl rfl rfl sz25 rfl) ?_
 obtain ⟨r23, hr23, h⟩ := Sh.bind_some' h
 refine AR.op (r := .view 4 0 (List.map G.fact_Fact.av r23).length) rfl (aop_call3E (ok := NoId) (ys := [.view 1 0 (List.map G.fact_Fact.av l_2).length]) (xs := [.view 0 0 (List.map G.fact_Fact.av l_2).length]) (r' := .view 4 0 (List.map G.fact_Fact.av r23).length) (Hs := ⟨3, [(1, (7, List.map G.fact_Fact.av l_2))], []⟩) (H' := ⟨5, [(0, (4, [.agg [.view 1 0 (List.map G.fact_Fact.av l_2).length, .mref 2, .sl (List.map G.api_Txn.av chTxns_0), i64 clevel_1]])), (1, (7, List.map G.fact_Fact.av l_2)), (2, (0, [mpC G.api_Choice.ky l_3])), (4, (7, List.map G.fact_Fact.av r23))], []⟩) (g := [(0, 1)]) (m := [(0, 1), (1, 4)]) (nw := []) (p := 1) (.func rfl rfl (slices_Clone_fact_Fact_fact_Fact_view hT hr23).call) (slices_Clone_fact_Fact_fact_Fact_view hT hr23) { next := rfl, part := ⟨rfl, trivial⟩, inj := rfl, lt := rfl, nwf := rfl, gin := rfl, held := .cons rfl rfl (.same (by simp)) dt trivial, seen := ⟨⟨_, rfl, .view rfl⟩, trivial⟩, inlps := rfl, ple := rfl, map := rfl, next' := rfl, back := .kept rfl rfl (.new 0 rfl rfl (.same (by simp [AV.flat, G.fact_Fact.av])) (.kept rfl rfl (.new 1 rfl rfl (.same (by simp [AV.flat, G.fact_Fact.av])) trivial))), lps := .inl ⟨rfl, rfl⟩, mode := .inr ⟨fun _ h => h, rfl⟩, ren := .view rfl } rfl) <| AR.keep [12] rfl <| AR.op rfl (aop_move (.inr rfl) rfl) <| AR.nil <| hK4 _ (AWP.weak (Weak.re (fr' := [(3, .view 3 0 (List.map G.fact_Fact.av r23).length)]) (H' := ⟨4, [(0, (4, [.agg [.view 1 0 (List.map G.fact_Fact.av l_2).length, .mref 2, .sl (List.map G.api_Txn.av chTxns_0), i64 clevel_1]])), (1, (7, List.map G.fact_Fact.av l_2)), (2, (0, [mpC G.api_Choice.ky l_3])), (3, (7, List.map G.fact_Fact.av r23))], []⟩) [(0, 0), (1, 1), (2, 2), (3, 4)] [] rfl rfl rfl (.cons rfl rfl (.one (.ag ⟨.view rfl, .mref rfl, .sm, .sm, trivial⟩) rfl) dt (.cons rfl rfl (.same (by simp)) dt (.cons rfl rfl (.same (by simp)) dt (.cons rfl rfl (.same (by simp)) dt trivial)))) ⟨⟨_, rfl, .view rfl⟩, trivial⟩) ?_)
 refine awp_seqJ (fun (p : (List G.fact_Fact)) => (⟨[(3, .view 3 0 (List.map G.fact_Fact.av p).length)], ⟨4, [(0, (4, [.agg [.view 1 0 (List.map G.fact_Fact.av l_2).length, .mref 2, .sl (List.map G.api_Txn.av chTxns_0), i64 clevel_1]])), (1, (7, List.map G.fact_Fact.av l_2)), (2, (0, [mpC G.api_Choice.ky l_3])), (3, (7, List.map G.fact_Fact.av p))], []⟩⟩ : St)) (fun (p : (List G.fact_Fact)) => G.store_Store_Facts__1_j1 p = some r) ?_ ?_
 ·rintro out43 h
  replace h : G.store_Store_Facts__1_j1 out43 = some r := h
  unfold G.store_Store_Facts__1_j1 at h
  refine awp_seqK fun K5 hK5 => awp_reg rfl <| AR.op rfl (aop_move (.inl rfl) rfl) <| AR.op rfl (aop_move (.inr rfl) rfl) <| AR.nil <| hK5 _ (AWP.weak (Weak.kt [2] rfl) ?_)
  refine awp_ret ?_
  obtain rfl := Option.some.inj h
  refine ⟨.inr rfl, .view 3 0 (List.map G.fact_Fact.av out43).length, rfl, ?_⟩
  exact Weak.re [(0, 0), (1, 3), (2, 1), (3, 2)] [] rfl rfl rfl (.cons rfl rfl (.one (.ag ⟨.view rfl, .mref rfl, .sm, .sm, trivial⟩) rfl) dt (.cons rfl rfl (.same (by simp)) dt (.cons rfl rfl (.same (by simp)) dt (.cons rfl rfl (.same (by simp)) dt trivial)))) ⟨⟨_, rfl, .view rfl⟩, trivial⟩
 ·intro K6 hK6
  refine awp_seqK fun K7 hK7 => awp_reg rfl <| AR.op rfl (aop_move (.inl rfl) rfl) <| AR.op (r := i64 (Sh.len r23)) rfl (t_len_view G.fact_Fact.av r23 rfl rfl rfl rfl el25) <| AR.op rfl (aop_move (.inl rfl) rfl) <| AR.nil <| hK7 _ (AWP.weak (Weak.kt [3, 14, 15] rfl) ?_)
  refine awp_block <| awp_iter (fun (p : (List G.fact_Fact) × Int) => G.store_Store_Facts__1_b1 r23 p.1 p.2) (fun (p : (List G.fact_Fact) × Int) => (⟨[(3, .view 3 0 (List.map G.fact_Fact.av p.1).length), (14, i64 (Sh.len r23)), (15, i64 p.2)], ⟨4, [(0, (4, [.agg [.view 1 0 (List.map G.fact_Fact.av l_2).length, .mref 2, .sl (List.map G.api_Txn.av chTxns_0), i64 clevel_1]])), (1, (7, List.map G.fact_Fact.av l_2)), (2, (0, [mpC G.api_Choice.ky l_3])), (3, (7, List.map G.fact_Fact.av p.1))], []⟩⟩ : St)) h (Weak.kt [3, 14, 15] rfl) ?_
  ·skip
   rintro ⟨out56, v57⟩ o1 h hx1
   replace h : G.store_Store_Facts__1_b1 r23 out56 v57 = some o1 := h
   unfold G.store_Store_Facts__1_b1 at h
   refine awp_seqK fun K8 hK8 => awp_reg rfl <| AR.op rfl (aop_lss rfl rfl rfl) <| AR.nil <| hK8 _ ?_
   refine awp_seqK fun K9 hK9 => awp_cond rfl (fun hb58 => ?_) (fun hb58 => ?_)
   ·replace h := Sh.if_t h hb58
    refine awp_skip <| hK9 _ (AWP.weak (Weak.kt [3, 14, 15] rfl) ?_)
    refine awp_seqK fun K10 hK10 => awp_block <| awp_seqK fun K11 hK11 => awp_reg rfl <| AR.op rfl (aop_move (.inl rfl) rfl) <| AR.op rfl (aop_move (.inr rfl) rfl) <| AR.nil <| hK11 _ (AWP.weak (Weak.kt [3, 14, 15, 4] rfl) ?_)
    refine awp_reg rfl <| AR.op rfl (aop_move (.inl rfl) rfl) <| AR.op rfl (aop_move (.inl rfl) rfl) <| AR.op rfl (aop_move (.inl rfl) rfl) <| AR.keep [3, 14, 15, 4, 18, 19, 20] rfl <| AR.op rfl (aop_move (.inl rfl) rfl) ?_
    obtain ⟨x64, hx64, h⟩ := Sh.bind_some' h
    obtain ⟨k65, hi65, hl65⟩ := Sh.idx_some hx64
    refine AR.op (r := .ref 3 k65 0) rfl (t_index_view G.fact_Fact.av out56 hi65 hl65 rfl rfl rfl rfl rfl el25 rfl) <| AR.op rfl (aop_field_ref rfl rfl rfl fd38_4 (by decide)) <| AR.keep [3, 14, 15, 18, 19, 23] rfl <| AR.op (r := .sl (List.map i64 x64.Cycle)) rfl (t_load_el G.fact_Fact.av out56 hl65 rfl rfl rfl sz36 rfl) ?_
    obtain ⟨r66, hr66, h⟩ := Sh.bind_some' h
    refine AR.op (r := .sl (List.map i64 r66)) rfl (aop_call1 rfl rfl (by simp) (slices_Clone_int_int_ok hT hr66)) ?_
    obtain ⟨x67, hx67, h⟩ := Sh.bind_some' h
    obtain ⟨k68, hi68, hl68⟩ := Sh.idx_some hx67
    refine AR.op (r := .ref 3 k68 0) rfl (t_index_view G.fact_Fact.av out56 hi68 hl68 rfl rfl rfl rfl rfl el25 rfl) <| AR.keep [3, 14, 15, 25, 26] rfl <| AR.op rfl (aop_field_ref rfl rfl rfl fd38_4 (by decide)) <| AR.op rfl (t_store_el G.fact_Fact.av out56 (G.fact_Fact.mk (G.api_Choice.mk x67.C.Key x67.C.A x67.C.B) x67.Kind x67.I x67.J r66) hi68 hl68 rfl rfl rfl rfl rfl sz36 rfl dt rfl) <| AR.nil <| hK10 _ (AWP.weak (Weak.re (fr' := [(3, .view 3 0 (List.map G.fact_Fact.av (Sh.set out56 v57 (G.fact_Fact.mk (G.api_Choice.mk x67.C.Key x67.C.A x67.C.B) x67.Kind x67.I x67.J r66))).length), (14, i64 (Sh.len r23)), (15, i64 v57)]) (H' := ⟨4, [(0, (4, [.agg [.view 1 0 (List.map G.fact_Fact.av l_2).length, .mref 2, .sl (List.map G.api_Txn.av chTxns_0), i64 clevel_1]])), (1, (7, List.map G.fact_Fact.av l_2)), (2, (0, [mpC G.api_Choice.ky l_3])), (3, (7, List.map G.fact_Fact.av (Sh.set out56 v57 (G.fact_Fact.mk (G.api_Choice.mk x67.C.Key x67.C.A x67.C.B) x67.Kind x67.I x67.J r66))))], []⟩) [(0, 0), (1, 1), (2, 2), (3, 3)] [] rfl rfl rfl (.cons rfl rfl (.one (.ag ⟨.view rfl, .mref rfl, .sm, .sm, trivial⟩) rfl) dt (.cons rfl rfl (.same (by simp)) dt (.cons rfl rfl (.same (by simp)) dt (.cons rfl rfl (.same (by simp)) dt trivial)))) ⟨⟨_, rfl, .viewL rfl (by simp [])⟩, .k, .k, trivial⟩) ?_)
    refine awp_reg rfl <| AR.op rfl (aop_add rfl rfl rfl rfl) <| AR.op rfl (aop_move (.inl rfl) rfl) <| AR.nil ?_
    replace h := Sh.next_eq h
    exact ⟨_, h, Weak.kt [3, 14, 15] rfl⟩
   ·replace h := Sh.if_f h hb58
    refine awp_exit ?_
    replace h := Sh.exit_eq h hx1
    exact hK6 out56 _ h (Weak.kt [3] rfl)


end Wk
