/- That the functions of a package do what their plain functions say. -/
import Derived.Test.YtnbabpgakdefjaaSh
import Derived.Test.YtnbabpgakdefjaaWkFFacts
import Derived.Test.YtnbabpgakdefjaaWkFinquestref08
import Derived.Test.YtnbabpgakdefjaaWkFinquestref09
import Derived.Test.YtnbabpgakdefjaaWkFinquestref18
import Derived.Test.YtnbabpgakdefjaaWkFinquestref19
open Go Go.Av Go.Proofs
set_option linter.unusedVariables false
set_option maxHeartbeats 8000000
set_option maxRecDepth 20000
namespace Wk
theorem inquestref22_Small_ok0 {W0 : World} (hT : Tab W0) {h_0 : G.api_Hist} {txns_1 : Int} {pairs_2 : Int} {r : Bool} (h : G.inquestref22_Small h_0 txns_1 pairs_2 = some r) : Fun2 Try.prog W0 21 [G.api_Hist.av h_0, i64 txns_1, i64 pairs_2] (bl r) .empty := by
 refine fun2_of_awp Try.func21 rfl (by kernel_rfl) Try.ntmps21 (by simp) ?_
 unfold G.inquestref22_Small at h
 show AWP _ _ _ _ ⟨[(0, G.api_Hist.av h_0), (1, i64 txns_1), (2, i64 pairs_2)], .empty⟩ _
 refine awp_seqK fun K1 hK1 => awp_reg rfl <| AR.op (r := .ref 0 0 0) rfl (aop_box 1 [G.api_Hist.av h_0] rfl rfl rfl (.inl ⟨rfl, rfl⟩)) <| AR.op rfl (aop_move (.inr rfl) rfl) <| AR.nil <| hK1 _ (AWP.weak (Weak.e (fr' := [(1, i64 txns_1), (2, i64 pairs_2), (3, .pp [.sl (List.map G.api_Txn.av h_0.Txns)] 0)]) (H' := .empty) ⟨.k, .k, ⟨_, rfl, .frzA rfl rfl rfl rfl (by simp)⟩, trivial⟩) ?_)
 refine awp_seqK fun K2 hK2 => awp_reg rfl <| AR.op (r := G.api_Hist.av h_0) rfl (aop_load_pp rfl rfl sz24 rfl) <| AR.op rfl (aop_move (.inl rfl) rfl) ?_
 obtain ⟨r8, hr8, h⟩ := Sh.bind_some' h
 refine AR.op (r := bl r8) rfl (aop_call1 rfl rfl (by simp) (inquestref08_Few_ok hT hr8)) <| AR.keep [2, 3, 12] rfl <| AR.op rfl (aop_move (.inr rfl) rfl) <| AR.nil <| hK2 _ (AWP.weak (Weak.kt [2, 3, 7] rfl) ?_)
 refine awp_seqK fun K3 hK3 => awp_reg rfl <| AR.op (r := G.api_Hist.av h_0) rfl (aop_load_pp rfl rfl sz24 rfl) ?_
 obtain ⟨r10, hr10, h⟩ := Sh.bind_some' h
 refine AR.op (r := bl r10) rfl (aop_call1 rfl rfl (by simp) (inquestref08_Right_ok hT hr10)) <| AR.op rfl (aop_move (.inr rfl) rfl) <| AR.nil <| hK3 _ (AWP.weak (Weak.kt [2, 3, 7, 8] rfl) ?_)
 refine awp_seqK fun K4 hK4 => awp_reg rfl <| AR.op (r := G.api_Hist.av h_0) rfl (aop_load_pp rfl rfl sz24 rfl) ?_
 obtain ⟨r12, hr12, h⟩ := Sh.bind_some' h
 refine AR.op (r := .sl (List.map G.api_Choice.av r12)) rfl (aop_call1 rfl rfl (by simp) (inquestref09_Pairs_ok hT hr12)) <| AR.op rfl (aop_move (.inr rfl) rfl) <| AR.nil <| hK4 _ (AWP.weak (Weak.kt [2, 7, 8, 9] rfl) ?_)
 refine awp_seqK fun K5 hK5 => awp_reg rfl <| AR.op rfl (aop_move (.inl rfl) rfl) <| AR.op rfl (aop_move (.inl rfl) rfl) ?_
 rcases Bool.eq_false_or_eq_true (r8) with hb15 | hb15
 ·rw [hb15]
  replace h := Sh.if_t h hb15
  refine AR.op rfl (aop_move (.inl rfl) rfl) <| AR.keep [2, 9, 18, 19] rfl <| AR.op rfl (aop_pick rfl rfl rfl) <| AR.op rfl (aop_move (.inl rfl) rfl) ?_
  rcases Bool.eq_false_or_eq_true (r10) with hb16 | hb16
  ·rw [hb16]
   replace h := Sh.if_t h hb16
   refine AR.op rfl (aop_move (.inl rfl) rfl) <| AR.keep [2, 21, 22] rfl <| AR.op rfl (t_len_sl G.api_Choice.av r12 rfl rfl el43) <| AR.op rfl (aop_move (.inl rfl) rfl) <| AR.op rfl (aop_leq rfl rfl rfl) <| AR.keep [21, 25] rfl <| AR.op rfl (aop_pick rfl rfl rfl) <| AR.op rfl (aop_move (.inr rfl) rfl) ?_
   refine AR.nil <| hK5 _ (AWP.weak (Weak.kt [6] rfl) ?_)
   refine awp_ret ?_
   obtain rfl := Option.some.inj h
   refine ⟨.inr rfl, bl (decide ((Sh.len r12) ≤ pairs_2)), rfl, ?_⟩
   exact Weak.e ⟨.k, trivial⟩
  ·rw [hb16]
   replace h := Sh.if_f h hb16
   refine AR.skip rfl <| AR.keep [2, 21, 22] rfl <| AR.skip rfl <| AR.skip rfl <| AR.skip rfl <| AR.keep [21, 25] rfl <| AR.op rfl (aop_pick rfl rfl rfl) <| AR.op rfl (aop_move (.inr rfl) rfl) ?_
   refine AR.nil <| hK5 _ (AWP.weak (Weak.kt [6] rfl) ?_)
   refine awp_ret ?_
   obtain rfl := Option.some.inj h
   refine ⟨.inr rfl, bl false, rfl, ?_⟩
   exact Weak.e ⟨.k, trivial⟩
 ·rw [hb15]
  replace h := Sh.if_f h hb15
  refine AR.skip rfl <| AR.keep [2, 9, 18, 19] rfl <| AR.op rfl (aop_pick rfl rfl rfl) <| AR.op rfl (aop_move (.inl rfl) rfl) <| AR.skip rfl <| AR.keep [2, 21, 22] rfl <| AR.skip rfl <| AR.skip rfl ?_
  refine AR.skip rfl <| AR.keep [21, 25] rfl <| AR.op rfl (aop_pick rfl rfl rfl) <| AR.op rfl (aop_move (.inr rfl) rfl) <| AR.nil <| hK5 _ (AWP.weak (Weak.kt [6] rfl) ?_)
  refine awp_ret ?_
  obtain rfl := Option.some.inj h
  refine ⟨.inr rfl, bl false, rfl, ?_⟩
  exact Weak.e ⟨.k, trivial⟩
theorem inquestref22_Small_ok {W0 : World} (hT : Tab W0) {h_0 : G.api_Hist} {txns_1 : Int} {pairs_2 : Int} {r : Bool} (h : G.inquestref22_Small h_0 txns_1 pairs_2 = some r) : Fun1 Try.prog W0 21 [G.api_Hist.av h_0, i64 txns_1, i64 pairs_2] (bl r) := Fun1.two (inquestref22_Small_ok0 hT h) (by simp)


theorem inquestref22_all_step_ok {W0 : World} (hT : Tab W0) {self : G.api_Hist → Int → (List G.api_Choice) → (List G.api_Choice) → G.api_Choice → Option (Bool)} (ih : ∀ {h_0 : G.api_Hist} {level_1 : Int} {p_2 : List G.api_Choice} {l_3 : List G.api_Choice} {c_4 : G.api_Choice} {r : Bool}, self h_0 level_1 p_2 l_3 c_4 = some r → Fun1 Try.prog W0 44 [G.api_Hist.av h_0, i64 level_1, .sl (List.map G.api_Choice.av p_2), .sl (List.map G.api_Choice.av l_3), G.api_Choice.av c_4] (bl r)) {h_0 : G.api_Hist} {level_1 : Int} {p_2 : List G.api_Choice} {l_3 : List G.api_Choice} {c_4 : G.api_Choice} {r : Bool} (h : G.inquestref22_all_step self h_0 level_1 p_2 l_3 c_4 = some r) : Fun2 Try.prog W0 44 [G.api_Hist.av h_0, i64 level_1, .sl (List.map G.api_Choice.av p_2), .sl (List.map G.api_Choice.av l_3), G.api_Choice.av c_4] (bl r) .empty := by
 refine fun2_of_awp Try.func44 rfl (by kernel_rfl) Try.ntmps44 (by simp) ?_
 unfold G.inquestref22_all_step at h
 show AWP _ _ _ _ ⟨[(0, G.api_Hist.av h_0), (1, i64 level_1), (2, .sl (List.map G.api_Choice.av p_2)), (3, .sl (List.map G.api_Choice.av l_3)), (4, G.api_Choice.av c_4)], .empty⟩ _
 refine awp_seqK fun K1 hK1 => awp_reg rfl <| AR.op (r := .ref 0 0 0) rfl (aop_box 1 [G.api_Hist.av h_0] rfl rfl rfl (.inl ⟨rfl, rfl⟩)) <| AR.op (r := .ref 1 0 0) rfl (aop_box 3 [G.api_Choice.av c_4] rfl rfl rfl (.inl ⟨rfl, rfl⟩)) <| AR.op rfl (aop_move (.inr rfl) rfl) <| AR.nil <| hK1 _ (AWP.weak (Weak.e (fr' := [(1, i64 level_1), (2, .sl (List.map G.api_Choice.av p_2)), (3, .sl (List.map G.api_Choice.av l_3)), (5, .pp [.sl (List.map G.api_Txn.av h_0.Txns)] 0), (9, .pp [i64 c_4.Key, i64 c_4.A, i64 c_4.B] 0)]) (H' := .empty) ⟨.k, ⟨.sl (List.map G.api_Choice.av p_2), rfl, .sm⟩, ⟨.sl (List.map G.api_Choice.av l_3), rfl, .sm⟩, ⟨_, rfl, .frzA rfl rfl rfl rfl (by simp)⟩, ⟨_, rfl, .frzA rfl rfl rfl rfl (by simp)⟩, trivial⟩) ?_)
 refine awp_seqK fun K2 hK2 => awp_seqK fun K3 hK3 => awp_reg rfl <| AR.op rfl (aop_move (.inl rfl) rfl) <| AR.op rfl (t_len_sl G.api_Choice.av l_3 rfl rfl el43) <| AR.op rfl (aop_move (.inl rfl) rfl) <| AR.keep [1, 2, 3, 5, 9, 16, 17] rfl <| AR.op rfl (t_len_sl G.api_Choice.av p_2 rfl rfl el43) ?_
 refine AR.op (r := bl (decide ((Sh.len l_3) = (Sh.len p_2)))) rfl (aop_eql rfl rfl rfl) <| AR.nil <| hK3 _ (AWP.weak (Weak.kt [1, 2, 3, 5, 9, 19] rfl) ?_)
 refine awp_cond rfl (fun hb20 => ?_) (fun hb20 => ?_)
 ·replace h := Sh.if_t h hb20
  refine awp_seqK fun K4 hK4 => awp_reg rfl <| AR.op (r := G.api_Hist.av h_0) rfl (aop_load_pp rfl rfl sz24 rfl) <| AR.op rfl (aop_move (.inl rfl) rfl) <| AR.op rfl (aop_move (.inl rfl) rfl) <| AR.keep [3, 9, 20, 21, 22] rfl ?_
  obtain ⟨r22, hr22, h⟩ := Sh.bind_some' h
  refine AR.op (r := bl r22) rfl (aop_call1 rfl rfl (by simp) (inquestref18_Good_ok hT hr22)) <| AR.op rfl (aop_move (.inr rfl) rfl) <| AR.nil <| hK4 _ (AWP.weak (Weak.kt [3, 9, 11] rfl) ?_)
  refine awp_seqK fun K5 hK5 => awp_reg rfl <| AR.op rfl (aop_move (.inl rfl) rfl) <| AR.op (r := G.api_Choice.av c_4) rfl (aop_load_pp rfl rfl sz27 rfl) ?_
  obtain ⟨r24, hr24, h⟩ := Sh.bind_some' h
  refine AR.op (r := bl r24) rfl (aop_call1 rfl rfl (by simp) (inquestref18_In_ok hT hr24)) <| AR.keep [11, 26] rfl <| AR.op rfl (aop_move (.inr rfl) rfl) <| AR.nil <| hK5 _ (AWP.weak (Weak.kt [11, 12] rfl) ?_)
  refine awp_seqK fun K6 hK6 => awp_reg rfl <| AR.op rfl (aop_move (.inl rfl) rfl) <| AR.op (r := bl (!r22)) rfl (aop_not rfl rfl) <| AR.op rfl (aop_move (.inl rfl) rfl) <| AR.keep [12, 29] rfl ?_
  rcases Bool.eq_false_or_eq_true (!r22) with hb26 | hb26
  ·rw [hb26]
   replace h := Sh.if_t h hb26
   refine AR.skip rfl <| AR.op rfl (aop_pick rfl rfl rfl) <| AR.op rfl (aop_move (.inr rfl) rfl) <| AR.nil <| hK6 _ (AWP.weak (Weak.kt [10] rfl) ?_)
   refine awp_ret ?_
   obtain rfl := Option.some.inj h
   refine ⟨.inr rfl, bl true, rfl, ?_⟩
   exact Weak.e ⟨.k, trivial⟩
  ·rw [hb26]
   replace h := Sh.if_f h hb26
   refine AR.op rfl (aop_move (.inl rfl) rfl) <| AR.op rfl (aop_pick rfl rfl rfl) <| AR.op rfl (aop_move (.inr rfl) rfl) <| AR.nil <| hK6 _ (AWP.weak (Weak.kt [10] rfl) ?_)
   refine awp_ret ?_
   obtain rfl := Option.some.inj h
   refine ⟨.inr rfl, bl r24, rfl, ?_⟩
   exact Weak.e ⟨.k, trivial⟩
 ·replace h := Sh.if_f h hb20
  refine awp_skip <| hK2 _ (AWP.weak (Weak.kt [1, 2, 3, 5, 9] rfl) ?_)
  refine awp_seqK fun K7 hK7 => awp_reg rfl <| AR.op rfl (aop_move (.inr rfl) rfl) <| AR.nil <| hK7 _ ?_
  refine awp_seqK fun K8 hK8 => awp_reg rfl <| AR.op rfl (aop_move (.inl rfl) rfl) <| AR.op rfl (aop_move (.inl rfl) rfl) ?_
  obtain ⟨one28, hone28, h⟩ := Sh.bind_some' h
  refine AR.op (r := .view 0 0 (List.map G.api_Choice.av one28).length) rfl (t_app_nil G.api_Choice.av l_3 one28 hone28 et43 (fun _ => rfl) rfl rfl rfl rfl rfl) <| AR.keep [1, 2, 3, 5, 9, 34] rfl <| AR.op rfl (aop_move (.inr rfl) rfl) <| AR.nil <| hK8 _ (AWP.weak (Weak.re (fr' := [(1, i64 level_1), (2, .sl (List.map G.api_Choice.av p_2)), (3, .sl (List.map G.api_Choice.av l_3)), (5, .pp [.sl (List.map G.api_Txn.av h_0.Txns)] 0), (9, .pp [i64 c_4.Key, i64 c_4.A, i64 c_4.B] 0), (13, .view 0 0 (List.map G.api_Choice.av one28).length)]) (H' := ⟨1, [(0, (3, List.map G.api_Choice.av one28))], []⟩) [(0, 0)] [] rfl rfl rfl (.cons rfl rfl (.same (by simp)) dt trivial) ⟨.k, ⟨.sl (List.map G.api_Choice.av p_2), rfl, .sm⟩, ⟨.sl (List.map G.api_Choice.av l_3), rfl, .sm⟩, .k, .k, ⟨_, rfl, .view rfl⟩, trivial⟩) ?_)
  refine awp_seqK fun K9 hK9 => awp_reg rfl <| AR.op rfl (aop_move (.inl rfl) rfl) <| AR.op rfl (aop_move (.inl rfl) rfl) <| AR.op rfl (aop_move (.inl rfl) rfl) <| AR.keep [1, 2, 3, 5, 9, 35, 36, 37] rfl <| AR.op rfl (t_len_sl G.api_Choice.av l_3 rfl rfl el43) ?_
  obtain ⟨x32, hx32, h⟩ := Sh.bind_some' h
  obtain ⟨k33, hi33, hl33⟩ := Sh.idx_some hx32
  refine AR.op rfl (t_index_sl G.api_Choice.av p_2 hi33 hl33 rfl rfl rfl el43 rfl) <| AR.op (r := G.api_Choice.av x32) rfl (aop_load_pp rfl rfl sz27 rfl) <| AR.keep [1, 2, 3, 5, 9, 35, 40] rfl <| AR.op (r := .clip (List.map G.api_Choice.av ([x32] : List G.api_Choice))) rfl (aop_buildSlice rfl (xo := [.tmp 40]) rfl rfl rfl (by simp) (by simp) el43 ze43 (by decide)) ?_
  obtain ⟨one34, hone34, h⟩ := Sh.bind_some' h
  refine AR.op (r := .view 1 0 (List.map G.api_Choice.av one34).length) rfl (t_app_view G.api_Choice.av one28 ([x32] : List G.api_Choice) one34 hone34 rfl et43 (fun _ => rfl) rfl rfl rfl rfl rfl rfl rfl) <| AR.op rfl (aop_move (.inr rfl) rfl) <| AR.nil <| hK9 _ (AWP.weak (Weak.re (fr' := [(1, i64 level_1), (2, .sl (List.map G.api_Choice.av p_2)), (3, .sl (List.map G.api_Choice.av l_3)), (5, .pp [.sl (List.map G.api_Txn.av h_0.Txns)] 0), (9, .pp [i64 c_4.Key, i64 c_4.A, i64 c_4.B] 0), (13, .view 0 0 (List.map G.api_Choice.av one34).length)]) (H' := ⟨1, [(0, (3, List.map G.api_Choice.av one34))], []⟩) [(0, 1)] [] rfl rfl rfl (.cons rfl rfl (.same (by simp)) dt trivial) ⟨.k, ⟨.sl (List.map G.api_Choice.av p_2), rfl, .sm⟩, ⟨.sl (List.map G.api_Choice.av l_3), rfl, .sm⟩, .k, .k, ⟨_, rfl, .view rfl⟩, trivial⟩) ?_)
  refine awp_seqK fun K10 hK10 => awp_reg rfl <| AR.op (r := G.api_Hist.av h_0) rfl (aop_load_pp rfl rfl sz24 rfl) <| AR.op rfl (aop_move (.inl rfl) rfl) <| AR.op rfl (aop_move (.inl rfl) rfl) <| AR.keep [1, 2, 3, 5, 9, 13, 43, 44, 45] rfl <| AR.op rfl (aop_move (.inl rfl) rfl) <| AR.op (r := G.api_Choice.av c_4) rfl (aop_load_pp rfl rfl sz27 rfl) ?_
  obtain ⟨r36, hr36, h⟩ := Sh.bind_some' h
  refine AR.op (r := bl r36) rfl (aop_callL rfl (ys := [G.api_Hist.av h_0, i64 level_1, .sl (List.map G.api_Choice.av p_2), .view 0 0 (List.map G.api_Choice.av one34).length, G.api_Choice.av c_4]) (xs := [G.api_Hist.av h_0, i64 level_1, .sl (List.map G.api_Choice.av p_2), .sl (List.map G.api_Choice.av one34), G.api_Choice.av c_4]) rfl (Weak.e (fr' := argsFr 0 [G.api_Hist.av h_0, i64 level_1, .sl (List.map G.api_Choice.av p_2), .sl (List.map G.api_Choice.av one34), G.api_Choice.av c_4]) (H' := .empty) ⟨⟨G.api_Hist.av h_0, rfl, .sm⟩, .k, ⟨.sl (List.map G.api_Choice.av p_2), rfl, .sm⟩, ⟨_, rfl, .lendAll rfl rfl (by simp)⟩, ⟨G.api_Choice.av c_4, rfl, .sm⟩, trivial⟩) rfl (ih hr36) (by simp)) <| AR.keep [1, 2, 3, 5, 9, 13, 48] rfl <| AR.op rfl (aop_move (.inr rfl) rfl) <| AR.nil <| hK10 _ (AWP.weak (Weak.re (fr' := [(1, i64 level_1), (2, .sl (List.map G.api_Choice.av p_2)), (3, .sl (List.map G.api_Choice.av l_3)), (5, .pp [.sl (List.map G.api_Txn.av h_0.Txns)] 0), (9, .pp [i64 c_4.Key, i64 c_4.A, i64 c_4.B] 0), (13, .view 0 0 (List.map G.api_Choice.av one34).length), (14, bl r36)]) (H' := ⟨1, [(0, (3, List.map G.api_Choice.av one34))], []⟩) [(0, 0)] [] rfl rfl rfl (.cons rfl rfl (.same (by simp)) dt trivial) ⟨.k, ⟨.sl (List.map G.api_Choice.av p_2), rfl, .sm⟩, ⟨.sl (List.map G.api_Choice.av l_3), rfl, .sm⟩, .k, .k, ⟨_, rfl, .view rfl⟩, .k, trivial⟩) ?_)
  refine awp_seqK fun K11 hK11 => awp_seqK fun K12 hK12 => awp_reg rfl <| AR.op rfl (aop_move (.inl rfl) rfl) <| AR.op (r := bl (!r36)) rfl (aop_not rfl rfl) <| AR.nil <| hK12 _ (AWP.weak (Weak.re (fr' := [(1, i64 level_1), (2, .sl (List.map G.api_Choice.av p_2)), (3, .sl (List.map G.api_Choice.av l_3)), (5, .pp [.sl (List.map G.api_Txn.av h_0.Txns)] 0), (9, .pp [i64 c_4.Key, i64 c_4.A, i64 c_4.B] 0), (13, .view 0 0 (List.map G.api_Choice.av one34).length), (50, bl (!r36))]) (H' := ⟨1, [(0, (3, List.map G.api_Choice.av one34))], []⟩) [(0, 0)] [] rfl rfl rfl (.cons rfl rfl (.same (by simp)) dt trivial) ⟨.k, ⟨.sl (List.map G.api_Choice.av p_2), rfl, .sm⟩, ⟨.sl (List.map G.api_Choice.av l_3), rfl, .sm⟩, .k, .k, ⟨_, rfl, .view rfl⟩, .k, trivial⟩) ?_)
  refine awp_cond rfl (fun hb37 => ?_) (fun hb37 => ?_)
  ·replace h := Sh.if_t h hb37
   refine awp_seqK fun K13 hK13 => awp_reg rfl <| AR.op rfl (aop_move (.inr rfl) rfl) <| AR.nil <| hK13 _ (AWP.weak (Weak.e (fr' := [(10, bl false)]) (H' := .empty) ⟨.k, trivial⟩) ?_)
   refine awp_ret ?_
   obtain rfl := Option.some.inj h
   refine ⟨.inr rfl, bl false, rfl, ?_⟩
   exact Weak.e ⟨.k, trivial⟩
  ·replace h := Sh.if_f h hb37
   refine awp_skip <| hK11 _ (AWP.weak (Weak.re (fr' := [(1, i64 level_1), (2, .sl (List.map G.api_Choice.av p_2)), (3, .sl (List.map G.api_Choice.av l_3)), (5, .pp [.sl (List.map G.api_Txn.av h_0.Txns)] 0), (9, .pp [i64 c_4.Key, i64 c_4.A, i64 c_4.B] 0), (13, .view 0 0 (List.map G.api_Choice.av one34).length)]) (H' := ⟨1, [(0, (3, List.map G.api_Choice.av one34))], []⟩) [(0, 0)] [] rfl rfl rfl (.cons rfl rfl (.same (by simp)) dt trivial) ⟨.k, ⟨.sl (List.map G.api_Choice.av p_2), rfl, .sm⟩, ⟨.sl (List.map G.api_Choice.av l_3), rfl, .sm⟩, .k, .k, ⟨_, rfl, .view rfl⟩, trivial⟩) ?_)
   refine awp_seqK fun K14 hK14 => awp_reg rfl <| AR.op rfl (aop_move (.inl rfl) rfl) <| AR.op rfl (aop_move (.inl rfl) rfl) <| AR.op rfl (t_len_sl G.api_Choice.av l_3 rfl rfl el43) <| AR.keep [1, 2, 3, 5, 9, 13, 51, 53] rfl <| AR.op rfl (aop_move (.inl rfl) rfl) <| AR.op rfl (aop_move (.inl rfl) rfl) ?_
   refine AR.op rfl (t_len_sl G.api_Choice.av l_3 rfl rfl el43) <| AR.keep [1, 2, 5, 9, 13, 51, 53, 54, 56] rfl ?_
   obtain ⟨x43, hx43, h⟩ := Sh.bind_some' h
   obtain ⟨k44, hi44, hl44⟩ := Sh.idx_some hx43
   refine AR.op rfl (t_index_sl G.api_Choice.av p_2 hi44 hl44 rfl rfl rfl el43 rfl) <| AR.op (r := G.api_Choice.av x43) rfl (aop_load_pp rfl rfl sz27 rfl) ?_
   obtain ⟨r45, hr45, h⟩ := Sh.bind_some' h
   refine AR.op (r := G.api_Choice.av r45) rfl (aop_call1 rfl rfl (by simp) (inquestref18_Back_ok hT hr45)) <| AR.keep [1, 2, 5, 9, 13, 51, 53, 59] rfl ?_
   obtain ⟨x46, hx46, h⟩ := Sh.bind_some' h
   obtain ⟨k47, hi47, hl47⟩ := Sh.idx_some hx46
   refine AR.op (r := .ref 0 k47 0) rfl (t_index_view G.api_Choice.av one34 hi47 hl47 rfl rfl rfl rfl rfl el43 rfl) <| AR.op rfl (t_store_el G.api_Choice.av one34 r45 hi47 hl47 rfl rfl rfl rfl rfl sz27 rfl dt rfl) <| AR.nil <| hK14 _ (AWP.weak (Weak.e (fr' := [(1, i64 level_1), (2, .sl (List.map G.api_Choice.av p_2)), (5, .pp [.sl (List.map G.api_Txn.av h_0.Txns)] 0), (9, .pp [i64 c_4.Key, i64 c_4.A, i64 c_4.B] 0), (13, .sl (List.map G.api_Choice.av (Sh.set one34 (Sh.len l_3) r45)))]) (H' := .empty) ⟨.k, ⟨.sl (List.map G.api_Choice.av p_2), rfl, .sm⟩, .k, .k, ⟨_, rfl, .lendL rfl rfl (by simp []) (by simp)⟩, trivial⟩) ?_)
   refine awp_seqK fun K15 hK15 => awp_reg rfl <| AR.op (r := G.api_Hist.av h_0) rfl (aop_load_pp rfl rfl sz24 rfl) <| AR.op rfl (aop_move (.inl rfl) rfl) <| AR.op rfl (aop_move (.inl rfl) rfl) <| AR.keep [9, 13, 61, 62, 63] rfl <| AR.op rfl (aop_move (.inl rfl) rfl) <| AR.op (r := G.api_Choice.av c_4) rfl (aop_load_pp rfl rfl sz27 rfl) ?_
   obtain ⟨r49, hr49, h⟩ := Sh.bind_some' h
   refine AR.op (r := bl r49) rfl (aop_call1 rfl rfl (by simp) (ih hr49)) <| AR.keep [66] rfl <| AR.op rfl (aop_move (.inr rfl) rfl) <| AR.nil <| hK15 _ (AWP.weak (Weak.kt [14] rfl) ?_)
   refine awp_seqK fun K16 hK16 => awp_reg rfl <| AR.op rfl (aop_move (.inl rfl) rfl) <| AR.op rfl (aop_move (.inr rfl) rfl) <| AR.nil <| hK16 _ (AWP.weak (Weak.kt [10] rfl) ?_)
   refine awp_ret ?_
   obtain rfl := Option.some.inj h
   refine ⟨.inr rfl, bl r49, rfl, ?_⟩
   exact Weak.e ⟨.k, trivial⟩
theorem inquestref22_all_fuel {W0 : World} (hT : Tab W0) : ∀ (n : Nat) {h_0 : G.api_Hist} {level_1 : Int} {p_2 : List G.api_Choice} {l_3 : List G.api_Choice} {c_4 : G.api_Choice} {r : Bool}, G.inquestref22_all_n n h_0 level_1 p_2 l_3 c_4 = some r → Fun1 Try.prog W0 44 [G.api_Hist.av h_0, i64 level_1, .sl (List.map G.api_Choice.av p_2), .sl (List.map G.api_Choice.av l_3), G.api_Choice.av c_4] (bl r) := by
 intro n
 induction n with
 | zero => intro _ _ _ _ _ _ h; cases h
 | succ n ih => intro _ _ _ _ _ _ h; exact Fun1.two (inquestref22_all_step_ok hT ih h) (by simp)
theorem inquestref22_all_ok {W0 : World} (hT : Tab W0) {h_0 : G.api_Hist} {level_1 : Int} {p_2 : List G.api_Choice} {l_3 : List G.api_Choice} {c_4 : G.api_Choice} {r : Bool} (h : G.inquestref22_all h_0 level_1 p_2 l_3 c_4 = some r) : Fun1 Try.prog W0 44 [G.api_Hist.av h_0, i64 level_1, .sl (List.map G.api_Choice.av p_2), .sl (List.map G.api_Choice.av l_3), G.api_Choice.av c_4] (bl r) := inquestref22_all_fuel hT _ h


theorem inquestref22_Must_ok0 {W0 : World} (hT : Tab W0) {h_0 : G.api_Hist} {level_1 : Int} {c_2 : G.api_Choice} {r : Bool} (h : G.inquestref22_Must h_0 level_1 c_2 = some r) : Fun2 Try.prog W0 22 [G.api_Hist.av h_0, i64 level_1, G.api_Choice.av c_2] (bl r) .empty := by
 refine fun2_of_awp Try.func22 rfl (by kernel_rfl) Try.ntmps22 (by simp) ?_
 unfold G.inquestref22_Must at h
 show AWP _ _ _ _ ⟨[(0, G.api_Hist.av h_0), (1, i64 level_1), (2, G.api_Choice.av c_2)], .empty⟩ _
 refine awp_seqK fun K1 hK1 => awp_reg rfl <| AR.op (r := .ref 0 0 0) rfl (aop_box 1 [G.api_Hist.av h_0] rfl rfl rfl (.inl ⟨rfl, rfl⟩)) <| AR.op (r := .ref 1 0 0) rfl (aop_box 3 [G.api_Choice.av c_2] rfl rfl rfl (.inl ⟨rfl, rfl⟩)) <| AR.op rfl (aop_move (.inr rfl) rfl) <| AR.nil <| hK1 _ (AWP.weak (Weak.e (fr' := [(1, i64 level_1), (3, .pp [.sl (List.map G.api_Txn.av h_0.Txns)] 0), (5, .pp [i64 c_2.Key, i64 c_2.A, i64 c_2.B] 0)]) (H' := .empty) ⟨.k, ⟨_, rfl, .frzA rfl rfl rfl rfl (by simp)⟩, ⟨_, rfl, .frzA rfl rfl rfl rfl (by simp)⟩, trivial⟩) ?_)
 refine awp_seqK fun K2 hK2 => awp_any [(true, false), (true, false), (true, false), (true, false), (true, false), (true, false), (true, false)] (by kernel_rfl) (by kernel_rfl) rfl ?_
 refine ARH.dry (r := G.api_Hist.av h_0) rfl (fun _ => aop_load_pp rfl rfl sz24 rfl) <| ARH.dry rfl (fun _ => aop_move (.inl rfl) rfl) <| ARH.dry (r := G.api_Hist.av h_0) rfl (fun _ => aop_load_pp rfl rfl sz24 rfl) <| ARH.keep [5, 7, 8, 9] rfl ?_
 obtain ⟨r5, hr5, h⟩ := Sh.bind_some' h
 refine ARH.dry (r := .sl (List.map G.api_Choice.av r5)) rfl (fun _ => aop_call1 rfl rfl (by simp) (inquestref09_Pairs_ok hT hr5)) <| ARH.dry (r := G.api_Choice.av c_2) rfl (fun _ => aop_load_pp rfl rfl sz27 rfl) ?_
 obtain ⟨r6, hr6, h⟩ := Sh.bind_some' h
 refine ARH.dry (r := bl r6) rfl (fun _ => aop_callN rfl (ys := [G.api_Hist.av h_0, i64 level_1, .sl (List.map G.api_Choice.av r5), nilS, G.api_Choice.av c_2]) (xs := [G.api_Hist.av h_0, i64 level_1, .sl (List.map G.api_Choice.av r5), .sl (List.map G.api_Choice.av []), G.api_Choice.av c_2]) rfl (Weak.e (fr' := argsFr 0 [G.api_Hist.av h_0, i64 level_1, .sl (List.map G.api_Choice.av r5), .sl (List.map G.api_Choice.av []), G.api_Choice.av c_2]) (H' := .empty) ⟨⟨G.api_Hist.av h_0, rfl, .sm⟩, .k, ⟨.sl (List.map G.api_Choice.av r5), rfl, .sm⟩, ⟨_, rfl, .nilsl⟩, ⟨G.api_Choice.av c_2, rfl, .sm⟩, trivial⟩) rfl (by simp) (inquestref22_all_ok hT hr6)) <| ARH.keep [12] rfl <| ARH.dry rfl (fun _ => aop_move (.inr rfl) rfl) <| ARH.nil <| hK2 _ (AWP.weak (Weak.kt [6] rfl) ?_)
 refine awp_ret ?_
 obtain rfl := Option.some.inj h
 refine ⟨.inr rfl, bl r6, rfl, ?_⟩
 exact Weak.e ⟨.k, trivial⟩
theorem inquestref22_Must_ok {W0 : World} (hT : Tab W0) {h_0 : G.api_Hist} {level_1 : Int} {c_2 : G.api_Choice} {r : Bool} (h : G.inquestref22_Must h_0 level_1 c_2 = some r) : Fun1 Try.prog W0 22 [G.api_Hist.av h_0, i64 level_1, G.api_Choice.av c_2] (bl r) := Fun1.two (inquestref22_Must_ok0 hT h) (by simp)

end Wk
