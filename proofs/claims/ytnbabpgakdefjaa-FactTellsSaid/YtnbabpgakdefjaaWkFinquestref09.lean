/- That the functions of a package do what their plain functions say. -/
import Derived.Test.YtnbabpgakdefjaaSh
import Derived.Test.YtnbabpgakdefjaaWkFFacts
import Derived.Test.YtnbabpgakdefjaaWkFinquestref08
open Go Go.Av Go.Proofs
set_option linter.unusedVariables false
set_option maxHeartbeats 8000000
set_option maxRecDepth 20000
namespace Wk
theorem inquestref09_From_ok0 {W0 : World} (hT : Tab W0) {h_0 : G.api_Hist} {t_1 : Int} {key_2 : Int} {r : Int × Bool} (h : G.inquestref09_From h_0 t_1 key_2 = some r) : Fun2 Try.prog W0 63 [G.api_Hist.av h_0, i64 t_1, i64 key_2] (.tuple [i64 r.1, bl r.2]) .empty := by
 refine fun2_of_awp Try.func63 rfl (by kernel_rfl) Try.ntmps63 (by simp) ?_
 unfold G.inquestref09_From at h
 show AWP _ _ _ _ ⟨[(0, G.api_Hist.av h_0), (1, i64 t_1), (2, i64 key_2)], .empty⟩ _
 refine awp_seqK fun K1 hK1 => ?_
 refine awp_reg rfl ?_
 refine AR.op (r := .ref 0 0 0) rfl (aop_box 1 [G.api_Hist.av h_0] rfl rfl rfl (.inl ⟨rfl, rfl⟩)) ?_
 refine AR.op (r := i64 0) rfl (aop_move (.inr rfl) rfl) ?_
 refine AR.op (r := bl false) rfl (aop_move (.inr rfl) rfl) ?_
 refine AR.nil ?_
 refine hK1 _ (AWP.weak (Weak.re (fr' := [(1, i64 t_1), (2, i64 key_2), (3, .pp [.sl (List.map G.api_Txn.av h_0.Txns)] 0)]) (H' := .empty) [] [] rfl rfl rfl (trivial) ⟨⟨_, rfl, .sm⟩, ⟨_, rfl, .sm⟩, ⟨_, rfl, .frzA rfl rfl rfl rfl (by simp)⟩, trivial⟩) ?_)
 clear hK1 K1
 refine awp_seqK fun K2 hK2 => ?_
 refine awp_reg rfl ?_
 refine AR.op (r := G.api_Hist.av h_0) rfl (aop_load_pp rfl rfl sz24 rfl) ?_
 obtain ⟨r22, hr22, h⟩ := Sh.bind_some' h
 refine AR.op (r := bl r22) rfl (aop_call1 rfl rfl (by simp) (inquestref08_Right_ok hT hr22)) ?_
 refine AR.op (r := bl r22) rfl (aop_move (.inr rfl) rfl) ?_
 refine AR.nil ?_
 refine hK2 _ (AWP.weak (Weak.kt [1, 2, 3, 8] rfl) ?_)
 clear hK2 K2
 refine awp_seqK fun K3 hK3 => ?_
 refine awp_seqJ (fun (p : Bool) => (⟨[(1, i64 t_1), (2, i64 key_2), (3, .pp [.sl (List.map G.api_Txn.av h_0.Txns)] 0), (25, bl p)], .empty⟩ : St)) (fun (p : Bool) => G.inquestref09_From_j1 h_0 t_1 key_2 p = some r) ?_ ?_
 ·rintro v28 h
  replace h : G.inquestref09_From_j1 h_0 t_1 key_2 v28 = some r := h
  unfold G.inquestref09_From_j1 at h
  show AWP _ _ _ _ ⟨[(1, i64 t_1), (2, i64 key_2), (3, .pp [.sl (List.map G.api_Txn.av h_0.Txns)] 0), (25, bl v28)], .empty⟩ _
  refine awp_cond rfl (fun hb29 => ?_) (fun hb29 => ?_)
  ·replace h := Sh.if_t h hb29
   refine awp_seqK fun K4 hK4 => ?_
   refine awp_reg rfl ?_
   refine AR.op (r := i64 0) rfl (aop_move (.inr rfl) rfl) ?_
   refine AR.op (r := bl false) rfl (aop_move (.inr rfl) rfl) ?_
   refine AR.nil ?_
   refine hK4 _ (AWP.weak (Weak.kt [6, 7] rfl) ?_)
   clear hK4 K4
   refine awp_ret ?_
   obtain rfl := Option.some.inj h
   refine ⟨.inr rfl, .tuple [i64 0, bl false], rfl, ?_⟩
   exact Weak.re [] [] rfl rfl rfl (trivial) ⟨⟨.tuple [i64 0, bl false], rfl, .tp ⟨.sm, .sm, trivial⟩⟩, trivial⟩
  ·replace h := Sh.if_f h hb29
   refine awp_skip ?_
   refine hK3 _ (AWP.weak (Weak.kt [1, 2, 3] rfl) ?_)
   clear hK3 K3
   refine awp_seqK fun K5 hK5 => ?_
   refine awp_reg rfl ?_
   refine AR.op rfl (aop_field_pp rfl rfl fd24_0 (by decide)) ?_
   refine AR.op (r := .sl (List.map G.api_Txn.av h_0.Txns)) rfl (aop_load_pp rfl rfl sz22 rfl) ?_
   refine AR.op (r := i64 t_1) rfl (aop_move (.inl rfl) rfl) ?_
   refine AR.keep [2, 27, 28] rfl ?_
   obtain ⟨x32, hx32, h⟩ := Sh.bind_some' h
   obtain ⟨k33, hi33, hl33⟩ := Sh.idx_some hx32
   refine AR.op rfl (t_index_sl G.api_Txn.av h_0.Txns hi33 hl33 rfl rfl rfl el22 rfl) ?_
   refine AR.op rfl (aop_field_pp rfl rfl fd71_2 (by decide)) ?_
   refine AR.op (r := .sl (List.map G.api_Take.av x32.Reads)) rfl (aop_load_pp rfl rfl sz69 rfl) ?_
   refine AR.keep [2, 31] rfl ?_
   refine AR.op (r := .sl (List.map G.api_Take.av x32.Reads)) rfl (aop_move (.inr rfl) rfl) ?_
   refine AR.nil ?_
   refine hK5 _ (AWP.weak (Weak.kt [2, 9] rfl) ?_)
   clear hK5 K5
   refine awp_seqJ (fun (p : Unit) => (⟨[], .empty⟩ : St)) (fun (p : Unit) => G.inquestref09_From_j2 = some r) ?_ ?_
   ·rintro ⟨⟩ h
    replace h : G.inquestref09_From_j2 = some r := h
    unfold G.inquestref09_From_j2 at h
    show AWP _ _ _ _ ⟨[], .empty⟩ _
    refine awp_seqK fun K6 hK6 => ?_
    refine awp_reg rfl ?_
    refine AR.op (r := i64 0) rfl (aop_move (.inr rfl) rfl) ?_
    refine AR.op (r := bl false) rfl (aop_move (.inr rfl) rfl) ?_
    refine AR.nil ?_
    refine hK6 _ ?_
    clear hK6 K6
    refine awp_ret ?_
    obtain rfl := Option.some.inj h
    refine ⟨.inr rfl, .tuple [i64 0, bl false], rfl, ?_⟩
    exact Weak.re [] [] rfl rfl rfl (trivial) ⟨⟨.tuple [i64 0, bl false], rfl, .tp ⟨.sm, .sm, trivial⟩⟩, trivial⟩
   ·intro K7 hK7
    refine awp_seqK fun K8 hK8 => ?_
    refine awp_reg rfl ?_
    refine AR.op (r := i64 0) rfl (aop_move (.inr rfl) rfl) ?_
    refine AR.nil ?_
    refine hK8 _ ?_
    clear hK8 K8
    refine awp_block ?_
    refine awp_iter (fun (p : Int) => G.inquestref09_From_b1 key_2 x32 p) (fun (p : Int) => (⟨[(2, i64 key_2), (9, .sl (List.map G.api_Take.av x32.Reads)), (10, i64 p)], .empty⟩ : St)) h (Weak.kt [2, 9, 10] rfl) ?_
    ·skip
     rintro i57 o1 h hx1
     replace h : G.inquestref09_From_b1 key_2 x32 i57 = some o1 := h
     unfold G.inquestref09_From_b1 at h
     show AWP _ _ _ _ ⟨[(2, i64 key_2), (9, .sl (List.map G.api_Take.av x32.Reads)), (10, i64 i57)], .empty⟩ _
     refine awp_seqK fun K9 hK9 => ?_
     refine awp_seqK fun K10 hK10 => ?_
     refine awp_reg rfl ?_
     refine AR.op (r := i64 i57) rfl (aop_move (.inl rfl) rfl) ?_
     refine AR.op (r := .sl (List.map G.api_Take.av x32.Reads)) rfl (aop_move (.inl rfl) rfl) ?_
     refine AR.op (r := i64 (Sh.len x32.Reads)) rfl (t_len_sl G.api_Take.av x32.Reads rfl rfl el69) ?_
     refine AR.keep [2, 9, 10, 32, 34] rfl ?_
     refine AR.op (r := bl (decide (i57 < (Sh.len x32.Reads)))) rfl (aop_lss rfl rfl rfl) ?_
     refine AR.nil ?_
     refine hK10 _ (AWP.weak (Weak.kt [2, 9, 10, 35] rfl) ?_)
     clear hK10 K10
     refine awp_cond rfl (fun hb58 => ?_) (fun hb58 => ?_)
     ·replace h := Sh.if_t h hb58
      refine awp_skip ?_
      refine hK9 _ (AWP.weak (Weak.kt [2, 9, 10] rfl) ?_)
      clear hK9 K9
      refine awp_seqK fun K11 hK11 => ?_
      refine awp_block ?_
      refine awp_seqK fun K12 hK12 => ?_
      refine awp_reg rfl ?_
      refine AR.op (r := .sl (List.map G.api_Take.av x32.Reads)) rfl (aop_move (.inl rfl) rfl) ?_
      refine AR.op (r := i64 i57) rfl (aop_move (.inl rfl) rfl) ?_
      obtain ⟨x65, hx65, h⟩ := Sh.bind_some' h
      obtain ⟨k66, hi66, hl66⟩ := Sh.idx_some hx65
      refine AR.op rfl (t_index_sl G.api_Take.av x32.Reads hi66 hl66 rfl rfl rfl el69 rfl) ?_
      refine AR.keep [2, 9, 10, 40] rfl ?_
      refine AR.op rfl (aop_field_pp rfl rfl fd73_0 (by decide)) ?_
      refine AR.op (r := i64 x65.Key) rfl (aop_load_pp rfl rfl sz3 rfl) ?_
      refine AR.op (r := i64 key_2) rfl (aop_move (.inl rfl) rfl) ?_
      refine AR.keep [2, 9, 10, 42, 43] rfl ?_
      refine AR.op (r := bl (decide (x65.Key = key_2))) rfl (aop_eql rfl rfl rfl) ?_
      refine AR.nil ?_
      refine hK12 _ (AWP.weak (Weak.kt [2, 9, 10, 44] rfl) ?_)
      clear hK12 K12
      refine awp_cond rfl (fun hb67 => ?_) (fun hb67 => ?_)
      ·replace h := Sh.if_t h hb67
       refine awp_seqK fun K13 hK13 => ?_
       refine awp_reg rfl ?_
       refine AR.op (r := .sl (List.map G.api_Take.av x32.Reads)) rfl (aop_move (.inl rfl) rfl) ?_
       refine AR.op (r := i64 i57) rfl (aop_move (.inl rfl) rfl) ?_
       obtain ⟨x70, hx70, h⟩ := Sh.bind_some' h
       obtain ⟨k71, hi71, hl71⟩ := Sh.idx_some hx70
       refine AR.op rfl (t_index_sl G.api_Take.av x32.Reads hi71 hl71 rfl rfl rfl el69 rfl) ?_
       refine AR.keep [47] rfl ?_
       refine AR.op rfl (aop_field_pp rfl rfl fd73_1 (by decide)) ?_
       refine AR.op (r := i64 x70.From) rfl (aop_load_pp rfl rfl sz3 rfl) ?_
       refine AR.op (r := i64 x70.From) rfl (aop_move (.inr rfl) rfl) ?_
       refine AR.keep [6] rfl ?_
       refine AR.op (r := bl true) rfl (aop_move (.inr rfl) rfl) ?_
       refine AR.nil ?_
       refine hK13 _ ?_
       clear hK13 K13
       refine awp_ret ?_
       replace h := Sh.exit_eq h hx1
       obtain rfl := Option.some.inj h
       refine ⟨.inr rfl, .tuple [i64 x70.From, bl true], rfl, ?_⟩
       exact Weak.re [] [] rfl rfl rfl (trivial) ⟨⟨.tuple [i64 x70.From, bl true], rfl, .tp ⟨.sm, .sm, trivial⟩⟩, trivial⟩
      ·replace h := Sh.if_f h hb67
       refine awp_skip ?_
       refine hK11 _ (AWP.weak (Weak.kt [2, 9, 10] rfl) ?_)
       clear hK11 K11
       refine awp_reg rfl ?_
       refine AR.op (r := i64 i57) rfl (aop_move (.inl rfl) rfl) ?_
       refine AR.op (r := i64 (w64 (i57 + 1))) rfl (aop_add rfl rfl rfl rfl) ?_
       refine AR.op (r := i64 (w64 (i57 + 1))) rfl (aop_move (.inr rfl) rfl) ?_
       refine AR.nil ?_
       replace h := Sh.next_eq h
       exact ⟨_, h, Weak.re (fr' := [(2, i64 key_2), (9, .sl (List.map G.api_Take.av x32.Reads)), (10, i64 (w64 (i57 + 1)))]) (H' := .empty) [] [] rfl rfl rfl (trivial) ⟨⟨_, rfl, .sm⟩, ⟨.sl (List.map G.api_Take.av x32.Reads), rfl, .sm⟩, ⟨_, rfl, .sm⟩, trivial⟩⟩
     ·replace h := Sh.if_f h hb58
      refine awp_exit ?_
      replace h := Sh.exit_eq h hx1
      exact hK7 () _ h (Weak.kt [] rfl)
 ·intro K14 hK14
  refine awp_reg rfl ?_
  refine AR.op (r := bl r22) rfl (aop_move (.inl rfl) rfl) ?_
  refine AR.op (r := bl (!r22)) rfl (aop_not rfl rfl) ?_
  refine AR.op (r := bl (!r22)) rfl (aop_move (.inl rfl) rfl) ?_
  refine AR.keep [1, 2, 3, 15] rfl ?_
  rcases Bool.eq_false_or_eq_true (!r22) with hb72 | hb72
  ·rw [hb72]
   replace h := Sh.if_t h hb72
   refine AR.skip rfl ?_
   refine AR.skip rfl ?_
   refine AR.op (r := bl true) rfl (aop_pick rfl rfl rfl) ?_
   refine AR.keep [1, 2, 3, 18] rfl ?_
   refine AR.op (r := bl true) rfl (aop_move (.inl rfl) rfl) ?_
   refine AR.skip rfl ?_
   refine AR.skip rfl ?_
   refine AR.keep [1, 2, 3, 19, 20, 21] rfl ?_
   refine AR.skip rfl ?_
   refine AR.skip rfl ?_
   refine AR.skip rfl ?_
   refine AR.keep [1, 2, 3, 19, 24] rfl ?_
   refine AR.op (r := bl true) rfl (aop_pick rfl rfl rfl) ?_
   refine AR.nil ?_
   exact hK14 true _ h (Weak.kt [1, 2, 3, 25] rfl)
  ·rw [hb72]
   replace h := Sh.if_f h hb72
   refine AR.op (r := i64 t_1) rfl (aop_move (.inl rfl) rfl) ?_
   refine AR.op (r := bl (decide (t_1 < 0))) rfl (aop_lss rfl rfl rfl) ?_
   refine AR.op (r := bl (decide (t_1 < 0))) rfl (aop_pick rfl rfl rfl) ?_
   refine AR.keep [1, 2, 3, 18] rfl ?_
   refine AR.op (r := bl (decide (t_1 < 0))) rfl (aop_move (.inl rfl) rfl) ?_
   rcases Bool.eq_false_or_eq_true (decide (t_1 < 0)) with hb73 | hb73
   ·rw [hb73]
    replace h := Sh.if_t h hb73
    refine AR.skip rfl ?_
    refine AR.skip rfl ?_
    refine AR.keep [1, 2, 3, 19, 20, 21] rfl ?_
    refine AR.skip rfl ?_
    refine AR.skip rfl ?_
    refine AR.skip rfl ?_
    refine AR.keep [1, 2, 3, 19, 24] rfl ?_
    refine AR.op (r := bl true) rfl (aop_pick rfl rfl rfl) ?_
    refine AR.nil ?_
    exact hK14 true _ h (Weak.kt [1, 2, 3, 25] rfl)
   ·rw [hb73]
    replace h := Sh.if_f h hb73
    refine AR.op (r := i64 t_1) rfl (aop_move (.inl rfl) rfl) ?_
    refine AR.op rfl (aop_field_pp rfl rfl fd24_0 (by decide)) ?_
    refine AR.keep [1, 2, 3, 19, 20, 21] rfl ?_
    refine AR.op (r := .sl (List.map G.api_Txn.av h_0.Txns)) rfl (aop_load_pp rfl rfl sz22 rfl) ?_
    refine AR.op (r := i64 (Sh.len h_0.Txns)) rfl (t_len_sl G.api_Txn.av h_0.Txns rfl rfl el22) ?_
    refine AR.op (r := bl (decide ((Sh.len h_0.Txns) ≤ t_1))) rfl (aop_geq rfl rfl rfl) ?_
    refine AR.keep [1, 2, 3, 19, 24] rfl ?_
    refine AR.op (r := bl (decide ((Sh.len h_0.Txns) ≤ t_1))) rfl (aop_pick rfl rfl rfl) ?_
    refine AR.nil ?_
    exact hK14 (decide ((Sh.len h_0.Txns) ≤ t_1)) _ h (Weak.re (fr' := [(1, i64 t_1), (2, i64 key_2), (3, .pp [.sl (List.map G.api_Txn.av h_0.Txns)] 0), (25, bl (decide ((Sh.len h_0.Txns) ≤ t_1)))]) (H' := .empty) [] [] rfl rfl rfl (trivial) ⟨⟨_, rfl, .sm⟩, ⟨_, rfl, .sm⟩, ⟨_, rfl, .sm⟩, ⟨_, rfl, .sm⟩, trivial⟩)
theorem inquestref09_From_ok {W0 : World} (hT : Tab W0) {h_0 : G.api_Hist} {t_1 : Int} {key_2 : Int} {r : Int × Bool} (h : G.inquestref09_From h_0 t_1 key_2 = some r) : Fun1 Try.prog W0 63 [G.api_Hist.av h_0, i64 t_1, i64 key_2] (.tuple [i64 r.1, bl r.2]) := Fun1.two (inquestref09_From_ok0 hT h) (by simp)


theorem inquestref09_Choices_ok0 {W0 : World} (hT : Tab W0) {a_0 : List G.api_Choice} {b_1 : List G.api_Choice} {r : Bool} (h : G.inquestref09_Choices a_0 b_1 = some r) : Fun2 Try.prog W0 18 [.sl (List.map G.api_Choice.av a_0), .sl (List.map G.api_Choice.av b_1)] (bl r) .empty := by
 refine fun2_of_awp Try.func18 rfl (by kernel_rfl) Try.ntmps18 (by simp) ?_
 unfold G.inquestref09_Choices at h
 show AWP _ _ _ _ ⟨[(0, .sl (List.map G.api_Choice.av a_0)), (1, .sl (List.map G.api_Choice.av b_1))], .empty⟩ _
 refine awp_seqK fun K1 hK1 => ?_
 refine awp_reg rfl ?_
 refine AR.op (r := bl false) rfl (aop_move (.inr rfl) rfl) ?_
 refine AR.nil ?_
 refine hK1 _ (AWP.weak (Weak.kt [0, 1] rfl) ?_)
 clear hK1 K1
 refine awp_seqK fun K2 hK2 => ?_
 refine awp_seqK fun K3 hK3 => ?_
 refine awp_reg rfl ?_
 refine AR.op (r := .sl (List.map G.api_Choice.av a_0)) rfl (aop_move (.inl rfl) rfl) ?_
 refine AR.op (r := i64 (Sh.len a_0)) rfl (t_len_sl G.api_Choice.av a_0 rfl rfl el43) ?_
 refine AR.op (r := .sl (List.map G.api_Choice.av b_1)) rfl (aop_move (.inl rfl) rfl) ?_
 refine AR.keep [0, 1, 7, 8] rfl ?_
 refine AR.op (r := i64 (Sh.len b_1)) rfl (t_len_sl G.api_Choice.av b_1 rfl rfl el43) ?_
 refine AR.op (r := bl (decide ((Sh.len a_0) ≠ (Sh.len b_1)))) rfl (aop_neq rfl rfl rfl) ?_
 refine AR.nil ?_
 refine hK3 _ (AWP.weak (Weak.kt [0, 1, 10] rfl) ?_)
 clear hK3 K3
 refine awp_cond rfl (fun hb15 => ?_) (fun hb15 => ?_)
 ·replace h := Sh.if_t h hb15
  refine awp_seqK fun K4 hK4 => ?_
  refine awp_reg rfl ?_
  refine AR.op (r := bl false) rfl (aop_move (.inr rfl) rfl) ?_
  refine AR.nil ?_
  refine hK4 _ (AWP.weak (Weak.kt [4] rfl) ?_)
  clear hK4 K4
  refine awp_ret ?_
  obtain rfl := Option.some.inj h
  refine ⟨.inr rfl, bl false, rfl, ?_⟩
  exact Weak.re [] [] rfl rfl rfl (trivial) ⟨⟨_, rfl, .sm⟩, trivial⟩
 ·replace h := Sh.if_f h hb15
  refine awp_skip ?_
  refine hK2 _ (AWP.weak (Weak.kt [0, 1] rfl) ?_)
  clear hK2 K2
  refine awp_seqJ (fun (p : Unit) => (⟨[], .empty⟩ : St)) (fun (p : Unit) => G.inquestref09_Choices_j1 = some r) ?_ ?_
  ·rintro ⟨⟩ h
   replace h : G.inquestref09_Choices_j1 = some r := h
   unfold G.inquestref09_Choices_j1 at h
   show AWP _ _ _ _ ⟨[], .empty⟩ _
   refine awp_seqK fun K5 hK5 => ?_
   refine awp_reg rfl ?_
   refine AR.op (r := bl true) rfl (aop_move (.inr rfl) rfl) ?_
   refine AR.nil ?_
   refine hK5 _ ?_
   clear hK5 K5
   refine awp_ret ?_
   obtain rfl := Option.some.inj h
   refine ⟨.inr rfl, bl true, rfl, ?_⟩
   exact Weak.re [] [] rfl rfl rfl (trivial) ⟨⟨_, rfl, .sm⟩, trivial⟩
  ·intro K6 hK6
   refine awp_seqK fun K7 hK7 => ?_
   refine awp_reg rfl ?_
   refine AR.op (r := i64 0) rfl (aop_move (.inr rfl) rfl) ?_
   refine AR.nil ?_
   refine hK7 _ ?_
   clear hK7 K7
   refine awp_block ?_
   refine awp_iter (fun (p : Int) => G.inquestref09_Choices_b1 a_0 b_1 p) (fun (p : Int) => (⟨[(0, .sl (List.map G.api_Choice.av a_0)), (1, .sl (List.map G.api_Choice.av b_1)), (5, i64 p)], .empty⟩ : St)) h (Weak.kt [0, 1, 5] rfl) ?_
   ·skip
    rintro i39 o1 h hx1
    replace h : G.inquestref09_Choices_b1 a_0 b_1 i39 = some o1 := h
    unfold G.inquestref09_Choices_b1 at h
    show AWP _ _ _ _ ⟨[(0, .sl (List.map G.api_Choice.av a_0)), (1, .sl (List.map G.api_Choice.av b_1)), (5, i64 i39)], .empty⟩ _
    refine awp_seqK fun K8 hK8 => ?_
    refine awp_seqK fun K9 hK9 => ?_
    refine awp_reg rfl ?_
    refine AR.op (r := i64 i39) rfl (aop_move (.inl rfl) rfl) ?_
    refine AR.op (r := .sl (List.map G.api_Choice.av a_0)) rfl (aop_move (.inl rfl) rfl) ?_
    refine AR.op (r := i64 (Sh.len a_0)) rfl (t_len_sl G.api_Choice.av a_0 rfl rfl el43) ?_
    refine AR.keep [0, 1, 5, 11, 13] rfl ?_
    refine AR.op (r := bl (decide (i39 < (Sh.len a_0)))) rfl (aop_lss rfl rfl rfl) ?_
    refine AR.nil ?_
    refine hK9 _ (AWP.weak (Weak.kt [0, 1, 5, 14] rfl) ?_)
    clear hK9 K9
    refine awp_cond rfl (fun hb40 => ?_) (fun hb40 => ?_)
    ·replace h := Sh.if_t h hb40
     refine awp_skip ?_
     refine hK8 _ (AWP.weak (Weak.kt [0, 1, 5] rfl) ?_)
     clear hK8 K8
     refine awp_seqK fun K10 hK10 => ?_
     refine awp_block ?_
     refine awp_seqK fun K11 hK11 => ?_
     refine awp_any [(true, false), (true, false), (true, false), (true, false), (true, false), (true, false), (true, false), (true, false), (true, false)] (by kernel_rfl) (by kernel_rfl) rfl ?_
     refine ARH.dry (r := .sl (List.map G.api_Choice.av a_0)) rfl (fun _ => aop_move (.inl rfl) rfl) ?_
     refine ARH.dry (r := i64 i39) rfl (fun _ => aop_move (.inl rfl) rfl) ?_
     obtain ⟨x49, hx49, h⟩ := Sh.bind_some' h
     obtain ⟨k50, hi50, hl50⟩ := Sh.idx_some hx49
     refine ARH.dry rfl (fun _ => t_index_sl G.api_Choice.av a_0 hi50 hl50 rfl rfl rfl el43 rfl) ?_
     refine ARH.keep [0, 1, 5, 19] rfl ?_
     refine ARH.dry (r := G.api_Choice.av x49) rfl (fun _ => aop_load_pp rfl rfl sz27 rfl) ?_
     refine ARH.dry (r := .sl (List.map G.api_Choice.av b_1)) rfl (fun _ => aop_move (.inl rfl) rfl) ?_
     refine ARH.dry (r := i64 i39) rfl (fun _ => aop_move (.inl rfl) rfl) ?_
     refine ARH.keep [0, 1, 5, 20, 21, 22] rfl ?_
     obtain ⟨x51, hx51, h⟩ := Sh.bind_some' h
     obtain ⟨k52, hi52, hl52⟩ := Sh.idx_some hx51
     refine ARH.dry rfl (fun _ => t_index_sl G.api_Choice.av b_1 hi52 hl52 rfl rfl rfl el43 rfl) ?_
     refine ARH.dry (r := G.api_Choice.av x51) rfl (fun _ => aop_load_pp rfl rfl sz27 rfl) ?_
     refine ARH.dry (r := bl (!decide (x49 = x51))) rfl (fun _ => t_ne_api_Choice (a := x49) (b := x51) rfl rfl rfl) ?_
     refine ARH.nil ?_
     refine hK11 _ (AWP.weak (Weak.kt [0, 1, 5, 25] rfl) ?_)
     clear hK11 K11
     refine awp_cond rfl (fun hb53 => ?_) (fun hb53 => ?_)
     ·replace h := Sh.if_t h hb53
      refine awp_seqK fun K12 hK12 => ?_
      refine awp_reg rfl ?_
      refine AR.op (r := bl false) rfl (aop_move (.inr rfl) rfl) ?_
      refine AR.nil ?_
      refine hK12 _ (AWP.weak (Weak.kt [4] rfl) ?_)
      clear hK12 K12
      refine awp_ret ?_
      replace h := Sh.exit_eq h hx1
      obtain rfl := Option.some.inj h
      refine ⟨.inr rfl, bl false, rfl, ?_⟩
      exact Weak.re [] [] rfl rfl rfl (trivial) ⟨⟨_, rfl, .sm⟩, trivial⟩
     ·replace h := Sh.if_f h hb53
      refine awp_skip ?_
      refine hK10 _ (AWP.weak (Weak.kt [0, 1, 5] rfl) ?_)
      clear hK10 K10
      refine awp_reg rfl ?_
      refine AR.op (r := i64 i39) rfl (aop_move (.inl rfl) rfl) ?_
      refine AR.op (r := i64 (w64 (i39 + 1))) rfl (aop_add rfl rfl rfl rfl) ?_
      refine AR.op (r := i64 (w64 (i39 + 1))) rfl (aop_move (.inr rfl) rfl) ?_
      refine AR.nil ?_
      replace h := Sh.next_eq h
      exact ⟨_, h, Weak.re (fr' := [(0, .sl (List.map G.api_Choice.av a_0)), (1, .sl (List.map G.api_Choice.av b_1)), (5, i64 (w64 (i39 + 1)))]) (H' := .empty) [] [] rfl rfl rfl (trivial) ⟨⟨.sl (List.map G.api_Choice.av a_0), rfl, .sm⟩, ⟨.sl (List.map G.api_Choice.av b_1), rfl, .sm⟩, ⟨_, rfl, .sm⟩, trivial⟩⟩
    ·replace h := Sh.if_f h hb40
     refine awp_exit ?_
     replace h := Sh.exit_eq h hx1
     exact hK6 () _ h (Weak.kt [] rfl)
theorem inquestref09_Choices_ok {W0 : World} (hT : Tab W0) {a_0 : List G.api_Choice} {b_1 : List G.api_Choice} {r : Bool} (h : G.inquestref09_Choices a_0 b_1 = some r) : Fun1 Try.prog W0 18 [.sl (List.map G.api_Choice.av a_0), .sl (List.map G.api_Choice.av b_1)] (bl r) := Fun1.two (inquestref09_Choices_ok0 hT h) (by simp)


end Wk
