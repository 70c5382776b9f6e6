/- That the functions of a package do what their plain functions say. -/
import Derived.Test.YtdeepljikmgjjaaSh
import Derived.Test.YtdeepljikmgjjaaWkSFacts
import Derived.Test.YtdeepljikmgjjaaWkSinquestref08
open Go Go.Av Go.Proofs
set_option linter.unusedVariables false
set_option maxHeartbeats 8000000
set_option maxRecDepth 20000
namespace Wk
theorem inquestref09_From_ok0 {W0 : World} (hT : Tab W0) {h_0 : G.api_Hist} {t_1 : Int} {key_2 : Int} {r : Int × Bool} (h : G.inquestref09_From h_0 t_1 key_2 = some r) : Fun2 Try.prog W0 56 [G.api_Hist.av h_0, i64 t_1, i64 key_2] (.tuple [i64 r.1, bl r.2]) .empty := by
 refine fun2_of_awp Try.func56 rfl (by kernel_rfl) Try.ntmps56 (by simp) ?_
 unfold G.inquestref09_From at h
 show AWP _ _ _ _ ⟨[(0, G.api_Hist.av h_0), (1, i64 t_1), (2, i64 key_2)], .empty⟩ _
 refine awp_seqK fun K1 hK1 => awp_reg rfl <| AR.op (r := .ref 0 0 0) rfl (aop_box 1 [G.api_Hist.av h_0] rfl rfl rfl (.inl ⟨rfl, rfl⟩)) <| AR.op rfl (aop_move (.inr rfl) rfl) <| AR.op rfl (aop_move (.inr rfl) rfl) <| AR.nil <| hK1 _ (AWP.weak (Weak.e (fr' := [(1, i64 t_1), (2, i64 key_2), (3, .pp [.sl (List.map G.api_Txn.av h_0.Txns)] 0)]) (H' := .empty) ⟨.k, .k, ⟨_, rfl, .frzA rfl rfl rfl rfl (by simp)⟩, trivial⟩) ?_)
 refine awp_seqK fun K2 hK2 => awp_reg rfl <| AR.op (r := G.api_Hist.av h_0) rfl (aop_load_pp rfl rfl sz24 rfl) ?_
 obtain ⟨r22, hr22, h⟩ := Sh.bind_some' h
 refine AR.op (r := bl r22) rfl (aop_call1 rfl rfl (by simp) (inquestref08_Right_ok hT hr22)) <| AR.op rfl (aop_move (.inr rfl) rfl) <| AR.nil <| hK2 _ (AWP.weak (Weak.kt [1, 2, 3, 8] rfl) ?_)
 refine awp_seqK fun K3 hK3 => awp_seqJ (fun (p : Bool) => (⟨[(1, i64 t_1), (2, i64 key_2), (3, .pp [.sl (List.map G.api_Txn.av h_0.Txns)] 0), (25, bl p)], .empty⟩ : St)) (fun (p : Bool) => G.inquestref09_From_j1 h_0 t_1 key_2 p = some r) ?_ ?_
 ·rintro v28 h
  replace h : G.inquestref09_From_j1 h_0 t_1 key_2 v28 = some r := h
  unfold G.inquestref09_From_j1 at h
  refine awp_cond rfl (fun hb29 => ?_) (fun hb29 => ?_)
  ·replace h := Sh.if_t h hb29
   refine awp_seqK fun K4 hK4 => awp_reg rfl <| AR.op rfl (aop_move (.inr rfl) rfl) <| AR.op rfl (aop_move (.inr rfl) rfl) <| AR.nil <| hK4 _ (AWP.weak (Weak.kt [6, 7] rfl) ?_)
   refine awp_ret ?_
   obtain rfl := Option.some.inj h
   refine ⟨.inr rfl, .tuple [i64 0, bl false], rfl, ?_⟩
   exact Weak.e ⟨⟨.tuple [i64 0, bl false], rfl, .tp ⟨.sm, .sm, trivial⟩⟩, trivial⟩
  ·replace h := Sh.if_f h hb29
   refine awp_skip <| hK3 _ (AWP.weak (Weak.kt [1, 2, 3] rfl) ?_)
   refine awp_seqK fun K5 hK5 => awp_reg rfl <| AR.op rfl (aop_field_pp rfl rfl fd24_0 (by decide)) <| AR.op (r := .sl (List.map G.api_Txn.av h_0.Txns)) rfl (aop_load_pp rfl rfl sz22 rfl) <| AR.op rfl (aop_move (.inl rfl) rfl) <| AR.keep [2, 27, 28] rfl ?_
   obtain ⟨x32, hx32, h⟩ := Sh.bind_some' h
   obtain ⟨k33, hi33, hl33⟩ := Sh.idx_some hx32
   refine AR.op rfl (t_index_sl G.api_Txn.av h_0.Txns hi33 hl33 rfl rfl rfl el22 rfl) <| AR.op rfl (aop_field_pp rfl rfl fd58_2 (by decide)) <| AR.op (r := .sl (List.map G.api_Take.av x32.Reads)) rfl (aop_load_pp rfl rfl sz56 rfl) <| AR.keep [2, 31] rfl <| AR.op rfl (aop_move (.inr rfl) rfl) <| AR.nil <| hK5 _ (AWP.weak (Weak.kt [2, 9] rfl) ?_)
   refine awp_seqJ (fun (p : Unit) => (⟨[], .empty⟩ : St)) (fun (p : Unit) => G.inquestref09_From_j2 = some r) ?_ ?_
   ·rintro ⟨⟩ h
    replace h : G.inquestref09_From_j2 = some r := h
    unfold G.inquestref09_From_j2 at h
    refine awp_seqK fun K6 hK6 => awp_reg rfl <| AR.op rfl (aop_move (.inr rfl) rfl) <| AR.op rfl (aop_move (.inr rfl) rfl) <| AR.nil <| hK6 _ ?_
    refine awp_ret ?_
    obtain rfl := Option.some.inj h
    refine ⟨.inr rfl, .tuple [i64 0, bl false], rfl, ?_⟩
    exact Weak.e ⟨⟨.tuple [i64 0, bl false], rfl, .tp ⟨.sm, .sm, trivial⟩⟩, trivial⟩
   ·intro K7 hK7
    refine awp_seqK fun K8 hK8 => awp_reg rfl <| AR.op rfl (aop_move (.inr rfl) rfl) <| AR.nil <| hK8 _ ?_
    refine awp_block <| awp_iter (fun (p : Int) => G.inquestref09_From_b1 key_2 x32 p) (fun (p : Int) => (⟨[(2, i64 key_2), (9, .sl (List.map G.api_Take.av x32.Reads)), (10, i64 p)], .empty⟩ : St)) h (Weak.kt [2, 9, 10] rfl) ?_
    ·skip
     rintro i57 o1 h hx1
     replace h : G.inquestref09_From_b1 key_2 x32 i57 = some o1 := h
     unfold G.inquestref09_From_b1 at h
     refine awp_seqK fun K9 hK9 => awp_seqK fun K10 hK10 => awp_reg rfl <| AR.op rfl (aop_move (.inl rfl) rfl) <| AR.op rfl (aop_move (.inl rfl) rfl) <| AR.op rfl (t_len_sl G.api_Take.av x32.Reads rfl rfl el56) <| AR.keep [2, 9, 10, 32, 34] rfl <| AR.op rfl (aop_lss rfl rfl rfl) ?_
     refine AR.nil <| hK10 _ (AWP.weak (Weak.kt [2, 9, 10, 35] rfl) ?_)
     refine awp_cond rfl (fun hb58 => ?_) (fun hb58 => ?_)
     ·replace h := Sh.if_t h hb58
      refine awp_skip <| hK9 _ (AWP.weak (Weak.kt [2, 9, 10] rfl) ?_)
      refine awp_seqK fun K11 hK11 => awp_block <| awp_seqK fun K12 hK12 => awp_reg rfl <| AR.op rfl (aop_move (.inl rfl) rfl) <| AR.op rfl (aop_move (.inl rfl) rfl) ?_
      obtain ⟨x65, hx65, h⟩ := Sh.bind_some' h
      obtain ⟨k66, hi66, hl66⟩ := Sh.idx_some hx65
      refine AR.op rfl (t_index_sl G.api_Take.av x32.Reads hi66 hl66 rfl rfl rfl el56 rfl) <| AR.keep [2, 9, 10, 40] rfl <| AR.op rfl (aop_field_pp rfl rfl fd78_0 (by decide)) <| AR.op (r := i64 x65.Key) rfl (aop_load_pp rfl rfl sz3 rfl) <| AR.op rfl (aop_move (.inl rfl) rfl) <| AR.keep [2, 9, 10, 42, 43] rfl <| AR.op (r := bl (decide (x65.Key = key_2))) rfl (aop_eql rfl rfl rfl) <| AR.nil ?_
      refine hK12 _ (AWP.weak (Weak.kt [2, 9, 10, 44] rfl) ?_)
      refine awp_cond rfl (fun hb67 => ?_) (fun hb67 => ?_)
      ·replace h := Sh.if_t h hb67
       refine awp_seqK fun K13 hK13 => awp_reg rfl <| AR.op rfl (aop_move (.inl rfl) rfl) <| AR.op rfl (aop_move (.inl rfl) rfl) ?_
       obtain ⟨x70, hx70, h⟩ := Sh.bind_some' h
       obtain ⟨k71, hi71, hl71⟩ := Sh.idx_some hx70
       refine AR.op rfl (t_index_sl G.api_Take.av x32.Reads hi71 hl71 rfl rfl rfl el56 rfl) <| AR.keep [47] rfl <| AR.op rfl (aop_field_pp rfl rfl fd78_1 (by decide)) <| AR.op (r := i64 x70.From) rfl (aop_load_pp rfl rfl sz3 rfl) <| AR.op rfl (aop_move (.inr rfl) rfl) <| AR.keep [6] rfl <| AR.op rfl (aop_move (.inr rfl) rfl) <| AR.nil ?_
       refine hK13 _ ?_
       refine awp_ret ?_
       replace h := Sh.exit_eq h hx1
       obtain rfl := Option.some.inj h
       refine ⟨.inr rfl, .tuple [i64 x70.From, bl true], rfl, ?_⟩
       exact Weak.e ⟨⟨.tuple [i64 x70.From, bl true], rfl, .tp ⟨.sm, .sm, trivial⟩⟩, trivial⟩
      ·replace h := Sh.if_f h hb67
       refine awp_skip <| hK11 _ (AWP.weak (Weak.kt [2, 9, 10] rfl) ?_)
       refine awp_reg rfl <| AR.op rfl (aop_move (.inl rfl) rfl) <| AR.op rfl (aop_add rfl rfl rfl rfl) <| AR.op rfl (aop_move (.inr rfl) rfl) <| AR.nil ?_
       replace h := Sh.next_eq h
       exact ⟨_, h, Weak.kt [2, 9, 10] rfl⟩
     ·replace h := Sh.if_f h hb58
      refine awp_exit ?_
      replace h := Sh.exit_eq h hx1
      exact hK7 () _ h (Weak.kt [] rfl)
 ·intro K14 hK14
  refine awp_reg rfl <| AR.op rfl (aop_move (.inl rfl) rfl) <| AR.op (r := bl (!r22)) rfl (aop_not rfl rfl) <| AR.op rfl (aop_move (.inl rfl) rfl) <| AR.keep [1, 2, 3, 15] rfl ?_
  rcases Bool.eq_false_or_eq_true (!r22) with hb72 | hb72
  ·rw [hb72]
   replace h := Sh.if_t h hb72
   refine AR.skip rfl <| AR.skip rfl <| AR.op rfl (aop_pick rfl rfl rfl) <| AR.keep [1, 2, 3, 18] rfl <| AR.op rfl (aop_move (.inl rfl) rfl) <| AR.skip rfl <| AR.skip rfl <| AR.keep [1, 2, 3, 19, 20, 21] rfl ?_
   refine AR.skip rfl <| AR.skip rfl <| AR.skip rfl <| AR.keep [1, 2, 3, 19, 24] rfl <| AR.op rfl (aop_pick rfl rfl rfl) <| AR.nil ?_
   exact hK14 true _ h (Weak.kt [1, 2, 3, 25] rfl)
  ·rw [hb72]
   replace h := Sh.if_f h hb72
   refine AR.op rfl (aop_move (.inl rfl) rfl) <| AR.op rfl (aop_lss rfl rfl rfl) <| AR.op rfl (aop_pick rfl rfl rfl) <| AR.keep [1, 2, 3, 18] rfl <| AR.op rfl (aop_move (.inl rfl) rfl) ?_
   rcases Bool.eq_false_or_eq_true (decide (t_1 < 0)) with hb73 | hb73
   ·rw [hb73]
    replace h := Sh.if_t h hb73
    refine AR.skip rfl <| AR.skip rfl <| AR.keep [1, 2, 3, 19, 20, 21] rfl <| AR.skip rfl <| AR.skip rfl <| AR.skip rfl <| AR.keep [1, 2, 3, 19, 24] rfl <| AR.op rfl (aop_pick rfl rfl rfl) ?_
    refine AR.nil ?_
    exact hK14 true _ h (Weak.kt [1, 2, 3, 25] rfl)
   ·rw [hb73]
    replace h := Sh.if_f h hb73
    refine AR.op rfl (aop_move (.inl rfl) rfl) <| AR.op rfl (aop_field_pp rfl rfl fd24_0 (by decide)) <| AR.keep [1, 2, 3, 19, 20, 21] rfl <| AR.op (r := .sl (List.map G.api_Txn.av h_0.Txns)) rfl (aop_load_pp rfl rfl sz22 rfl) <| AR.op rfl (t_len_sl G.api_Txn.av h_0.Txns rfl rfl el22) <| AR.op rfl (aop_geq rfl rfl rfl) <| AR.keep [1, 2, 3, 19, 24] rfl <| AR.op rfl (aop_pick rfl rfl rfl) ?_
    refine AR.nil ?_
    exact hK14 (decide ((Sh.len h_0.Txns) ≤ t_1)) _ h (Weak.kt [1, 2, 3, 25] rfl)
theorem inquestref09_From_ok {W0 : World} (hT : Tab W0) {h_0 : G.api_Hist} {t_1 : Int} {key_2 : Int} {r : Int × Bool} (h : G.inquestref09_From h_0 t_1 key_2 = some r) : Fun1 Try.prog W0 56 [G.api_Hist.av h_0, i64 t_1, i64 key_2] (.tuple [i64 r.1, bl r.2]) := Fun1.two (inquestref09_From_ok0 hT h) (by simp)


theorem inquestref09_Choices_ok0 {W0 : World} (hT : Tab W0) {a_0 : List G.api_Choice} {b_1 : List G.api_Choice} {r : Bool} (h : G.inquestref09_Choices a_0 b_1 = some r) : Fun2 Try.prog W0 21 [.sl (List.map G.api_Choice.av a_0), .sl (List.map G.api_Choice.av b_1)] (bl r) .empty := by
 refine fun2_of_awp Try.func21 rfl (by kernel_rfl) Try.ntmps21 (by simp) ?_
 unfold G.inquestref09_Choices at h
 show AWP _ _ _ _ ⟨[(0, .sl (List.map G.api_Choice.av a_0)), (1, .sl (List.map G.api_Choice.av b_1))], .empty⟩ _
 refine awp_seqK fun K1 hK1 => awp_reg rfl <| AR.op rfl (aop_move (.inr rfl) rfl) <| AR.nil <| hK1 _ (AWP.weak (Weak.kt [0, 1] rfl) ?_)
 refine awp_seqK fun K2 hK2 => awp_seqK fun K3 hK3 => awp_reg rfl <| AR.op rfl (aop_move (.inl rfl) rfl) <| AR.op rfl (t_len_sl G.api_Choice.av a_0 rfl rfl el53) <| AR.op rfl (aop_move (.inl rfl) rfl) <| AR.keep [0, 1, 7, 8] rfl <| AR.op rfl (t_len_sl G.api_Choice.av b_1 rfl rfl el53) ?_
 refine AR.op (r := bl (decide ((Sh.len a_0) ≠ (Sh.len b_1)))) rfl (aop_neq rfl rfl rfl) <| AR.nil <| hK3 _ (AWP.weak (Weak.kt [0, 1, 10] rfl) ?_)
 refine awp_cond rfl (fun hb15 => ?_) (fun hb15 => ?_)
 ·replace h := Sh.if_t h hb15
  refine awp_seqK fun K4 hK4 => awp_reg rfl <| AR.op rfl (aop_move (.inr rfl) rfl) <| AR.nil <| hK4 _ (AWP.weak (Weak.kt [4] rfl) ?_)
  refine awp_ret ?_
  obtain rfl := Option.some.inj h
  refine ⟨.inr rfl, bl false, rfl, ?_⟩
  exact Weak.e ⟨.k, trivial⟩
 ·replace h := Sh.if_f h hb15
  refine awp_skip <| hK2 _ (AWP.weak (Weak.kt [0, 1] rfl) ?_)
  refine awp_seqJ (fun (p : Unit) => (⟨[], .empty⟩ : St)) (fun (p : Unit) => G.inquestref09_Choices_j1 = some r) ?_ ?_
  ·rintro ⟨⟩ h
   replace h : G.inquestref09_Choices_j1 = some r := h
   unfold G.inquestref09_Choices_j1 at h
   refine awp_seqK fun K5 hK5 => awp_reg rfl <| AR.op rfl (aop_move (.inr rfl) rfl) <| AR.nil <| hK5 _ ?_
   refine awp_ret ?_
   obtain rfl := Option.some.inj h
   refine ⟨.inr rfl, bl true, rfl, ?_⟩
   exact Weak.e ⟨.k, trivial⟩
  ·intro K6 hK6
   refine awp_seqK fun K7 hK7 => awp_reg rfl <| AR.op rfl (aop_move (.inr rfl) rfl) <| AR.nil <| hK7 _ ?_
   refine awp_block <| awp_iter (fun (p : Int) => G.inquestref09_Choices_b1 a_0 b_1 p) (fun (p : Int) => (⟨[(0, .sl (List.map G.api_Choice.av a_0)), (1, .sl (List.map G.api_Choice.av b_1)), (5, i64 p)], .empty⟩ : St)) h (Weak.kt [0, 1, 5] rfl) ?_
   ·skip
    rintro i39 o1 h hx1
    replace h : G.inquestref09_Choices_b1 a_0 b_1 i39 = some o1 := h
    unfold G.inquestref09_Choices_b1 at h
    refine awp_seqK fun K8 hK8 => awp_seqK fun K9 hK9 => awp_reg rfl <| AR.op rfl (aop_move (.inl rfl) rfl) <| AR.op rfl (aop_move (.inl rfl) rfl) <| AR.op rfl (t_len_sl G.api_Choice.av a_0 rfl rfl el53) <| AR.keep [0, 1, 5, 11, 13] rfl <| AR.op rfl (aop_lss rfl rfl rfl) ?_
    refine AR.nil <| hK9 _ (AWP.weak (Weak.kt [0, 1, 5, 14] rfl) ?_)
    refine awp_cond rfl (fun hb40 => ?_) (fun hb40 => ?_)
    ·replace h := Sh.if_t h hb40
     refine awp_skip <| hK8 _ (AWP.weak (Weak.kt [0, 1, 5] rfl) ?_)
     refine awp_seqK fun K10 hK10 => awp_block <| awp_seqK fun K11 hK11 => awp_any [(true, false), (true, false), (true, false), (true, false), (true, false), (true, false), (true, false), (true, false), (true, false)] (by kernel_rfl) (by kernel_rfl) rfl ?_
     refine ARH.dry rfl (fun _ => aop_move (.inl rfl) rfl) <| ARH.dry rfl (fun _ => aop_move (.inl rfl) rfl) ?_
     obtain ⟨x49, hx49, h⟩ := Sh.bind_some' h
     obtain ⟨k50, hi50, hl50⟩ := Sh.idx_some hx49
     refine ARH.dry rfl (fun _ => t_index_sl G.api_Choice.av a_0 hi50 hl50 rfl rfl rfl el53 rfl) <| ARH.keep [0, 1, 5, 19] rfl <| ARH.dry (r := G.api_Choice.av x49) rfl (fun _ => aop_load_pp rfl rfl sz35 rfl) <| ARH.dry rfl (fun _ => aop_move (.inl rfl) rfl) <| ARH.dry rfl (fun _ => aop_move (.inl rfl) rfl) <| ARH.keep [0, 1, 5, 20, 21, 22] rfl ?_
     obtain ⟨x51, hx51, h⟩ := Sh.bind_some' h
     obtain ⟨k52, hi52, hl52⟩ := Sh.idx_some hx51
     refine ARH.dry rfl (fun _ => t_index_sl G.api_Choice.av b_1 hi52 hl52 rfl rfl rfl el53 rfl) <| ARH.dry (r := G.api_Choice.av x51) rfl (fun _ => aop_load_pp rfl rfl sz35 rfl) <| ARH.dry (r := bl (!decide (x49 = x51))) rfl (fun _ => t_ne_api_Choice (a := x49) (b := x51) rfl rfl rfl) <| ARH.nil <| hK11 _ (AWP.weak (Weak.kt [0, 1, 5, 25] rfl) ?_)
     refine awp_cond rfl (fun hb53 => ?_) (fun hb53 => ?_)
     ·replace h := Sh.if_t h hb53
      refine awp_seqK fun K12 hK12 => awp_reg rfl <| AR.op rfl (aop_move (.inr rfl) rfl) <| AR.nil <| hK12 _ (AWP.weak (Weak.kt [4] rfl) ?_)
      refine awp_ret ?_
      replace h := Sh.exit_eq h hx1
      obtain rfl := Option.some.inj h
      refine ⟨.inr rfl, bl false, rfl, ?_⟩
      exact Weak.e ⟨.k, trivial⟩
     ·replace h := Sh.if_f h hb53
      refine awp_skip <| hK10 _ (AWP.weak (Weak.kt [0, 1, 5] rfl) ?_)
      refine awp_reg rfl <| AR.op rfl (aop_move (.inl rfl) rfl) <| AR.op rfl (aop_add rfl rfl rfl rfl) <| AR.op rfl (aop_move (.inr rfl) rfl) <| AR.nil ?_
      replace h := Sh.next_eq h
      exact ⟨_, h, Weak.kt [0, 1, 5] rfl⟩
    ·replace h := Sh.if_f h hb40
     refine awp_exit ?_
     replace h := Sh.exit_eq h hx1
     exact hK6 () _ h (Weak.kt [] rfl)
theorem inquestref09_Choices_ok {W0 : World} (hT : Tab W0) {a_0 : List G.api_Choice} {b_1 : List G.api_Choice} {r : Bool} (h : G.inquestref09_Choices a_0 b_1 = some r) : Fun1 Try.prog W0 21 [.sl (List.map G.api_Choice.av a_0), .sl (List.map G.api_Choice.av b_1)] (bl r) := Fun1.two (inquestref09_Choices_ok0 hT h) (by simp)

end Wk
