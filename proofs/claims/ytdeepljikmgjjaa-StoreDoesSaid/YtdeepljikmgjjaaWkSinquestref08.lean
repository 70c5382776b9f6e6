/- That the functions of a package do what their plain functions say. -/
import Derived.Test.YtdeepljikmgjjaaSh
import Derived.Test.YtdeepljikmgjjaaWkSFacts
open Go Go.Av Go.Proofs
set_option linter.unusedVariables false
set_option maxHeartbeats 8000000
set_option maxRecDepth 20000
namespace Wk
theorem inquestref08_Few_ok0 {W0 : World} (hT : Tab W0) {h_0 : G.api_Hist} {many_1 : Int} {r : Bool} (h : G.inquestref08_Few h_0 many_1 = some r) : Fun2 Try.prog W0 8 [G.api_Hist.av h_0, i64 many_1] (bl r) .empty := by
 refine fun2_of_awp Try.func8 rfl (by kernel_rfl) Try.ntmps8 (by simp) ?_
 unfold G.inquestref08_Few at h
 show AWP _ _ _ _ ⟨[(0, G.api_Hist.av h_0), (1, i64 many_1)], .empty⟩ _
 refine awp_seqK fun K1 hK1 => awp_reg rfl <| AR.op (r := .ref 0 0 0) rfl (aop_box 1 [G.api_Hist.av h_0] rfl rfl rfl (.inl ⟨rfl, rfl⟩)) <| AR.op rfl (aop_move (.inr rfl) rfl) <| AR.nil <| hK1 _ (AWP.weak (Weak.e (fr' := [(1, i64 many_1), (2, .pp [.sl (List.map G.api_Txn.av h_0.Txns)] 0)]) (H' := .empty) ⟨.k, ⟨_, rfl, .frzA rfl rfl rfl rfl (by simp)⟩, trivial⟩) ?_)
 refine awp_seqK fun K2 hK2 => awp_seqK fun K3 hK3 => awp_reg rfl <| AR.op rfl (aop_field_pp rfl rfl fd24_0 (by decide)) <| AR.op (r := .sl (List.map G.api_Txn.av h_0.Txns)) rfl (aop_load_pp rfl rfl sz22 rfl) <| AR.op rfl (t_len_sl G.api_Txn.av h_0.Txns rfl rfl el22) <| AR.keep [1, 2, 8] rfl <| AR.op rfl (aop_move (.inl rfl) rfl) ?_
 refine AR.op rfl (aop_gtr rfl rfl rfl) <| AR.nil <| hK3 _ (AWP.weak (Weak.kt [2, 10] rfl) ?_)
 refine awp_cond rfl (fun hb21 => ?_) (fun hb21 => ?_)
 ·replace h := Sh.if_t h hb21
  refine awp_seqK fun K4 hK4 => awp_reg rfl <| AR.op rfl (aop_move (.inr rfl) rfl) <| AR.nil <| hK4 _ (AWP.weak (Weak.kt [4] rfl) ?_)
  refine awp_ret ?_
  obtain rfl := Option.some.inj h
  refine ⟨.inr rfl, bl false, rfl, ?_⟩
  exact Weak.e ⟨.k, trivial⟩
 ·replace h := Sh.if_f h hb21
  refine awp_skip <| hK2 _ (AWP.weak (Weak.kt [2] rfl) ?_)
  refine awp_seqJ (fun (p : Unit) => (⟨[], .empty⟩ : St)) (fun (p : Unit) => G.inquestref08_Few_j1 = some r) ?_ ?_
  ·rintro ⟨⟩ h
   replace h : G.inquestref08_Few_j1 = some r := h
   unfold G.inquestref08_Few_j1 at h
   refine awp_seqK fun K5 hK5 => awp_reg rfl <| AR.op rfl (aop_move (.inr rfl) rfl) <| AR.nil <| hK5 _ ?_
   refine awp_ret ?_
   obtain rfl := Option.some.inj h
   refine ⟨.inr rfl, bl true, rfl, ?_⟩
   exact Weak.e ⟨.k, trivial⟩
  ·intro K6 hK6
   refine awp_seqK fun K7 hK7 => awp_reg rfl <| AR.op rfl (aop_move (.inr rfl) rfl) <| AR.nil <| hK7 _ ?_
   refine awp_block <| awp_iter (fun (p : Int) => G.inquestref08_Few_b1 h_0 p) (fun (p : Int) => (⟨[(2, .pp [.sl (List.map G.api_Txn.av h_0.Txns)] 0), (5, i64 p)], .empty⟩ : St)) h (Weak.kt [2, 5] rfl) ?_
   ·skip
    rintro i55 o1 h hx1
    replace h : G.inquestref08_Few_b1 h_0 i55 = some o1 := h
    unfold G.inquestref08_Few_b1 at h
    refine awp_seqK fun K8 hK8 => awp_seqK fun K9 hK9 => awp_reg rfl <| AR.op rfl (aop_move (.inl rfl) rfl) <| AR.op rfl (aop_field_pp rfl rfl fd24_0 (by decide)) <| AR.op (r := .sl (List.map G.api_Txn.av h_0.Txns)) rfl (aop_load_pp rfl rfl sz22 rfl) <| AR.keep [2, 5, 11, 13] rfl <| AR.op rfl (t_len_sl G.api_Txn.av h_0.Txns rfl rfl el22) ?_
    refine AR.op rfl (aop_lss rfl rfl rfl) <| AR.nil <| hK9 _ (AWP.weak (Weak.kt [2, 5, 15] rfl) ?_)
    refine awp_cond rfl (fun hb56 => ?_) (fun hb56 => ?_)
    ·replace h := Sh.if_t h hb56
     refine awp_skip <| hK8 _ (AWP.weak (Weak.kt [2, 5] rfl) ?_)
     refine awp_seqK fun K10 hK10 => awp_block <| awp_seqJ (fun (p : Bool) => (⟨[(2, .pp [.sl (List.map G.api_Txn.av h_0.Txns)] 0), (5, i64 i55), (35, bl p)], .empty⟩ : St)) (fun (p : Bool) => G.inquestref08_Few_j2 i55 p = some o1) ?_ ?_
     ·rintro v68 h
      replace h : G.inquestref08_Few_j2 i55 v68 = some o1 := h
      unfold G.inquestref08_Few_j2 at h
      refine awp_cond rfl (fun hb69 => ?_) (fun hb69 => ?_)
      ·replace h := Sh.if_t h hb69
       refine awp_seqK fun K11 hK11 => awp_reg rfl <| AR.op rfl (aop_move (.inr rfl) rfl) <| AR.nil <| hK11 _ (AWP.weak (Weak.kt [4] rfl) ?_)
       refine awp_ret ?_
       replace h := Sh.exit_eq h hx1
       obtain rfl := Option.some.inj h
       refine ⟨.inr rfl, bl false, rfl, ?_⟩
       exact Weak.e ⟨.k, trivial⟩
      ·replace h := Sh.if_f h hb69
       refine awp_skip <| hK10 _ (AWP.weak (Weak.kt [2, 5] rfl) ?_)
       refine awp_reg rfl <| AR.op rfl (aop_move (.inl rfl) rfl) <| AR.op rfl (aop_add rfl rfl rfl rfl) <| AR.op rfl (aop_move (.inr rfl) rfl) <| AR.nil ?_
       replace h := Sh.next_eq h
       exact ⟨_, h, Weak.kt [2, 5] rfl⟩
     ·intro K12 hK12
      refine awp_reg rfl <| AR.op rfl (aop_field_pp rfl rfl fd24_0 (by decide)) <| AR.op (r := .sl (List.map G.api_Txn.av h_0.Txns)) rfl (aop_load_pp rfl rfl sz22 rfl) <| AR.op rfl (aop_move (.inl rfl) rfl) <| AR.keep [2, 5, 19, 20] rfl ?_
      obtain ⟨x70, hx70, h⟩ := Sh.bind_some' h
      obtain ⟨k71, hi71, hl71⟩ := Sh.idx_some hx70
      refine AR.op rfl (t_index_sl G.api_Txn.av h_0.Txns hi71 hl71 rfl rfl rfl el22 rfl) <| AR.op rfl (aop_field_pp rfl rfl fd58_1 (by decide)) <| AR.op (r := .sl (List.map i64 x70.Writes)) rfl (aop_load_pp rfl rfl sz36 rfl) <| AR.keep [2, 5, 23] rfl <| AR.op rfl (t_len_sl i64 x70.Writes rfl rfl el36) <| AR.op rfl (aop_gtr rfl rfl rfl) <| AR.op rfl (aop_move (.inl rfl) rfl) <| AR.keep [2, 5, 26] rfl ?_
      rcases Bool.eq_false_or_eq_true (decide ((20 : Int) < (Sh.len x70.Writes))) with hb72 | hb72
      ·rw [hb72]
       replace h := Sh.if_t h hb72
       refine AR.skip rfl <| AR.skip rfl <| AR.skip rfl <| AR.keep [2, 5, 26, 27, 28, 29] rfl <| AR.skip rfl <| AR.skip rfl <| AR.skip rfl <| AR.keep [2, 5, 26, 27, 28, 29, 30, 31, 32] rfl ?_
       refine AR.skip rfl <| AR.skip rfl <| AR.op rfl (aop_pick rfl rfl rfl) <| AR.nil ?_
       exact hK12 true _ h (Weak.kt [2, 5, 35] rfl)
      ·rw [hb72]
       replace h := Sh.if_f h hb72
       refine AR.op rfl (aop_field_pp rfl rfl fd24_0 (by decide)) <| AR.op (r := .sl (List.map G.api_Txn.av h_0.Txns)) rfl (aop_load_pp rfl rfl sz22 rfl) <| AR.op rfl (aop_move (.inl rfl) rfl) <| AR.keep [2, 5, 26, 27, 28, 29] rfl ?_
       obtain ⟨x73, hx73, h⟩ := Sh.bind_some' h
       obtain ⟨k74, hi74, hl74⟩ := Sh.idx_some hx73
       refine AR.op rfl (t_index_sl G.api_Txn.av h_0.Txns hi74 hl74 rfl rfl rfl el22 rfl) <| AR.op rfl (aop_field_pp rfl rfl fd58_2 (by decide)) <| AR.op (r := .sl (List.map G.api_Take.av x73.Reads)) rfl (aop_load_pp rfl rfl sz56 rfl) <| AR.keep [2, 5, 26, 27, 28, 29, 30, 31, 32] rfl <| AR.op rfl (t_len_sl G.api_Take.av x73.Reads rfl rfl el56) <| AR.op rfl (aop_gtr rfl rfl rfl) <| AR.op rfl (aop_pick rfl rfl rfl) <| AR.nil ?_
       exact hK12 (decide ((20 : Int) < (Sh.len x73.Reads))) _ h (Weak.kt [2, 5, 35] rfl)
    ·replace h := Sh.if_f h hb56
     refine awp_exit ?_
     replace h := Sh.exit_eq h hx1
     exact hK6 () _ h (Weak.kt [] rfl)
theorem inquestref08_Few_ok {W0 : World} (hT : Tab W0) {h_0 : G.api_Hist} {many_1 : Int} {r : Bool} (h : G.inquestref08_Few h_0 many_1 = some r) : Fun1 Try.prog W0 8 [G.api_Hist.av h_0, i64 many_1] (bl r) := Fun1.two (inquestref08_Few_ok0 hT h) (by simp)


theorem inquestref08_Writes_ok0 {W0 : World} (hT : Tab W0) {t_0 : G.api_Txn} {key_1 : Int} {r : Bool} (h : G.inquestref08_Writes t_0 key_1 = some r) : Fun2 Try.prog W0 42 [G.api_Txn.av t_0, i64 key_1] (bl r) .empty := by
 refine fun2_of_awp Try.func42 rfl (by kernel_rfl) Try.ntmps42 (by simp) ?_
 unfold G.inquestref08_Writes at h
 show AWP _ _ _ _ ⟨[(0, G.api_Txn.av t_0), (1, i64 key_1)], .empty⟩ _
 refine awp_seqK fun K1 hK1 => awp_reg rfl <| AR.op (r := .ref 0 0 0) rfl (aop_box 3 [G.api_Txn.av t_0] rfl rfl rfl (.inl ⟨rfl, rfl⟩)) <| AR.op rfl (aop_move (.inr rfl) rfl) <| AR.nil <| hK1 _ (AWP.weak (Weak.e (fr' := [(1, i64 key_1), (2, .pp [i64 t_0.Session, .sl (List.map i64 t_0.Writes), .sl (List.map G.api_Take.av t_0.Reads)] 0)]) (H' := .empty) ⟨.k, ⟨_, rfl, .frzA rfl rfl rfl rfl (by simp)⟩, trivial⟩) ?_)
 refine awp_seqJ (fun (p : Unit) => (⟨[], .empty⟩ : St)) (fun (p : Unit) => G.inquestref08_Writes_j1 = some r) ?_ ?_
 ·rintro ⟨⟩ h
  replace h : G.inquestref08_Writes_j1 = some r := h
  unfold G.inquestref08_Writes_j1 at h
  refine awp_seqK fun K2 hK2 => awp_reg rfl <| AR.op rfl (aop_move (.inr rfl) rfl) <| AR.nil <| hK2 _ ?_
  refine awp_ret ?_
  obtain rfl := Option.some.inj h
  refine ⟨.inr rfl, bl false, rfl, ?_⟩
  exact Weak.e ⟨.k, trivial⟩
 ·intro K3 hK3
  refine awp_seqK fun K4 hK4 => awp_reg rfl <| AR.op rfl (aop_move (.inr rfl) rfl) <| AR.nil <| hK4 _ ?_
  refine awp_block <| awp_iter (fun (p : Int) => G.inquestref08_Writes_b1 t_0 key_1 p) (fun (p : Int) => (⟨[(1, i64 key_1), (2, .pp [i64 t_0.Session, .sl (List.map i64 t_0.Writes), .sl (List.map G.api_Take.av t_0.Reads)] 0), (5, i64 p)], .empty⟩ : St)) h (Weak.kt [1, 2, 5] rfl) ?_
  ·skip
   rintro i22 o1 h hx1
   replace h : G.inquestref08_Writes_b1 t_0 key_1 i22 = some o1 := h
   unfold G.inquestref08_Writes_b1 at h
   refine awp_seqK fun K5 hK5 => awp_seqK fun K6 hK6 => awp_reg rfl <| AR.op rfl (aop_move (.inl rfl) rfl) <| AR.op rfl (aop_field_pp rfl rfl fd58_1 (by decide)) <| AR.op (r := .sl (List.map i64 t_0.Writes)) rfl (aop_load_pp rfl rfl sz36 rfl) <| AR.keep [1, 2, 5, 6, 8] rfl <| AR.op rfl (t_len_sl i64 t_0.Writes rfl rfl el36) ?_
   refine AR.op rfl (aop_lss rfl rfl rfl) <| AR.nil <| hK6 _ (AWP.weak (Weak.kt [1, 2, 5, 10] rfl) ?_)
   refine awp_cond rfl (fun hb23 => ?_) (fun hb23 => ?_)
   ·replace h := Sh.if_t h hb23
    refine awp_skip <| hK5 _ (AWP.weak (Weak.kt [1, 2, 5] rfl) ?_)
    refine awp_seqK fun K7 hK7 => awp_block <| awp_seqK fun K8 hK8 => awp_reg rfl <| AR.op rfl (aop_field_pp rfl rfl fd58_1 (by decide)) <| AR.op (r := .sl (List.map i64 t_0.Writes)) rfl (aop_load_pp rfl rfl sz36 rfl) <| AR.op rfl (aop_move (.inl rfl) rfl) <| AR.keep [1, 2, 5, 14, 15] rfl ?_
    obtain ⟨x28, hx28, h⟩ := Sh.bind_some' h
    obtain ⟨k29, hi29, hl29⟩ := Sh.idx_some hx28
    refine AR.op rfl (t_index_sl i64 t_0.Writes hi29 hl29 rfl rfl rfl el36 rfl) <| AR.op (r := i64 x28) rfl (aop_load_pp rfl rfl sz3 rfl) <| AR.op rfl (aop_move (.inl rfl) rfl) <| AR.keep [1, 2, 5, 17, 18] rfl <| AR.op (r := bl (decide (x28 = key_1))) rfl (aop_eql rfl rfl rfl) <| AR.nil <| hK8 _ (AWP.weak (Weak.kt [1, 2, 5, 19] rfl) ?_)
    refine awp_cond rfl (fun hb30 => ?_) (fun hb30 => ?_)
    ·replace h := Sh.if_t h hb30
     refine awp_seqK fun K9 hK9 => awp_reg rfl <| AR.op rfl (aop_move (.inr rfl) rfl) <| AR.nil <| hK9 _ (AWP.weak (Weak.kt [4] rfl) ?_)
     refine awp_ret ?_
     replace h := Sh.exit_eq h hx1
     obtain rfl := Option.some.inj h
     refine ⟨.inr rfl, bl true, rfl, ?_⟩
     exact Weak.e ⟨.k, trivial⟩
    ·replace h := Sh.if_f h hb30
     refine awp_skip <| hK7 _ (AWP.weak (Weak.kt [1, 2, 5] rfl) ?_)
     refine awp_reg rfl <| AR.op rfl (aop_move (.inl rfl) rfl) <| AR.op rfl (aop_add rfl rfl rfl rfl) <| AR.op rfl (aop_move (.inr rfl) rfl) <| AR.nil ?_
     replace h := Sh.next_eq h
     exact ⟨_, h, Weak.kt [1, 2, 5] rfl⟩
   ·replace h := Sh.if_f h hb23
    refine awp_exit ?_
    replace h := Sh.exit_eq h hx1
    exact hK3 () _ h (Weak.kt [] rfl)
theorem inquestref08_Writes_ok {W0 : World} (hT : Tab W0) {t_0 : G.api_Txn} {key_1 : Int} {r : Bool} (h : G.inquestref08_Writes t_0 key_1 = some r) : Fun1 Try.prog W0 42 [G.api_Txn.av t_0, i64 key_1] (bl r) := Fun1.two (inquestref08_Writes_ok0 hT h) (by simp)


theorem inquestref08_one_ok0 {W0 : World} (hT : Tab W0) {h_0 : G.api_Hist} {n_1 : Int} {r : Bool} (h : G.inquestref08_one h_0 n_1 = some r) : Fun2 Try.prog W0 31 [G.api_Hist.av h_0, i64 n_1] (bl r) .empty := by
 refine fun2_of_awp Try.func31 rfl (by kernel_rfl) Try.ntmps31 (by simp) ?_
 unfold G.inquestref08_one at h
 show AWP _ _ _ _ ⟨[(0, G.api_Hist.av h_0), (1, i64 n_1)], .empty⟩ _
 refine awp_seqK fun K1 hK1 => awp_reg rfl <| AR.op (r := .ref 0 0 0) rfl (aop_box 1 [G.api_Hist.av h_0] rfl rfl rfl (.inl ⟨rfl, rfl⟩)) <| AR.op rfl (aop_move (.inr rfl) rfl) <| AR.nil <| hK1 _ (AWP.weak (Weak.e (fr' := [(1, i64 n_1), (2, .pp [.sl (List.map G.api_Txn.av h_0.Txns)] 0)]) (H' := .empty) ⟨.k, ⟨_, rfl, .frzA rfl rfl rfl rfl (by simp)⟩, trivial⟩) ?_)
 refine awp_seqK fun K2 hK2 => awp_reg rfl <| AR.op rfl (aop_field_pp rfl rfl fd24_0 (by decide)) <| AR.op (r := .sl (List.map G.api_Txn.av h_0.Txns)) rfl (aop_load_pp rfl rfl sz22 rfl) <| AR.op rfl (aop_move (.inl rfl) rfl) <| AR.keep [1, 2, 11, 12] rfl ?_
 obtain ⟨x84, hx84, h⟩ := Sh.bind_some' h
 obtain ⟨k85, hi85, hl85⟩ := Sh.idx_some hx84
 refine AR.op rfl (t_index_sl G.api_Txn.av h_0.Txns hi85 hl85 rfl rfl rfl el22 rfl) <| AR.op (r := G.api_Txn.av x84) rfl (aop_load_pp rfl rfl sz58 rfl) <| AR.op (r := .ref 0 0 0) rfl (aop_alloc 3 [.agg [i64 0, nilS, nilS]] rfl zr58 (by kernel_rfl) (.inl ⟨rfl, rfl⟩)) <| AR.keep [1, 2, 14, 5] rfl <| AR.op rfl (aop_store (e' := G.api_Txn.av x84) rfl rfl rfl rfl rfl rfl sz58 rfl dt rfl) <| AR.nil <| hK2 _ (AWP.weak (Weak.e (fr' := [(1, i64 n_1), (2, .pp [.sl (List.map G.api_Txn.av h_0.Txns)] 0), (5, .pp [i64 x84.Session, .sl (List.map i64 x84.Writes), .sl (List.map G.api_Take.av x84.Reads)] 0)]) (H' := .empty) ⟨.k, .k, ⟨_, rfl, .frzA rfl rfl rfl rfl (by simp)⟩, trivial⟩) ?_)
 refine awp_seqK fun K3 hK3 => awp_seqJ (fun (p : Bool) => (⟨[(1, i64 n_1), (2, .pp [.sl (List.map G.api_Txn.av h_0.Txns)] 0), (5, .pp [i64 x84.Session, .sl (List.map i64 x84.Writes), .sl (List.map G.api_Take.av x84.Reads)] 0), (22, bl p)], .empty⟩ : St)) (fun (p : Bool) => G.inquestref08_one_j1 h_0 n_1 x84 p = some r) ?_ ?_
 ·rintro v89 h
  replace h : G.inquestref08_one_j1 h_0 n_1 x84 v89 = some r := h
  unfold G.inquestref08_one_j1 at h
  refine awp_cond rfl (fun hb90 => ?_) (fun hb90 => ?_)
  ·replace h := Sh.if_t h hb90
   refine awp_seqK fun K4 hK4 => awp_reg rfl <| AR.op rfl (aop_move (.inr rfl) rfl) <| AR.nil <| hK4 _ (AWP.weak (Weak.kt [4] rfl) ?_)
   refine awp_ret ?_
   obtain rfl := Option.some.inj h
   refine ⟨.inr rfl, bl false, rfl, ?_⟩
   exact Weak.e ⟨.k, trivial⟩
  ·replace h := Sh.if_f h hb90
   refine awp_skip <| hK3 _ (AWP.weak (Weak.kt [1, 2, 5] rfl) ?_)
   refine awp_seqJ (fun (p : Unit) => (⟨[(1, i64 n_1), (2, .pp [.sl (List.map G.api_Txn.av h_0.Txns)] 0), (5, .pp [i64 x84.Session, .sl (List.map i64 x84.Writes), .sl (List.map G.api_Take.av x84.Reads)] 0)], .empty⟩ : St)) (fun (p : Unit) => G.inquestref08_one_j2 h_0 n_1 x84 = some r) ?_ ?_
   ·rintro ⟨⟩ h
    replace h : G.inquestref08_one_j2 h_0 n_1 x84 = some r := h
    unfold G.inquestref08_one_j2 at h
    refine awp_seqJ (fun (p : Unit) => (⟨[], .empty⟩ : St)) (fun (p : Unit) => G.inquestref08_one_j3 = some r) ?_ ?_
    ·rintro ⟨⟩ h
     replace h : G.inquestref08_one_j3 = some r := h
     unfold G.inquestref08_one_j3 at h
     refine awp_seqK fun K5 hK5 => awp_reg rfl <| AR.op rfl (aop_move (.inr rfl) rfl) <| AR.nil <| hK5 _ ?_
     refine awp_ret ?_
     obtain rfl := Option.some.inj h
     refine ⟨.inr rfl, bl true, rfl, ?_⟩
     exact Weak.e ⟨.k, trivial⟩
    ·intro K6 hK6
     refine awp_seqK fun K7 hK7 => awp_reg rfl <| AR.op rfl (aop_move (.inr rfl) rfl) <| AR.nil <| hK7 _ ?_
     refine awp_block <| awp_iter (fun (p : Int) => G.inquestref08_one_b1 h_0 n_1 x84 p) (fun (p : Int) => (⟨[(1, i64 n_1), (2, .pp [.sl (List.map G.api_Txn.av h_0.Txns)] 0), (5, .pp [i64 x84.Session, .sl (List.map i64 x84.Writes), .sl (List.map G.api_Take.av x84.Reads)] 0), (7, i64 p)], .empty⟩ : St)) h (Weak.kt [1, 2, 5, 7] rfl) ?_
     ·skip
      rintro i195 o1 h hx1
      replace h : G.inquestref08_one_b1 h_0 n_1 x84 i195 = some o1 := h
      unfold G.inquestref08_one_b1 at h
      refine awp_seqK fun K8 hK8 => awp_seqK fun K9 hK9 => awp_reg rfl <| AR.op rfl (aop_move (.inl rfl) rfl) <| AR.op rfl (aop_field_pp rfl rfl fd58_2 (by decide)) <| AR.op (r := .sl (List.map G.api_Take.av x84.Reads)) rfl (aop_load_pp rfl rfl sz56 rfl) <| AR.keep [1, 2, 5, 7, 62, 64] rfl <| AR.op rfl (t_len_sl G.api_Take.av x84.Reads rfl rfl el56) ?_
      refine AR.op rfl (aop_lss rfl rfl rfl) <| AR.nil <| hK9 _ (AWP.weak (Weak.kt [1, 2, 5, 7, 66] rfl) ?_)
      refine awp_cond rfl (fun hb196 => ?_) (fun hb196 => ?_)
      ·replace h := Sh.if_t h hb196
       refine awp_skip <| hK8 _ (AWP.weak (Weak.kt [1, 2, 5, 7] rfl) ?_)
       refine awp_seqJ (fun (p : Unit) => (⟨[(1, i64 n_1), (2, .pp [.sl (List.map G.api_Txn.av h_0.Txns)] 0), (5, .pp [i64 x84.Session, .sl (List.map i64 x84.Writes), .sl (List.map G.api_Take.av x84.Reads)] 0), (7, i64 i195)], .empty⟩ : St)) (fun (p : Unit) => G.inquestref08_one_j4 i195 = some o1) ?_ ?_
       ·rintro ⟨⟩ h
        replace h : G.inquestref08_one_j4 i195 = some o1 := h
        unfold G.inquestref08_one_j4 at h
        refine awp_reg rfl <| AR.op rfl (aop_move (.inl rfl) rfl) <| AR.op rfl (aop_add rfl rfl rfl rfl) <| AR.op rfl (aop_move (.inr rfl) rfl) <| AR.nil ?_
        replace h := Sh.next_eq h
        exact ⟨_, h, Weak.kt [1, 2, 5, 7] rfl⟩
       ·intro K10 hK10
        refine awp_block <| awp_seqK fun K11 hK11 => awp_reg rfl <| AR.op rfl (aop_field_pp rfl rfl fd58_2 (by decide)) <| AR.op (r := .sl (List.map G.api_Take.av x84.Reads)) rfl (aop_load_pp rfl rfl sz56 rfl) <| AR.op rfl (aop_move (.inl rfl) rfl) <| AR.keep [1, 2, 5, 7, 70, 71] rfl ?_
        obtain ⟨x215, hx215, h⟩ := Sh.bind_some' h
        obtain ⟨k216, hi216, hl216⟩ := Sh.idx_some hx215
        refine AR.op rfl (t_index_sl G.api_Take.av x84.Reads hi216 hl216 rfl rfl rfl el56 rfl) <| AR.op (r := G.api_Take.av x215) rfl (aop_load_pp rfl rfl sz78 rfl) <| AR.op (r := .ref 0 0 0) rfl (aop_alloc 2 [.agg [i64 0, i64 0]] rfl zr78 (by kernel_rfl) (.inl ⟨rfl, rfl⟩)) <| AR.keep [1, 2, 5, 7, 73, 8] rfl <| AR.op rfl (aop_store (e' := G.api_Take.av x215) rfl rfl rfl rfl rfl rfl sz78 rfl dt rfl) <| AR.nil <| hK11 _ (AWP.weak (Weak.e (fr' := [(1, i64 n_1), (2, .pp [.sl (List.map G.api_Txn.av h_0.Txns)] 0), (5, .pp [i64 x84.Session, .sl (List.map i64 x84.Writes), .sl (List.map G.api_Take.av x84.Reads)] 0), (7, i64 i195), (8, .pp [i64 x215.Key, i64 x215.From] 0)]) (H' := .empty) ⟨.k, .k, .k, .k, ⟨_, rfl, .frzA rfl rfl rfl rfl (by simp)⟩, trivial⟩) ?_)
        refine awp_seqK fun K12 hK12 => awp_seqJ (fun (p : Bool) => (⟨[(1, i64 n_1), (2, .pp [.sl (List.map G.api_Txn.av h_0.Txns)] 0), (5, .pp [i64 x84.Session, .sl (List.map i64 x84.Writes), .sl (List.map G.api_Take.av x84.Reads)] 0), (7, i64 i195), (8, .pp [i64 x215.Key, i64 x215.From] 0), (116, bl p)], .empty⟩ : St)) (fun (p : Bool) => G.inquestref08_one_j5 h_0 i195 x215 p = some o1) ?_ ?_
        ·rintro v238 h
         replace h : G.inquestref08_one_j5 h_0 i195 x215 v238 = some o1 := h
         unfold G.inquestref08_one_j5 at h
         refine awp_cond rfl (fun hb239 => ?_) (fun hb239 => ?_)
         ·replace h := Sh.if_t h hb239
          refine awp_seqK fun K13 hK13 => awp_reg rfl <| AR.op rfl (aop_move (.inr rfl) rfl) <| AR.nil <| hK13 _ (AWP.weak (Weak.kt [4] rfl) ?_)
          refine awp_ret ?_
          replace h := Sh.exit_eq h hx1
          obtain rfl := Option.some.inj h
          refine ⟨.inr rfl, bl false, rfl, ?_⟩
          exact Weak.e ⟨.k, trivial⟩
         ·replace h := Sh.if_f h hb239
          refine awp_skip <| hK12 _ (AWP.weak (Weak.kt [1, 2, 5, 7, 8] rfl) ?_)
          refine awp_seqK fun K14 hK14 => awp_seqK fun K15 hK15 => awp_reg rfl <| AR.op rfl (aop_field_pp rfl rfl fd78_1 (by decide)) <| AR.op (r := i64 x215.From) rfl (aop_load_pp rfl rfl sz3 rfl) <| AR.op rfl (aop_lss rfl rfl rfl) <| AR.nil <| hK15 _ (AWP.weak (Weak.kt [1, 2, 5, 7, 8, 119] rfl) ?_)
          refine awp_cond rfl (fun hb240 => ?_) (fun hb240 => ?_)
          ·replace h := Sh.if_t h hb240
           refine awp_exit ?_
           exact hK10 () _ h (Weak.kt [1, 2, 5, 7] rfl)
          ·replace h := Sh.if_f h hb240
           refine awp_skip <| hK14 _ (AWP.weak (Weak.kt [1, 2, 5, 7, 8] rfl) ?_)
           refine awp_seqK fun K16 hK16 => awp_any [(true, false), (true, false), (true, false), (true, false), (true, false), (true, false), (true, false), (true, false), (true, false), (true, false)] (by kernel_rfl) (by kernel_rfl) rfl ?_
           refine ARH.dry rfl (fun _ => aop_field_pp rfl rfl fd24_0 (by decide)) <| ARH.dry (r := .sl (List.map G.api_Txn.av h_0.Txns)) rfl (fun _ => aop_load_pp rfl rfl sz22 rfl) <| ARH.dry rfl (fun _ => aop_field_pp rfl rfl fd78_1 (by decide)) <| ARH.keep [1, 2, 5, 7, 8, 121, 122] rfl <| ARH.dry (r := i64 x215.From) rfl (fun _ => aop_load_pp rfl rfl sz3 rfl) ?_
           obtain ⟨x244, hx244, h⟩ := Sh.bind_some' h
           obtain ⟨k245, hi245, hl245⟩ := Sh.idx_some hx244
           refine ARH.dry rfl (fun _ => t_index_sl G.api_Txn.av h_0.Txns hi245 hl245 rfl rfl rfl el22 rfl) <| ARH.dry (r := G.api_Txn.av x244) rfl (fun _ => aop_load_pp rfl rfl sz58 rfl) <| ARH.keep [1, 2, 5, 7, 8, 125] rfl <| ARH.dry rfl (fun _ => aop_field_pp rfl rfl fd78_0 (by decide)) <| ARH.dry (r := i64 x215.Key) rfl (fun _ => aop_load_pp rfl rfl sz3 rfl) ?_
           obtain ⟨r246, hr246, h⟩ := Sh.bind_some' h
           refine ARH.dry (r := bl r246) rfl (fun _ => aop_call1 rfl rfl (by simp) (inquestref08_Writes_ok hT hr246)) <| ARH.keep [1, 2, 5, 7, 128] rfl <| ARH.dry rfl (fun _ => aop_move (.inr rfl) rfl) <| ARH.nil <| hK16 _ (AWP.weak (Weak.kt [1, 2, 5, 7, 9] rfl) ?_)
           refine awp_seqK fun K17 hK17 => awp_reg rfl <| AR.op rfl (aop_move (.inl rfl) rfl) <| AR.op (r := bl (!r246)) rfl (aop_not rfl rfl) <| AR.nil <| hK17 _ (AWP.weak (Weak.kt [1, 2, 5, 7, 130] rfl) ?_)
           refine awp_cond rfl (fun hb247 => ?_) (fun hb247 => ?_)
           ·replace h := Sh.if_t h hb247
            refine awp_seqK fun K18 hK18 => awp_reg rfl <| AR.op rfl (aop_move (.inr rfl) rfl) <| AR.nil <| hK18 _ (AWP.weak (Weak.kt [4] rfl) ?_)
            refine awp_ret ?_
            replace h := Sh.exit_eq h hx1
            obtain rfl := Option.some.inj h
            refine ⟨.inr rfl, bl false, rfl, ?_⟩
            exact Weak.e ⟨.k, trivial⟩
           ·replace h := Sh.if_f h hb247
            refine awp_skip ?_
            exact hK10 () _ h (Weak.kt [1, 2, 5, 7] rfl)
        ·intro K19 hK19
         refine awp_any [(true, false), (true, false), (true, false), (true, false), (true, false), (true, false), (true, false), (true, false), (true, false), (true, false), (true, false), (true, false), (true, false), (true, false), (true, false), (true, false), (true, false), (true, false), (true, false), (true, false), (true, false), (true, false), (true, false), (true, false), (true, false), (true, false), (true, false), (true, false), (true, false), (true, false), (true, false), (true, false), (true, false), (true, false), (true, false), (true, false), (true, false), (true, false), (true, false), (true, false), (true, false), (true, false), (true, false)] (by kernel_rfl) (by kernel_rfl) rfl ?_
         refine ARH.dry rfl (fun _ => aop_field_pp rfl rfl fd78_0 (by decide)) <| ARH.dry (r := i64 x215.Key) rfl (fun _ => aop_load_pp rfl rfl sz3 rfl) <| ARH.dry rfl (fun _ => aop_lss rfl rfl rfl) <| ARH.keep [1, 2, 5, 7, 8, 76] rfl <| ARH.dry rfl (fun _ => aop_move (.inl rfl) rfl) ?_
         rcases Bool.eq_false_or_eq_true (decide (x215.Key < 0)) with hb248 | hb248
         ·rw [hb248]
          replace h := Sh.if_t h hb248
          refine ARH.skip rfl <| ARH.skip rfl <| ARH.keep [1, 2, 5, 7, 8, 77, 78, 79] rfl <| ARH.skip rfl <| ARH.dry rfl (fun _ => aop_pick rfl rfl rfl) <| ARH.dry rfl (fun _ => aop_move (.inl rfl) rfl) <| ARH.keep [1, 2, 5, 7, 8, 78, 79, 80, 82] rfl <| ARH.skip rfl ?_
          refine ARH.skip rfl <| ARH.skip rfl <| ARH.keep [1, 2, 5, 7, 8, 78, 79, 80, 82, 83, 84, 85] rfl <| ARH.skip rfl <| ARH.skip rfl <| ARH.skip rfl <| ARH.keep [1, 2, 5, 7, 8, 78, 79, 80, 82, 83, 84, 85, 86, 87, 88] rfl <| ARH.skip rfl ?_
          refine ARH.skip rfl <| ARH.skip rfl <| ARH.keep [1, 2, 5, 7, 8, 78, 79, 80, 82, 83, 84, 85, 86, 87, 88, 89, 90, 91] rfl <| ARH.skip rfl <| ARH.skip rfl <| ARH.skip rfl <| ARH.keep [1, 2, 5, 7, 8, 78, 79, 80, 82, 83, 84, 85, 86, 87, 88, 89, 90, 91, 92, 93, 94] rfl <| ARH.skip rfl ?_
          refine ARH.skip rfl <| ARH.dry rfl (fun _ => aop_pick rfl rfl rfl) <| ARH.keep [1, 2, 5, 7, 8, 78, 79, 80, 83, 84, 85, 86, 87, 88, 89, 90, 91, 92, 93, 94, 95, 96, 97] rfl <| ARH.dry rfl (fun _ => aop_move (.inl rfl) rfl) <| ARH.skip rfl <| ARH.skip rfl <| ARH.keep [1, 2, 5, 7, 8, 78, 79, 80, 83, 84, 85, 86, 87, 88, 89, 90, 91, 92, 93, 94, 95, 96, 98, 99, 100] rfl <| ARH.skip rfl ?_
          refine ARH.dry rfl (fun _ => aop_pick rfl rfl rfl) <| ARH.dry rfl (fun _ => aop_move (.inl rfl) rfl) <| ARH.keep [1, 2, 5, 7, 8, 78, 79, 80, 83, 84, 85, 86, 87, 88, 89, 90, 91, 92, 93, 94, 95, 96, 99, 100, 101, 103] rfl <| ARH.skip rfl <| ARH.skip rfl <| ARH.skip rfl <| ARH.keep [1, 2, 5, 7, 8, 78, 79, 80, 83, 84, 85, 86, 87, 88, 89, 90, 91, 92, 93, 94, 95, 96, 99, 100, 101, 103, 104, 105, 106] rfl <| ARH.skip rfl ?_
          refine ARH.skip rfl <| ARH.skip rfl <| ARH.keep [1, 2, 5, 7, 8, 78, 79, 80, 83, 84, 85, 86, 87, 88, 89, 90, 91, 92, 93, 94, 95, 96, 99, 100, 101, 103, 104, 105, 106, 107, 108, 109] rfl <| ARH.dry rfl (fun _ => aop_pick rfl rfl rfl) <| ARH.dry rfl (fun _ => aop_move (.inl rfl) rfl) <| ARH.skip rfl <| ARH.keep [1, 2, 5, 7, 8, 78, 79, 80, 83, 84, 85, 86, 87, 88, 89, 90, 91, 92, 93, 94, 95, 96, 99, 100, 101, 104, 105, 106, 107, 108, 109, 111, 112] rfl <| ARH.skip rfl ?_
          refine ARH.skip rfl <| ARH.skip rfl <| ARH.keep [1, 2, 5, 7, 8, 78, 79, 80, 83, 84, 85, 86, 87, 88, 89, 90, 91, 92, 93, 94, 95, 96, 99, 100, 101, 104, 105, 106, 107, 108, 109, 111, 112, 113, 114, 115] rfl <| ARH.dry rfl (fun _ => aop_pick rfl rfl rfl) <| ARH.nil ?_
          exact hK19 true _ h (Weak.kt [1, 2, 5, 7, 8, 116] rfl)
         ·rw [hb248]
          replace h := Sh.if_f h hb248
          refine ARH.dry rfl (fun _ => aop_field_pp rfl rfl fd78_0 (by decide)) <| ARH.dry (r := i64 x215.Key) rfl (fun _ => aop_load_pp rfl rfl sz3 rfl) <| ARH.keep [1, 2, 5, 7, 8, 77, 78, 79] rfl <| ARH.dry rfl (fun _ => aop_gtr rfl rfl rfl) <| ARH.dry rfl (fun _ => aop_pick rfl rfl rfl) <| ARH.dry rfl (fun _ => aop_move (.inl rfl) rfl) <| ARH.keep [1, 2, 5, 7, 8, 78, 79, 80, 82] rfl ?_
          rcases Bool.eq_false_or_eq_true (decide ((15 : Int) < x215.Key)) with hb249 | hb249
          ·rw [hb249]
           replace h := Sh.if_t h hb249
           refine ARH.skip rfl <| ARH.skip rfl <| ARH.skip rfl <| ARH.keep [1, 2, 5, 7, 8, 78, 79, 80, 82, 83, 84, 85] rfl <| ARH.skip rfl <| ARH.skip rfl <| ARH.skip rfl <| ARH.keep [1, 2, 5, 7, 8, 78, 79, 80, 82, 83, 84, 85, 86, 87, 88] rfl ?_
           refine ARH.skip rfl <| ARH.skip rfl <| ARH.skip rfl <| ARH.keep [1, 2, 5, 7, 8, 78, 79, 80, 82, 83, 84, 85, 86, 87, 88, 89, 90, 91] rfl <| ARH.skip rfl <| ARH.skip rfl <| ARH.skip rfl <| ARH.keep [1, 2, 5, 7, 8, 78, 79, 80, 82, 83, 84, 85, 86, 87, 88, 89, 90, 91, 92, 93, 94] rfl ?_
           refine ARH.skip rfl <| ARH.skip rfl <| ARH.dry rfl (fun _ => aop_pick rfl rfl rfl) <| ARH.keep [1, 2, 5, 7, 8, 78, 79, 80, 83, 84, 85, 86, 87, 88, 89, 90, 91, 92, 93, 94, 95, 96, 97] rfl <| ARH.dry rfl (fun _ => aop_move (.inl rfl) rfl) <| ARH.skip rfl <| ARH.skip rfl <| ARH.keep [1, 2, 5, 7, 8, 78, 79, 80, 83, 84, 85, 86, 87, 88, 89, 90, 91, 92, 93, 94, 95, 96, 98, 99, 100] rfl ?_
           refine ARH.skip rfl <| ARH.dry rfl (fun _ => aop_pick rfl rfl rfl) <| ARH.dry rfl (fun _ => aop_move (.inl rfl) rfl) <| ARH.keep [1, 2, 5, 7, 8, 78, 79, 80, 83, 84, 85, 86, 87, 88, 89, 90, 91, 92, 93, 94, 95, 96, 99, 100, 101, 103] rfl <| ARH.skip rfl <| ARH.skip rfl <| ARH.skip rfl <| ARH.keep [1, 2, 5, 7, 8, 78, 79, 80, 83, 84, 85, 86, 87, 88, 89, 90, 91, 92, 93, 94, 95, 96, 99, 100, 101, 103, 104, 105, 106] rfl ?_
           refine ARH.skip rfl <| ARH.skip rfl <| ARH.skip rfl <| ARH.keep [1, 2, 5, 7, 8, 78, 79, 80, 83, 84, 85, 86, 87, 88, 89, 90, 91, 92, 93, 94, 95, 96, 99, 100, 101, 103, 104, 105, 106, 107, 108, 109] rfl <| ARH.dry rfl (fun _ => aop_pick rfl rfl rfl) <| ARH.dry rfl (fun _ => aop_move (.inl rfl) rfl) <| ARH.skip rfl <| ARH.keep [1, 2, 5, 7, 8, 78, 79, 80, 83, 84, 85, 86, 87, 88, 89, 90, 91, 92, 93, 94, 95, 96, 99, 100, 101, 104, 105, 106, 107, 108, 109, 111, 112] rfl ?_
           refine ARH.skip rfl <| ARH.skip rfl <| ARH.skip rfl <| ARH.keep [1, 2, 5, 7, 8, 78, 79, 80, 83, 84, 85, 86, 87, 88, 89, 90, 91, 92, 93, 94, 95, 96, 99, 100, 101, 104, 105, 106, 107, 108, 109, 111, 112, 113, 114, 115] rfl <| ARH.dry rfl (fun _ => aop_pick rfl rfl rfl) <| ARH.nil ?_
           exact hK19 true _ h (Weak.kt [1, 2, 5, 7, 8, 116] rfl)
          ·rw [hb249]
           replace h := Sh.if_f h hb249
           refine ARH.dry rfl (fun _ => aop_move (.inl rfl) rfl) <| ARH.dry rfl (fun _ => aop_gtr rfl rfl rfl) <| ARH.dry rfl (fun _ => aop_move (.inl rfl) rfl) <| ARH.keep [1, 2, 5, 7, 8, 78, 79, 80, 82, 83, 84, 85] rfl ?_
           rcases Bool.eq_false_or_eq_true (decide ((0 : Int) < i195)) with hb250 | hb250
           ·rw [hb250]
            replace h := Sh.if_t h hb250
            refine ARH.dry rfl (fun _ => aop_field_pp rfl rfl fd58_2 (by decide)) <| ARH.dry (r := .sl (List.map G.api_Take.av x84.Reads)) rfl (fun _ => aop_load_pp rfl rfl sz56 rfl) <| ARH.dry rfl (fun _ => aop_move (.inl rfl) rfl) <| ARH.keep [1, 2, 5, 7, 8, 78, 79, 80, 82, 83, 84, 85, 86, 87, 88] rfl <| ARH.dry rfl (fun _ => aop_sub rfl rfl rfl rfl) ?_
            obtain ⟨x251, hx251, h⟩ := Sh.bind_some' h
            obtain ⟨k252, hi252, hl252⟩ := Sh.idx_some hx251
            refine ARH.dry rfl (fun _ => t_index_sl G.api_Take.av x84.Reads hi252 hl252 rfl rfl rfl el56 rfl) <| ARH.dry rfl (fun _ => aop_field_pp rfl rfl fd78_0 (by decide)) <| ARH.keep [1, 2, 5, 7, 8, 78, 79, 80, 82, 83, 84, 85, 86, 87, 88, 89, 90, 91] rfl <| ARH.dry (r := i64 x251.Key) rfl (fun _ => aop_load_pp rfl rfl sz3 rfl) <| ARH.dry rfl (fun _ => aop_field_pp rfl rfl fd78_0 (by decide)) <| ARH.dry (r := i64 x215.Key) rfl (fun _ => aop_load_pp rfl rfl sz3 rfl) <| ARH.keep [1, 2, 5, 7, 8, 78, 79, 80, 82, 83, 84, 85, 86, 87, 88, 89, 90, 91, 92, 93, 94] rfl <| ARH.dry rfl (fun _ => aop_geq rfl rfl rfl) ?_
            refine ARH.dry rfl (fun _ => aop_pick rfl rfl rfl) <| ARH.dry rfl (fun _ => aop_pick rfl rfl rfl) <| ARH.keep [1, 2, 5, 7, 8, 78, 79, 80, 83, 84, 85, 86, 87, 88, 89, 90, 91, 92, 93, 94, 95, 96, 97] rfl <| ARH.dry rfl (fun _ => aop_move (.inl rfl) rfl) ?_
            rcases Bool.eq_false_or_eq_true (decide (x215.Key ≤ x251.Key)) with hb253 | hb253
            ·rw [hb253]
             replace h := Sh.if_t h hb253
             refine ARH.skip rfl <| ARH.skip rfl <| ARH.keep [1, 2, 5, 7, 8, 78, 79, 80, 83, 84, 85, 86, 87, 88, 89, 90, 91, 92, 93, 94, 95, 96, 98, 99, 100] rfl <| ARH.skip rfl <| ARH.dry rfl (fun _ => aop_pick rfl rfl rfl) <| ARH.dry rfl (fun _ => aop_move (.inl rfl) rfl) <| ARH.keep [1, 2, 5, 7, 8, 78, 79, 80, 83, 84, 85, 86, 87, 88, 89, 90, 91, 92, 93, 94, 95, 96, 99, 100, 101, 103] rfl <| ARH.skip rfl ?_
             refine ARH.skip rfl <| ARH.skip rfl <| ARH.keep [1, 2, 5, 7, 8, 78, 79, 80, 83, 84, 85, 86, 87, 88, 89, 90, 91, 92, 93, 94, 95, 96, 99, 100, 101, 103, 104, 105, 106] rfl <| ARH.skip rfl <| ARH.skip rfl <| ARH.skip rfl <| ARH.keep [1, 2, 5, 7, 8, 78, 79, 80, 83, 84, 85, 86, 87, 88, 89, 90, 91, 92, 93, 94, 95, 96, 99, 100, 101, 103, 104, 105, 106, 107, 108, 109] rfl <| ARH.dry rfl (fun _ => aop_pick rfl rfl rfl) ?_
             refine ARH.dry rfl (fun _ => aop_move (.inl rfl) rfl) <| ARH.skip rfl <| ARH.keep [1, 2, 5, 7, 8, 78, 79, 80, 83, 84, 85, 86, 87, 88, 89, 90, 91, 92, 93, 94, 95, 96, 99, 100, 101, 104, 105, 106, 107, 108, 109, 111, 112] rfl <| ARH.skip rfl <| ARH.skip rfl <| ARH.skip rfl <| ARH.keep [1, 2, 5, 7, 8, 78, 79, 80, 83, 84, 85, 86, 87, 88, 89, 90, 91, 92, 93, 94, 95, 96, 99, 100, 101, 104, 105, 106, 107, 108, 109, 111, 112, 113, 114, 115] rfl <| ARH.dry rfl (fun _ => aop_pick rfl rfl rfl) ?_
             refine ARH.nil ?_
             exact hK19 true _ h (Weak.kt [1, 2, 5, 7, 8, 116] rfl)
            ·rw [hb253]
             replace h := Sh.if_f h hb253
             refine ARH.dry rfl (fun _ => aop_field_pp rfl rfl fd78_1 (by decide)) <| ARH.dry (r := i64 x215.From) rfl (fun _ => aop_load_pp rfl rfl sz3 rfl) <| ARH.keep [1, 2, 5, 7, 8, 78, 79, 80, 83, 84, 85, 86, 87, 88, 89, 90, 91, 92, 93, 94, 95, 96, 98, 99, 100] rfl <| ARH.dry rfl (fun _ => aop_lss rfl rfl rfl) <| ARH.dry rfl (fun _ => aop_pick rfl rfl rfl) <| ARH.dry rfl (fun _ => aop_move (.inl rfl) rfl) <| ARH.keep [1, 2, 5, 7, 8, 78, 79, 80, 83, 84, 85, 86, 87, 88, 89, 90, 91, 92, 93, 94, 95, 96, 99, 100, 101, 103] rfl ?_
             rcases Bool.eq_false_or_eq_true (decide (x215.From < (-1))) with hb254 | hb254
             ·rw [hb254]
              replace h := Sh.if_t h hb254
              refine ARH.skip rfl <| ARH.skip rfl <| ARH.skip rfl <| ARH.keep [1, 2, 5, 7, 8, 78, 79, 80, 83, 84, 85, 86, 87, 88, 89, 90, 91, 92, 93, 94, 95, 96, 99, 100, 101, 103, 104, 105, 106] rfl <| ARH.skip rfl <| ARH.skip rfl <| ARH.skip rfl <| ARH.keep [1, 2, 5, 7, 8, 78, 79, 80, 83, 84, 85, 86, 87, 88, 89, 90, 91, 92, 93, 94, 95, 96, 99, 100, 101, 103, 104, 105, 106, 107, 108, 109] rfl ?_
              refine ARH.dry rfl (fun _ => aop_pick rfl rfl rfl) <| ARH.dry rfl (fun _ => aop_move (.inl rfl) rfl) <| ARH.skip rfl <| ARH.keep [1, 2, 5, 7, 8, 78, 79, 80, 83, 84, 85, 86, 87, 88, 89, 90, 91, 92, 93, 94, 95, 96, 99, 100, 101, 104, 105, 106, 107, 108, 109, 111, 112] rfl <| ARH.skip rfl <| ARH.skip rfl <| ARH.skip rfl <| ARH.keep [1, 2, 5, 7, 8, 78, 79, 80, 83, 84, 85, 86, 87, 88, 89, 90, 91, 92, 93, 94, 95, 96, 99, 100, 101, 104, 105, 106, 107, 108, 109, 111, 112, 113, 114, 115] rfl ?_
              refine ARH.dry rfl (fun _ => aop_pick rfl rfl rfl) <| ARH.nil ?_
              exact hK19 true _ h (Weak.kt [1, 2, 5, 7, 8, 116] rfl)
             ·rw [hb254]
              replace h := Sh.if_f h hb254
              refine ARH.dry rfl (fun _ => aop_field_pp rfl rfl fd78_1 (by decide)) <| ARH.dry (r := i64 x215.From) rfl (fun _ => aop_load_pp rfl rfl sz3 rfl) <| ARH.dry rfl (fun _ => aop_field_pp rfl rfl fd24_0 (by decide)) <| ARH.keep [1, 2, 5, 7, 8, 78, 79, 80, 83, 84, 85, 86, 87, 88, 89, 90, 91, 92, 93, 94, 95, 96, 99, 100, 101, 103, 104, 105, 106] rfl <| ARH.dry (r := .sl (List.map G.api_Txn.av h_0.Txns)) rfl (fun _ => aop_load_pp rfl rfl sz22 rfl) <| ARH.dry rfl (fun _ => t_len_sl G.api_Txn.av h_0.Txns rfl rfl el22) <| ARH.dry rfl (fun _ => aop_geq rfl rfl rfl) <| ARH.keep [1, 2, 5, 7, 8, 78, 79, 80, 83, 84, 85, 86, 87, 88, 89, 90, 91, 92, 93, 94, 95, 96, 99, 100, 101, 103, 104, 105, 106, 107, 108, 109] rfl ?_
              refine ARH.dry rfl (fun _ => aop_pick rfl rfl rfl) <| ARH.dry rfl (fun _ => aop_move (.inl rfl) rfl) ?_
              rcases Bool.eq_false_or_eq_true (decide ((Sh.len h_0.Txns) ≤ x215.From)) with hb255 | hb255
              ·rw [hb255]
               replace h := Sh.if_t h hb255
               refine ARH.skip rfl <| ARH.keep [1, 2, 5, 7, 8, 78, 79, 80, 83, 84, 85, 86, 87, 88, 89, 90, 91, 92, 93, 94, 95, 96, 99, 100, 101, 104, 105, 106, 107, 108, 109, 111, 112] rfl <| ARH.skip rfl <| ARH.skip rfl <| ARH.skip rfl <| ARH.keep [1, 2, 5, 7, 8, 78, 79, 80, 83, 84, 85, 86, 87, 88, 89, 90, 91, 92, 93, 94, 95, 96, 99, 100, 101, 104, 105, 106, 107, 108, 109, 111, 112, 113, 114, 115] rfl <| ARH.dry rfl (fun _ => aop_pick rfl rfl rfl) <| ARH.nil ?_
               exact hK19 true _ h (Weak.kt [1, 2, 5, 7, 8, 116] rfl)
              ·rw [hb255]
               replace h := Sh.if_f h hb255
               refine ARH.dry rfl (fun _ => aop_field_pp rfl rfl fd78_1 (by decide)) <| ARH.keep [1, 2, 5, 7, 8, 78, 79, 80, 83, 84, 85, 86, 87, 88, 89, 90, 91, 92, 93, 94, 95, 96, 99, 100, 101, 104, 105, 106, 107, 108, 109, 111, 112] rfl <| ARH.dry (r := i64 x215.From) rfl (fun _ => aop_load_pp rfl rfl sz3 rfl) <| ARH.dry rfl (fun _ => aop_move (.inl rfl) rfl) <| ARH.dry (r := bl (decide (x215.From = n_1))) rfl (fun _ => aop_eql rfl rfl rfl) <| ARH.keep [1, 2, 5, 7, 8, 78, 79, 80, 83, 84, 85, 86, 87, 88, 89, 90, 91, 92, 93, 94, 95, 96, 99, 100, 101, 104, 105, 106, 107, 108, 109, 111, 112, 113, 114, 115] rfl <| ARH.dry rfl (fun _ => aop_pick rfl rfl rfl) <| ARH.nil ?_
               exact hK19 (decide (x215.From = n_1)) _ h (Weak.kt [1, 2, 5, 7, 8, 116] rfl)
           ·rw [hb250]
            replace h := Sh.if_f h hb250
            refine ARH.skip rfl <| ARH.skip rfl <| ARH.skip rfl <| ARH.keep [1, 2, 5, 7, 8, 78, 79, 80, 82, 83, 84, 85, 86, 87, 88] rfl <| ARH.skip rfl <| ARH.skip rfl <| ARH.skip rfl <| ARH.keep [1, 2, 5, 7, 8, 78, 79, 80, 82, 83, 84, 85, 86, 87, 88, 89, 90, 91] rfl ?_
            refine ARH.skip rfl <| ARH.skip rfl <| ARH.skip rfl <| ARH.keep [1, 2, 5, 7, 8, 78, 79, 80, 82, 83, 84, 85, 86, 87, 88, 89, 90, 91, 92, 93, 94] rfl <| ARH.skip rfl <| ARH.dry rfl (fun _ => aop_pick rfl rfl rfl) <| ARH.dry rfl (fun _ => aop_pick rfl rfl rfl) <| ARH.keep [1, 2, 5, 7, 8, 78, 79, 80, 83, 84, 85, 86, 87, 88, 89, 90, 91, 92, 93, 94, 95, 96, 97] rfl ?_
            refine ARH.dry rfl (fun _ => aop_move (.inl rfl) rfl) <| ARH.dry rfl (fun _ => aop_field_pp rfl rfl fd78_1 (by decide)) <| ARH.dry (r := i64 x215.From) rfl (fun _ => aop_load_pp rfl rfl sz3 rfl) <| ARH.keep [1, 2, 5, 7, 8, 78, 79, 80, 83, 84, 85, 86, 87, 88, 89, 90, 91, 92, 93, 94, 95, 96, 98, 99, 100] rfl <| ARH.dry rfl (fun _ => aop_lss rfl rfl rfl) <| ARH.dry rfl (fun _ => aop_pick rfl rfl rfl) <| ARH.dry rfl (fun _ => aop_move (.inl rfl) rfl) <| ARH.keep [1, 2, 5, 7, 8, 78, 79, 80, 83, 84, 85, 86, 87, 88, 89, 90, 91, 92, 93, 94, 95, 96, 99, 100, 101, 103] rfl ?_
            rcases Bool.eq_false_or_eq_true (decide (x215.From < (-1))) with hb256 | hb256
            ·rw [hb256]
             replace h := Sh.if_t h hb256
             refine ARH.skip rfl <| ARH.skip rfl <| ARH.skip rfl <| ARH.keep [1, 2, 5, 7, 8, 78, 79, 80, 83, 84, 85, 86, 87, 88, 89, 90, 91, 92, 93, 94, 95, 96, 99, 100, 101, 103, 104, 105, 106] rfl <| ARH.skip rfl <| ARH.skip rfl <| ARH.skip rfl <| ARH.keep [1, 2, 5, 7, 8, 78, 79, 80, 83, 84, 85, 86, 87, 88, 89, 90, 91, 92, 93, 94, 95, 96, 99, 100, 101, 103, 104, 105, 106, 107, 108, 109] rfl ?_
             refine ARH.dry rfl (fun _ => aop_pick rfl rfl rfl) <| ARH.dry rfl (fun _ => aop_move (.inl rfl) rfl) <| ARH.skip rfl <| ARH.keep [1, 2, 5, 7, 8, 78, 79, 80, 83, 84, 85, 86, 87, 88, 89, 90, 91, 92, 93, 94, 95, 96, 99, 100, 101, 104, 105, 106, 107, 108, 109, 111, 112] rfl <| ARH.skip rfl <| ARH.skip rfl <| ARH.skip rfl <| ARH.keep [1, 2, 5, 7, 8, 78, 79, 80, 83, 84, 85, 86, 87, 88, 89, 90, 91, 92, 93, 94, 95, 96, 99, 100, 101, 104, 105, 106, 107, 108, 109, 111, 112, 113, 114, 115] rfl ?_
             refine ARH.dry rfl (fun _ => aop_pick rfl rfl rfl) <| ARH.nil ?_
             exact hK19 true _ h (Weak.kt [1, 2, 5, 7, 8, 116] rfl)
            ·rw [hb256]
             replace h := Sh.if_f h hb256
             refine ARH.dry rfl (fun _ => aop_field_pp rfl rfl fd78_1 (by decide)) <| ARH.dry (r := i64 x215.From) rfl (fun _ => aop_load_pp rfl rfl sz3 rfl) <| ARH.dry rfl (fun _ => aop_field_pp rfl rfl fd24_0 (by decide)) <| ARH.keep [1, 2, 5, 7, 8, 78, 79, 80, 83, 84, 85, 86, 87, 88, 89, 90, 91, 92, 93, 94, 95, 96, 99, 100, 101, 103, 104, 105, 106] rfl <| ARH.dry (r := .sl (List.map G.api_Txn.av h_0.Txns)) rfl (fun _ => aop_load_pp rfl rfl sz22 rfl) <| ARH.dry rfl (fun _ => t_len_sl G.api_Txn.av h_0.Txns rfl rfl el22) <| ARH.dry rfl (fun _ => aop_geq rfl rfl rfl) <| ARH.keep [1, 2, 5, 7, 8, 78, 79, 80, 83, 84, 85, 86, 87, 88, 89, 90, 91, 92, 93, 94, 95, 96, 99, 100, 101, 103, 104, 105, 106, 107, 108, 109] rfl ?_
             refine ARH.dry rfl (fun _ => aop_pick rfl rfl rfl) <| ARH.dry rfl (fun _ => aop_move (.inl rfl) rfl) ?_
             rcases Bool.eq_false_or_eq_true (decide ((Sh.len h_0.Txns) ≤ x215.From)) with hb257 | hb257
             ·rw [hb257]
              replace h := Sh.if_t h hb257
              refine ARH.skip rfl <| ARH.keep [1, 2, 5, 7, 8, 78, 79, 80, 83, 84, 85, 86, 87, 88, 89, 90, 91, 92, 93, 94, 95, 96, 99, 100, 101, 104, 105, 106, 107, 108, 109, 111, 112] rfl <| ARH.skip rfl <| ARH.skip rfl <| ARH.skip rfl <| ARH.keep [1, 2, 5, 7, 8, 78, 79, 80, 83, 84, 85, 86, 87, 88, 89, 90, 91, 92, 93, 94, 95, 96, 99, 100, 101, 104, 105, 106, 107, 108, 109, 111, 112, 113, 114, 115] rfl <| ARH.dry rfl (fun _ => aop_pick rfl rfl rfl) <| ARH.nil ?_
              exact hK19 true _ h (Weak.kt [1, 2, 5, 7, 8, 116] rfl)
             ·rw [hb257]
              replace h := Sh.if_f h hb257
              refine ARH.dry rfl (fun _ => aop_field_pp rfl rfl fd78_1 (by decide)) <| ARH.keep [1, 2, 5, 7, 8, 78, 79, 80, 83, 84, 85, 86, 87, 88, 89, 90, 91, 92, 93, 94, 95, 96, 99, 100, 101, 104, 105, 106, 107, 108, 109, 111, 112] rfl <| ARH.dry (r := i64 x215.From) rfl (fun _ => aop_load_pp rfl rfl sz3 rfl) <| ARH.dry rfl (fun _ => aop_move (.inl rfl) rfl) <| ARH.dry (r := bl (decide (x215.From = n_1))) rfl (fun _ => aop_eql rfl rfl rfl) <| ARH.keep [1, 2, 5, 7, 8, 78, 79, 80, 83, 84, 85, 86, 87, 88, 89, 90, 91, 92, 93, 94, 95, 96, 99, 100, 101, 104, 105, 106, 107, 108, 109, 111, 112, 113, 114, 115] rfl <| ARH.dry rfl (fun _ => aop_pick rfl rfl rfl) <| ARH.nil ?_
              exact hK19 (decide (x215.From = n_1)) _ h (Weak.kt [1, 2, 5, 7, 8, 116] rfl)
      ·replace h := Sh.if_f h hb196
       refine awp_exit ?_
       replace h := Sh.exit_eq h hx1
       exact hK6 () _ h (Weak.kt [] rfl)
   ·intro K20 hK20
    refine awp_seqK fun K21 hK21 => awp_reg rfl <| AR.op rfl (aop_move (.inr rfl) rfl) <| AR.nil <| hK21 _ ?_
    refine awp_block <| awp_iter (fun (p : Int) => G.inquestref08_one_b2 h_0 n_1 x84 p) (fun (p : Int) => (⟨[(1, i64 n_1), (2, .pp [.sl (List.map G.api_Txn.av h_0.Txns)] 0), (5, .pp [i64 x84.Session, .sl (List.map i64 x84.Writes), .sl (List.map G.api_Take.av x84.Reads)] 0), (6, i64 p)], .empty⟩ : St)) h (Weak.kt [1, 2, 5, 6] rfl) ?_
    ·skip
     rintro i278 o2 h hx2
     replace h : G.inquestref08_one_b2 h_0 n_1 x84 i278 = some o2 := h
     unfold G.inquestref08_one_b2 at h
     refine awp_seqK fun K22 hK22 => awp_seqK fun K23 hK23 => awp_reg rfl <| AR.op rfl (aop_move (.inl rfl) rfl) <| AR.op rfl (aop_field_pp rfl rfl fd58_1 (by decide)) <| AR.op (r := .sl (List.map i64 x84.Writes)) rfl (aop_load_pp rfl rfl sz36 rfl) <| AR.keep [1, 2, 5, 6, 23, 25] rfl <| AR.op rfl (t_len_sl i64 x84.Writes rfl rfl el36) ?_
     refine AR.op rfl (aop_lss rfl rfl rfl) <| AR.nil <| hK23 _ (AWP.weak (Weak.kt [1, 2, 5, 6, 27] rfl) ?_)
     refine awp_cond rfl (fun hb279 => ?_) (fun hb279 => ?_)
     ·replace h := Sh.if_t h hb279
      refine awp_skip <| hK22 _ (AWP.weak (Weak.kt [1, 2, 5, 6] rfl) ?_)
      refine awp_seqK fun K24 hK24 => awp_block <| awp_seqJ (fun (p : Bool) => (⟨[(1, i64 n_1), (2, .pp [.sl (List.map G.api_Txn.av h_0.Txns)] 0), (5, .pp [i64 x84.Session, .sl (List.map i64 x84.Writes), .sl (List.map G.api_Take.av x84.Reads)] 0), (6, i64 i278), (61, bl p)], .empty⟩ : St)) (fun (p : Bool) => G.inquestref08_one_j6 i278 p = some o2) ?_ ?_
      ·rintro v303 h
       replace h : G.inquestref08_one_j6 i278 v303 = some o2 := h
       unfold G.inquestref08_one_j6 at h
       refine awp_cond rfl (fun hb304 => ?_) (fun hb304 => ?_)
       ·replace h := Sh.if_t h hb304
        refine awp_seqK fun K25 hK25 => awp_reg rfl <| AR.op rfl (aop_move (.inr rfl) rfl) <| AR.nil <| hK25 _ (AWP.weak (Weak.kt [4] rfl) ?_)
        refine awp_ret ?_
        replace h := Sh.exit_eq h hx2
        obtain rfl := Option.some.inj h
        refine ⟨.inr rfl, bl false, rfl, ?_⟩
        exact Weak.e ⟨.k, trivial⟩
       ·replace h := Sh.if_f h hb304
        refine awp_skip <| hK24 _ (AWP.weak (Weak.kt [1, 2, 5, 6] rfl) ?_)
        refine awp_reg rfl <| AR.op rfl (aop_move (.inl rfl) rfl) <| AR.op rfl (aop_add rfl rfl rfl rfl) <| AR.op rfl (aop_move (.inr rfl) rfl) <| AR.nil ?_
        replace h := Sh.next_eq h
        exact ⟨_, h, Weak.kt [1, 2, 5, 6] rfl⟩
      ·intro K26 hK26
       refine awp_any [(true, false), (true, false), (true, false), (true, false), (true, false), (true, false), (true, false), (true, false), (true, false), (true, false), (true, false), (true, false), (true, false), (true, false), (true, false), (true, false), (true, false), (true, false), (true, false), (true, false), (true, false), (true, false), (true, false), (true, false), (true, false), (true, false), (true, false), (true, false), (true, false), (true, false), (true, false), (true, false)] (by kernel_rfl) (by kernel_rfl) rfl ?_
       refine ARH.dry rfl (fun _ => aop_field_pp rfl rfl fd58_1 (by decide)) <| ARH.dry (r := .sl (List.map i64 x84.Writes)) rfl (fun _ => aop_load_pp rfl rfl sz36 rfl) <| ARH.dry rfl (fun _ => aop_move (.inl rfl) rfl) <| ARH.keep [1, 2, 5, 6, 31, 32] rfl ?_
       obtain ⟨x305, hx305, h⟩ := Sh.bind_some' h
       obtain ⟨k306, hi306, hl306⟩ := Sh.idx_some hx305
       refine ARH.dry rfl (fun _ => t_index_sl i64 x84.Writes hi306 hl306 rfl rfl rfl el36 rfl) <| ARH.dry (r := i64 x305) rfl (fun _ => aop_load_pp rfl rfl sz3 rfl) <| ARH.dry rfl (fun _ => aop_lss rfl rfl rfl) <| ARH.keep [1, 2, 5, 6, 35] rfl <| ARH.dry rfl (fun _ => aop_move (.inl rfl) rfl) ?_
       rcases Bool.eq_false_or_eq_true (decide (x305 < 0)) with hb307 | hb307
       ·rw [hb307]
        replace h := Sh.if_t h hb307
        refine ARH.skip rfl <| ARH.skip rfl <| ARH.keep [1, 2, 5, 6, 36, 37, 38] rfl <| ARH.skip rfl <| ARH.skip rfl <| ARH.skip rfl <| ARH.keep [1, 2, 5, 6, 36, 37, 38, 39, 40, 41] rfl <| ARH.skip rfl ?_
        refine ARH.dry rfl (fun _ => aop_pick rfl rfl rfl) <| ARH.dry rfl (fun _ => aop_move (.inl rfl) rfl) <| ARH.keep [1, 2, 5, 6, 37, 38, 39, 40, 41, 42, 44] rfl <| ARH.skip rfl <| ARH.skip rfl <| ARH.skip rfl <| ARH.keep [1, 2, 5, 6, 37, 38, 39, 40, 41, 42, 44, 45, 46, 47] rfl <| ARH.skip rfl ?_
        refine ARH.skip rfl <| ARH.skip rfl <| ARH.keep [1, 2, 5, 6, 37, 38, 39, 40, 41, 42, 44, 45, 46, 47, 48, 49, 50] rfl <| ARH.skip rfl <| ARH.skip rfl <| ARH.skip rfl <| ARH.keep [1, 2, 5, 6, 37, 38, 39, 40, 41, 42, 44, 45, 46, 47, 48, 49, 50, 51, 52, 53] rfl <| ARH.skip rfl ?_
        refine ARH.skip rfl <| ARH.skip rfl <| ARH.keep [1, 2, 5, 6, 37, 38, 39, 40, 41, 42, 44, 45, 46, 47, 48, 49, 50, 51, 52, 53, 54, 55, 56] rfl <| ARH.skip rfl <| ARH.skip rfl <| ARH.skip rfl <| ARH.keep [1, 2, 5, 6, 37, 38, 39, 40, 41, 42, 44, 45, 46, 47, 48, 49, 50, 51, 52, 53, 54, 55, 56, 57, 58, 59] rfl <| ARH.skip rfl ?_
        refine ARH.dry rfl (fun _ => aop_pick rfl rfl rfl) <| ARH.nil ?_
        exact hK26 true _ h (Weak.kt [1, 2, 5, 6, 61] rfl)
       ·rw [hb307]
        replace h := Sh.if_f h hb307
        refine ARH.dry rfl (fun _ => aop_field_pp rfl rfl fd58_1 (by decide)) <| ARH.dry (r := .sl (List.map i64 x84.Writes)) rfl (fun _ => aop_load_pp rfl rfl sz36 rfl) <| ARH.keep [1, 2, 5, 6, 36, 37, 38] rfl <| ARH.dry rfl (fun _ => aop_move (.inl rfl) rfl) ?_
        obtain ⟨x308, hx308, h⟩ := Sh.bind_some' h
        obtain ⟨k309, hi309, hl309⟩ := Sh.idx_some hx308
        refine ARH.dry rfl (fun _ => t_index_sl i64 x84.Writes hi309 hl309 rfl rfl rfl el36 rfl) <| ARH.dry (r := i64 x308) rfl (fun _ => aop_load_pp rfl rfl sz3 rfl) <| ARH.keep [1, 2, 5, 6, 36, 37, 38, 39, 40, 41] rfl <| ARH.dry rfl (fun _ => aop_gtr rfl rfl rfl) <| ARH.dry rfl (fun _ => aop_pick rfl rfl rfl) <| ARH.dry rfl (fun _ => aop_move (.inl rfl) rfl) <| ARH.keep [1, 2, 5, 6, 37, 38, 39, 40, 41, 42, 44] rfl ?_
        rcases Bool.eq_false_or_eq_true (decide ((15 : Int) < x308)) with hb310 | hb310
        ·rw [hb310]
         replace h := Sh.if_t h hb310
         refine ARH.skip rfl <| ARH.skip rfl <| ARH.skip rfl <| ARH.keep [1, 2, 5, 6, 37, 38, 39, 40, 41, 42, 44, 45, 46, 47] rfl <| ARH.skip rfl <| ARH.skip rfl <| ARH.skip rfl <| ARH.keep [1, 2, 5, 6, 37, 38, 39, 40, 41, 42, 44, 45, 46, 47, 48, 49, 50] rfl ?_
         refine ARH.skip rfl <| ARH.skip rfl <| ARH.skip rfl <| ARH.keep [1, 2, 5, 6, 37, 38, 39, 40, 41, 42, 44, 45, 46, 47, 48, 49, 50, 51, 52, 53] rfl <| ARH.skip rfl <| ARH.skip rfl <| ARH.skip rfl <| ARH.keep [1, 2, 5, 6, 37, 38, 39, 40, 41, 42, 44, 45, 46, 47, 48, 49, 50, 51, 52, 53, 54, 55, 56] rfl ?_
         refine ARH.skip rfl <| ARH.skip rfl <| ARH.skip rfl <| ARH.keep [1, 2, 5, 6, 37, 38, 39, 40, 41, 42, 44, 45, 46, 47, 48, 49, 50, 51, 52, 53, 54, 55, 56, 57, 58, 59] rfl <| ARH.skip rfl <| ARH.dry rfl (fun _ => aop_pick rfl rfl rfl) <| ARH.nil ?_
         exact hK26 true _ h (Weak.kt [1, 2, 5, 6, 61] rfl)
        ·rw [hb310]
         replace h := Sh.if_f h hb310
         refine ARH.dry rfl (fun _ => aop_move (.inl rfl) rfl) <| ARH.dry rfl (fun _ => aop_gtr rfl rfl rfl) <| ARH.dry rfl (fun _ => aop_move (.inl rfl) rfl) <| ARH.keep [1, 2, 5, 6, 37, 38, 39, 40, 41, 42, 44, 45, 46, 47] rfl ?_
         rcases Bool.eq_false_or_eq_true (decide ((0 : Int) < i278)) with hb311 | hb311
         ·rw [hb311]
          replace h := Sh.if_t h hb311
          refine ARH.dry rfl (fun _ => aop_field_pp rfl rfl fd58_1 (by decide)) <| ARH.dry (r := .sl (List.map i64 x84.Writes)) rfl (fun _ => aop_load_pp rfl rfl sz36 rfl) <| ARH.dry rfl (fun _ => aop_move (.inl rfl) rfl) <| ARH.keep [1, 2, 5, 6, 37, 38, 39, 40, 41, 42, 44, 45, 46, 47, 48, 49, 50] rfl <| ARH.dry rfl (fun _ => aop_sub rfl rfl rfl rfl) ?_
          obtain ⟨x312, hx312, h⟩ := Sh.bind_some' h
          obtain ⟨k313, hi313, hl313⟩ := Sh.idx_some hx312
          refine ARH.dry rfl (fun _ => t_index_sl i64 x84.Writes hi313 hl313 rfl rfl rfl el36 rfl) <| ARH.dry (r := i64 x312) rfl (fun _ => aop_load_pp rfl rfl sz3 rfl) <| ARH.keep [1, 2, 5, 6, 37, 38, 39, 40, 41, 42, 44, 45, 46, 47, 48, 49, 50, 51, 52, 53] rfl <| ARH.dry rfl (fun _ => aop_field_pp rfl rfl fd58_1 (by decide)) <| ARH.dry (r := .sl (List.map i64 x84.Writes)) rfl (fun _ => aop_load_pp rfl rfl sz36 rfl) <| ARH.dry rfl (fun _ => aop_move (.inl rfl) rfl) <| ARH.keep [1, 2, 5, 6, 37, 38, 39, 40, 41, 42, 44, 45, 46, 47, 48, 49, 50, 51, 52, 53, 54, 55, 56] rfl ?_
          obtain ⟨x314, hx314, h⟩ := Sh.bind_some' h
          obtain ⟨k315, hi315, hl315⟩ := Sh.idx_some hx314
          refine ARH.dry rfl (fun _ => t_index_sl i64 x84.Writes hi315 hl315 rfl rfl rfl el36 rfl) <| ARH.dry (r := i64 x314) rfl (fun _ => aop_load_pp rfl rfl sz3 rfl) <| ARH.dry rfl (fun _ => aop_geq rfl rfl rfl) <| ARH.keep [1, 2, 5, 6, 37, 38, 39, 40, 41, 42, 44, 45, 46, 47, 48, 49, 50, 51, 52, 53, 54, 55, 56, 57, 58, 59] rfl <| ARH.dry rfl (fun _ => aop_pick rfl rfl rfl) <| ARH.dry rfl (fun _ => aop_pick rfl rfl rfl) <| ARH.nil ?_
          exact hK26 (decide (x314 ≤ x312)) _ h (Weak.kt [1, 2, 5, 6, 61] rfl)
         ·rw [hb311]
          replace h := Sh.if_f h hb311
          refine ARH.skip rfl <| ARH.skip rfl <| ARH.skip rfl <| ARH.keep [1, 2, 5, 6, 37, 38, 39, 40, 41, 42, 44, 45, 46, 47, 48, 49, 50] rfl <| ARH.skip rfl <| ARH.skip rfl <| ARH.skip rfl <| ARH.keep [1, 2, 5, 6, 37, 38, 39, 40, 41, 42, 44, 45, 46, 47, 48, 49, 50, 51, 52, 53] rfl ?_
          refine ARH.skip rfl <| ARH.skip rfl <| ARH.skip rfl <| ARH.keep [1, 2, 5, 6, 37, 38, 39, 40, 41, 42, 44, 45, 46, 47, 48, 49, 50, 51, 52, 53, 54, 55, 56] rfl <| ARH.skip rfl <| ARH.skip rfl <| ARH.skip rfl <| ARH.keep [1, 2, 5, 6, 37, 38, 39, 40, 41, 42, 44, 45, 46, 47, 48, 49, 50, 51, 52, 53, 54, 55, 56, 57, 58, 59] rfl ?_
          refine ARH.dry rfl (fun _ => aop_pick rfl rfl rfl) <| ARH.dry rfl (fun _ => aop_pick rfl rfl rfl) <| ARH.nil ?_
          exact hK26 false _ h (Weak.kt [1, 2, 5, 6, 61] rfl)
     ·replace h := Sh.if_f h hb279
      refine awp_exit ?_
      replace h := Sh.exit_eq h hx2
      exact hK20 () _ h (Weak.kt [1, 2, 5] rfl)
 ·intro K27 hK27
  refine awp_reg rfl <| AR.op rfl (aop_field_pp rfl rfl fd58_0 (by decide)) <| AR.op (r := i64 x84.Session) rfl (aop_load_pp rfl rfl sz3 rfl) <| AR.op rfl (aop_lss rfl rfl rfl) <| AR.keep [1, 2, 5, 17] rfl <| AR.op rfl (aop_move (.inl rfl) rfl) ?_
  rcases Bool.eq_false_or_eq_true (decide (x84.Session < 0)) with hb316 | hb316
  ·rw [hb316]
   replace h := Sh.if_t h hb316
   refine AR.skip rfl <| AR.skip rfl <| AR.keep [1, 2, 5, 18, 20] rfl <| AR.skip rfl <| AR.op rfl (aop_pick rfl rfl rfl) <| AR.nil ?_
   exact hK27 true _ h (Weak.kt [1, 2, 5, 22] rfl)
  ·rw [hb316]
   replace h := Sh.if_f h hb316
   refine AR.op rfl (aop_field_pp rfl rfl fd58_0 (by decide)) <| AR.op (r := i64 x84.Session) rfl (aop_load_pp rfl rfl sz3 rfl) <| AR.keep [1, 2, 5, 18, 20] rfl <| AR.op rfl (aop_gtr rfl rfl rfl) <| AR.op rfl (aop_pick rfl rfl rfl) <| AR.nil ?_
   exact hK27 (decide ((7 : Int) < x84.Session)) _ h (Weak.kt [1, 2, 5, 22] rfl)
theorem inquestref08_one_ok {W0 : World} (hT : Tab W0) {h_0 : G.api_Hist} {n_1 : Int} {r : Bool} (h : G.inquestref08_one h_0 n_1 = some r) : Fun1 Try.prog W0 31 [G.api_Hist.av h_0, i64 n_1] (bl r) := Fun1.two (inquestref08_one_ok0 hT h) (by simp)


theorem inquestref08_Right_ok0 {W0 : World} (hT : Tab W0) {h_0 : G.api_Hist} {r : Bool} (h : G.inquestref08_Right h_0 = some r) : Fun2 Try.prog W0 16 [G.api_Hist.av h_0] (bl r) .empty := by
 refine fun2_of_awp Try.func16 rfl (by kernel_rfl) Try.ntmps16 (by simp) ?_
 unfold G.inquestref08_Right at h
 show AWP _ _ _ _ ⟨[(0, G.api_Hist.av h_0)], .empty⟩ _
 refine awp_seqK fun K1 hK1 => awp_reg rfl <| AR.op (r := .ref 0 0 0) rfl (aop_box 1 [G.api_Hist.av h_0] rfl rfl rfl (.inl ⟨rfl, rfl⟩)) <| AR.op rfl (aop_move (.inr rfl) rfl) <| AR.nil <| hK1 _ (AWP.weak (Weak.e (fr' := [(1, .pp [.sl (List.map G.api_Txn.av h_0.Txns)] 0)]) (H' := .empty) ⟨⟨_, rfl, .frzA rfl rfl rfl rfl (by simp)⟩, trivial⟩) ?_)
 refine awp_seqK fun K2 hK2 => awp_seqK fun K3 hK3 => awp_reg rfl <| AR.op rfl (aop_field_pp rfl rfl fd24_0 (by decide)) <| AR.op (r := .sl (List.map G.api_Txn.av h_0.Txns)) rfl (aop_load_pp rfl rfl sz22 rfl) <| AR.op rfl (t_len_sl G.api_Txn.av h_0.Txns rfl rfl el22) <| AR.keep [1, 7] rfl <| AR.op rfl (aop_gtr rfl rfl rfl) ?_
 refine AR.nil <| hK3 _ (AWP.weak (Weak.kt [1, 8] rfl) ?_)
 refine awp_cond rfl (fun hb6 => ?_) (fun hb6 => ?_)
 ·replace h := Sh.if_t h hb6
  refine awp_seqK fun K4 hK4 => awp_reg rfl <| AR.op rfl (aop_move (.inr rfl) rfl) <| AR.nil <| hK4 _ (AWP.weak (Weak.kt [2] rfl) ?_)
  refine awp_ret ?_
  obtain rfl := Option.some.inj h
  refine ⟨.inr rfl, bl false, rfl, ?_⟩
  exact Weak.e ⟨.k, trivial⟩
 ·replace h := Sh.if_f h hb6
  refine awp_skip <| hK2 _ (AWP.weak (Weak.kt [1] rfl) ?_)
  refine awp_seqJ (fun (p : Unit) => (⟨[], .empty⟩ : St)) (fun (p : Unit) => G.inquestref08_Right_j1 = some r) ?_ ?_
  ·rintro ⟨⟩ h
   replace h : G.inquestref08_Right_j1 = some r := h
   unfold G.inquestref08_Right_j1 at h
   refine awp_seqK fun K5 hK5 => awp_reg rfl <| AR.op rfl (aop_move (.inr rfl) rfl) <| AR.nil <| hK5 _ ?_
   refine awp_ret ?_
   obtain rfl := Option.some.inj h
   refine ⟨.inr rfl, bl true, rfl, ?_⟩
   exact Weak.e ⟨.k, trivial⟩
  ·intro K6 hK6
   refine awp_seqK fun K7 hK7 => awp_reg rfl <| AR.op rfl (aop_move (.inr rfl) rfl) <| AR.nil <| hK7 _ ?_
   refine awp_block <| awp_iter (fun (p : Int) => G.inquestref08_Right_b1 h_0 p) (fun (p : Int) => (⟨[(1, .pp [.sl (List.map G.api_Txn.av h_0.Txns)] 0), (3, i64 p)], .empty⟩ : St)) h (Weak.kt [1, 3] rfl) ?_
   ·skip
    rintro n15 o1 h hx1
    replace h : G.inquestref08_Right_b1 h_0 n15 = some o1 := h
    unfold G.inquestref08_Right_b1 at h
    refine awp_seqK fun K8 hK8 => awp_seqK fun K9 hK9 => awp_reg rfl <| AR.op rfl (aop_move (.inl rfl) rfl) <| AR.op rfl (aop_field_pp rfl rfl fd24_0 (by decide)) <| AR.op (r := .sl (List.map G.api_Txn.av h_0.Txns)) rfl (aop_load_pp rfl rfl sz22 rfl) <| AR.keep [1, 3, 9, 11] rfl <| AR.op rfl (t_len_sl G.api_Txn.av h_0.Txns rfl rfl el22) ?_
    refine AR.op rfl (aop_lss rfl rfl rfl) <| AR.nil <| hK9 _ (AWP.weak (Weak.kt [1, 3, 13] rfl) ?_)
    refine awp_cond rfl (fun hb16 => ?_) (fun hb16 => ?_)
    ·replace h := Sh.if_t h hb16
     refine awp_skip <| hK8 _ (AWP.weak (Weak.kt [1, 3] rfl) ?_)
     refine awp_seqK fun K10 hK10 => awp_block <| awp_seqK fun K11 hK11 => awp_reg rfl <| AR.op (r := G.api_Hist.av h_0) rfl (aop_load_pp rfl rfl sz24 rfl) <| AR.op rfl (aop_move (.inl rfl) rfl) ?_
     obtain ⟨r19, hr19, h⟩ := Sh.bind_some' h
     refine AR.op (r := bl r19) rfl (aop_call1 rfl rfl (by simp) (inquestref08_one_ok hT hr19)) <| AR.keep [1, 3, 18] rfl <| AR.op rfl (aop_move (.inr rfl) rfl) <| AR.nil <| hK11 _ (AWP.weak (Weak.kt [1, 3, 4] rfl) ?_)
     refine awp_seqK fun K12 hK12 => awp_reg rfl <| AR.op rfl (aop_move (.inl rfl) rfl) <| AR.op (r := bl (!r19)) rfl (aop_not rfl rfl) <| AR.nil <| hK12 _ (AWP.weak (Weak.kt [1, 3, 20] rfl) ?_)
     refine awp_cond rfl (fun hb20 => ?_) (fun hb20 => ?_)
     ·replace h := Sh.if_t h hb20
      refine awp_seqK fun K13 hK13 => awp_reg rfl <| AR.op rfl (aop_move (.inr rfl) rfl) <| AR.nil <| hK13 _ (AWP.weak (Weak.kt [2] rfl) ?_)
      refine awp_ret ?_
      replace h := Sh.exit_eq h hx1
      obtain rfl := Option.some.inj h
      refine ⟨.inr rfl, bl false, rfl, ?_⟩
      exact Weak.e ⟨.k, trivial⟩
     ·replace h := Sh.if_f h hb20
      refine awp_skip <| hK10 _ (AWP.weak (Weak.kt [1, 3] rfl) ?_)
      refine awp_reg rfl <| AR.op rfl (aop_move (.inl rfl) rfl) <| AR.op rfl (aop_add rfl rfl rfl rfl) <| AR.op rfl (aop_move (.inr rfl) rfl) <| AR.nil ?_
      replace h := Sh.next_eq h
      exact ⟨_, h, Weak.kt [1, 3] rfl⟩
    ·replace h := Sh.if_f h hb16
     refine awp_exit ?_
     replace h := Sh.exit_eq h hx1
     exact hK6 () _ h (Weak.kt [] rfl)
theorem inquestref08_Right_ok {W0 : World} (hT : Tab W0) {h_0 : G.api_Hist} {r : Bool} (h : G.inquestref08_Right h_0 = some r) : Fun1 Try.prog W0 16 [G.api_Hist.av h_0] (bl r) := Fun1.two (inquestref08_Right_ok0 hT h) (by simp)

end Wk
