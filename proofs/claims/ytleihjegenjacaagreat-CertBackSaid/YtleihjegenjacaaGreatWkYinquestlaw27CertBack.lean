/- That a statement does what its plain function says. -/
import Derived.Test.YtleihjegenjacaaGreatWkYinquestlaw27
open Go Go.Av Go.Proofs
set_option linter.unusedVariables false
set_option maxHeartbeats 8000000
set_option maxRecDepth 20000
namespace Wk
theorem inquestlaw27_CertBack_ok0 {W0 : World} (hT : Tab W0) {c_0 : G.cert_Cert} {s_1 : List UInt8} {r : Bool} (h : G.inquestlaw27_CertBack c_0 s_1 = some r) : Fun2 Tryz.prog W0 5 [G.cert_Cert.av c_0, strL s_1] (bl r) .empty := by
 refine fun2_of_awp Tryz.func5 rfl (by kernel_rfl) Tryz.ntmps5 (by simp) ?_
 unfold G.inquestlaw27_CertBack at h
 show AWP _ _ _ _ ⟨[(0, G.cert_Cert.av c_0), (1, strL s_1)], .empty⟩ _
 refine awp_seqK fun K1 hK1 => awp_reg rfl <| AR.op (r := .ref 0 0 0) rfl (aop_box 5 [G.cert_Cert.av c_0] rfl rfl rfl (.inl ⟨rfl, rfl⟩)) <| AR.op rfl (aop_move (.inr rfl) rfl) <| AR.nil <| hK1 _ (AWP.weak (Weak.e (fr' := [(1, strL s_1), (2, .pp [i64 c_0.Level, bl c_0.Yes, .sl (List.map i64 c_0.Order), .sl (List.map G.si_Row.av c_0.Rows), .sl (List.map G.refute_Node.av c_0.Tree)] 0)]) (H' := .empty) ⟨.k, ⟨_, rfl, .frzA rfl rfl rfl rfl (by simp)⟩, trivial⟩) ?_)
 refine awp_seqK fun K2 hK2 => awp_reg rfl ?_
 obtain ⟨r22, hr22, h⟩ := Sh.bind_some' h
 refine AR.op (r := bl r22) rfl (aop_call1 rfl rfl (by simp) (inquestlaw27_awake_ok hT hr22)) <| AR.op rfl (aop_move (.inr rfl) rfl) <| AR.nil <| hK2 _ (AWP.weak (Weak.kt [1, 2, 5] rfl) ?_)
 refine awp_seqK fun K3 hK3 => awp_seqK fun K4 hK4 => awp_reg rfl <| AR.op rfl (aop_move (.inl rfl) rfl) <| AR.op (r := bl (!r22)) rfl (aop_not rfl rfl) <| AR.nil <| hK4 _ (AWP.weak (Weak.kt [1, 2, 17] rfl) ?_)
 refine awp_cond rfl (fun hb23 => ?_) (fun hb23 => ?_)
 ·replace h := Sh.if_t h hb23
  refine awp_seqK fun K5 hK5 => awp_reg rfl <| AR.op rfl (aop_move (.inr rfl) rfl) <| AR.nil <| hK5 _ (AWP.weak (Weak.kt [4] rfl) ?_)
  refine awp_ret ?_
  obtain rfl := Option.some.inj h
  refine ⟨.inr rfl, bl false, rfl, ?_⟩
  exact Weak.e ⟨.k, trivial⟩
 ·replace h := Sh.if_f h hb23
  refine awp_skip <| hK3 _ (AWP.weak (Weak.kt [1, 2] rfl) ?_)
  refine awp_seqK fun K6 hK6 => awp_reg rfl <| AR.op (r := G.cert_Cert.av c_0) rfl (aop_load_pp rfl rfl sz29 rfl) ?_
  obtain ⟨r25, hr25, h⟩ := Sh.bind_some' h
  refine AR.op (r := bl r25) rfl (aop_call1 rfl rfl (by simp) (inquestlaw27_few_ok hT hr25)) <| AR.op rfl (aop_move (.inr rfl) rfl) <| AR.nil <| hK6 _ (AWP.weak (Weak.kt [1, 2, 6] rfl) ?_)
  refine awp_seqK fun K7 hK7 => awp_seqJ (fun (p : Bool) => (⟨[(1, strL s_1), (2, .pp [i64 c_0.Level, bl c_0.Yes, .sl (List.map i64 c_0.Order), .sl (List.map G.si_Row.av c_0.Rows), .sl (List.map G.refute_Node.av c_0.Tree)] 0), (26, bl p)], .empty⟩ : St)) (fun (p : Bool) => G.inquestlaw27_CertBack_j1 c_0 s_1 p = some r) ?_ ?_
  ·rintro v29 h
   replace h : G.inquestlaw27_CertBack_j1 c_0 s_1 v29 = some r := h
   unfold G.inquestlaw27_CertBack_j1 at h
   refine awp_cond rfl (fun hb30 => ?_) (fun hb30 => ?_)
   ·replace h := Sh.if_t h hb30
    refine awp_seqK fun K8 hK8 => awp_reg rfl <| AR.op rfl (aop_move (.inr rfl) rfl) <| AR.nil <| hK8 _ (AWP.weak (Weak.kt [4] rfl) ?_)
    refine awp_ret ?_
    obtain rfl := Option.some.inj h
    refine ⟨.inr rfl, bl true, rfl, ?_⟩
    exact Weak.e ⟨.k, trivial⟩
   ·replace h := Sh.if_f h hb30
    refine awp_skip <| hK7 _ (AWP.weak (Weak.kt [1, 2] rfl) ?_)
    refine awp_seqK fun K9 hK9 => awp_reg rfl <| AR.op (r := G.cert_Cert.av c_0) rfl (aop_load_pp rfl rfl sz29 rfl) ?_
    obtain ⟨r32, hr32, h⟩ := Sh.bind_some' h
    refine AR.op (r := .tuple [strL r32.1, i64 r32.2]) rfl (aop_call1 rfl rfl (by simp) (cert_Put_ok hT hr32)) <| AR.op rfl (aop_move (.inl rfl) rfl) <| AR.keep [1, 2, 27] rfl <| AR.op (r := strL r32.1) rfl (aop_extract rfl rfl rfl) <| AR.op (r := i64 r32.2) rfl (aop_extract rfl rfl rfl) <| AR.op rfl (aop_move (.inr rfl) rfl) <| AR.keep [1, 2, 31, 7] rfl <| AR.op rfl (aop_move (.inr rfl) rfl) ?_
    refine AR.nil <| hK9 _ (AWP.weak (Weak.kt [1, 2, 7, 8] rfl) ?_)
    refine awp_seqJ (fun (p : Unit) => (⟨[(1, strL s_1), (7, strL r32.1), (8, i64 r32.2)], .empty⟩ : St)) (fun (p : Unit) => G.inquestlaw27_CertBack_j2 s_1 r32 = some r) ?_ ?_
    ·rintro ⟨⟩ h
     replace h : G.inquestlaw27_CertBack_j2 s_1 r32 = some r := h
     unfold G.inquestlaw27_CertBack_j2 at h
     refine awp_seqK fun K10 hK10 => awp_reg rfl <| AR.op rfl (aop_move (.inl rfl) rfl) ?_
     obtain ⟨r40, hr40, h⟩ := Sh.bind_some' h
     refine AR.op (r := .tuple [G.cert_Cert.av r40.1, i64 r40.2]) rfl (aop_call1 rfl rfl (by simp) (cert_Get_ok hT hr40)) <| AR.op rfl (aop_move (.inl rfl) rfl) <| AR.keep [1, 7, 8, 49] rfl <| AR.op (r := G.cert_Cert.av r40.1) rfl (aop_extract rfl rfl rfl) <| AR.op (r := i64 r40.2) rfl (aop_extract rfl rfl rfl) <| AR.op (r := .ref 0 0 0) rfl (aop_alloc 5 [.agg [i64 0, bl false, nilS, nilS, nilS]] rfl zr29 (by kernel_rfl) (.inl ⟨rfl, rfl⟩)) <| AR.keep [1, 7, 8, 52, 53, 11] rfl <| AR.op rfl (aop_store (e' := G.cert_Cert.av r40.1) rfl rfl rfl rfl rfl rfl sz29 rfl dt rfl) ?_
     refine AR.op rfl (aop_move (.inr rfl) rfl) <| AR.nil <| hK10 _ (AWP.weak (Weak.e (fr' := [(1, strL s_1), (7, strL r32.1), (8, i64 r32.2), (11, .pp [i64 r40.1.Level, bl r40.1.Yes, .sl (List.map i64 r40.1.Order), .sl (List.map G.si_Row.av r40.1.Rows), .sl (List.map G.refute_Node.av r40.1.Tree)] 0), (12, i64 r40.2)]) (H' := .empty) ⟨.k, .k, .k, ⟨_, rfl, .frzA rfl rfl rfl rfl (by simp)⟩, .k, trivial⟩) ?_)
     refine awp_seqK fun K11 hK11 => awp_seqK fun K12 hK12 => awp_reg rfl <| AR.op rfl (aop_move (.inl rfl) rfl) <| AR.op (r := bl (decide (r40.2 ≠ 0))) rfl (aop_neq rfl rfl rfl) <| AR.nil <| hK12 _ (AWP.weak (Weak.kt [1, 7, 8, 11, 55] rfl) ?_)
     refine awp_cond rfl (fun hb46 => ?_) (fun hb46 => ?_)
     ·replace h := Sh.if_t h hb46
      refine awp_seqK fun K13 hK13 => awp_reg rfl <| AR.op rfl (aop_field_pp rfl rfl fd29_1 (by decide)) <| AR.op (r := bl r40.1.Yes) rfl (aop_load_pp rfl rfl sz4 rfl) <| AR.op (r := bl (!r40.1.Yes)) rfl (aop_not rfl rfl) <| AR.keep [7, 8, 11, 58] rfl <| AR.op rfl (aop_move (.inl rfl) rfl) ?_
      rcases Bool.eq_false_or_eq_true (!r40.1.Yes) with hb51 | hb51
      ·rw [hb51]
       replace h := Sh.if_t h hb51
       refine AR.op rfl (aop_field_pp rfl rfl fd29_0 (by decide)) <| AR.op (r := i64 r40.1.Level) rfl (aop_load_pp rfl rfl sz3 rfl) <| AR.keep [7, 8, 11, 59, 61] rfl <| AR.op (r := bl (decide (r40.1.Level = 0))) rfl (aop_eql rfl rfl rfl) <| AR.op rfl (aop_pick rfl rfl rfl) <| AR.op rfl (aop_move (.inl rfl) rfl) <| AR.keep [7, 8, 11, 64] rfl ?_
       rcases Bool.eq_false_or_eq_true (decide (r40.1.Level = 0)) with hb52 | hb52
       ·rw [hb52]
        replace h := Sh.if_t h hb52
        refine AR.op rfl (aop_field_pp rfl rfl fd29_2 (by decide)) <| AR.op (r := .sl (List.map i64 r40.1.Order)) rfl (aop_load_pp rfl rfl sz25 rfl) <| AR.op rfl (t_len_sl i64 r40.1.Order rfl rfl el25) <| AR.keep [7, 8, 11, 64, 67] rfl <| AR.op rfl (aop_field_pp rfl rfl fd29_3 (by decide)) <| AR.op (r := .sl (List.map G.si_Row.av r40.1.Rows)) rfl (aop_load_pp rfl rfl sz26 rfl) <| AR.op rfl (t_len_sl G.si_Row.av r40.1.Rows rfl rfl el26) <| AR.keep [7, 8, 11, 64, 67, 70] rfl ?_
        refine AR.op rfl (aop_add rfl rfl rfl rfl) <| AR.op rfl (aop_field_pp rfl rfl fd29_4 (by decide)) <| AR.op (r := .sl (List.map G.refute_Node.av r40.1.Tree)) rfl (aop_load_pp rfl rfl sz27 rfl) <| AR.keep [7, 8, 64, 71, 73] rfl <| AR.op rfl (t_len_sl G.refute_Node.av r40.1.Tree rfl rfl el27) <| AR.op rfl (aop_add rfl rfl rfl rfl) <| AR.op (r := bl (decide ((w64 ((w64 ((Sh.len r40.1.Order) + (Sh.len r40.1.Rows))) + (Sh.len r40.1.Tree))) = 0))) rfl (aop_eql rfl rfl rfl) <| AR.keep [7, 8, 64, 76] rfl ?_
        refine AR.op rfl (aop_pick rfl rfl rfl) <| AR.op rfl (aop_move (.inl rfl) rfl) ?_
        rcases Bool.eq_false_or_eq_true (decide ((w64 ((w64 ((Sh.len r40.1.Order) + (Sh.len r40.1.Rows))) + (Sh.len r40.1.Tree))) = 0)) with hb53 | hb53
        ·rw [hb53]
         replace h := Sh.if_t h hb53
         refine AR.op rfl (aop_move (.inl rfl) rfl) <| AR.keep [7, 78, 79] rfl <| AR.op (r := bl (decide (r32.2 = 0))) rfl (aop_eql rfl rfl rfl) <| AR.op rfl (aop_move (.inl rfl) rfl) ?_
         rcases Bool.eq_false_or_eq_true (decide (r32.2 = 0)) with hb54 | hb54
         ·rw [hb54]
          replace h := Sh.if_t h hb54
          refine AR.skip rfl <| AR.keep [78, 81, 82] rfl <| AR.skip rfl <| AR.op rfl (aop_pick rfl rfl rfl) <| AR.op rfl (aop_pick rfl rfl rfl) <| AR.keep [85] rfl <| AR.op rfl (aop_move (.inr rfl) rfl) <| AR.nil ?_
          refine hK13 _ (AWP.weak (Weak.kt [4] rfl) ?_)
          refine awp_ret ?_
          obtain rfl := Option.some.inj h
          refine ⟨.inr rfl, bl true, rfl, ?_⟩
          exact Weak.e ⟨.k, trivial⟩
         ·rw [hb54]
          replace h := Sh.if_f h hb54
          refine AR.op rfl (aop_move (.inl rfl) rfl) <| AR.keep [78, 81, 82] rfl <| AR.op (r := bl (decide (r32.1 = []))) rfl (t_eq_str (a := r32.1) (b := []) rfl rfl rfl) <| AR.op rfl (aop_pick rfl rfl rfl) <| AR.op rfl (aop_pick rfl rfl rfl) <| AR.keep [85] rfl <| AR.op rfl (aop_move (.inr rfl) rfl) <| AR.nil ?_
          refine hK13 _ (AWP.weak (Weak.kt [4] rfl) ?_)
          refine awp_ret ?_
          obtain rfl := Option.some.inj h
          refine ⟨.inr rfl, bl (decide (r32.1 = [])), rfl, ?_⟩
          exact Weak.e ⟨.k, trivial⟩
        ·rw [hb53]
         replace h := Sh.if_f h hb53
         refine AR.skip rfl <| AR.keep [7, 78, 79] rfl <| AR.skip rfl <| AR.skip rfl <| AR.skip rfl <| AR.keep [78, 81, 82] rfl <| AR.skip rfl <| AR.skip rfl ?_
         refine AR.op rfl (aop_pick rfl rfl rfl) <| AR.keep [85] rfl <| AR.op rfl (aop_move (.inr rfl) rfl) <| AR.nil <| hK13 _ (AWP.weak (Weak.kt [4] rfl) ?_)
         refine awp_ret ?_
         obtain rfl := Option.some.inj h
         refine ⟨.inr rfl, bl false, rfl, ?_⟩
         exact Weak.e ⟨.k, trivial⟩
       ·rw [hb52]
        replace h := Sh.if_f h hb52
        refine AR.skip rfl <| AR.skip rfl <| AR.skip rfl <| AR.keep [7, 8, 11, 64, 67] rfl <| AR.skip rfl <| AR.skip rfl <| AR.skip rfl <| AR.keep [7, 8, 11, 64, 67, 70] rfl ?_
        refine AR.skip rfl <| AR.skip rfl <| AR.skip rfl <| AR.keep [7, 8, 64, 71, 73] rfl <| AR.skip rfl <| AR.skip rfl <| AR.skip rfl <| AR.keep [7, 8, 64, 76] rfl ?_
        refine AR.op rfl (aop_pick rfl rfl rfl) <| AR.op rfl (aop_move (.inl rfl) rfl) <| AR.skip rfl <| AR.keep [7, 78, 79] rfl <| AR.skip rfl <| AR.skip rfl <| AR.skip rfl <| AR.keep [78, 81, 82] rfl ?_
        refine AR.skip rfl <| AR.skip rfl <| AR.op rfl (aop_pick rfl rfl rfl) <| AR.keep [85] rfl <| AR.op rfl (aop_move (.inr rfl) rfl) <| AR.nil <| hK13 _ (AWP.weak (Weak.kt [4] rfl) ?_)
        refine awp_ret ?_
        obtain rfl := Option.some.inj h
        refine ⟨.inr rfl, bl false, rfl, ?_⟩
        exact Weak.e ⟨.k, trivial⟩
      ·rw [hb51]
       replace h := Sh.if_f h hb51
       refine AR.skip rfl <| AR.skip rfl <| AR.keep [7, 8, 11, 59, 61] rfl <| AR.skip rfl <| AR.op rfl (aop_pick rfl rfl rfl) <| AR.op rfl (aop_move (.inl rfl) rfl) <| AR.keep [7, 8, 11, 64] rfl <| AR.skip rfl ?_
       refine AR.skip rfl <| AR.skip rfl <| AR.keep [7, 8, 11, 64, 67] rfl <| AR.skip rfl <| AR.skip rfl <| AR.skip rfl <| AR.keep [7, 8, 11, 64, 67, 70] rfl <| AR.skip rfl ?_
       refine AR.skip rfl <| AR.skip rfl <| AR.keep [7, 8, 64, 71, 73] rfl <| AR.skip rfl <| AR.skip rfl <| AR.skip rfl <| AR.keep [7, 8, 64, 76] rfl <| AR.op rfl (aop_pick rfl rfl rfl) ?_
       refine AR.op rfl (aop_move (.inl rfl) rfl) <| AR.skip rfl <| AR.keep [7, 78, 79] rfl <| AR.skip rfl <| AR.skip rfl <| AR.skip rfl <| AR.keep [78, 81, 82] rfl <| AR.skip rfl ?_
       refine AR.skip rfl <| AR.op rfl (aop_pick rfl rfl rfl) <| AR.keep [85] rfl <| AR.op rfl (aop_move (.inr rfl) rfl) <| AR.nil <| hK13 _ (AWP.weak (Weak.kt [4] rfl) ?_)
       refine awp_ret ?_
       obtain rfl := Option.some.inj h
       refine ⟨.inr rfl, bl false, rfl, ?_⟩
       exact Weak.e ⟨.k, trivial⟩
     ·replace h := Sh.if_f h hb46
      refine awp_skip <| hK11 _ (AWP.weak (Weak.kt [1, 11] rfl) ?_)
      refine awp_seqK fun K14 hK14 => awp_reg rfl <| AR.op (r := G.cert_Cert.av r40.1) rfl (aop_load_pp rfl rfl sz29 rfl) ?_
      obtain ⟨r56, hr56, h⟩ := Sh.bind_some' h
      refine AR.op (r := .tuple [strL r56.1, i64 r56.2]) rfl (aop_call1 rfl rfl (by simp) (cert_Put_ok hT hr56)) <| AR.op rfl (aop_move (.inl rfl) rfl) <| AR.keep [1, 86] rfl <| AR.op (r := strL r56.1) rfl (aop_extract rfl rfl rfl) <| AR.op (r := i64 r56.2) rfl (aop_extract rfl rfl rfl) <| AR.op rfl (aop_move (.inr rfl) rfl) <| AR.keep [1, 90, 13] rfl <| AR.op rfl (aop_move (.inr rfl) rfl) ?_
      refine AR.nil <| hK14 _ (AWP.weak (Weak.kt [1, 13, 14] rfl) ?_)
      refine awp_seqK fun K15 hK15 => awp_reg rfl <| AR.op rfl (aop_move (.inl rfl) rfl) <| AR.op (r := bl (decide (r56.2 = 0))) rfl (aop_eql rfl rfl rfl) <| AR.op rfl (aop_move (.inl rfl) rfl) <| AR.keep [1, 13, 93] rfl ?_
      rcases Bool.eq_false_or_eq_true (decide (r56.2 = 0)) with hb58 | hb58
      ·rw [hb58]
       replace h := Sh.if_t h hb58
       refine AR.op rfl (aop_move (.inl rfl) rfl) <| AR.op rfl (aop_move (.inl rfl) rfl) <| AR.op (r := bl (decide (r56.1 = s_1))) rfl (t_eq_str (a := r56.1) (b := s_1) rfl rfl rfl) <| AR.keep [93, 96] rfl <| AR.op rfl (aop_pick rfl rfl rfl) <| AR.op rfl (aop_move (.inr rfl) rfl) <| AR.nil <| hK15 _ (AWP.weak (Weak.kt [4] rfl) ?_)
       refine awp_ret ?_
       obtain rfl := Option.some.inj h
       refine ⟨.inr rfl, bl (decide (r56.1 = s_1)), rfl, ?_⟩
       exact Weak.e ⟨.k, trivial⟩
      ·rw [hb58]
       replace h := Sh.if_f h hb58
       refine AR.skip rfl <| AR.skip rfl <| AR.skip rfl <| AR.keep [93, 96] rfl <| AR.op rfl (aop_pick rfl rfl rfl) <| AR.op rfl (aop_move (.inr rfl) rfl) <| AR.nil <| hK15 _ (AWP.weak (Weak.kt [4] rfl) ?_)
       refine awp_ret ?_
       obtain rfl := Option.some.inj h
       refine ⟨.inr rfl, bl false, rfl, ?_⟩
       exact Weak.e ⟨.k, trivial⟩
    ·intro K16 hK16
     refine awp_seqK fun K17 hK17 => awp_reg rfl <| AR.op rfl (aop_move (.inl rfl) rfl) <| AR.op (r := bl (decide (r32.2 = 0))) rfl (aop_eql rfl rfl rfl) <| AR.nil <| hK17 _ (AWP.weak (Weak.kt [1, 2, 7, 8, 33] rfl) ?_)
     refine awp_cond rfl (fun hb59 => ?_) (fun hb59 => ?_)
     ·replace h := Sh.if_t h hb59
      refine awp_seqK fun K18 hK18 => awp_reg rfl <| AR.op rfl (aop_move (.inl rfl) rfl) ?_
      obtain ⟨r61, hr61, h⟩ := Sh.bind_some' h
      refine AR.op (r := .tuple [G.cert_Cert.av r61.1, i64 r61.2]) rfl (aop_call1 rfl rfl (by simp) (cert_Get_ok hT hr61)) <| AR.op rfl (aop_move (.inl rfl) rfl) <| AR.keep [1, 2, 7, 8, 34] rfl <| AR.op (r := G.cert_Cert.av r61.1) rfl (aop_extract rfl rfl rfl) <| AR.op (r := i64 r61.2) rfl (aop_extract rfl rfl rfl) <| AR.op (r := .ref 0 0 0) rfl (aop_alloc 5 [.agg [i64 0, bl false, nilS, nilS, nilS]] rfl zr29 (by kernel_rfl) (.inl ⟨rfl, rfl⟩)) <| AR.keep [1, 2, 7, 8, 37, 38, 9] rfl <| AR.op rfl (aop_store (e' := G.cert_Cert.av r61.1) rfl rfl rfl rfl rfl rfl sz29 rfl dt rfl) ?_
      refine AR.op rfl (aop_move (.inr rfl) rfl) <| AR.nil <| hK18 _ (AWP.weak (Weak.e (fr' := [(1, strL s_1), (2, .pp [i64 c_0.Level, bl c_0.Yes, .sl (List.map i64 c_0.Order), .sl (List.map G.si_Row.av c_0.Rows), .sl (List.map G.refute_Node.av c_0.Tree)] 0), (7, strL r32.1), (8, i64 r32.2), (9, .pp [i64 r61.1.Level, bl r61.1.Yes, .sl (List.map i64 r61.1.Order), .sl (List.map G.si_Row.av r61.1.Rows), .sl (List.map G.refute_Node.av r61.1.Tree)] 0), (10, i64 r61.2)]) (H' := .empty) ⟨.k, .k, .k, .k, ⟨_, rfl, .frzA rfl rfl rfl rfl (by simp)⟩, .k, trivial⟩) ?_)
      refine awp_seqJ (fun (p : Bool) => (⟨[(1, strL s_1), (7, strL r32.1), (8, i64 r32.2), (48, bl p)], .empty⟩ : St)) (fun (p : Bool) => G.inquestlaw27_CertBack_j3 s_1 r32 p = some r) ?_ ?_
      ·rintro v66 h
       replace h : G.inquestlaw27_CertBack_j3 s_1 r32 v66 = some r := h
       unfold G.inquestlaw27_CertBack_j3 at h
       refine awp_cond rfl (fun hb67 => ?_) (fun hb67 => ?_)
       ·replace h := Sh.if_t h hb67
        refine awp_seqK fun K19 hK19 => awp_reg rfl <| AR.op rfl (aop_move (.inr rfl) rfl) <| AR.nil <| hK19 _ (AWP.weak (Weak.kt [4] rfl) ?_)
        refine awp_ret ?_
        obtain rfl := Option.some.inj h
        refine ⟨.inr rfl, bl false, rfl, ?_⟩
        exact Weak.e ⟨.k, trivial⟩
       ·replace h := Sh.if_f h hb67
        refine awp_skip ?_
        exact hK16 () _ h (Weak.kt [1, 7, 8] rfl)
      ·intro K20 hK20
       refine awp_any [(true, false), (true, false), (true, false), (true, false), (true, false), (true, false), (true, false), (true, false), (true, false), (true, false)] (by kernel_rfl) (by kernel_rfl) rfl ?_
       refine ARH.dry rfl (fun _ => aop_move (.inl rfl) rfl) <| ARH.dry (r := bl (decide (r61.2 ≠ 0))) rfl (fun _ => aop_neq rfl rfl rfl) <| ARH.dry rfl (fun _ => aop_move (.inl rfl) rfl) <| ARH.keep [1, 2, 7, 8, 9, 41] rfl ?_
       rcases Bool.eq_false_or_eq_true (decide (r61.2 ≠ 0)) with hb68 | hb68
       ·rw [hb68]
        replace h := Sh.if_t h hb68
        refine ARH.skip rfl <| ARH.skip rfl <| ARH.skip rfl <| ARH.keep [1, 7, 8, 41, 43, 44] rfl <| ARH.skip rfl <| ARH.skip rfl <| ARH.skip rfl <| ARH.keep [1, 7, 8, 41, 47] rfl ?_
        refine ARH.dry rfl (fun _ => aop_pick rfl rfl rfl) <| ARH.nil ?_
        exact hK20 true _ h (Weak.kt [1, 7, 8, 48] rfl)
       ·rw [hb68]
        replace h := Sh.if_f h hb68
        refine ARH.dry (r := G.cert_Cert.av c_0) rfl (fun _ => aop_load_pp rfl rfl sz29 rfl) ?_
        obtain ⟨r69, hr69, h⟩ := Sh.bind_some' h
        refine ARH.dry (r := G.inquestref27_C.av r69) rfl (fun _ => aop_call1 rfl rfl (by simp) (inquestlaw27_Plain_ok hT hr69)) <| ARH.dry (r := G.cert_Cert.av r61.1) rfl (fun _ => aop_load_pp rfl rfl sz29 rfl) <| ARH.keep [1, 7, 8, 41, 43, 44] rfl ?_
        obtain ⟨r70, hr70, h⟩ := Sh.bind_some' h
        refine ARH.dry (r := G.inquestref27_C.av r70) rfl (fun _ => aop_call1 rfl rfl (by simp) (inquestlaw27_Plain_ok hT hr70)) ?_
        obtain ⟨r71, hr71, h⟩ := Sh.bind_some' h
        refine ARH.dry (r := bl r71) rfl (fun _ => aop_call1 rfl rfl (by simp) (inquestref27_Same_ok hT hr71)) <| ARH.dry (r := bl (!r71)) rfl (fun _ => aop_not rfl rfl) <| ARH.keep [1, 7, 8, 41, 47] rfl <| ARH.dry rfl (fun _ => aop_pick rfl rfl rfl) <| ARH.nil ?_
        exact hK20 (!r71) _ h (Weak.kt [1, 7, 8, 48] rfl)
     ·replace h := Sh.if_f h hb59
      refine awp_skip ?_
      exact hK16 () _ h (Weak.kt [1, 7, 8] rfl)
  ·intro K21 hK21
   refine awp_reg rfl <| AR.op rfl (aop_move (.inl rfl) rfl) <| AR.op (r := bl (!r25)) rfl (aop_not rfl rfl) <| AR.op rfl (aop_move (.inl rfl) rfl) <| AR.keep [1, 2, 22] rfl ?_
   rcases Bool.eq_false_or_eq_true (!r25) with hb72 | hb72
   ·rw [hb72]
    replace h := Sh.if_t h hb72
    refine AR.skip rfl <| AR.skip rfl <| AR.skip rfl <| AR.keep [1, 2, 22, 25] rfl <| AR.op rfl (aop_pick rfl rfl rfl) <| AR.nil ?_
    exact hK21 true _ h (Weak.kt [1, 2, 26] rfl)
   ·rw [hb72]
    replace h := Sh.if_f h hb72
    refine AR.op rfl (aop_move (.inl rfl) rfl) <| AR.op (r := i64 (Sh.len s_1)) rfl (t_len_str (s := s_1) rfl rfl Tryz.underlying9) <| AR.op rfl (aop_gtr rfl rfl rfl) <| AR.keep [1, 2, 22, 25] rfl <| AR.op rfl (aop_pick rfl rfl rfl) <| AR.nil ?_
    exact hK21 (decide ((600 : Int) < (Sh.len s_1))) _ h (Weak.kt [1, 2, 26] rfl)
theorem inquestlaw27_CertBack_ok {W0 : World} (hT : Tab W0) {c_0 : G.cert_Cert} {s_1 : List UInt8} {r : Bool} (h : G.inquestlaw27_CertBack c_0 s_1 = some r) : Fun1 Tryz.prog W0 5 [G.cert_Cert.av c_0, strL s_1] (bl r) := Fun1.two (inquestlaw27_CertBack_ok0 hT h) (by simp)

end Wk
