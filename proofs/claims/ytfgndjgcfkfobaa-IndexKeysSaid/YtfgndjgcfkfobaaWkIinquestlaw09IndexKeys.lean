/- That a statement does what its plain function says. -/
import Derived.Test.YtfgndjgcfkfobaaWkIinquestlaw09
open Go Go.Av Go.Proofs
set_option linter.unusedVariables false
set_option maxHeartbeats 8000000
set_option maxRecDepth 20000
namespace Wk
theorem inquestlaw09_IndexKeys_ok0 {W0 : World} (hT : Tab W0) {h_0 : G.api_Hist} {key_1 : Int} {r : Bool} (h : G.inquestlaw09_IndexKeys h_0 key_1 = some r) : Fun2 Try.prog W0 6 [G.api_Hist.av h_0, i64 key_1] (bl r) .empty := by
 refine fun2_of_awp Try.func6 rfl (by kernel_rfl) Try.ntmps6 (by simp) ?_
 unfold G.inquestlaw09_IndexKeys at h
 show AWP _ _ _ _ ⟨[(0, G.api_Hist.av h_0), (1, i64 key_1)], .empty⟩ _
 refine awp_seqK fun K1 hK1 => awp_reg rfl <| AR.op (r := .ref 0 0 0) rfl (aop_box 1 [G.api_Hist.av h_0] rfl rfl rfl (.inl ⟨rfl, rfl⟩)) <| AR.op rfl (aop_move (.inr rfl) rfl) <| AR.nil <| hK1 _ (AWP.weak (Weak.e (fr' := [(1, i64 key_1), (2, .pp [.sl (List.map G.api_Txn.av h_0.Txns)] 0)]) (H' := .empty) ⟨.k, ⟨_, rfl, .frzA rfl rfl rfl rfl (by simp)⟩, trivial⟩) ?_)
 refine awp_seqK fun K2 hK2 => awp_reg rfl ?_
 obtain ⟨r85, hr85, h⟩ := Sh.bind_some' h
 refine AR.op (r := bl r85) rfl (aop_call1 rfl rfl (by simp) (inquestlaw09_awake_ok hT hr85)) <| AR.op rfl (aop_move (.inr rfl) rfl) <| AR.nil <| hK2 _ (AWP.weak (Weak.kt [1, 2, 5] rfl) ?_)
 refine awp_seqK fun K3 hK3 => awp_seqK fun K4 hK4 => awp_reg rfl <| AR.op rfl (aop_move (.inl rfl) rfl) <| AR.op (r := bl (!r85)) rfl (aop_not rfl rfl) <| AR.nil <| hK4 _ (AWP.weak (Weak.kt [1, 2, 18] rfl) ?_)
 refine awp_cond rfl (fun hb86 => ?_) (fun hb86 => ?_)
 ·replace h := Sh.if_t h hb86
  refine awp_seqK fun K5 hK5 => awp_reg rfl <| AR.op rfl (aop_move (.inr rfl) rfl) <| AR.nil <| hK5 _ (AWP.weak (Weak.kt [4] rfl) ?_)
  refine awp_ret ?_
  obtain rfl := Option.some.inj h
  refine ⟨.inr rfl, bl false, rfl, ?_⟩
  exact Weak.e ⟨.k, trivial⟩
 ·replace h := Sh.if_f h hb86
  refine awp_skip <| hK3 _ (AWP.weak (Weak.kt [1, 2] rfl) ?_)
  refine awp_seqK fun K6 hK6 => awp_reg rfl <| AR.op (r := G.api_Hist.av h_0) rfl (aop_load_pp rfl rfl sz24 rfl) ?_
  obtain ⟨r88, hr88, h⟩ := Sh.bind_some' h
  refine AR.op (r := bl r88) rfl (aop_call1 rfl rfl (by simp) (inquestref08_Few_ok hT hr88)) <| AR.op rfl (aop_move (.inr rfl) rfl) <| AR.nil <| hK6 _ (AWP.weak (Weak.kt [1, 2, 6] rfl) ?_)
  refine awp_seqK fun K7 hK7 => awp_seqK fun K8 hK8 => awp_reg rfl <| AR.op rfl (aop_move (.inl rfl) rfl) <| AR.op (r := bl (!r88)) rfl (aop_not rfl rfl) <| AR.nil <| hK8 _ (AWP.weak (Weak.kt [1, 2, 22] rfl) ?_)
  refine awp_cond rfl (fun hb89 => ?_) (fun hb89 => ?_)
  ·replace h := Sh.if_t h hb89
   refine awp_seqK fun K9 hK9 => awp_reg rfl <| AR.op rfl (aop_move (.inr rfl) rfl) <| AR.nil <| hK9 _ (AWP.weak (Weak.kt [4] rfl) ?_)
   refine awp_ret ?_
   obtain rfl := Option.some.inj h
   refine ⟨.inr rfl, bl true, rfl, ?_⟩
   exact Weak.e ⟨.k, trivial⟩
  ·replace h := Sh.if_f h hb89
   refine awp_skip <| hK7 _ (AWP.weak (Weak.kt [1, 2] rfl) ?_)
   refine awp_seqK fun K10 hK10 => awp_reg rfl <| AR.op (r := G.api_Hist.av h_0) rfl (aop_load_pp rfl rfl sz24 rfl) ?_
   obtain ⟨r91, hr91, h⟩ := Sh.bind_some' h
   refine AR.op (r := .sl (List.map i64 r91)) rfl (aop_call1 rfl rfl (by simp) (index_Keys_ok hT hr91)) <| AR.op rfl (aop_move (.inr rfl) rfl) <| AR.nil <| hK10 _ (AWP.weak (Weak.kt [1, 2, 7] rfl) ?_)
   refine awp_seqK fun K11 hK11 => awp_reg rfl <| AR.op rfl (aop_move (.inr rfl) rfl) <| AR.nil <| hK11 _ ?_
   refine awp_seqJ (fun (p : Bool) => (⟨[(1, i64 key_1), (2, .pp [.sl (List.map G.api_Txn.av h_0.Txns)] 0), (8, bl p)], .empty⟩ : St)) (fun (p : Bool) => G.inquestlaw09_IndexKeys_j1 h_0 key_1 p = some r) ?_ ?_
   ·rintro in118 h
    replace h : G.inquestlaw09_IndexKeys_j1 h_0 key_1 in118 = some r := h
    unfold G.inquestlaw09_IndexKeys_j1 at h
    show AWP _ _ _ _ ⟨[(1, i64 key_1), (2, .pp [.sl (List.map G.api_Txn.av h_0.Txns)] 0), (8, bl in118)], .empty⟩ _
    refine awp_seqK fun K12 hK12 => awp_reg rfl <| AR.op (r := G.api_Hist.av h_0) rfl (aop_load_pp rfl rfl sz24 rfl) <| AR.op rfl (aop_move (.inl rfl) rfl) ?_
    obtain ⟨r120, hr120, h⟩ := Sh.bind_some' h
    refine AR.op (r := .sl (List.map i64 r120)) rfl (aop_call1 rfl rfl (by simp) (index_Writers_ok hT hr120)) <| AR.keep [1, 2, 8, 56] rfl <| AR.op rfl (aop_move (.inr rfl) rfl) <| AR.nil <| hK12 _ (AWP.weak (Weak.kt [1, 2, 8, 10] rfl) ?_)
    refine awp_seqK fun K13 hK13 => awp_seqK fun K14 hK14 => awp_reg rfl <| AR.op rfl (aop_move (.inl rfl) rfl) <| AR.op rfl (aop_move (.inl rfl) rfl) <| AR.op rfl (t_len_sl i64 r120 rfl rfl el30) <| AR.keep [1, 2, 10, 57, 59] rfl <| AR.op rfl (aop_gtr rfl rfl rfl) ?_
    refine AR.op (r := bl (!(in118 == (decide ((0 : Int) < (Sh.len r120)))))) rfl (aop_neb rfl rfl rfl Try.underlying4) <| AR.nil <| hK14 _ (AWP.weak (Weak.kt [1, 2, 10, 61] rfl) ?_)
    refine awp_cond rfl (fun hb121 => ?_) (fun hb121 => ?_)
    ·replace h := Sh.if_t h hb121
     refine awp_seqK fun K15 hK15 => awp_reg rfl <| AR.op rfl (aop_move (.inr rfl) rfl) <| AR.nil <| hK15 _ (AWP.weak (Weak.kt [4] rfl) ?_)
     refine awp_ret ?_
     obtain rfl := Option.some.inj h
     refine ⟨.inr rfl, bl false, rfl, ?_⟩
     exact Weak.e ⟨.k, trivial⟩
    ·replace h := Sh.if_f h hb121
     refine awp_skip <| hK13 _ (AWP.weak (Weak.kt [1, 2, 10] rfl) ?_)
     refine awp_seqJ (fun (p : Unit) => (⟨[], .empty⟩ : St)) (fun (p : Unit) => G.inquestlaw09_IndexKeys_j2 = some r) ?_ ?_
     ·rintro ⟨⟩ h
      replace h : G.inquestlaw09_IndexKeys_j2 = some r := h
      unfold G.inquestlaw09_IndexKeys_j2 at h
      show AWP _ _ _ _ ⟨[], .empty⟩ _
      refine awp_seqK fun K16 hK16 => awp_reg rfl <| AR.op rfl (aop_move (.inr rfl) rfl) <| AR.nil <| hK16 _ ?_
      refine awp_ret ?_
      obtain rfl := Option.some.inj h
      refine ⟨.inr rfl, bl true, rfl, ?_⟩
      exact Weak.e ⟨.k, trivial⟩
     ·intro K17 hK17
      refine awp_seqK fun K18 hK18 => awp_reg rfl <| AR.op rfl (aop_move (.inr rfl) rfl) <| AR.nil <| hK18 _ ?_
      refine awp_block <| awp_iter (fun (p : Int) => G.inquestlaw09_IndexKeys_b1 h_0 key_1 r120 p) (fun (p : Int) => (⟨[(1, i64 key_1), (2, .pp [.sl (List.map G.api_Txn.av h_0.Txns)] 0), (10, .sl (List.map i64 r120)), (11, i64 p)], .empty⟩ : St)) h (Weak.kt [1, 2, 10, 11] rfl) ?_
      ·skip
       rintro t210 o1 h hx1
       replace h : G.inquestlaw09_IndexKeys_b1 h_0 key_1 r120 t210 = some o1 := h
       unfold G.inquestlaw09_IndexKeys_b1 at h
       show AWP _ _ _ _ ⟨[(1, i64 key_1), (2, .pp [.sl (List.map G.api_Txn.av h_0.Txns)] 0), (10, .sl (List.map i64 r120)), (11, i64 t210)], .empty⟩ _
       refine awp_seqK fun K19 hK19 => awp_seqK fun K20 hK20 => awp_reg rfl <| AR.op rfl (aop_move (.inl rfl) rfl) <| AR.op rfl (aop_field_pp rfl rfl fd24_0 (by decide)) <| AR.op (r := .sl (List.map G.api_Txn.av h_0.Txns)) rfl (aop_load_pp rfl rfl sz22 rfl) <| AR.keep [1, 2, 10, 11, 62, 64] rfl <| AR.op rfl (t_len_sl G.api_Txn.av h_0.Txns rfl rfl el22) ?_
       refine AR.op rfl (aop_lss rfl rfl rfl) <| AR.nil <| hK20 _ (AWP.weak (Weak.kt [1, 2, 10, 11, 66] rfl) ?_)
       refine awp_cond rfl (fun hb211 => ?_) (fun hb211 => ?_)
       ·replace h := Sh.if_t h hb211
        refine awp_skip <| hK19 _ (AWP.weak (Weak.kt [1, 2, 10, 11] rfl) ?_)
        refine awp_seqJ (fun (p : Unit) => (⟨[(1, i64 key_1), (2, .pp [.sl (List.map G.api_Txn.av h_0.Txns)] 0), (10, .sl (List.map i64 r120)), (11, i64 t210)], .empty⟩ : St)) (fun (p : Unit) => G.inquestlaw09_IndexKeys_j3 t210 = some o1) ?_ ?_
        ·rintro ⟨⟩ h
         replace h : G.inquestlaw09_IndexKeys_j3 t210 = some o1 := h
         unfold G.inquestlaw09_IndexKeys_j3 at h
         show AWP _ _ _ _ ⟨[(1, i64 key_1), (2, .pp [.sl (List.map G.api_Txn.av h_0.Txns)] 0), (10, .sl (List.map i64 r120)), (11, i64 t210)], .empty⟩ _
         refine awp_reg rfl <| AR.op rfl (aop_move (.inl rfl) rfl) <| AR.op rfl (aop_add rfl rfl rfl rfl) <| AR.op rfl (aop_move (.inr rfl) rfl) <| AR.nil ?_
         replace h := Sh.next_eq h
         exact ⟨_, h, Weak.e (fr' := [(1, i64 key_1), (2, .pp [.sl (List.map G.api_Txn.av h_0.Txns)] 0), (10, .sl (List.map i64 r120)), (11, i64 (w64 (t210 + 1)))]) (H' := .empty) ⟨.k, .k, ⟨.sl (List.map i64 r120), rfl, .sm⟩, .k, trivial⟩⟩
        ·intro K21 hK21
         refine awp_block <| awp_seqK fun K22 hK22 => awp_reg rfl <| AR.op (r := G.api_Hist.av h_0) rfl (aop_load_pp rfl rfl sz24 rfl) <| AR.op rfl (aop_move (.inl rfl) rfl) <| AR.op rfl (aop_move (.inl rfl) rfl) <| AR.keep [1, 2, 10, 11, 70, 71, 72] rfl ?_
         obtain ⟨r230, hr230, h⟩ := Sh.bind_some' h
         refine AR.op (r := .tuple [i64 r230.1, bl r230.2]) rfl (aop_call1 rfl rfl (by simp) (index_From_ok hT hr230)) <| AR.op rfl (aop_move (.inl rfl) rfl) <| AR.op (r := i64 r230.1) rfl (aop_extract rfl rfl rfl) <| AR.keep [1, 2, 10, 11, 69, 74] rfl <| AR.op (r := bl r230.2) rfl (aop_extract rfl rfl rfl) <| AR.op rfl (aop_move (.inr rfl) rfl) <| AR.op rfl (aop_move (.inr rfl) rfl) <| AR.nil ?_
         refine hK22 _ (AWP.weak (Weak.kt [1, 2, 10, 11, 12, 13] rfl) ?_)
         refine awp_seqK fun K23 hK23 => awp_seqJ (fun (p : Bool) => (⟨[(1, i64 key_1), (2, .pp [.sl (List.map G.api_Txn.av h_0.Txns)] 0), (10, .sl (List.map i64 r120)), (11, i64 t210), (12, i64 r230.1), (81, bl p)], .empty⟩ : St)) (fun (p : Bool) => G.inquestlaw09_IndexKeys_j4 r120 t210 r230 p = some o1) ?_ ?_
         ·rintro v234 h
          replace h : G.inquestlaw09_IndexKeys_j4 r120 t210 r230 v234 = some o1 := h
          unfold G.inquestlaw09_IndexKeys_j4 at h
          show AWP _ _ _ _ ⟨[(1, i64 key_1), (2, .pp [.sl (List.map G.api_Txn.av h_0.Txns)] 0), (10, .sl (List.map i64 r120)), (11, i64 t210), (12, i64 r230.1), (81, bl v234)], .empty⟩ _
          refine awp_cond rfl (fun hb235 => ?_) (fun hb235 => ?_)
          ·replace h := Sh.if_t h hb235
           refine awp_exit ?_
           exact hK21 () _ h (Weak.kt [1, 2, 10, 11] rfl)
          ·replace h := Sh.if_f h hb235
           refine awp_skip <| hK23 _ (AWP.weak (Weak.kt [1, 2, 10, 11, 12] rfl) ?_)
           refine awp_seqK fun K24 hK24 => awp_reg rfl <| AR.op rfl (aop_move (.inr rfl) rfl) <| AR.nil <| hK24 _ ?_
           refine awp_seqJ (fun (p : Bool) => (⟨[(1, i64 key_1), (2, .pp [.sl (List.map G.api_Txn.av h_0.Txns)] 0), (10, .sl (List.map i64 r120)), (11, i64 t210), (14, bl p)], .empty⟩ : St)) (fun (p : Bool) => G.inquestlaw09_IndexKeys_j5 t210 p = some o1) ?_ ?_
           ·rintro there250 h
            replace h : G.inquestlaw09_IndexKeys_j5 t210 there250 = some o1 := h
            unfold G.inquestlaw09_IndexKeys_j5 at h
            show AWP _ _ _ _ ⟨[(1, i64 key_1), (2, .pp [.sl (List.map G.api_Txn.av h_0.Txns)] 0), (10, .sl (List.map i64 r120)), (11, i64 t210), (14, bl there250)], .empty⟩ _
            refine awp_seqK fun K25 hK25 => awp_reg rfl <| AR.op rfl (aop_move (.inl rfl) rfl) <| AR.op (r := bl (!there250)) rfl (aop_not rfl rfl) <| AR.nil <| hK25 _ (AWP.weak (Weak.kt [1, 2, 10, 11, 98] rfl) ?_)
            refine awp_cond rfl (fun hb251 => ?_) (fun hb251 => ?_)
            ·replace h := Sh.if_t h hb251
             refine awp_seqK fun K26 hK26 => awp_reg rfl <| AR.op rfl (aop_move (.inr rfl) rfl) <| AR.nil <| hK26 _ (AWP.weak (Weak.kt [4] rfl) ?_)
             refine awp_ret ?_
             replace h := Sh.exit_eq h hx1
             obtain rfl := Option.some.inj h
             refine ⟨.inr rfl, bl false, rfl, ?_⟩
             exact Weak.e ⟨.k, trivial⟩
            ·replace h := Sh.if_f h hb251
             refine awp_skip ?_
             exact hK21 () _ h (Weak.kt [1, 2, 10, 11] rfl)
           ·intro K27 hK27
            refine awp_seqK fun K28 hK28 => awp_reg rfl <| AR.op rfl (aop_move (.inr rfl) rfl) <| AR.nil <| hK28 _ ?_
            refine awp_block <| awp_iter (fun (p : Bool × Int) => G.inquestlaw09_IndexKeys_b2 r120 t210 r230 p.1 p.2) (fun (p : Bool × Int) => (⟨[(1, i64 key_1), (2, .pp [.sl (List.map G.api_Txn.av h_0.Txns)] 0), (10, .sl (List.map i64 r120)), (11, i64 t210), (12, i64 r230.1), (14, bl p.1), (15, i64 p.2)], .empty⟩ : St)) h (Weak.kt [1, 2, 10, 11, 12, 14, 15] rfl) ?_
            ·skip
             rintro ⟨there260, i261⟩ o2 h hx2
             replace h : G.inquestlaw09_IndexKeys_b2 r120 t210 r230 there260 i261 = some o2 := h
             unfold G.inquestlaw09_IndexKeys_b2 at h
             show AWP _ _ _ _ ⟨[(1, i64 key_1), (2, .pp [.sl (List.map G.api_Txn.av h_0.Txns)] 0), (10, .sl (List.map i64 r120)), (11, i64 t210), (12, i64 r230.1), (14, bl there260), (15, i64 i261)], .empty⟩ _
             refine awp_seqK fun K29 hK29 => awp_seqK fun K30 hK30 => awp_reg rfl <| AR.op rfl (aop_move (.inl rfl) rfl) <| AR.op rfl (aop_move (.inl rfl) rfl) <| AR.op rfl (t_len_sl i64 r120 rfl rfl el30) <| AR.keep [1, 2, 10, 11, 12, 14, 15, 82, 84] rfl <| AR.op rfl (aop_lss rfl rfl rfl) ?_
             refine AR.nil <| hK30 _ (AWP.weak (Weak.kt [1, 2, 10, 11, 12, 14, 15, 85] rfl) ?_)
             refine awp_cond rfl (fun hb262 => ?_) (fun hb262 => ?_)
             ·replace h := Sh.if_t h hb262
              refine awp_skip <| hK29 _ (AWP.weak (Weak.kt [1, 2, 10, 11, 12, 14, 15] rfl) ?_)
              refine awp_seqJ (fun (p : Bool) => (⟨[(1, i64 key_1), (2, .pp [.sl (List.map G.api_Txn.av h_0.Txns)] 0), (10, .sl (List.map i64 r120)), (11, i64 t210), (12, i64 r230.1), (15, i64 i261), (14, bl p)], .empty⟩ : St)) (fun (p : Bool) => G.inquestlaw09_IndexKeys_j6 i261 p = some o2) ?_ ?_
              ·rintro there266 h
               replace h : G.inquestlaw09_IndexKeys_j6 i261 there266 = some o2 := h
               unfold G.inquestlaw09_IndexKeys_j6 at h
               show AWP _ _ _ _ ⟨[(1, i64 key_1), (2, .pp [.sl (List.map G.api_Txn.av h_0.Txns)] 0), (10, .sl (List.map i64 r120)), (11, i64 t210), (12, i64 r230.1), (15, i64 i261), (14, bl there266)], .empty⟩ _
               refine awp_reg rfl <| AR.op rfl (aop_move (.inl rfl) rfl) <| AR.op rfl (aop_add rfl rfl rfl rfl) <| AR.op rfl (aop_move (.inr rfl) rfl) <| AR.nil ?_
               replace h := Sh.next_eq h
               exact ⟨_, h, Weak.e (fr' := [(1, i64 key_1), (2, .pp [.sl (List.map G.api_Txn.av h_0.Txns)] 0), (10, .sl (List.map i64 r120)), (11, i64 t210), (12, i64 r230.1), (14, bl there266), (15, i64 (w64 (i261 + 1)))]) (H' := .empty) ⟨.k, .k, ⟨.sl (List.map i64 r120), rfl, .sm⟩, .k, .k, .k, .k, trivial⟩⟩
              ·intro K31 hK31
               refine awp_block <| awp_reg rfl <| AR.op rfl (aop_move (.inl rfl) rfl) <| AR.op rfl (aop_move (.inl rfl) rfl) ?_
               rcases Bool.eq_false_or_eq_true (there260) with hb267 | hb267
               ·rw [hb267]
                replace h := Sh.if_t h hb267
                refine AR.skip rfl <| AR.keep [1, 2, 10, 11, 12, 15, 89, 90] rfl <| AR.skip rfl <| AR.skip rfl <| AR.skip rfl <| AR.keep [1, 2, 10, 11, 12, 15, 89, 90, 91, 92, 93] rfl <| AR.skip rfl <| AR.skip rfl ?_
                refine AR.op rfl (aop_pick rfl rfl rfl) <| AR.keep [1, 2, 10, 11, 12, 15, 90, 91, 92, 93, 94, 95, 96] rfl <| AR.op rfl (aop_move (.inr rfl) rfl) <| AR.nil ?_
                exact hK31 true _ h (Weak.kt [1, 2, 10, 11, 12, 15, 14] rfl)
               ·rw [hb267]
                replace h := Sh.if_f h hb267
                refine AR.op rfl (aop_move (.inl rfl) rfl) <| AR.keep [1, 2, 10, 11, 12, 15, 89, 90] rfl <| AR.op rfl (aop_move (.inl rfl) rfl) ?_
                obtain ⟨x268, hx268, h⟩ := Sh.bind_some' h
                obtain ⟨k269, hi269, hl269⟩ := Sh.idx_some hx268
                refine AR.op rfl (t_index_sl i64 r120 hi269 hl269 rfl rfl rfl el30 rfl) <| AR.op (r := i64 x268) rfl (aop_load_pp rfl rfl sz3 rfl) <| AR.keep [1, 2, 10, 11, 12, 15, 89, 90, 91, 92, 93] rfl <| AR.op rfl (aop_move (.inl rfl) rfl) <| AR.op (r := bl (decide (x268 = r230.1))) rfl (aop_eql rfl rfl rfl) <| AR.op rfl (aop_pick rfl rfl rfl) <| AR.keep [1, 2, 10, 11, 12, 15, 90, 91, 92, 93, 94, 95, 96] rfl <| AR.op rfl (aop_move (.inr rfl) rfl) ?_
                refine AR.nil ?_
                exact hK31 (decide (x268 = r230.1)) _ h (Weak.e (fr' := [(1, i64 key_1), (2, .pp [.sl (List.map G.api_Txn.av h_0.Txns)] 0), (10, .sl (List.map i64 r120)), (11, i64 t210), (12, i64 r230.1), (15, i64 i261), (14, bl (decide (x268 = r230.1)))]) (H' := .empty) ⟨.k, .k, ⟨.sl (List.map i64 r120), rfl, .sm⟩, .k, .k, .k, .k, trivial⟩)
             ·replace h := Sh.if_f h hb262
              refine awp_exit ?_
              replace h := Sh.exit_eq h hx2
              exact hK27 there260 _ h (Weak.kt [1, 2, 10, 11, 14] rfl)
         ·intro K32 hK32
          refine awp_reg rfl <| AR.op rfl (aop_move (.inl rfl) rfl) <| AR.op (r := bl (!r230.2)) rfl (aop_not rfl rfl) <| AR.op rfl (aop_move (.inl rfl) rfl) <| AR.keep [1, 2, 10, 11, 12, 78] rfl ?_
          rcases Bool.eq_false_or_eq_true (!r230.2) with hb270 | hb270
          ·rw [hb270]
           replace h := Sh.if_t h hb270
           refine AR.skip rfl <| AR.skip rfl <| AR.op rfl (aop_pick rfl rfl rfl) <| AR.nil ?_
           exact hK32 true _ h (Weak.kt [1, 2, 10, 11, 12, 81] rfl)
          ·rw [hb270]
           replace h := Sh.if_f h hb270
           refine AR.op rfl (aop_move (.inl rfl) rfl) <| AR.op rfl (aop_lss rfl rfl rfl) <| AR.op rfl (aop_pick rfl rfl rfl) <| AR.nil ?_
           exact hK32 (decide (r230.1 < 0)) _ h (Weak.e (fr' := [(1, i64 key_1), (2, .pp [.sl (List.map G.api_Txn.av h_0.Txns)] 0), (10, .sl (List.map i64 r120)), (11, i64 t210), (12, i64 r230.1), (81, bl (decide (r230.1 < 0)))]) (H' := .empty) ⟨.k, .k, ⟨.sl (List.map i64 r120), rfl, .sm⟩, .k, .k, .k, trivial⟩)
       ·replace h := Sh.if_f h hb211
        refine awp_exit ?_
        replace h := Sh.exit_eq h hx1
        exact hK17 () _ h (Weak.kt [] rfl)
   ·intro K33 hK33
    refine awp_seqK fun K34 hK34 => awp_reg rfl <| AR.op rfl (aop_move (.inr rfl) rfl) <| AR.nil <| hK34 _ ?_
    refine awp_block <| awp_iter (fun (p : Bool × Int) => G.inquestlaw09_IndexKeys_b3 h_0 key_1 r91 p.1 p.2) (fun (p : Bool × Int) => (⟨[(1, i64 key_1), (2, .pp [.sl (List.map G.api_Txn.av h_0.Txns)] 0), (7, .sl (List.map i64 r91)), (8, bl p.1), (9, i64 p.2)], .empty⟩ : St)) h (Weak.kt [1, 2, 7, 8, 9] rfl) ?_
    ·skip
     rintro ⟨in285, i286⟩ o3 h hx3
     replace h : G.inquestlaw09_IndexKeys_b3 h_0 key_1 r91 in285 i286 = some o3 := h
     unfold G.inquestlaw09_IndexKeys_b3 at h
     show AWP _ _ _ _ ⟨[(1, i64 key_1), (2, .pp [.sl (List.map G.api_Txn.av h_0.Txns)] 0), (7, .sl (List.map i64 r91)), (8, bl in285), (9, i64 i286)], .empty⟩ _
     refine awp_seqK fun K35 hK35 => awp_seqK fun K36 hK36 => awp_reg rfl <| AR.op rfl (aop_move (.inl rfl) rfl) <| AR.op rfl (aop_move (.inl rfl) rfl) <| AR.op rfl (t_len_sl i64 r91 rfl rfl el30) <| AR.keep [1, 2, 7, 8, 9, 25, 27] rfl <| AR.op rfl (aop_lss rfl rfl rfl) ?_
     refine AR.nil <| hK36 _ (AWP.weak (Weak.kt [1, 2, 7, 8, 9, 28] rfl) ?_)
     refine awp_cond rfl (fun hb287 => ?_) (fun hb287 => ?_)
     ·replace h := Sh.if_t h hb287
      refine awp_skip <| hK35 _ (AWP.weak (Weak.kt [1, 2, 7, 8, 9] rfl) ?_)
      refine awp_seqK fun K37 hK37 => awp_block <| awp_seqJ (fun (p : Bool) => (⟨[(1, i64 key_1), (2, .pp [.sl (List.map G.api_Txn.av h_0.Txns)] 0), (7, .sl (List.map i64 r91)), (9, i64 i286), (8, bl p)], .empty⟩ : St)) (fun (p : Bool) => G.inquestlaw09_IndexKeys_j7 r91 i286 p = some o3) ?_ ?_
      ·rintro in301 h
       replace h : G.inquestlaw09_IndexKeys_j7 r91 i286 in301 = some o3 := h
       unfold G.inquestlaw09_IndexKeys_j7 at h
       show AWP _ _ _ _ ⟨[(1, i64 key_1), (2, .pp [.sl (List.map G.api_Txn.av h_0.Txns)] 0), (7, .sl (List.map i64 r91)), (9, i64 i286), (8, bl in301)], .empty⟩ _
       refine awp_seqJ (fun (p : Bool) => (⟨[(1, i64 key_1), (2, .pp [.sl (List.map G.api_Txn.av h_0.Txns)] 0), (7, .sl (List.map i64 r91)), (9, i64 i286), (8, bl in301), (53, bl p)], .empty⟩ : St)) (fun (p : Bool) => G.inquestlaw09_IndexKeys_j8 i286 in301 p = some o3) ?_ ?_
       ·rintro v307 h
        replace h : G.inquestlaw09_IndexKeys_j8 i286 in301 v307 = some o3 := h
        unfold G.inquestlaw09_IndexKeys_j8 at h
        show AWP _ _ _ _ ⟨[(1, i64 key_1), (2, .pp [.sl (List.map G.api_Txn.av h_0.Txns)] 0), (7, .sl (List.map i64 r91)), (9, i64 i286), (8, bl in301), (53, bl v307)], .empty⟩ _
        refine awp_cond rfl (fun hb308 => ?_) (fun hb308 => ?_)
        ·replace h := Sh.if_t h hb308
         refine awp_seqK fun K38 hK38 => awp_reg rfl <| AR.op rfl (aop_move (.inr rfl) rfl) <| AR.nil <| hK38 _ (AWP.weak (Weak.kt [4] rfl) ?_)
         refine awp_ret ?_
         replace h := Sh.exit_eq h hx3
         obtain rfl := Option.some.inj h
         refine ⟨.inr rfl, bl false, rfl, ?_⟩
         exact Weak.e ⟨.k, trivial⟩
        ·replace h := Sh.if_f h hb308
         refine awp_skip <| hK37 _ (AWP.weak (Weak.kt [1, 2, 7, 9, 8] rfl) ?_)
         refine awp_reg rfl <| AR.op rfl (aop_move (.inl rfl) rfl) <| AR.op rfl (aop_add rfl rfl rfl rfl) <| AR.op rfl (aop_move (.inr rfl) rfl) <| AR.nil ?_
         replace h := Sh.next_eq h
         exact ⟨_, h, Weak.e (fr' := [(1, i64 key_1), (2, .pp [.sl (List.map G.api_Txn.av h_0.Txns)] 0), (7, .sl (List.map i64 r91)), (8, bl in301), (9, i64 (w64 (i286 + 1)))]) (H' := .empty) ⟨.k, .k, ⟨.sl (List.map i64 r91), rfl, .sm⟩, .k, .k, trivial⟩⟩
       ·intro K39 hK39
        refine awp_any [(true, false), (true, false), (true, false), (true, false), (true, false), (true, false), (true, false), (true, false), (true, false), (true, false), (true, false), (true, false), (true, false), (true, false)] (by kernel_rfl) (by kernel_rfl) rfl ?_
        refine ARH.dry rfl (fun _ => aop_move (.inl rfl) rfl) <| ARH.dry rfl (fun _ => aop_gtr rfl rfl rfl) <| ARH.dry rfl (fun _ => aop_move (.inl rfl) rfl) <| ARH.keep [1, 2, 7, 9, 8, 42] rfl ?_
        rcases Bool.eq_false_or_eq_true (decide ((0 : Int) < i286)) with hb309 | hb309
        ·rw [hb309]
         replace h := Sh.if_t h hb309
         refine ARH.dry rfl (fun _ => aop_move (.inl rfl) rfl) <| ARH.dry rfl (fun _ => aop_move (.inl rfl) rfl) ?_
         obtain ⟨x310, hx310, h⟩ := Sh.bind_some' h
         obtain ⟨k311, hi311, hl311⟩ := Sh.idx_some hx310
         refine ARH.dry rfl (fun _ => t_index_sl i64 r91 hi311 hl311 rfl rfl rfl el30 rfl) <| ARH.keep [1, 2, 7, 9, 8, 42, 43, 44, 45] rfl <| ARH.dry (r := i64 x310) rfl (fun _ => aop_load_pp rfl rfl sz3 rfl) <| ARH.dry rfl (fun _ => aop_move (.inl rfl) rfl) <| ARH.dry rfl (fun _ => aop_move (.inl rfl) rfl) <| ARH.keep [1, 2, 7, 9, 8, 42, 43, 44, 45, 46, 47, 48] rfl <| ARH.dry rfl (fun _ => aop_sub rfl rfl rfl rfl) ?_
         obtain ⟨x312, hx312, h⟩ := Sh.bind_some' h
         obtain ⟨k313, hi313, hl313⟩ := Sh.idx_some hx312
         refine ARH.dry rfl (fun _ => t_index_sl i64 r91 hi313 hl313 rfl rfl rfl el30 rfl) <| ARH.dry (r := i64 x312) rfl (fun _ => aop_load_pp rfl rfl sz3 rfl) <| ARH.keep [1, 2, 7, 9, 8, 42, 43, 44, 45, 46, 47, 48, 49, 50, 51] rfl <| ARH.dry rfl (fun _ => aop_leq rfl rfl rfl) <| ARH.dry rfl (fun _ => aop_pick rfl rfl rfl) <| ARH.nil ?_
         exact hK39 (decide (x310 ≤ x312)) _ h (Weak.e (fr' := [(1, i64 key_1), (2, .pp [.sl (List.map G.api_Txn.av h_0.Txns)] 0), (7, .sl (List.map i64 r91)), (9, i64 i286), (8, bl in301), (53, bl (decide (x310 ≤ x312)))]) (H' := .empty) ⟨.k, .k, ⟨.sl (List.map i64 r91), rfl, .sm⟩, .k, .k, .k, trivial⟩)
        ·rw [hb309]
         replace h := Sh.if_f h hb309
         refine ARH.skip rfl <| ARH.skip rfl <| ARH.skip rfl <| ARH.keep [1, 2, 7, 9, 8, 42, 43, 44, 45] rfl <| ARH.skip rfl <| ARH.skip rfl <| ARH.skip rfl <| ARH.keep [1, 2, 7, 9, 8, 42, 43, 44, 45, 46, 47, 48] rfl ?_
         refine ARH.skip rfl <| ARH.skip rfl <| ARH.skip rfl <| ARH.keep [1, 2, 7, 9, 8, 42, 43, 44, 45, 46, 47, 48, 49, 50, 51] rfl <| ARH.skip rfl <| ARH.dry rfl (fun _ => aop_pick rfl rfl rfl) <| ARH.nil ?_
         exact hK39 false _ h (Weak.kt [1, 2, 7, 9, 8, 53] rfl)
      ·intro K40 hK40
       refine awp_reg rfl <| AR.op rfl (aop_move (.inl rfl) rfl) <| AR.op rfl (aop_move (.inl rfl) rfl) ?_
       rcases Bool.eq_false_or_eq_true (in285) with hb314 | hb314
       ·rw [hb314]
        replace h := Sh.if_t h hb314
        refine AR.skip rfl <| AR.keep [1, 2, 7, 9, 32, 33] rfl <| AR.skip rfl <| AR.skip rfl <| AR.skip rfl <| AR.keep [1, 2, 7, 9, 32, 33, 34, 35, 36] rfl <| AR.skip rfl <| AR.skip rfl ?_
        refine AR.op rfl (aop_pick rfl rfl rfl) <| AR.keep [1, 2, 7, 9, 33, 34, 35, 36, 37, 38, 39] rfl <| AR.op rfl (aop_move (.inr rfl) rfl) <| AR.nil ?_
        exact hK40 true _ h (Weak.kt [1, 2, 7, 9, 8] rfl)
       ·rw [hb314]
        replace h := Sh.if_f h hb314
        refine AR.op rfl (aop_move (.inl rfl) rfl) <| AR.keep [1, 2, 7, 9, 32, 33] rfl <| AR.op rfl (aop_move (.inl rfl) rfl) ?_
        obtain ⟨x315, hx315, h⟩ := Sh.bind_some' h
        obtain ⟨k316, hi316, hl316⟩ := Sh.idx_some hx315
        refine AR.op rfl (t_index_sl i64 r91 hi316 hl316 rfl rfl rfl el30 rfl) <| AR.op (r := i64 x315) rfl (aop_load_pp rfl rfl sz3 rfl) <| AR.keep [1, 2, 7, 9, 32, 33, 34, 35, 36] rfl <| AR.op rfl (aop_move (.inl rfl) rfl) <| AR.op (r := bl (decide (x315 = key_1))) rfl (aop_eql rfl rfl rfl) <| AR.op rfl (aop_pick rfl rfl rfl) <| AR.keep [1, 2, 7, 9, 33, 34, 35, 36, 37, 38, 39] rfl <| AR.op rfl (aop_move (.inr rfl) rfl) ?_
        refine AR.nil ?_
        exact hK40 (decide (x315 = key_1)) _ h (Weak.e (fr' := [(1, i64 key_1), (2, .pp [.sl (List.map G.api_Txn.av h_0.Txns)] 0), (7, .sl (List.map i64 r91)), (9, i64 i286), (8, bl (decide (x315 = key_1)))]) (H' := .empty) ⟨.k, .k, ⟨.sl (List.map i64 r91), rfl, .sm⟩, .k, .k, trivial⟩)
     ·replace h := Sh.if_f h hb287
      refine awp_exit ?_
      replace h := Sh.exit_eq h hx3
      exact hK33 in285 _ h (Weak.kt [1, 2, 8] rfl)
theorem inquestlaw09_IndexKeys_ok {W0 : World} (hT : Tab W0) {h_0 : G.api_Hist} {key_1 : Int} {r : Bool} (h : G.inquestlaw09_IndexKeys h_0 key_1 = some r) : Fun1 Try.prog W0 6 [G.api_Hist.av h_0, i64 key_1] (bl r) := Fun1.two (inquestlaw09_IndexKeys_ok0 hT h) (by simp)

end Wk
