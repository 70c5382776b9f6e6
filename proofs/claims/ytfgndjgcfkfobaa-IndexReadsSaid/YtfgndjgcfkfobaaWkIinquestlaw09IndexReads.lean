/- That a statement does what its plain function says. -/
import Derived.Test.YtfgndjgcfkfobaaWkIinquestlaw09
open Go Go.Av Go.Proofs
set_option linter.unusedVariables false
set_option maxHeartbeats 8000000
set_option maxRecDepth 20000
namespace Wk
theorem inquestlaw09_IndexReads_ok0 {W0 : World} (hT : Tab W0) {h_0 : G.api_Hist} {r : Bool} (h : G.inquestlaw09_IndexReads h_0 = some r) : Fun2 Try.prog W0 5 [G.api_Hist.av h_0] (bl r) .empty := by
 refine fun2_of_awp Try.func5 rfl (by kernel_rfl) Try.ntmps5 (by simp) ?_
 unfold G.inquestlaw09_IndexReads at h
 show AWP _ _ _ _ ⟨[(0, G.api_Hist.av h_0)], .empty⟩ _
 refine awp_seqK fun K1 hK1 => awp_reg rfl <| AR.op (r := .ref 0 0 0) rfl (aop_box 1 [G.api_Hist.av h_0] rfl rfl rfl (.inl ⟨rfl, rfl⟩)) <| AR.op rfl (aop_move (.inr rfl) rfl) <| AR.nil <| hK1 _ (AWP.weak (Weak.e (fr' := [(1, .pp [.sl (List.map G.api_Txn.av h_0.Txns)] 0)]) (H' := .empty) ⟨⟨_, rfl, .frzA rfl rfl rfl rfl (by simp)⟩, trivial⟩) ?_)
 refine awp_seqK fun K2 hK2 => awp_reg rfl ?_
 obtain ⟨r397, hr397, h⟩ := Sh.bind_some' h
 refine AR.op (r := bl r397) rfl (aop_call1 rfl rfl (by simp) (inquestlaw09_awake_ok hT hr397)) <| AR.op rfl (aop_move (.inr rfl) rfl) <| AR.nil <| hK2 _ (AWP.weak (Weak.kt [1, 3] rfl) ?_)
 refine awp_seqK fun K3 hK3 => awp_seqK fun K4 hK4 => awp_reg rfl <| AR.op rfl (aop_move (.inl rfl) rfl) <| AR.op (r := bl (!r397)) rfl (aop_not rfl rfl) <| AR.nil <| hK4 _ (AWP.weak (Weak.kt [1, 20] rfl) ?_)
 refine awp_cond rfl (fun hb398 => ?_) (fun hb398 => ?_)
 ·replace h := Sh.if_t h hb398
  refine awp_seqK fun K5 hK5 => awp_reg rfl <| AR.op rfl (aop_move (.inr rfl) rfl) <| AR.nil <| hK5 _ (AWP.weak (Weak.kt [2] rfl) ?_)
  refine awp_ret ?_
  obtain rfl := Option.some.inj h
  refine ⟨.inr rfl, bl false, rfl, ?_⟩
  exact Weak.e ⟨.k, trivial⟩
 ·replace h := Sh.if_f h hb398
  refine awp_skip <| hK3 _ (AWP.weak (Weak.kt [1] rfl) ?_)
  refine awp_seqK fun K6 hK6 => awp_reg rfl <| AR.op (r := G.api_Hist.av h_0) rfl (aop_load_pp rfl rfl sz24 rfl) ?_
  obtain ⟨r400, hr400, h⟩ := Sh.bind_some' h
  refine AR.op (r := bl r400) rfl (aop_call1 rfl rfl (by simp) (inquestref08_Few_ok hT hr400)) <| AR.op rfl (aop_move (.inr rfl) rfl) <| AR.nil <| hK6 _ (AWP.weak (Weak.kt [1, 4] rfl) ?_)
  refine awp_seqK fun K7 hK7 => awp_seqJ (fun (p : Bool) => (⟨[(1, .pp [.sl (List.map G.api_Txn.av h_0.Txns)] 0), (29, bl p)], .empty⟩ : St)) (fun (p : Bool) => G.inquestlaw09_IndexReads_j1 h_0 p = some r) ?_ ?_
  ·rintro v406 h
   replace h : G.inquestlaw09_IndexReads_j1 h_0 v406 = some r := h
   unfold G.inquestlaw09_IndexReads_j1 at h
   show AWP _ _ _ _ ⟨[(1, .pp [.sl (List.map G.api_Txn.av h_0.Txns)] 0), (29, bl v406)], .empty⟩ _
   refine awp_cond rfl (fun hb407 => ?_) (fun hb407 => ?_)
   ·replace h := Sh.if_t h hb407
    refine awp_seqK fun K8 hK8 => awp_reg rfl <| AR.op rfl (aop_move (.inr rfl) rfl) <| AR.nil <| hK8 _ (AWP.weak (Weak.kt [2] rfl) ?_)
    refine awp_ret ?_
    obtain rfl := Option.some.inj h
    refine ⟨.inr rfl, bl true, rfl, ?_⟩
    exact Weak.e ⟨.k, trivial⟩
   ·replace h := Sh.if_f h hb407
    refine awp_skip <| hK7 _ (AWP.weak (Weak.kt [1] rfl) ?_)
    refine awp_seqK fun K9 hK9 => awp_reg rfl <| AR.op rfl (aop_move (.inr rfl) rfl) <| AR.nil <| hK9 _ ?_
    refine awp_seqJ (fun (p : Int) => (⟨[(1, .pp [.sl (List.map G.api_Txn.av h_0.Txns)] 0), (5, i64 p)], .empty⟩ : St)) (fun (p : Int) => G.inquestlaw09_IndexReads_j2 h_0 p = some r) ?_ ?_
    ·rintro reads503 h
     replace h : G.inquestlaw09_IndexReads_j2 h_0 reads503 = some r := h
     unfold G.inquestlaw09_IndexReads_j2 at h
     show AWP _ _ _ _ ⟨[(1, .pp [.sl (List.map G.api_Txn.av h_0.Txns)] 0), (5, i64 reads503)], .empty⟩ _
     refine awp_seqK fun K10 hK10 => awp_reg rfl <| AR.op rfl (aop_move (.inr rfl) rfl) <| AR.nil <| hK10 _ ?_
     refine awp_seqJ (fun (p : Int) => (⟨[(5, i64 reads503), (11, i64 p)], .empty⟩ : St)) (fun (p : Int) => G.inquestlaw09_IndexReads_j3 reads503 p = some r) ?_ ?_
     ·rintro told799 h
      replace h : G.inquestlaw09_IndexReads_j3 reads503 told799 = some r := h
      unfold G.inquestlaw09_IndexReads_j3 at h
      show AWP _ _ _ _ ⟨[(5, i64 reads503), (11, i64 told799)], .empty⟩ _
      refine awp_seqK fun K11 hK11 => awp_reg rfl <| AR.op rfl (aop_move (.inl rfl) rfl) <| AR.op rfl (aop_move (.inl rfl) rfl) <| AR.op (r := bl (decide (told799 = reads503))) rfl (aop_eql rfl rfl rfl) <| AR.keep [135] rfl <| AR.op rfl (aop_move (.inr rfl) rfl) <| AR.nil ?_
      refine hK11 _ (AWP.weak (Weak.kt [2] rfl) ?_)
      refine awp_ret ?_
      obtain rfl := Option.some.inj h
      refine ⟨.inr rfl, bl (decide (told799 = reads503)), rfl, ?_⟩
      exact Weak.e ⟨.k, trivial⟩
     ·intro K12 hK12
      refine awp_seqK fun K13 hK13 => awp_reg rfl <| AR.op rfl (aop_move (.inr rfl) rfl) <| AR.nil <| hK13 _ ?_
      refine awp_block <| awp_iter (fun (p : Int × Int) => G.inquestlaw09_IndexReads_b1 h_0 reads503 p.1 p.2) (fun (p : Int × Int) => (⟨[(1, .pp [.sl (List.map G.api_Txn.av h_0.Txns)] 0), (5, i64 reads503), (11, i64 p.1), (12, i64 p.2)], .empty⟩ : St)) h (Weak.kt [1, 5, 11, 12] rfl) ?_
      ·skip
       rintro ⟨told996, key997⟩ o1 h hx1
       replace h : G.inquestlaw09_IndexReads_b1 h_0 reads503 told996 key997 = some o1 := h
       unfold G.inquestlaw09_IndexReads_b1 at h
       show AWP _ _ _ _ ⟨[(1, .pp [.sl (List.map G.api_Txn.av h_0.Txns)] 0), (5, i64 reads503), (11, i64 told996), (12, i64 key997)], .empty⟩ _
       refine awp_seqK fun K14 hK14 => awp_seqK fun K15 hK15 => awp_reg rfl <| AR.op rfl (aop_move (.inl rfl) rfl) <| AR.op rfl (aop_lss rfl rfl rfl) <| AR.nil <| hK15 _ (AWP.weak (Weak.kt [1, 5, 11, 12, 76] rfl) ?_)
       refine awp_cond rfl (fun hb998 => ?_) (fun hb998 => ?_)
       ·replace h := Sh.if_t h hb998
        refine awp_skip <| hK14 _ (AWP.weak (Weak.kt [1, 5, 11, 12] rfl) ?_)
        refine awp_seqJ (fun (p : Int) => (⟨[(1, .pp [.sl (List.map G.api_Txn.av h_0.Txns)] 0), (5, i64 reads503), (11, i64 p), (12, i64 key997)], .empty⟩ : St)) (fun (p : Int) => G.inquestlaw09_IndexReads_j4 key997 p = some o1) ?_ ?_
        ·rintro told1096 h
         replace h : G.inquestlaw09_IndexReads_j4 key997 told1096 = some o1 := h
         unfold G.inquestlaw09_IndexReads_j4 at h
         show AWP _ _ _ _ ⟨[(1, .pp [.sl (List.map G.api_Txn.av h_0.Txns)] 0), (5, i64 reads503), (11, i64 told1096), (12, i64 key997)], .empty⟩ _
         refine awp_reg rfl <| AR.op rfl (aop_move (.inl rfl) rfl) <| AR.op rfl (aop_add rfl rfl rfl rfl) <| AR.op rfl (aop_move (.inr rfl) rfl) <| AR.nil ?_
         replace h := Sh.next_eq h
         exact ⟨_, h, Weak.e (fr' := [(1, .pp [.sl (List.map G.api_Txn.av h_0.Txns)] 0), (5, i64 reads503), (11, i64 told1096), (12, i64 (w64 (key997 + 1)))]) (H' := .empty) ⟨.k, .k, .k, .k, trivial⟩⟩
        ·intro K16 hK16
         refine awp_block <| awp_seqK fun K17 hK17 => awp_reg rfl <| AR.op rfl (aop_move (.inr rfl) rfl) <| AR.nil <| hK17 _ ?_
         refine awp_block <| awp_iter (fun (p : Int × Int) => G.inquestlaw09_IndexReads_b2 h_0 key997 p.1 p.2) (fun (p : Int × Int) => (⟨[(1, .pp [.sl (List.map G.api_Txn.av h_0.Txns)] 0), (5, i64 reads503), (11, i64 p.1), (12, i64 key997), (13, i64 p.2)], .empty⟩ : St)) h (Weak.kt [1, 5, 11, 12, 13] rfl) ?_
         ·skip
          rintro ⟨told1161, from1162⟩ o2 h hx2
          replace h : G.inquestlaw09_IndexReads_b2 h_0 key997 told1161 from1162 = some o2 := h
          unfold G.inquestlaw09_IndexReads_b2 at h
          show AWP _ _ _ _ ⟨[(1, .pp [.sl (List.map G.api_Txn.av h_0.Txns)] 0), (5, i64 reads503), (11, i64 told1161), (12, i64 key997), (13, i64 from1162)], .empty⟩ _
          refine awp_seqK fun K18 hK18 => awp_seqK fun K19 hK19 => awp_reg rfl <| AR.op rfl (aop_move (.inl rfl) rfl) <| AR.op rfl (aop_field_pp rfl rfl fd24_0 (by decide)) <| AR.op (r := .sl (List.map G.api_Txn.av h_0.Txns)) rfl (aop_load_pp rfl rfl sz22 rfl) <| AR.keep [1, 5, 11, 12, 13, 79, 81] rfl <| AR.op rfl (t_len_sl G.api_Txn.av h_0.Txns rfl rfl el22) ?_
          refine AR.op rfl (aop_lss rfl rfl rfl) <| AR.nil <| hK19 _ (AWP.weak (Weak.kt [1, 5, 11, 12, 13, 83] rfl) ?_)
          refine awp_cond rfl (fun hb1163 => ?_) (fun hb1163 => ?_)
          ·replace h := Sh.if_t h hb1163
           refine awp_skip <| hK18 _ (AWP.weak (Weak.kt [1, 5, 11, 12, 13] rfl) ?_)
           refine awp_seqJ (fun (p : Int) => (⟨[(1, .pp [.sl (List.map G.api_Txn.av h_0.Txns)] 0), (5, i64 reads503), (12, i64 key997), (13, i64 from1162), (11, i64 p)], .empty⟩ : St)) (fun (p : Int) => G.inquestlaw09_IndexReads_j5 from1162 p = some o2) ?_ ?_
           ·rintro told1195 h
            replace h : G.inquestlaw09_IndexReads_j5 from1162 told1195 = some o2 := h
            unfold G.inquestlaw09_IndexReads_j5 at h
            show AWP _ _ _ _ ⟨[(1, .pp [.sl (List.map G.api_Txn.av h_0.Txns)] 0), (5, i64 reads503), (12, i64 key997), (13, i64 from1162), (11, i64 told1195)], .empty⟩ _
            refine awp_reg rfl <| AR.op rfl (aop_move (.inl rfl) rfl) <| AR.op rfl (aop_add rfl rfl rfl rfl) <| AR.op rfl (aop_move (.inr rfl) rfl) <| AR.nil ?_
            replace h := Sh.next_eq h
            exact ⟨_, h, Weak.e (fr' := [(1, .pp [.sl (List.map G.api_Txn.av h_0.Txns)] 0), (5, i64 reads503), (11, i64 told1195), (12, i64 key997), (13, i64 (w64 (from1162 + 1)))]) (H' := .empty) ⟨.k, .k, .k, .k, .k, trivial⟩⟩
           ·intro K20 hK20
            refine awp_block <| awp_seqK fun K21 hK21 => awp_reg rfl <| AR.op (r := G.api_Hist.av h_0) rfl (aop_load_pp rfl rfl sz24 rfl) <| AR.op rfl (aop_move (.inl rfl) rfl) <| AR.op rfl (aop_move (.inl rfl) rfl) <| AR.keep [1, 5, 11, 12, 13, 86, 87, 88] rfl ?_
            obtain ⟨r1197, hr1197, h⟩ := Sh.bind_some' h
            refine AR.op (r := .sl (List.map i64 r1197)) rfl (aop_call1 rfl rfl (by simp) (index_Readers_ok hT hr1197)) <| AR.op rfl (aop_move (.inr rfl) rfl) <| AR.nil <| hK21 _ (AWP.weak (Weak.kt [1, 5, 11, 12, 13, 14] rfl) ?_)
            refine awp_seqJ (fun (p : Unit) => (⟨[(1, .pp [.sl (List.map G.api_Txn.av h_0.Txns)] 0), (5, i64 reads503), (11, i64 told1161), (12, i64 key997), (13, i64 from1162), (14, .sl (List.map i64 r1197))], .empty⟩ : St)) (fun (p : Unit) => G.inquestlaw09_IndexReads_j6 told1161 from1162 r1197 = some o2) ?_ ?_
            ·rintro ⟨⟩ h
             replace h : G.inquestlaw09_IndexReads_j6 told1161 from1162 r1197 = some o2 := h
             unfold G.inquestlaw09_IndexReads_j6 at h
             show AWP _ _ _ _ ⟨[(1, .pp [.sl (List.map G.api_Txn.av h_0.Txns)] 0), (5, i64 reads503), (11, i64 told1161), (12, i64 key997), (13, i64 from1162), (14, .sl (List.map i64 r1197))], .empty⟩ _
             refine awp_reg rfl <| AR.op rfl (aop_move (.inl rfl) rfl) <| AR.op rfl (aop_move (.inl rfl) rfl) <| AR.op rfl (t_len_sl i64 r1197 rfl rfl el30) <| AR.keep [1, 5, 12, 13, 129, 131] rfl <| AR.op rfl (aop_add rfl rfl rfl rfl) <| AR.op rfl (aop_move (.inr rfl) rfl) <| AR.nil ?_
             exact hK20 (w64 (told1161 + (Sh.len r1197))) _ h (Weak.e (fr' := [(1, .pp [.sl (List.map G.api_Txn.av h_0.Txns)] 0), (5, i64 reads503), (12, i64 key997), (13, i64 from1162), (11, i64 (w64 (told1161 + (Sh.len r1197))))]) (H' := .empty) ⟨.k, .k, .k, .k, .k, trivial⟩)
            ·intro K22 hK22
             refine awp_seqK fun K23 hK23 => awp_reg rfl <| AR.op rfl (aop_move (.inr rfl) rfl) <| AR.nil <| hK23 _ ?_
             refine awp_block <| awp_iter (fun (p : Int) => G.inquestlaw09_IndexReads_b3 h_0 key997 told1161 from1162 r1197 p) (fun (p : Int) => (⟨[(1, .pp [.sl (List.map G.api_Txn.av h_0.Txns)] 0), (5, i64 reads503), (11, i64 told1161), (12, i64 key997), (13, i64 from1162), (14, .sl (List.map i64 r1197)), (15, i64 p)], .empty⟩ : St)) h (Weak.kt [1, 5, 11, 12, 13, 14, 15] rfl) ?_
             ·skip
              rintro i1246 o3 h hx3
              replace h : G.inquestlaw09_IndexReads_b3 h_0 key997 told1161 from1162 r1197 i1246 = some o3 := h
              unfold G.inquestlaw09_IndexReads_b3 at h
              show AWP _ _ _ _ ⟨[(1, .pp [.sl (List.map G.api_Txn.av h_0.Txns)] 0), (5, i64 reads503), (11, i64 told1161), (12, i64 key997), (13, i64 from1162), (14, .sl (List.map i64 r1197)), (15, i64 i1246)], .empty⟩ _
              refine awp_seqK fun K24 hK24 => awp_seqK fun K25 hK25 => awp_reg rfl <| AR.op rfl (aop_move (.inl rfl) rfl) <| AR.op rfl (aop_move (.inl rfl) rfl) <| AR.op rfl (t_len_sl i64 r1197 rfl rfl el30) <| AR.keep [1, 5, 11, 12, 13, 14, 15, 90, 92] rfl <| AR.op rfl (aop_lss rfl rfl rfl) ?_
              refine AR.nil <| hK25 _ (AWP.weak (Weak.kt [1, 5, 11, 12, 13, 14, 15, 93] rfl) ?_)
              refine awp_cond rfl (fun hb1247 => ?_) (fun hb1247 => ?_)
              ·replace h := Sh.if_t h hb1247
               refine awp_skip <| hK24 _ (AWP.weak (Weak.kt [1, 5, 11, 12, 13, 14, 15] rfl) ?_)
               refine awp_seqK fun K26 hK26 => awp_block <| awp_seqK fun K27 hK27 => awp_any [(true, false), (true, false), (true, false), (true, false), (true, false), (true, false), (true, false), (true, false), (true, false), (true, false), (true, false), (true, false)] (by kernel_rfl) (by kernel_rfl) rfl ?_
               refine ARH.dry (r := G.api_Hist.av h_0) rfl (fun _ => aop_load_pp rfl rfl sz24 rfl) <| ARH.dry rfl (fun _ => aop_move (.inl rfl) rfl) <| ARH.dry rfl (fun _ => aop_move (.inl rfl) rfl) <| ARH.keep [1, 5, 11, 12, 13, 14, 15, 97, 98, 99] rfl ?_
               obtain ⟨x1262, hx1262, h⟩ := Sh.bind_some' h
               obtain ⟨k1263, hi1263, hl1263⟩ := Sh.idx_some hx1262
               refine ARH.dry rfl (fun _ => t_index_sl i64 r1197 hi1263 hl1263 rfl rfl rfl el30 rfl) <| ARH.dry (r := i64 x1262) rfl (fun _ => aop_load_pp rfl rfl sz3 rfl) <| ARH.dry rfl (fun _ => aop_move (.inl rfl) rfl) <| ARH.keep [1, 5, 11, 12, 13, 14, 15, 97, 101, 102] rfl ?_
               obtain ⟨r1264, hr1264, h⟩ := Sh.bind_some' h
               refine ARH.dry (r := .tuple [i64 r1264.1, bl r1264.2]) rfl (fun _ => aop_call1 rfl rfl (by simp) (index_From_ok hT hr1264)) <| ARH.dry rfl (fun _ => aop_move (.inl rfl) rfl) <| ARH.dry (r := i64 r1264.1) rfl (fun _ => aop_extract rfl rfl rfl) <| ARH.keep [1, 5, 11, 12, 13, 14, 15, 96, 104] rfl <| ARH.dry (r := bl r1264.2) rfl (fun _ => aop_extract rfl rfl rfl) <| ARH.dry rfl (fun _ => aop_move (.inr rfl) rfl) <| ARH.dry rfl (fun _ => aop_move (.inr rfl) rfl) <| ARH.nil ?_
               refine hK27 _ (AWP.weak (Weak.kt [1, 5, 11, 12, 13, 14, 15, 16, 17] rfl) ?_)
               refine awp_seqJ (fun (p : Bool) => (⟨[(1, .pp [.sl (List.map G.api_Txn.av h_0.Txns)] 0), (5, i64 reads503), (11, i64 told1161), (12, i64 key997), (13, i64 from1162), (14, .sl (List.map i64 r1197)), (15, i64 i1246), (128, bl p)], .empty⟩ : St)) (fun (p : Bool) => G.inquestlaw09_IndexReads_j7 i1246 p = some o3) ?_ ?_
               ·rintro v1272 h
                replace h : G.inquestlaw09_IndexReads_j7 i1246 v1272 = some o3 := h
                unfold G.inquestlaw09_IndexReads_j7 at h
                show AWP _ _ _ _ ⟨[(1, .pp [.sl (List.map G.api_Txn.av h_0.Txns)] 0), (5, i64 reads503), (11, i64 told1161), (12, i64 key997), (13, i64 from1162), (14, .sl (List.map i64 r1197)), (15, i64 i1246), (128, bl v1272)], .empty⟩ _
                refine awp_cond rfl (fun hb1273 => ?_) (fun hb1273 => ?_)
                ·replace h := Sh.if_t h hb1273
                 refine awp_seqK fun K28 hK28 => awp_reg rfl <| AR.op rfl (aop_move (.inr rfl) rfl) <| AR.nil <| hK28 _ (AWP.weak (Weak.kt [2] rfl) ?_)
                 refine awp_ret ?_
                 replace h := Sh.exit_eq h hx3
                 replace h := Sh.exit_eq h hx2
                 replace h := Sh.exit_eq h hx1
                 obtain rfl := Option.some.inj h
                 refine ⟨.inr rfl, bl false, rfl, ?_⟩
                 exact Weak.e ⟨.k, trivial⟩
                ·replace h := Sh.if_f h hb1273
                 refine awp_skip <| hK26 _ (AWP.weak (Weak.kt [1, 5, 11, 12, 13, 14, 15] rfl) ?_)
                 refine awp_reg rfl <| AR.op rfl (aop_move (.inl rfl) rfl) <| AR.op rfl (aop_add rfl rfl rfl rfl) <| AR.op rfl (aop_move (.inr rfl) rfl) <| AR.nil ?_
                 replace h := Sh.next_eq h
                 exact ⟨_, h, Weak.e (fr' := [(1, .pp [.sl (List.map G.api_Txn.av h_0.Txns)] 0), (5, i64 reads503), (11, i64 told1161), (12, i64 key997), (13, i64 from1162), (14, .sl (List.map i64 r1197)), (15, i64 (w64 (i1246 + 1)))]) (H' := .empty) ⟨.k, .k, .k, .k, .k, ⟨.sl (List.map i64 r1197), rfl, .sm⟩, .k, trivial⟩⟩
               ·intro K29 hK29
                refine awp_any [(true, false), (true, false), (true, false), (true, false), (true, false), (true, false), (true, false), (true, false), (true, false), (true, false), (true, false), (true, false), (true, false), (true, false), (true, false), (true, false), (true, false), (true, false), (true, false), (true, false), (true, false), (true, false), (true, false)] (by kernel_rfl) (by kernel_rfl) rfl ?_
                refine ARH.dry rfl (fun _ => aop_move (.inl rfl) rfl) <| ARH.dry (r := bl (!r1264.2)) rfl (fun _ => aop_not rfl rfl) <| ARH.dry rfl (fun _ => aop_move (.inl rfl) rfl) <| ARH.keep [1, 5, 11, 12, 13, 14, 15, 16, 108] rfl ?_
                rcases Bool.eq_false_or_eq_true (!r1264.2) with hb1274 | hb1274
                ·rw [hb1274]
                 replace h := Sh.if_t h hb1274
                 refine ARH.skip rfl <| ARH.skip rfl <| ARH.skip rfl <| ARH.keep [1, 5, 11, 12, 13, 14, 15, 108, 109, 110, 111] rfl <| ARH.dry rfl (fun _ => aop_pick rfl rfl rfl) <| ARH.dry rfl (fun _ => aop_move (.inl rfl) rfl) <| ARH.skip rfl <| ARH.keep [1, 5, 11, 12, 13, 14, 15, 109, 110, 111, 113, 114] rfl ?_
                 refine ARH.skip rfl <| ARH.skip rfl <| ARH.skip rfl <| ARH.keep [1, 5, 11, 12, 13, 14, 15, 109, 110, 111, 113, 114, 115, 116, 117] rfl <| ARH.skip rfl <| ARH.skip rfl <| ARH.skip rfl <| ARH.keep [1, 5, 11, 12, 13, 14, 15, 109, 110, 111, 113, 114, 115, 116, 117, 118, 119, 120] rfl ?_
                 refine ARH.skip rfl <| ARH.skip rfl <| ARH.skip rfl <| ARH.keep [1, 5, 11, 12, 13, 14, 15, 109, 110, 111, 113, 114, 115, 116, 117, 118, 119, 120, 121, 122, 123] rfl <| ARH.skip rfl <| ARH.skip rfl <| ARH.skip rfl <| ARH.keep [1, 5, 11, 12, 13, 14, 15, 109, 110, 111, 113, 114, 115, 116, 117, 118, 119, 120, 121, 122, 123, 124, 125, 126] rfl ?_
                 refine ARH.skip rfl <| ARH.dry rfl (fun _ => aop_pick rfl rfl rfl) <| ARH.nil ?_
                 exact hK29 true _ h (Weak.kt [1, 5, 11, 12, 13, 14, 15, 128] rfl)
                ·rw [hb1274]
                 replace h := Sh.if_f h hb1274
                 refine ARH.dry rfl (fun _ => aop_move (.inl rfl) rfl) <| ARH.dry rfl (fun _ => aop_move (.inl rfl) rfl) <| ARH.dry (r := bl (decide (r1264.1 ≠ from1162))) rfl (fun _ => aop_neq rfl rfl rfl) <| ARH.keep [1, 5, 11, 12, 13, 14, 15, 108, 109, 110, 111] rfl <| ARH.dry rfl (fun _ => aop_pick rfl rfl rfl) <| ARH.dry rfl (fun _ => aop_move (.inl rfl) rfl) ?_
                 rcases Bool.eq_false_or_eq_true (decide (r1264.1 ≠ from1162)) with hb1275 | hb1275
                 ·rw [hb1275]
                  replace h := Sh.if_t h hb1275
                  refine ARH.skip rfl <| ARH.keep [1, 5, 11, 12, 13, 14, 15, 109, 110, 111, 113, 114] rfl <| ARH.skip rfl <| ARH.skip rfl <| ARH.skip rfl <| ARH.keep [1, 5, 11, 12, 13, 14, 15, 109, 110, 111, 113, 114, 115, 116, 117] rfl <| ARH.skip rfl <| ARH.skip rfl ?_
                  refine ARH.skip rfl <| ARH.keep [1, 5, 11, 12, 13, 14, 15, 109, 110, 111, 113, 114, 115, 116, 117, 118, 119, 120] rfl <| ARH.skip rfl <| ARH.skip rfl <| ARH.skip rfl <| ARH.keep [1, 5, 11, 12, 13, 14, 15, 109, 110, 111, 113, 114, 115, 116, 117, 118, 119, 120, 121, 122, 123] rfl <| ARH.skip rfl <| ARH.skip rfl ?_
                  refine ARH.skip rfl <| ARH.keep [1, 5, 11, 12, 13, 14, 15, 109, 110, 111, 113, 114, 115, 116, 117, 118, 119, 120, 121, 122, 123, 124, 125, 126] rfl <| ARH.skip rfl <| ARH.dry rfl (fun _ => aop_pick rfl rfl rfl) <| ARH.nil ?_
                  exact hK29 true _ h (Weak.kt [1, 5, 11, 12, 13, 14, 15, 128] rfl)
                 ·rw [hb1275]
                  replace h := Sh.if_f h hb1275
                  refine ARH.dry rfl (fun _ => aop_move (.inl rfl) rfl) <| ARH.keep [1, 5, 11, 12, 13, 14, 15, 109, 110, 111, 113, 114] rfl <| ARH.dry rfl (fun _ => aop_gtr rfl rfl rfl) <| ARH.dry rfl (fun _ => aop_move (.inl rfl) rfl) ?_
                  rcases Bool.eq_false_or_eq_true (decide ((0 : Int) < i1246)) with hb1276 | hb1276
                  ·rw [hb1276]
                   replace h := Sh.if_t h hb1276
                   refine ARH.dry rfl (fun _ => aop_move (.inl rfl) rfl) <| ARH.keep [1, 5, 11, 12, 13, 14, 15, 109, 110, 111, 113, 114, 115, 116, 117] rfl <| ARH.dry rfl (fun _ => aop_move (.inl rfl) rfl) ?_
                   obtain ⟨x1277, hx1277, h⟩ := Sh.bind_some' h
                   obtain ⟨k1278, hi1278, hl1278⟩ := Sh.idx_some hx1277
                   refine ARH.dry rfl (fun _ => t_index_sl i64 r1197 hi1278 hl1278 rfl rfl rfl el30 rfl) <| ARH.dry (r := i64 x1277) rfl (fun _ => aop_load_pp rfl rfl sz3 rfl) <| ARH.keep [1, 5, 11, 12, 13, 14, 15, 109, 110, 111, 113, 114, 115, 116, 117, 118, 119, 120] rfl <| ARH.dry rfl (fun _ => aop_move (.inl rfl) rfl) <| ARH.dry rfl (fun _ => aop_move (.inl rfl) rfl) <| ARH.dry rfl (fun _ => aop_sub rfl rfl rfl rfl) <| ARH.keep [1, 5, 11, 12, 13, 14, 15, 109, 110, 111, 113, 114, 115, 116, 117, 118, 119, 120, 121, 122, 123] rfl ?_
                   obtain ⟨x1279, hx1279, h⟩ := Sh.bind_some' h
                   obtain ⟨k1280, hi1280, hl1280⟩ := Sh.idx_some hx1279
                   refine ARH.dry rfl (fun _ => t_index_sl i64 r1197 hi1280 hl1280 rfl rfl rfl el30 rfl) <| ARH.dry (r := i64 x1279) rfl (fun _ => aop_load_pp rfl rfl sz3 rfl) <| ARH.dry rfl (fun _ => aop_leq rfl rfl rfl) <| ARH.keep [1, 5, 11, 12, 13, 14, 15, 109, 110, 111, 113, 114, 115, 116, 117, 118, 119, 120, 121, 122, 123, 124, 125, 126] rfl <| ARH.dry rfl (fun _ => aop_pick rfl rfl rfl) <| ARH.dry rfl (fun _ => aop_pick rfl rfl rfl) <| ARH.nil ?_
                   exact hK29 (decide (x1277 ≤ x1279)) _ h (Weak.e (fr' := [(1, .pp [.sl (List.map G.api_Txn.av h_0.Txns)] 0), (5, i64 reads503), (11, i64 told1161), (12, i64 key997), (13, i64 from1162), (14, .sl (List.map i64 r1197)), (15, i64 i1246), (128, bl (decide (x1277 ≤ x1279)))]) (H' := .empty) ⟨.k, .k, .k, .k, .k, ⟨.sl (List.map i64 r1197), rfl, .sm⟩, .k, .k, trivial⟩)
                  ·rw [hb1276]
                   replace h := Sh.if_f h hb1276
                   refine ARH.skip rfl <| ARH.keep [1, 5, 11, 12, 13, 14, 15, 109, 110, 111, 113, 114, 115, 116, 117] rfl <| ARH.skip rfl <| ARH.skip rfl <| ARH.skip rfl <| ARH.keep [1, 5, 11, 12, 13, 14, 15, 109, 110, 111, 113, 114, 115, 116, 117, 118, 119, 120] rfl <| ARH.skip rfl <| ARH.skip rfl ?_
                   refine ARH.skip rfl <| ARH.keep [1, 5, 11, 12, 13, 14, 15, 109, 110, 111, 113, 114, 115, 116, 117, 118, 119, 120, 121, 122, 123] rfl <| ARH.skip rfl <| ARH.skip rfl <| ARH.skip rfl <| ARH.keep [1, 5, 11, 12, 13, 14, 15, 109, 110, 111, 113, 114, 115, 116, 117, 118, 119, 120, 121, 122, 123, 124, 125, 126] rfl <| ARH.dry rfl (fun _ => aop_pick rfl rfl rfl) <| ARH.dry rfl (fun _ => aop_pick rfl rfl rfl) ?_
                   refine ARH.nil ?_
                   exact hK29 false _ h (Weak.kt [1, 5, 11, 12, 13, 14, 15, 128] rfl)
              ·replace h := Sh.if_f h hb1247
               refine awp_exit ?_
               replace h := Sh.exit_eq h hx3
               exact hK22 () _ h (Weak.kt [1, 5, 11, 12, 13, 14] rfl)
          ·replace h := Sh.if_f h hb1163
           refine awp_exit ?_
           replace h := Sh.exit_eq h hx2
           exact hK16 told1161 _ h (Weak.kt [1, 5, 11, 12] rfl)
       ·replace h := Sh.if_f h hb998
        refine awp_exit ?_
        replace h := Sh.exit_eq h hx1
        exact hK12 told996 _ h (Weak.kt [5, 11] rfl)
    ·intro K30 hK30
     refine awp_seqK fun K31 hK31 => awp_reg rfl <| AR.op rfl (aop_move (.inr rfl) rfl) <| AR.nil <| hK31 _ ?_
     refine awp_block <| awp_iter (fun (p : Int × Int) => G.inquestlaw09_IndexReads_b4 h_0 p.1 p.2) (fun (p : Int × Int) => (⟨[(1, .pp [.sl (List.map G.api_Txn.av h_0.Txns)] 0), (5, i64 p.1), (6, i64 p.2)], .empty⟩ : St)) h (Weak.kt [1, 5, 6] rfl) ?_
     ·skip
      rintro ⟨reads1343, t1344⟩ o4 h hx4
      replace h : G.inquestlaw09_IndexReads_b4 h_0 reads1343 t1344 = some o4 := h
      unfold G.inquestlaw09_IndexReads_b4 at h
      show AWP _ _ _ _ ⟨[(1, .pp [.sl (List.map G.api_Txn.av h_0.Txns)] 0), (5, i64 reads1343), (6, i64 t1344)], .empty⟩ _
      refine awp_seqK fun K32 hK32 => awp_seqK fun K33 hK33 => awp_reg rfl <| AR.op rfl (aop_move (.inl rfl) rfl) <| AR.op rfl (aop_field_pp rfl rfl fd24_0 (by decide)) <| AR.op (r := .sl (List.map G.api_Txn.av h_0.Txns)) rfl (aop_load_pp rfl rfl sz22 rfl) <| AR.keep [1, 5, 6, 30, 32] rfl <| AR.op rfl (t_len_sl G.api_Txn.av h_0.Txns rfl rfl el22) ?_
      refine AR.op rfl (aop_lss rfl rfl rfl) <| AR.nil <| hK33 _ (AWP.weak (Weak.kt [1, 5, 6, 34] rfl) ?_)
      refine awp_cond rfl (fun hb1345 => ?_) (fun hb1345 => ?_)
      ·replace h := Sh.if_t h hb1345
       refine awp_skip <| hK32 _ (AWP.weak (Weak.kt [1, 5, 6] rfl) ?_)
       refine awp_seqJ (fun (p : Int) => (⟨[(1, .pp [.sl (List.map G.api_Txn.av h_0.Txns)] 0), (5, i64 p), (6, i64 t1344)], .empty⟩ : St)) (fun (p : Int) => G.inquestlaw09_IndexReads_j8 t1344 p = some o4) ?_ ?_
       ·rintro reads1377 h
        replace h : G.inquestlaw09_IndexReads_j8 t1344 reads1377 = some o4 := h
        unfold G.inquestlaw09_IndexReads_j8 at h
        show AWP _ _ _ _ ⟨[(1, .pp [.sl (List.map G.api_Txn.av h_0.Txns)] 0), (5, i64 reads1377), (6, i64 t1344)], .empty⟩ _
        refine awp_reg rfl <| AR.op rfl (aop_move (.inl rfl) rfl) <| AR.op rfl (aop_add rfl rfl rfl rfl) <| AR.op rfl (aop_move (.inr rfl) rfl) <| AR.nil ?_
        replace h := Sh.next_eq h
        exact ⟨_, h, Weak.e (fr' := [(1, .pp [.sl (List.map G.api_Txn.av h_0.Txns)] 0), (5, i64 reads1377), (6, i64 (w64 (t1344 + 1)))]) (H' := .empty) ⟨.k, .k, .k, trivial⟩⟩
       ·intro K34 hK34
        refine awp_block <| awp_seqK fun K35 hK35 => awp_reg rfl <| AR.op rfl (aop_move (.inr rfl) rfl) <| AR.nil <| hK35 _ ?_
        refine awp_block <| awp_iter (fun (p : Int × Int) => G.inquestlaw09_IndexReads_b5 h_0 t1344 p.1 p.2) (fun (p : Int × Int) => (⟨[(1, .pp [.sl (List.map G.api_Txn.av h_0.Txns)] 0), (5, i64 p.1), (6, i64 t1344), (7, i64 p.2)], .empty⟩ : St)) h (Weak.kt [1, 5, 6, 7] rfl) ?_
        ·skip
         rintro ⟨reads1398, i1399⟩ o5 h hx5
         replace h : G.inquestlaw09_IndexReads_b5 h_0 t1344 reads1398 i1399 = some o5 := h
         unfold G.inquestlaw09_IndexReads_b5 at h
         show AWP _ _ _ _ ⟨[(1, .pp [.sl (List.map G.api_Txn.av h_0.Txns)] 0), (5, i64 reads1398), (6, i64 t1344), (7, i64 i1399)], .empty⟩ _
         refine awp_seqK fun K36 hK36 => awp_seqK fun K37 hK37 => awp_reg rfl <| AR.op rfl (aop_move (.inl rfl) rfl) <| AR.op rfl (aop_field_pp rfl rfl fd24_0 (by decide)) <| AR.op (r := .sl (List.map G.api_Txn.av h_0.Txns)) rfl (aop_load_pp rfl rfl sz22 rfl) <| AR.keep [1, 5, 6, 7, 37, 39] rfl <| AR.op rfl (aop_move (.inl rfl) rfl) ?_
         obtain ⟨x1404, hx1404, h⟩ := Sh.bind_some' h
         obtain ⟨k1405, hi1405, hl1405⟩ := Sh.idx_some hx1404
         refine AR.op rfl (t_index_sl G.api_Txn.av h_0.Txns hi1405 hl1405 rfl rfl rfl el22 rfl) <| AR.op rfl (aop_field_pp rfl rfl fd44_2 (by decide)) <| AR.keep [1, 5, 6, 7, 37, 42] rfl <| AR.op (r := .sl (List.map G.api_Take.av x1404.Reads)) rfl (aop_load_pp rfl rfl sz42 rfl) <| AR.op rfl (t_len_sl G.api_Take.av x1404.Reads rfl rfl el42) <| AR.op rfl (aop_lss rfl rfl rfl) <| AR.nil <| hK37 _ (AWP.weak (Weak.kt [1, 5, 6, 7, 45] rfl) ?_)
         refine awp_cond rfl (fun hb1406 => ?_) (fun hb1406 => ?_)
         ·replace h := Sh.if_t h hb1406
          refine awp_skip <| hK36 _ (AWP.weak (Weak.kt [1, 5, 6, 7] rfl) ?_)
          refine awp_seqK fun K38 hK38 => awp_block <| awp_seqK fun K39 hK39 => awp_reg rfl <| AR.op rfl (aop_field_pp rfl rfl fd24_0 (by decide)) <| AR.op (r := .sl (List.map G.api_Txn.av h_0.Txns)) rfl (aop_load_pp rfl rfl sz22 rfl) <| AR.op rfl (aop_move (.inl rfl) rfl) <| AR.keep [1, 5, 6, 7, 49, 50] rfl ?_
          obtain ⟨x1418, hx1418, h⟩ := Sh.bind_some' h
          obtain ⟨k1419, hi1419, hl1419⟩ := Sh.idx_some hx1418
          refine AR.op rfl (t_index_sl G.api_Txn.av h_0.Txns hi1419 hl1419 rfl rfl rfl el22 rfl) <| AR.op rfl (aop_field_pp rfl rfl fd44_2 (by decide)) <| AR.op (r := .sl (List.map G.api_Take.av x1418.Reads)) rfl (aop_load_pp rfl rfl sz42 rfl) <| AR.keep [1, 5, 6, 7, 53] rfl <| AR.op rfl (aop_move (.inl rfl) rfl) ?_
          obtain ⟨x1420, hx1420, h⟩ := Sh.bind_some' h
          obtain ⟨k1421, hi1421, hl1421⟩ := Sh.idx_some hx1420
          refine AR.op rfl (t_index_sl G.api_Take.av x1418.Reads hi1421 hl1421 rfl rfl rfl el42 rfl) <| AR.op (r := G.api_Take.av x1420) rfl (aop_load_pp rfl rfl sz46 rfl) <| AR.keep [1, 5, 6, 7, 56] rfl <| AR.op (r := .ref 0 0 0) rfl (aop_alloc 2 [.agg [i64 0, i64 0]] rfl zr46 (by kernel_rfl) (.inl ⟨rfl, rfl⟩)) <| AR.op rfl (aop_store (e' := G.api_Take.av x1420) rfl rfl rfl rfl rfl rfl sz46 rfl dt rfl) <| AR.nil <| hK39 _ (AWP.weak (Weak.e (fr' := [(1, .pp [.sl (List.map G.api_Txn.av h_0.Txns)] 0), (5, i64 reads1398), (6, i64 t1344), (7, i64 i1399), (8, .pp [i64 x1420.Key, i64 x1420.From] 0)]) (H' := .empty) ⟨.k, .k, .k, .k, ⟨_, rfl, .frzA rfl rfl rfl rfl (by simp)⟩, trivial⟩) ?_)
          refine awp_seqK fun K40 hK40 => awp_reg rfl <| AR.op (r := G.api_Hist.av h_0) rfl (aop_load_pp rfl rfl sz24 rfl) <| AR.op rfl (aop_move (.inl rfl) rfl) <| AR.op rfl (aop_field_pp rfl rfl fd46_0 (by decide)) <| AR.keep [1, 5, 6, 7, 8, 58, 59, 60] rfl <| AR.op (r := i64 x1420.Key) rfl (aop_load_pp rfl rfl sz3 rfl) ?_
          obtain ⟨r1423, hr1423, h⟩ := Sh.bind_some' h
          refine AR.op (r := .tuple [i64 r1423.1, bl r1423.2]) rfl (aop_call1 rfl rfl (by simp) (index_From_ok hT hr1423)) <| AR.op rfl (aop_move (.inl rfl) rfl) <| AR.keep [1, 5, 6, 7, 8, 57] rfl <| AR.op (r := i64 r1423.1) rfl (aop_extract rfl rfl rfl) <| AR.op (r := bl r1423.2) rfl (aop_extract rfl rfl rfl) <| AR.op rfl (aop_move (.inr rfl) rfl) <| AR.keep [1, 5, 6, 7, 8, 64, 9] rfl <| AR.op rfl (aop_move (.inr rfl) rfl) ?_
          refine AR.nil <| hK40 _ (AWP.weak (Weak.kt [1, 5, 6, 7, 8, 9, 10] rfl) ?_)
          refine awp_seqK fun K41 hK41 => awp_seqJ (fun (p : Bool) => (⟨[(1, .pp [.sl (List.map G.api_Txn.av h_0.Txns)] 0), (5, i64 reads1398), (6, i64 t1344), (7, i64 i1399), (72, bl p)], .empty⟩ : St)) (fun (p : Bool) => G.inquestlaw09_IndexReads_j9 reads1398 i1399 p = some o5) ?_ ?_
          ·rintro v1427 h
           replace h : G.inquestlaw09_IndexReads_j9 reads1398 i1399 v1427 = some o5 := h
           unfold G.inquestlaw09_IndexReads_j9 at h
           show AWP _ _ _ _ ⟨[(1, .pp [.sl (List.map G.api_Txn.av h_0.Txns)] 0), (5, i64 reads1398), (6, i64 t1344), (7, i64 i1399), (72, bl v1427)], .empty⟩ _
           refine awp_cond rfl (fun hb1428 => ?_) (fun hb1428 => ?_)
           ·replace h := Sh.if_t h hb1428
            refine awp_seqK fun K42 hK42 => awp_reg rfl <| AR.op rfl (aop_move (.inr rfl) rfl) <| AR.nil <| hK42 _ (AWP.weak (Weak.kt [2] rfl) ?_)
            refine awp_ret ?_
            replace h := Sh.exit_eq h hx5
            replace h := Sh.exit_eq h hx4
            obtain rfl := Option.some.inj h
            refine ⟨.inr rfl, bl false, rfl, ?_⟩
            exact Weak.e ⟨.k, trivial⟩
           ·replace h := Sh.if_f h hb1428
            refine awp_skip <| hK41 _ (AWP.weak (Weak.kt [1, 5, 6, 7] rfl) ?_)
            refine awp_reg rfl <| AR.op rfl (aop_move (.inl rfl) rfl) <| AR.op rfl (aop_add rfl rfl rfl rfl) <| AR.op rfl (aop_move (.inr rfl) rfl) <| AR.nil <| hK38 _ (AWP.weak (Weak.kt [1, 5, 6, 7] rfl) ?_)
            refine awp_reg rfl <| AR.op rfl (aop_move (.inl rfl) rfl) <| AR.op rfl (aop_add rfl rfl rfl rfl) <| AR.op rfl (aop_move (.inr rfl) rfl) <| AR.nil ?_
            replace h := Sh.next_eq h
            exact ⟨_, h, Weak.e (fr' := [(1, .pp [.sl (List.map G.api_Txn.av h_0.Txns)] 0), (5, i64 (w64 (reads1398 + 1))), (6, i64 t1344), (7, i64 (w64 (i1399 + 1)))]) (H' := .empty) ⟨.k, .k, .k, .k, trivial⟩⟩
          ·intro K43 hK43
           refine awp_reg rfl <| AR.op rfl (aop_move (.inl rfl) rfl) <| AR.op (r := bl (!r1423.2)) rfl (aop_not rfl rfl) <| AR.op rfl (aop_move (.inl rfl) rfl) <| AR.keep [1, 5, 6, 7, 8, 9, 67] rfl ?_
           rcases Bool.eq_false_or_eq_true (!r1423.2) with hb1429 | hb1429
           ·rw [hb1429]
            replace h := Sh.if_t h hb1429
            refine AR.skip rfl <| AR.skip rfl <| AR.skip rfl <| AR.keep [1, 5, 6, 7, 67, 68, 69, 70] rfl <| AR.skip rfl <| AR.op rfl (aop_pick rfl rfl rfl) <| AR.nil ?_
            exact hK43 true _ h (Weak.kt [1, 5, 6, 7, 72] rfl)
           ·rw [hb1429]
            replace h := Sh.if_f h hb1429
            refine AR.op rfl (aop_move (.inl rfl) rfl) <| AR.op rfl (aop_field_pp rfl rfl fd46_1 (by decide)) <| AR.op (r := i64 x1420.From) rfl (aop_load_pp rfl rfl sz3 rfl) <| AR.keep [1, 5, 6, 7, 67, 68, 69, 70] rfl <| AR.op (r := bl (decide (r1423.1 ≠ x1420.From))) rfl (aop_neq rfl rfl rfl) <| AR.op rfl (aop_pick rfl rfl rfl) <| AR.nil ?_
            exact hK43 (decide (r1423.1 ≠ x1420.From)) _ h (Weak.e (fr' := [(1, .pp [.sl (List.map G.api_Txn.av h_0.Txns)] 0), (5, i64 reads1398), (6, i64 t1344), (7, i64 i1399), (72, bl (decide (r1423.1 ≠ x1420.From)))]) (H' := .empty) ⟨.k, .k, .k, .k, .k, trivial⟩)
         ·replace h := Sh.if_f h hb1406
          refine awp_exit ?_
          replace h := Sh.exit_eq h hx5
          exact hK34 reads1398 _ h (Weak.kt [1, 5, 6] rfl)
      ·replace h := Sh.if_f h hb1345
       refine awp_exit ?_
       replace h := Sh.exit_eq h hx4
       exact hK30 reads1343 _ h (Weak.kt [1, 5] rfl)
  ·intro K44 hK44
   refine awp_reg rfl <| AR.op rfl (aop_move (.inl rfl) rfl) <| AR.op (r := bl (!r400)) rfl (aop_not rfl rfl) <| AR.op rfl (aop_move (.inl rfl) rfl) <| AR.keep [1, 25] rfl ?_
   rcases Bool.eq_false_or_eq_true (!r400) with hb1430 | hb1430
   ·rw [hb1430]
    replace h := Sh.if_t h hb1430
    refine AR.skip rfl <| AR.skip rfl <| AR.skip rfl <| AR.keep [1, 25, 28] rfl <| AR.op rfl (aop_pick rfl rfl rfl) <| AR.nil ?_
    exact hK44 true _ h (Weak.kt [1, 29] rfl)
   ·rw [hb1430]
    replace h := Sh.if_f h hb1430
    refine AR.op (r := G.api_Hist.av h_0) rfl (aop_load_pp rfl rfl sz24 rfl) ?_
    obtain ⟨r1431, hr1431, h⟩ := Sh.bind_some' h
    refine AR.op (r := bl r1431) rfl (aop_call1 rfl rfl (by simp) (hist_Right_ok hT hr1431)) <| AR.op (r := bl (!r1431)) rfl (aop_not rfl rfl) <| AR.keep [1, 25, 28] rfl <| AR.op rfl (aop_pick rfl rfl rfl) <| AR.nil ?_
    exact hK44 (!r1431) _ h (Weak.e (fr' := [(1, .pp [.sl (List.map G.api_Txn.av h_0.Txns)] 0), (29, bl (!r1431))]) (H' := .empty) ⟨.k, .k, trivial⟩)
theorem inquestlaw09_IndexReads_ok {W0 : World} (hT : Tab W0) {h_0 : G.api_Hist} {r : Bool} (h : G.inquestlaw09_IndexReads h_0 = some r) : Fun1 Try.prog W0 5 [G.api_Hist.av h_0] (bl r) := Fun1.two (inquestlaw09_IndexReads_ok0 hT h) (by simp)

end Wk
