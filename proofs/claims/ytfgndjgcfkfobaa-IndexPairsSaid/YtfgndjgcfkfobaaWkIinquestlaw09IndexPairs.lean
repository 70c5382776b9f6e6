/- That a statement does what its plain function says. -/
import Derived.Test.YtfgndjgcfkfobaaWkIinquestlaw09
open Go Go.Av Go.Proofs
set_option linter.unusedVariables false
set_option maxHeartbeats 8000000
set_option maxRecDepth 20000
namespace Wk
theorem inquestlaw09_IndexPairs_ok0 {W0 : World} (hT : Tab W0) {h_0 : G.api_Hist} {r : Bool} (h : G.inquestlaw09_IndexPairs h_0 = some r) : Fun2 Try.prog W0 4 [G.api_Hist.av h_0] (bl r) .empty := by
 refine fun2_of_awp Try.func4 rfl (by kernel_rfl) Try.ntmps4 (by simp) ?_
 unfold G.inquestlaw09_IndexPairs at h
 show AWP _ _ _ _ ⟨[(0, G.api_Hist.av h_0)], .empty⟩ _
 refine awp_seqK fun K1 hK1 => awp_reg rfl <| AR.op (r := .ref 0 0 0) rfl (aop_box 1 [G.api_Hist.av h_0] rfl rfl rfl (.inl ⟨rfl, rfl⟩)) <| AR.op rfl (aop_move (.inr rfl) rfl) <| AR.nil <| hK1 _ (AWP.weak (Weak.e (fr' := [(1, .pp [.sl (List.map G.api_Txn.av h_0.Txns)] 0)]) (H' := .empty) ⟨⟨_, rfl, .frzA rfl rfl rfl rfl (by simp)⟩, trivial⟩) ?_)
 refine awp_seqK fun K2 hK2 => awp_reg rfl ?_
 obtain ⟨r71, hr71, h⟩ := Sh.bind_some' h
 refine AR.op (r := bl r71) rfl (aop_call1 rfl rfl (by simp) (inquestlaw09_awake_ok hT hr71)) <| AR.op rfl (aop_move (.inr rfl) rfl) <| AR.nil <| hK2 _ (AWP.weak (Weak.kt [1, 3] rfl) ?_)
 refine awp_seqK fun K3 hK3 => awp_seqK fun K4 hK4 => awp_reg rfl <| AR.op rfl (aop_move (.inl rfl) rfl) <| AR.op (r := bl (!r71)) rfl (aop_not rfl rfl) <| AR.nil <| hK4 _ (AWP.weak (Weak.kt [1, 16] rfl) ?_)
 refine awp_cond rfl (fun hb72 => ?_) (fun hb72 => ?_)
 ·replace h := Sh.if_t h hb72
  refine awp_seqK fun K5 hK5 => awp_reg rfl <| AR.op rfl (aop_move (.inr rfl) rfl) <| AR.nil <| hK5 _ (AWP.weak (Weak.kt [2] rfl) ?_)
  refine awp_ret ?_
  obtain rfl := Option.some.inj h
  refine ⟨.inr rfl, bl false, rfl, ?_⟩
  exact Weak.e ⟨.k, trivial⟩
 ·replace h := Sh.if_f h hb72
  refine awp_skip <| hK3 _ (AWP.weak (Weak.kt [1] rfl) ?_)
  refine awp_seqK fun K6 hK6 => awp_reg rfl <| AR.op (r := G.api_Hist.av h_0) rfl (aop_load_pp rfl rfl sz24 rfl) ?_
  obtain ⟨r74, hr74, h⟩ := Sh.bind_some' h
  refine AR.op (r := bl r74) rfl (aop_call1 rfl rfl (by simp) (inquestref08_Few_ok hT hr74)) <| AR.op rfl (aop_move (.inr rfl) rfl) <| AR.nil <| hK6 _ (AWP.weak (Weak.kt [1, 4] rfl) ?_)
  refine awp_seqK fun K7 hK7 => awp_seqK fun K8 hK8 => awp_reg rfl <| AR.op rfl (aop_move (.inl rfl) rfl) <| AR.op (r := bl (!r74)) rfl (aop_not rfl rfl) <| AR.nil <| hK8 _ (AWP.weak (Weak.kt [1, 20] rfl) ?_)
  refine awp_cond rfl (fun hb75 => ?_) (fun hb75 => ?_)
  ·replace h := Sh.if_t h hb75
   refine awp_seqK fun K9 hK9 => awp_reg rfl <| AR.op rfl (aop_move (.inr rfl) rfl) <| AR.nil <| hK9 _ (AWP.weak (Weak.kt [2] rfl) ?_)
   refine awp_ret ?_
   obtain rfl := Option.some.inj h
   refine ⟨.inr rfl, bl true, rfl, ?_⟩
   exact Weak.e ⟨.k, trivial⟩
  ·replace h := Sh.if_f h hb75
   refine awp_skip <| hK7 _ (AWP.weak (Weak.kt [1] rfl) ?_)
   refine awp_seqK fun K10 hK10 => awp_reg rfl <| AR.op (r := G.api_Hist.av h_0) rfl (aop_load_pp rfl rfl sz24 rfl) ?_
   obtain ⟨r77, hr77, h⟩ := Sh.bind_some' h
   refine AR.op (r := .sl (List.map G.api_Choice.av r77)) rfl (aop_call1 rfl rfl (by simp) (index_Pairs_ok hT hr77)) <| AR.op rfl (aop_move (.inr rfl) rfl) <| AR.nil <| hK10 _ (AWP.weak (Weak.kt [1, 5] rfl) ?_)
   refine awp_seqK fun K11 hK11 => awp_seqK fun K12 hK12 => awp_reg rfl <| AR.op (r := G.api_Hist.av h_0) rfl (aop_load_pp rfl rfl sz24 rfl) ?_
   obtain ⟨r80, hr80, h⟩ := Sh.bind_some' h
   refine AR.op (r := bl r80) rfl (aop_call1 rfl rfl (by simp) (hist_Right_ok hT hr80)) <| AR.op (r := bl (!r80)) rfl (aop_not rfl rfl) <| AR.nil <| hK12 _ (AWP.weak (Weak.kt [1, 5, 25] rfl) ?_)
   refine awp_cond rfl (fun hb81 => ?_) (fun hb81 => ?_)
   ·replace h := Sh.if_t h hb81
    refine awp_seqK fun K13 hK13 => awp_reg rfl <| AR.op rfl (aop_move (.inl rfl) rfl) <| AR.op rfl (t_len_sl G.api_Choice.av r77 rfl rfl el35) <| AR.op (r := bl (decide ((Sh.len r77) = 0))) rfl (aop_eql rfl rfl rfl) <| AR.keep [28] rfl <| AR.op rfl (aop_move (.inr rfl) rfl) <| AR.nil ?_
    refine hK13 _ (AWP.weak (Weak.kt [2] rfl) ?_)
    refine awp_ret ?_
    obtain rfl := Option.some.inj h
    refine ⟨.inr rfl, bl (decide ((Sh.len r77) = 0)), rfl, ?_⟩
    exact Weak.e ⟨.k, trivial⟩
   ·replace h := Sh.if_f h hb81
    refine awp_skip <| hK11 _ (AWP.weak (Weak.kt [1, 5] rfl) ?_)
    refine awp_seqK fun K14 hK14 => awp_reg rfl <| AR.op rfl (aop_move (.inr rfl) rfl) <| AR.nil <| hK14 _ ?_
    refine awp_seqJ (fun (p : Int) => (⟨[(1, .pp [.sl (List.map G.api_Txn.av h_0.Txns)] 0), (5, .sl (List.map G.api_Choice.av r77)), (6, i64 p)], .empty⟩ : St)) (fun (p : Int) => G.inquestlaw09_IndexPairs_j1 h_0 r77 p = some r) ?_ ?_
    ·rintro many92 h
     replace h : G.inquestlaw09_IndexPairs_j1 h_0 r77 many92 = some r := h
     unfold G.inquestlaw09_IndexPairs_j1 at h
     show AWP _ _ _ _ ⟨[(1, .pp [.sl (List.map G.api_Txn.av h_0.Txns)] 0), (5, .sl (List.map G.api_Choice.av r77)), (6, i64 many92)], .empty⟩ _
     refine awp_seqJ (fun (p : Unit) => (⟨[(5, .sl (List.map G.api_Choice.av r77)), (6, i64 many92)], .empty⟩ : St)) (fun (p : Unit) => G.inquestlaw09_IndexPairs_j2 r77 many92 = some r) ?_ ?_
     ·rintro ⟨⟩ h
      replace h : G.inquestlaw09_IndexPairs_j2 r77 many92 = some r := h
      unfold G.inquestlaw09_IndexPairs_j2 at h
      show AWP _ _ _ _ ⟨[(5, .sl (List.map G.api_Choice.av r77)), (6, i64 many92)], .empty⟩ _
      refine awp_seqK fun K15 hK15 => awp_reg rfl <| AR.op rfl (aop_move (.inl rfl) rfl) <| AR.op rfl (t_len_sl G.api_Choice.av r77 rfl rfl el35) <| AR.op rfl (aop_move (.inl rfl) rfl) <| AR.keep [137, 138] rfl <| AR.op (r := bl (decide ((Sh.len r77) = many92))) rfl (aop_eql rfl rfl rfl) <| AR.op rfl (aop_move (.inr rfl) rfl) ?_
      refine AR.nil <| hK15 _ (AWP.weak (Weak.kt [2] rfl) ?_)
      refine awp_ret ?_
      obtain rfl := Option.some.inj h
      refine ⟨.inr rfl, bl (decide ((Sh.len r77) = many92)), rfl, ?_⟩
      exact Weak.e ⟨.k, trivial⟩
     ·intro K16 hK16
      refine awp_seqK fun K17 hK17 => awp_reg rfl <| AR.op rfl (aop_move (.inr rfl) rfl) <| AR.nil <| hK17 _ ?_
      refine awp_block <| awp_iter (fun (p : Int) => G.inquestlaw09_IndexPairs_b1 h_0 r77 many92 p) (fun (p : Int) => (⟨[(1, .pp [.sl (List.map G.api_Txn.av h_0.Txns)] 0), (5, .sl (List.map G.api_Choice.av r77)), (6, i64 many92), (9, i64 p)], .empty⟩ : St)) h (Weak.kt [1, 5, 6, 9] rfl) ?_
      ·skip
       rintro i182 o1 h hx1
       replace h : G.inquestlaw09_IndexPairs_b1 h_0 r77 many92 i182 = some o1 := h
       unfold G.inquestlaw09_IndexPairs_b1 at h
       show AWP _ _ _ _ ⟨[(1, .pp [.sl (List.map G.api_Txn.av h_0.Txns)] 0), (5, .sl (List.map G.api_Choice.av r77)), (6, i64 many92), (9, i64 i182)], .empty⟩ _
       refine awp_seqK fun K18 hK18 => awp_seqK fun K19 hK19 => awp_reg rfl <| AR.op rfl (aop_move (.inl rfl) rfl) <| AR.op rfl (aop_move (.inl rfl) rfl) <| AR.op rfl (t_len_sl G.api_Choice.av r77 rfl rfl el35) <| AR.keep [1, 5, 6, 9, 44, 46] rfl <| AR.op rfl (aop_lss rfl rfl rfl) ?_
       refine AR.nil <| hK19 _ (AWP.weak (Weak.kt [1, 5, 6, 9, 47] rfl) ?_)
       refine awp_cond rfl (fun hb183 => ?_) (fun hb183 => ?_)
       ·replace h := Sh.if_t h hb183
        refine awp_skip <| hK18 _ (AWP.weak (Weak.kt [1, 5, 6, 9] rfl) ?_)
        refine awp_seqJ (fun (p : Unit) => (⟨[(1, .pp [.sl (List.map G.api_Txn.av h_0.Txns)] 0), (5, .sl (List.map G.api_Choice.av r77)), (6, i64 many92), (9, i64 i182)], .empty⟩ : St)) (fun (p : Unit) => G.inquestlaw09_IndexPairs_j3 i182 = some o1) ?_ ?_
        ·rintro ⟨⟩ h
         replace h : G.inquestlaw09_IndexPairs_j3 i182 = some o1 := h
         unfold G.inquestlaw09_IndexPairs_j3 at h
         show AWP _ _ _ _ ⟨[(1, .pp [.sl (List.map G.api_Txn.av h_0.Txns)] 0), (5, .sl (List.map G.api_Choice.av r77)), (6, i64 many92), (9, i64 i182)], .empty⟩ _
         refine awp_reg rfl <| AR.op rfl (aop_move (.inl rfl) rfl) <| AR.op rfl (aop_add rfl rfl rfl rfl) <| AR.op rfl (aop_move (.inr rfl) rfl) <| AR.nil ?_
         replace h := Sh.next_eq h
         exact ⟨_, h, Weak.e (fr' := [(1, .pp [.sl (List.map G.api_Txn.av h_0.Txns)] 0), (5, .sl (List.map G.api_Choice.av r77)), (6, i64 many92), (9, i64 (w64 (i182 + 1)))]) (H' := .empty) ⟨.k, ⟨.sl (List.map G.api_Choice.av r77), rfl, .sm⟩, .k, .k, trivial⟩⟩
        ·intro K20 hK20
         refine awp_block <| awp_seqK fun K21 hK21 => awp_reg rfl <| AR.op rfl (aop_move (.inl rfl) rfl) <| AR.op rfl (aop_move (.inl rfl) rfl) ?_
         obtain ⟨x206, hx206, h⟩ := Sh.bind_some' h
         obtain ⟨k207, hi207, hl207⟩ := Sh.idx_some hx206
         refine AR.op rfl (t_index_sl G.api_Choice.av r77 hi207 hl207 rfl rfl rfl el35 rfl) <| AR.keep [1, 5, 6, 9, 52] rfl <| AR.op (r := G.api_Choice.av x206) rfl (aop_load_pp rfl rfl sz40 rfl) <| AR.op (r := .ref 0 0 0) rfl (aop_alloc 3 [.agg [i64 0, i64 0, i64 0]] rfl zr40 (by kernel_rfl) (.inl ⟨rfl, rfl⟩)) <| AR.op rfl (aop_store (e' := G.api_Choice.av x206) rfl rfl rfl rfl rfl rfl sz40 rfl dt rfl) <| AR.nil <| hK21 _ (AWP.weak (Weak.e (fr' := [(1, .pp [.sl (List.map G.api_Txn.av h_0.Txns)] 0), (5, .sl (List.map G.api_Choice.av r77)), (6, i64 many92), (9, i64 i182), (10, .pp [i64 x206.Key, i64 x206.A, i64 x206.B] 0)]) (H' := .empty) ⟨.k, ⟨.sl (List.map G.api_Choice.av r77), rfl, .sm⟩, .k, .k, ⟨_, rfl, .frzA rfl rfl rfl rfl (by simp)⟩, trivial⟩) ?_)
         refine awp_seqK fun K22 hK22 => awp_seqJ (fun (p : Bool) => (⟨[(1, .pp [.sl (List.map G.api_Txn.av h_0.Txns)] 0), (5, .sl (List.map G.api_Choice.av r77)), (6, i64 many92), (9, i64 i182), (10, .pp [i64 x206.Key, i64 x206.A, i64 x206.B] 0), (71, bl p)], .empty⟩ : St)) (fun (p : Bool) => G.inquestlaw09_IndexPairs_j4 h_0 r77 i182 x206 p = some o1) ?_ ?_
         ·rintro v213 h
          replace h : G.inquestlaw09_IndexPairs_j4 h_0 r77 i182 x206 v213 = some o1 := h
          unfold G.inquestlaw09_IndexPairs_j4 at h
          show AWP _ _ _ _ ⟨[(1, .pp [.sl (List.map G.api_Txn.av h_0.Txns)] 0), (5, .sl (List.map G.api_Choice.av r77)), (6, i64 many92), (9, i64 i182), (10, .pp [i64 x206.Key, i64 x206.A, i64 x206.B] 0), (71, bl v213)], .empty⟩ _
          refine awp_cond rfl (fun hb214 => ?_) (fun hb214 => ?_)
          ·replace h := Sh.if_t h hb214
           refine awp_seqK fun K23 hK23 => awp_reg rfl <| AR.op rfl (aop_move (.inr rfl) rfl) <| AR.nil <| hK23 _ (AWP.weak (Weak.kt [2] rfl) ?_)
           refine awp_ret ?_
           replace h := Sh.exit_eq h hx1
           obtain rfl := Option.some.inj h
           refine ⟨.inr rfl, bl false, rfl, ?_⟩
           exact Weak.e ⟨.k, trivial⟩
          ·replace h := Sh.if_f h hb214
           refine awp_skip <| hK22 _ (AWP.weak (Weak.kt [1, 5, 6, 9, 10] rfl) ?_)
           refine awp_seqK fun K24 hK24 => awp_any [(true, false), (true, false), (true, false), (true, false), (true, false), (true, false), (true, false), (true, false), (true, false), (true, false)] (by kernel_rfl) (by kernel_rfl) rfl ?_
           refine ARH.dry rfl (fun _ => aop_field_pp rfl rfl fd24_0 (by decide)) <| ARH.dry (r := .sl (List.map G.api_Txn.av h_0.Txns)) rfl (fun _ => aop_load_pp rfl rfl sz22 rfl) <| ARH.dry rfl (fun _ => aop_field_pp rfl rfl fd40_1 (by decide)) <| ARH.keep [1, 5, 6, 9, 10, 73, 74] rfl <| ARH.dry (r := i64 x206.A) rfl (fun _ => aop_load_pp rfl rfl sz3 rfl) ?_
           obtain ⟨x218, hx218, h⟩ := Sh.bind_some' h
           obtain ⟨k219, hi219, hl219⟩ := Sh.idx_some hx218
           refine ARH.dry rfl (fun _ => t_index_sl G.api_Txn.av h_0.Txns hi219 hl219 rfl rfl rfl el22 rfl) <| ARH.dry (r := G.api_Txn.av x218) rfl (fun _ => aop_load_pp rfl rfl sz44 rfl) <| ARH.keep [1, 5, 6, 9, 10, 77] rfl <| ARH.dry rfl (fun _ => aop_field_pp rfl rfl fd40_0 (by decide)) <| ARH.dry (r := i64 x206.Key) rfl (fun _ => aop_load_pp rfl rfl sz3 rfl) ?_
           obtain ⟨r220, hr220, h⟩ := Sh.bind_some' h
           refine ARH.dry (r := bl r220) rfl (fun _ => aop_call1 rfl rfl (by simp) (inquestref08_Writes_ok hT hr220)) <| ARH.keep [1, 5, 6, 9, 10, 80] rfl <| ARH.dry rfl (fun _ => aop_move (.inr rfl) rfl) <| ARH.nil <| hK24 _ (AWP.weak (Weak.kt [1, 5, 6, 9, 10, 11] rfl) ?_)
           refine awp_seqK fun K25 hK25 => awp_any [(true, false), (true, false), (true, false), (true, false), (true, false), (true, false), (true, false), (true, false), (true, false), (true, false)] (by kernel_rfl) (by kernel_rfl) rfl ?_
           refine ARH.dry rfl (fun _ => aop_field_pp rfl rfl fd24_0 (by decide)) <| ARH.dry (r := .sl (List.map G.api_Txn.av h_0.Txns)) rfl (fun _ => aop_load_pp rfl rfl sz22 rfl) <| ARH.dry rfl (fun _ => aop_field_pp rfl rfl fd40_2 (by decide)) <| ARH.keep [1, 5, 6, 9, 10, 11, 82, 83] rfl <| ARH.dry (r := i64 x206.B) rfl (fun _ => aop_load_pp rfl rfl sz3 rfl) ?_
           obtain ⟨x224, hx224, h⟩ := Sh.bind_some' h
           obtain ⟨k225, hi225, hl225⟩ := Sh.idx_some hx224
           refine ARH.dry rfl (fun _ => t_index_sl G.api_Txn.av h_0.Txns hi225 hl225 rfl rfl rfl el22 rfl) <| ARH.dry (r := G.api_Txn.av x224) rfl (fun _ => aop_load_pp rfl rfl sz44 rfl) <| ARH.keep [1, 5, 6, 9, 10, 11, 86] rfl <| ARH.dry rfl (fun _ => aop_field_pp rfl rfl fd40_0 (by decide)) <| ARH.dry (r := i64 x206.Key) rfl (fun _ => aop_load_pp rfl rfl sz3 rfl) ?_
           obtain ⟨r226, hr226, h⟩ := Sh.bind_some' h
           refine ARH.dry (r := bl r226) rfl (fun _ => aop_call1 rfl rfl (by simp) (inquestref08_Writes_ok hT hr226)) <| ARH.keep [1, 5, 6, 9, 10, 11, 89] rfl <| ARH.dry rfl (fun _ => aop_move (.inr rfl) rfl) <| ARH.nil <| hK25 _ (AWP.weak (Weak.kt [1, 5, 6, 9, 10, 11, 12] rfl) ?_)
           refine awp_seqK fun K26 hK26 => awp_seqJ (fun (p : Bool) => (⟨[(1, .pp [.sl (List.map G.api_Txn.av h_0.Txns)] 0), (5, .sl (List.map G.api_Choice.av r77)), (6, i64 many92), (9, i64 i182), (10, .pp [i64 x206.Key, i64 x206.A, i64 x206.B] 0), (95, bl p)], .empty⟩ : St)) (fun (p : Bool) => G.inquestlaw09_IndexPairs_j5 r77 i182 x206 p = some o1) ?_ ?_
           ·rintro v230 h
            replace h : G.inquestlaw09_IndexPairs_j5 r77 i182 x206 v230 = some o1 := h
            unfold G.inquestlaw09_IndexPairs_j5 at h
            show AWP _ _ _ _ ⟨[(1, .pp [.sl (List.map G.api_Txn.av h_0.Txns)] 0), (5, .sl (List.map G.api_Choice.av r77)), (6, i64 many92), (9, i64 i182), (10, .pp [i64 x206.Key, i64 x206.A, i64 x206.B] 0), (95, bl v230)], .empty⟩ _
            refine awp_cond rfl (fun hb231 => ?_) (fun hb231 => ?_)
            ·replace h := Sh.if_t h hb231
             refine awp_seqK fun K27 hK27 => awp_reg rfl <| AR.op rfl (aop_move (.inr rfl) rfl) <| AR.nil <| hK27 _ (AWP.weak (Weak.kt [2] rfl) ?_)
             refine awp_ret ?_
             replace h := Sh.exit_eq h hx1
             obtain rfl := Option.some.inj h
             refine ⟨.inr rfl, bl false, rfl, ?_⟩
             exact Weak.e ⟨.k, trivial⟩
            ·replace h := Sh.if_f h hb231
             refine awp_skip <| hK26 _ (AWP.weak (Weak.kt [1, 5, 6, 9, 10] rfl) ?_)
             refine awp_seqK fun K28 hK28 => awp_reg rfl <| AR.op rfl (aop_move (.inl rfl) rfl) <| AR.op rfl (aop_gtr rfl rfl rfl) <| AR.nil <| hK28 _ (AWP.weak (Weak.kt [1, 5, 6, 9, 10, 97] rfl) ?_)
             refine awp_cond rfl (fun hb232 => ?_) (fun hb232 => ?_)
             ·replace h := Sh.if_t h hb232
              refine awp_seqK fun K29 hK29 => awp_reg rfl <| AR.op rfl (aop_move (.inl rfl) rfl) <| AR.op rfl (aop_move (.inl rfl) rfl) <| AR.op rfl (aop_sub rfl rfl rfl rfl) <| AR.keep [1, 5, 6, 9, 10, 98, 100] rfl ?_
              obtain ⟨x235, hx235, h⟩ := Sh.bind_some' h
              obtain ⟨k236, hi236, hl236⟩ := Sh.idx_some hx235
              refine AR.op rfl (t_index_sl G.api_Choice.av r77 hi236 hl236 rfl rfl rfl el35 rfl) <| AR.op (r := G.api_Choice.av x235) rfl (aop_load_pp rfl rfl sz40 rfl) <| AR.op (r := .ref 0 0 0) rfl (aop_alloc 3 [.agg [i64 0, i64 0, i64 0]] rfl zr40 (by kernel_rfl) (.inl ⟨rfl, rfl⟩)) <| AR.keep [1, 5, 6, 9, 10, 102, 13] rfl <| AR.op rfl (aop_store (e' := G.api_Choice.av x235) rfl rfl rfl rfl rfl rfl sz40 rfl dt rfl) <| AR.nil <| hK29 _ (AWP.weak (Weak.e (fr' := [(1, .pp [.sl (List.map G.api_Txn.av h_0.Txns)] 0), (5, .sl (List.map G.api_Choice.av r77)), (6, i64 many92), (9, i64 i182), (10, .pp [i64 x206.Key, i64 x206.A, i64 x206.B] 0), (13, .pp [i64 x235.Key, i64 x235.A, i64 x235.B] 0)]) (H' := .empty) ⟨.k, ⟨.sl (List.map G.api_Choice.av r77), rfl, .sm⟩, .k, .k, .k, ⟨_, rfl, .frzA rfl rfl rfl rfl (by simp)⟩, trivial⟩) ?_)
              refine awp_seqJ (fun (p : Bool) => (⟨[(1, .pp [.sl (List.map G.api_Txn.av h_0.Txns)] 0), (5, .sl (List.map G.api_Choice.av r77)), (6, i64 many92), (9, i64 i182), (135, bl p)], .empty⟩ : St)) (fun (p : Bool) => G.inquestlaw09_IndexPairs_j6 i182 p = some o1) ?_ ?_
              ·rintro v241 h
               replace h : G.inquestlaw09_IndexPairs_j6 i182 v241 = some o1 := h
               unfold G.inquestlaw09_IndexPairs_j6 at h
               show AWP _ _ _ _ ⟨[(1, .pp [.sl (List.map G.api_Txn.av h_0.Txns)] 0), (5, .sl (List.map G.api_Choice.av r77)), (6, i64 many92), (9, i64 i182), (135, bl v241)], .empty⟩ _
               refine awp_cond rfl (fun hb242 => ?_) (fun hb242 => ?_)
               ·replace h := Sh.if_t h hb242
                refine awp_seqK fun K30 hK30 => awp_reg rfl <| AR.op rfl (aop_move (.inr rfl) rfl) <| AR.nil <| hK30 _ (AWP.weak (Weak.kt [2] rfl) ?_)
                refine awp_ret ?_
                replace h := Sh.exit_eq h hx1
                obtain rfl := Option.some.inj h
                refine ⟨.inr rfl, bl false, rfl, ?_⟩
                exact Weak.e ⟨.k, trivial⟩
               ·replace h := Sh.if_f h hb242
                refine awp_skip ?_
                exact hK20 () _ h (Weak.kt [1, 5, 6, 9] rfl)
              ·intro K31 hK31
               refine awp_reg rfl <| AR.op rfl (aop_field_pp rfl rfl fd40_0 (by decide)) <| AR.op (r := i64 x206.Key) rfl (aop_load_pp rfl rfl sz3 rfl) <| AR.op rfl (aop_field_pp rfl rfl fd40_0 (by decide)) <| AR.keep [1, 5, 6, 9, 10, 13, 104, 105] rfl <| AR.op (r := i64 x235.Key) rfl (aop_load_pp rfl rfl sz3 rfl) <| AR.op rfl (aop_lss rfl rfl rfl) <| AR.op rfl (aop_move (.inl rfl) rfl) ?_
               refine AR.keep [1, 5, 6, 9, 10, 13, 108] rfl ?_
               rcases Bool.eq_false_or_eq_true (decide (x206.Key < x235.Key)) with hb243 | hb243
               ·rw [hb243]
                replace h := Sh.if_t h hb243
                refine AR.skip rfl <| AR.skip rfl <| AR.skip rfl <| AR.keep [1, 5, 6, 9, 10, 13, 108, 109, 110, 111] rfl <| AR.skip rfl <| AR.skip rfl <| AR.skip rfl <| AR.keep [1, 5, 6, 9, 10, 13, 108, 109, 110, 111, 112, 113, 114] rfl ?_
                refine AR.skip rfl <| AR.skip rfl <| AR.skip rfl <| AR.keep [1, 5, 6, 9, 10, 13, 108, 109, 110, 111, 112, 113, 114, 115, 116, 117] rfl <| AR.skip rfl <| AR.skip rfl <| AR.skip rfl <| AR.keep [1, 5, 6, 9, 10, 13, 108, 109, 110, 111, 112, 113, 114, 115, 116, 117, 118, 119, 120] rfl ?_
                refine AR.skip rfl <| AR.skip rfl <| AR.skip rfl <| AR.keep [1, 5, 6, 9, 10, 13, 108, 109, 110, 111, 112, 113, 114, 115, 116, 117, 118, 119, 120, 121, 122, 123] rfl <| AR.skip rfl <| AR.skip rfl <| AR.skip rfl <| AR.keep [1, 5, 6, 9, 10, 13, 108, 109, 110, 111, 112, 113, 114, 115, 116, 117, 118, 119, 120, 121, 122, 123, 124, 125, 126] rfl ?_
                refine AR.skip rfl <| AR.skip rfl <| AR.skip rfl <| AR.keep [1, 5, 6, 9, 108, 109, 110, 111, 112, 113, 114, 115, 116, 117, 118, 119, 120, 121, 122, 123, 124, 125, 126, 127, 128, 129] rfl <| AR.skip rfl <| AR.skip rfl <| AR.skip rfl <| AR.keep [1, 5, 6, 9, 108, 109, 110, 111, 112, 113, 114, 115, 116, 117, 118, 119, 120, 121, 122, 123, 124, 125, 126, 127, 128, 129, 130, 131, 132] rfl ?_
                refine AR.skip rfl <| AR.skip rfl <| AR.op rfl (aop_pick rfl rfl rfl) <| AR.nil ?_
                exact hK31 true _ h (Weak.kt [1, 5, 6, 9, 135] rfl)
               ·rw [hb243]
                replace h := Sh.if_f h hb243
                refine AR.op rfl (aop_field_pp rfl rfl fd40_0 (by decide)) <| AR.op (r := i64 x206.Key) rfl (aop_load_pp rfl rfl sz3 rfl) <| AR.op rfl (aop_field_pp rfl rfl fd40_0 (by decide)) <| AR.keep [1, 5, 6, 9, 10, 13, 108, 109, 110, 111] rfl <| AR.op (r := i64 x235.Key) rfl (aop_load_pp rfl rfl sz3 rfl) <| AR.op (r := bl (decide (x206.Key = x235.Key))) rfl (aop_eql rfl rfl rfl) <| AR.op rfl (aop_move (.inl rfl) rfl) <| AR.keep [1, 5, 6, 9, 10, 13, 108, 109, 110, 111, 112, 113, 114] rfl ?_
                rcases Bool.eq_false_or_eq_true (decide (x206.Key = x235.Key)) with hb244 | hb244
                ·rw [hb244]
                 replace h := Sh.if_t h hb244
                 refine AR.op rfl (aop_field_pp rfl rfl fd40_1 (by decide)) <| AR.op (r := i64 x206.A) rfl (aop_load_pp rfl rfl sz3 rfl) <| AR.op rfl (aop_field_pp rfl rfl fd40_1 (by decide)) <| AR.keep [1, 5, 6, 9, 10, 13, 108, 109, 110, 111, 112, 113, 114, 115, 116, 117] rfl <| AR.op (r := i64 x235.A) rfl (aop_load_pp rfl rfl sz3 rfl) <| AR.op rfl (aop_lss rfl rfl rfl) <| AR.op rfl (aop_move (.inl rfl) rfl) <| AR.keep [1, 5, 6, 9, 10, 13, 108, 109, 110, 111, 112, 113, 114, 115, 116, 117, 118, 119, 120] rfl ?_
                 rcases Bool.eq_false_or_eq_true (decide (x206.A < x235.A)) with hb245 | hb245
                 ·rw [hb245]
                  replace h := Sh.if_t h hb245
                  refine AR.skip rfl <| AR.skip rfl <| AR.skip rfl <| AR.keep [1, 5, 6, 9, 10, 13, 108, 109, 110, 111, 112, 113, 114, 115, 116, 117, 118, 119, 120, 121, 122, 123] rfl <| AR.skip rfl <| AR.skip rfl <| AR.skip rfl <| AR.keep [1, 5, 6, 9, 10, 13, 108, 109, 110, 111, 112, 113, 114, 115, 116, 117, 118, 119, 120, 121, 122, 123, 124, 125, 126] rfl ?_
                  refine AR.skip rfl <| AR.skip rfl <| AR.skip rfl <| AR.keep [1, 5, 6, 9, 108, 109, 110, 111, 112, 113, 114, 115, 116, 117, 118, 119, 120, 121, 122, 123, 124, 125, 126, 127, 128, 129] rfl <| AR.skip rfl <| AR.skip rfl <| AR.skip rfl <| AR.keep [1, 5, 6, 9, 108, 109, 110, 111, 112, 113, 114, 115, 116, 117, 118, 119, 120, 121, 122, 123, 124, 125, 126, 127, 128, 129, 130, 131, 132] rfl ?_
                  refine AR.op rfl (aop_pick rfl rfl rfl) <| AR.op rfl (aop_pick rfl rfl rfl) <| AR.op rfl (aop_pick rfl rfl rfl) <| AR.nil ?_
                  exact hK31 true _ h (Weak.kt [1, 5, 6, 9, 135] rfl)
                 ·rw [hb245]
                  replace h := Sh.if_f h hb245
                  refine AR.op rfl (aop_field_pp rfl rfl fd40_1 (by decide)) <| AR.op (r := i64 x206.A) rfl (aop_load_pp rfl rfl sz3 rfl) <| AR.op rfl (aop_field_pp rfl rfl fd40_1 (by decide)) <| AR.keep [1, 5, 6, 9, 10, 13, 108, 109, 110, 111, 112, 113, 114, 115, 116, 117, 118, 119, 120, 121, 122, 123] rfl <| AR.op (r := i64 x235.A) rfl (aop_load_pp rfl rfl sz3 rfl) <| AR.op (r := bl (decide (x206.A = x235.A))) rfl (aop_eql rfl rfl rfl) <| AR.op rfl (aop_move (.inl rfl) rfl) <| AR.keep [1, 5, 6, 9, 10, 13, 108, 109, 110, 111, 112, 113, 114, 115, 116, 117, 118, 119, 120, 121, 122, 123, 124, 125, 126] rfl ?_
                  rcases Bool.eq_false_or_eq_true (decide (x206.A = x235.A)) with hb246 | hb246
                  ·rw [hb246]
                   replace h := Sh.if_t h hb246
                   refine AR.op rfl (aop_field_pp rfl rfl fd40_2 (by decide)) <| AR.op (r := i64 x206.B) rfl (aop_load_pp rfl rfl sz3 rfl) <| AR.op rfl (aop_field_pp rfl rfl fd40_2 (by decide)) <| AR.keep [1, 5, 6, 9, 108, 109, 110, 111, 112, 113, 114, 115, 116, 117, 118, 119, 120, 121, 122, 123, 124, 125, 126, 127, 128, 129] rfl <| AR.op (r := i64 x235.B) rfl (aop_load_pp rfl rfl sz3 rfl) <| AR.op rfl (aop_leq rfl rfl rfl) <| AR.op rfl (aop_pick rfl rfl rfl) <| AR.keep [1, 5, 6, 9, 108, 109, 110, 111, 112, 113, 114, 115, 116, 117, 118, 119, 120, 121, 122, 123, 124, 125, 126, 127, 128, 129, 130, 131, 132] rfl ?_
                   refine AR.op rfl (aop_pick rfl rfl rfl) <| AR.op rfl (aop_pick rfl rfl rfl) <| AR.op rfl (aop_pick rfl rfl rfl) <| AR.nil ?_
                   exact hK31 (decide (x206.B ≤ x235.B)) _ h (Weak.e (fr' := [(1, .pp [.sl (List.map G.api_Txn.av h_0.Txns)] 0), (5, .sl (List.map G.api_Choice.av r77)), (6, i64 many92), (9, i64 i182), (135, bl (decide (x206.B ≤ x235.B)))]) (H' := .empty) ⟨.k, ⟨.sl (List.map G.api_Choice.av r77), rfl, .sm⟩, .k, .k, .k, trivial⟩)
                  ·rw [hb246]
                   replace h := Sh.if_f h hb246
                   refine AR.skip rfl <| AR.skip rfl <| AR.skip rfl <| AR.keep [1, 5, 6, 9, 108, 109, 110, 111, 112, 113, 114, 115, 116, 117, 118, 119, 120, 121, 122, 123, 124, 125, 126, 127, 128, 129] rfl <| AR.skip rfl <| AR.skip rfl <| AR.op rfl (aop_pick rfl rfl rfl) <| AR.keep [1, 5, 6, 9, 108, 109, 110, 111, 112, 113, 114, 115, 116, 117, 118, 119, 120, 121, 122, 123, 124, 125, 126, 127, 128, 129, 130, 131, 132] rfl ?_
                   refine AR.op rfl (aop_pick rfl rfl rfl) <| AR.op rfl (aop_pick rfl rfl rfl) <| AR.op rfl (aop_pick rfl rfl rfl) <| AR.nil ?_
                   exact hK31 false _ h (Weak.kt [1, 5, 6, 9, 135] rfl)
                ·rw [hb244]
                 replace h := Sh.if_f h hb244
                 refine AR.skip rfl <| AR.skip rfl <| AR.skip rfl <| AR.keep [1, 5, 6, 9, 10, 13, 108, 109, 110, 111, 112, 113, 114, 115, 116, 117] rfl <| AR.skip rfl <| AR.skip rfl <| AR.skip rfl <| AR.keep [1, 5, 6, 9, 10, 13, 108, 109, 110, 111, 112, 113, 114, 115, 116, 117, 118, 119, 120] rfl ?_
                 refine AR.skip rfl <| AR.skip rfl <| AR.skip rfl <| AR.keep [1, 5, 6, 9, 10, 13, 108, 109, 110, 111, 112, 113, 114, 115, 116, 117, 118, 119, 120, 121, 122, 123] rfl <| AR.skip rfl <| AR.skip rfl <| AR.skip rfl <| AR.keep [1, 5, 6, 9, 10, 13, 108, 109, 110, 111, 112, 113, 114, 115, 116, 117, 118, 119, 120, 121, 122, 123, 124, 125, 126] rfl ?_
                 refine AR.skip rfl <| AR.skip rfl <| AR.skip rfl <| AR.keep [1, 5, 6, 9, 108, 109, 110, 111, 112, 113, 114, 115, 116, 117, 118, 119, 120, 121, 122, 123, 124, 125, 126, 127, 128, 129] rfl <| AR.skip rfl <| AR.skip rfl <| AR.skip rfl <| AR.keep [1, 5, 6, 9, 108, 109, 110, 111, 112, 113, 114, 115, 116, 117, 118, 119, 120, 121, 122, 123, 124, 125, 126, 127, 128, 129, 130, 131, 132] rfl ?_
                 refine AR.skip rfl <| AR.op rfl (aop_pick rfl rfl rfl) <| AR.op rfl (aop_pick rfl rfl rfl) <| AR.nil ?_
                 exact hK31 false _ h (Weak.kt [1, 5, 6, 9, 135] rfl)
             ·replace h := Sh.if_f h hb232
              refine awp_skip ?_
              exact hK20 () _ h (Weak.kt [1, 5, 6, 9] rfl)
           ·intro K32 hK32
            refine awp_reg rfl <| AR.op rfl (aop_move (.inl rfl) rfl) <| AR.op (r := bl (!r220)) rfl (aop_not rfl rfl) <| AR.op rfl (aop_move (.inl rfl) rfl) <| AR.keep [1, 5, 6, 9, 10, 12, 92] rfl ?_
            rcases Bool.eq_false_or_eq_true (!r220) with hb247 | hb247
            ·rw [hb247]
             replace h := Sh.if_t h hb247
             refine AR.skip rfl <| AR.skip rfl <| AR.op rfl (aop_pick rfl rfl rfl) <| AR.nil ?_
             exact hK32 true _ h (Weak.kt [1, 5, 6, 9, 10, 95] rfl)
            ·rw [hb247]
             replace h := Sh.if_f h hb247
             refine AR.op rfl (aop_move (.inl rfl) rfl) <| AR.op (r := bl (!r226)) rfl (aop_not rfl rfl) <| AR.op rfl (aop_pick rfl rfl rfl) <| AR.nil ?_
             exact hK32 (!r226) _ h (Weak.e (fr' := [(1, .pp [.sl (List.map G.api_Txn.av h_0.Txns)] 0), (5, .sl (List.map G.api_Choice.av r77)), (6, i64 many92), (9, i64 i182), (10, .pp [i64 x206.Key, i64 x206.A, i64 x206.B] 0), (95, bl (!r226))]) (H' := .empty) ⟨.k, ⟨.sl (List.map G.api_Choice.av r77), rfl, .sm⟩, .k, .k, .k, .k, trivial⟩)
         ·intro K33 hK33
          refine awp_reg rfl <| AR.op rfl (aop_field_pp rfl rfl fd40_1 (by decide)) <| AR.op (r := i64 x206.A) rfl (aop_load_pp rfl rfl sz3 rfl) <| AR.op rfl (aop_lss rfl rfl rfl) <| AR.keep [1, 5, 6, 9, 10, 56] rfl <| AR.op rfl (aop_move (.inl rfl) rfl) ?_
          rcases Bool.eq_false_or_eq_true (decide (x206.A < 0)) with hb248 | hb248
          ·rw [hb248]
           replace h := Sh.if_t h hb248
           refine AR.skip rfl <| AR.skip rfl <| AR.keep [1, 5, 6, 9, 10, 57, 58, 59] rfl <| AR.skip rfl <| AR.skip rfl <| AR.skip rfl <| AR.keep [1, 5, 6, 9, 10, 57, 58, 59, 60, 61, 62] rfl <| AR.op rfl (aop_pick rfl rfl rfl) ?_
           refine AR.op rfl (aop_move (.inl rfl) rfl) <| AR.skip rfl <| AR.keep [1, 5, 6, 9, 10, 58, 59, 60, 61, 62, 64, 65] rfl <| AR.skip rfl <| AR.skip rfl <| AR.skip rfl <| AR.keep [1, 5, 6, 9, 10, 58, 59, 60, 61, 62, 64, 65, 66, 67, 68] rfl <| AR.skip rfl ?_
           refine AR.skip rfl <| AR.op rfl (aop_pick rfl rfl rfl) <| AR.nil ?_
           exact hK33 true _ h (Weak.kt [1, 5, 6, 9, 10, 71] rfl)
          ·rw [hb248]
           replace h := Sh.if_f h hb248
           refine AR.op rfl (aop_field_pp rfl rfl fd40_1 (by decide)) <| AR.op (r := i64 x206.A) rfl (aop_load_pp rfl rfl sz3 rfl) <| AR.keep [1, 5, 6, 9, 10, 57, 58, 59] rfl <| AR.op rfl (aop_field_pp rfl rfl fd40_2 (by decide)) <| AR.op (r := i64 x206.B) rfl (aop_load_pp rfl rfl sz3 rfl) <| AR.op rfl (aop_geq rfl rfl rfl) <| AR.keep [1, 5, 6, 9, 10, 57, 58, 59, 60, 61, 62] rfl <| AR.op rfl (aop_pick rfl rfl rfl) ?_
           refine AR.op rfl (aop_move (.inl rfl) rfl) ?_
           rcases Bool.eq_false_or_eq_true (decide (x206.B ≤ x206.A)) with hb249 | hb249
           ·rw [hb249]
            replace h := Sh.if_t h hb249
            refine AR.skip rfl <| AR.keep [1, 5, 6, 9, 10, 58, 59, 60, 61, 62, 64, 65] rfl <| AR.skip rfl <| AR.skip rfl <| AR.skip rfl <| AR.keep [1, 5, 6, 9, 10, 58, 59, 60, 61, 62, 64, 65, 66, 67, 68] rfl <| AR.skip rfl <| AR.skip rfl ?_
            refine AR.op rfl (aop_pick rfl rfl rfl) <| AR.nil ?_
            exact hK33 true _ h (Weak.kt [1, 5, 6, 9, 10, 71] rfl)
           ·rw [hb249]
            replace h := Sh.if_f h hb249
            refine AR.op rfl (aop_field_pp rfl rfl fd40_2 (by decide)) <| AR.keep [1, 5, 6, 9, 10, 58, 59, 60, 61, 62, 64, 65] rfl <| AR.op (r := i64 x206.B) rfl (aop_load_pp rfl rfl sz3 rfl) <| AR.op rfl (aop_field_pp rfl rfl fd24_0 (by decide)) <| AR.op (r := .sl (List.map G.api_Txn.av h_0.Txns)) rfl (aop_load_pp rfl rfl sz22 rfl) <| AR.keep [1, 5, 6, 9, 10, 58, 59, 60, 61, 62, 64, 65, 66, 67, 68] rfl <| AR.op rfl (t_len_sl G.api_Txn.av h_0.Txns rfl rfl el22) <| AR.op rfl (aop_geq rfl rfl rfl) ?_
            refine AR.op rfl (aop_pick rfl rfl rfl) <| AR.nil ?_
            exact hK33 (decide ((Sh.len h_0.Txns) ≤ x206.B)) _ h (Weak.e (fr' := [(1, .pp [.sl (List.map G.api_Txn.av h_0.Txns)] 0), (5, .sl (List.map G.api_Choice.av r77)), (6, i64 many92), (9, i64 i182), (10, .pp [i64 x206.Key, i64 x206.A, i64 x206.B] 0), (71, bl (decide ((Sh.len h_0.Txns) ≤ x206.B)))]) (H' := .empty) ⟨.k, ⟨.sl (List.map G.api_Choice.av r77), rfl, .sm⟩, .k, .k, .k, .k, trivial⟩)
       ·replace h := Sh.if_f h hb183
        refine awp_exit ?_
        replace h := Sh.exit_eq h hx1
        exact hK16 () _ h (Weak.kt [5, 6] rfl)
    ·intro K34 hK34
     refine awp_seqK fun K35 hK35 => awp_reg rfl <| AR.op rfl (aop_move (.inr rfl) rfl) <| AR.nil <| hK35 _ ?_
     refine awp_block <| awp_iter (fun (p : Int × Int) => G.inquestlaw09_IndexPairs_b2 h_0 r77 p.1 p.2) (fun (p : Int × Int) => (⟨[(1, .pp [.sl (List.map G.api_Txn.av h_0.Txns)] 0), (5, .sl (List.map G.api_Choice.av r77)), (6, i64 p.1), (7, i64 p.2)], .empty⟩ : St)) h (Weak.kt [1, 5, 6, 7] rfl) ?_
     ·skip
      rintro ⟨many256, key257⟩ o2 h hx2
      replace h : G.inquestlaw09_IndexPairs_b2 h_0 r77 many256 key257 = some o2 := h
      unfold G.inquestlaw09_IndexPairs_b2 at h
      show AWP _ _ _ _ ⟨[(1, .pp [.sl (List.map G.api_Txn.av h_0.Txns)] 0), (5, .sl (List.map G.api_Choice.av r77)), (6, i64 many256), (7, i64 key257)], .empty⟩ _
      refine awp_seqK fun K36 hK36 => awp_seqK fun K37 hK37 => awp_reg rfl <| AR.op rfl (aop_move (.inl rfl) rfl) <| AR.op rfl (aop_lss rfl rfl rfl) <| AR.nil <| hK37 _ (AWP.weak (Weak.kt [1, 5, 6, 7, 30] rfl) ?_)
      refine awp_cond rfl (fun hb258 => ?_) (fun hb258 => ?_)
      ·replace h := Sh.if_t h hb258
       refine awp_skip <| hK36 _ (AWP.weak (Weak.kt [1, 5, 6, 7] rfl) ?_)
       refine awp_seqK fun K38 hK38 => awp_block <| awp_seqK fun K39 hK39 => awp_reg rfl <| AR.op (r := G.api_Hist.av h_0) rfl (aop_load_pp rfl rfl sz24 rfl) <| AR.op rfl (aop_move (.inl rfl) rfl) ?_
       obtain ⟨r262, hr262, h⟩ := Sh.bind_some' h
       refine AR.op (r := .sl (List.map i64 r262)) rfl (aop_call1 rfl rfl (by simp) (index_Writers_ok hT hr262)) <| AR.keep [1, 5, 6, 7, 35] rfl <| AR.op rfl (t_len_sl i64 r262 rfl rfl el30) <| AR.op rfl (aop_move (.inr rfl) rfl) <| AR.nil <| hK39 _ (AWP.weak (Weak.kt [1, 5, 6, 7, 8] rfl) ?_)
       refine awp_reg rfl <| AR.op rfl (aop_move (.inl rfl) rfl) <| AR.op rfl (aop_move (.inl rfl) rfl) <| AR.op rfl (aop_move (.inl rfl) rfl) <| AR.keep [1, 5, 7, 37, 38, 39] rfl <| AR.op rfl (aop_sub rfl rfl rfl rfl) <| AR.op rfl (aop_mul rfl rfl rfl rfl) ?_
       obtain ⟨q263, hq263, h⟩ := Sh.bind_some' h
       refine AR.op (r := i64 q263) rfl (aop_quo rfl rfl rfl (Sh.quo_some hq263).1 (Sh.quo_some hq263).2) <| AR.keep [1, 5, 7, 37, 42] rfl <| AR.op rfl (aop_add rfl rfl rfl rfl) <| AR.op rfl (aop_move (.inr rfl) rfl) <| AR.nil <| hK38 _ (AWP.weak (Weak.kt [1, 5, 7, 6] rfl) ?_)
       refine awp_reg rfl <| AR.op rfl (aop_move (.inl rfl) rfl) <| AR.op rfl (aop_add rfl rfl rfl rfl) <| AR.op rfl (aop_move (.inr rfl) rfl) <| AR.nil ?_
       replace h := Sh.next_eq h
       exact ⟨_, h, Weak.e (fr' := [(1, .pp [.sl (List.map G.api_Txn.av h_0.Txns)] 0), (5, .sl (List.map G.api_Choice.av r77)), (6, i64 (w64 (many256 + q263))), (7, i64 (w64 (key257 + 1)))]) (H' := .empty) ⟨.k, ⟨.sl (List.map G.api_Choice.av r77), rfl, .sm⟩, .k, .k, trivial⟩⟩
      ·replace h := Sh.if_f h hb258
       refine awp_exit ?_
       replace h := Sh.exit_eq h hx2
       exact hK34 many256 _ h (Weak.kt [1, 5, 6] rfl)
theorem inquestlaw09_IndexPairs_ok {W0 : World} (hT : Tab W0) {h_0 : G.api_Hist} {r : Bool} (h : G.inquestlaw09_IndexPairs h_0 = some r) : Fun1 Try.prog W0 4 [G.api_Hist.av h_0] (bl r) := Fun1.two (inquestlaw09_IndexPairs_ok0 hT h) (by simp)

end Wk
