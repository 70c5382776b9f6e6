/- That the functions of a package do what their plain functions say. -/
import Derived.Test.YtdeepljikmgjjaaSh
import Derived.Test.YtdeepljikmgjjaaWkSFacts
import Derived.Test.YtdeepljikmgjjaaWkSinquestref08
import Derived.Test.YtdeepljikmgjjaaWkSinquestref18
open Go Go.Av Go.Proofs
set_option linter.unusedVariables false
set_option maxHeartbeats 8000000
set_option maxRecDepth 20000
namespace Wk
theorem inquestref19_two_ok0 {W0 : World} (hT : Tab W0) {h_0 : G.api_Hist} {x_1 : Int} {y_2 : Int} {r : Bool} (h : G.inquestref19_two h_0 x_1 y_2 = some r) : Fun2 Try.prog W0 62 [G.api_Hist.av h_0, i64 x_1, i64 y_2] (bl r) .empty := by
 refine fun2_of_awp Try.func62 rfl (by kernel_rfl) Try.ntmps62 (by simp) ?_
 unfold G.inquestref19_two at h
 show AWP _ _ _ _ ⟨[(0, G.api_Hist.av h_0), (1, i64 x_1), (2, i64 y_2)], .empty⟩ _
 refine awp_seqK fun K1 hK1 => awp_reg rfl <| AR.op (r := .ref 0 0 0) rfl (aop_box 1 [G.api_Hist.av h_0] rfl rfl rfl (.inl ⟨rfl, rfl⟩)) <| AR.op rfl (aop_move (.inr rfl) rfl) <| AR.nil <| hK1 _ (AWP.weak (Weak.e (fr' := [(1, i64 x_1), (2, i64 y_2), (3, .pp [.sl (List.map G.api_Txn.av h_0.Txns)] 0)]) (H' := .empty) ⟨.k, .k, ⟨_, rfl, .frzA rfl rfl rfl rfl (by simp)⟩, trivial⟩) ?_)
 refine awp_seqK fun K2 hK2 => awp_reg rfl <| AR.op (r := G.api_Hist.av h_0) rfl (aop_load_pp rfl rfl sz24 rfl) ?_
 obtain ⟨r8, hr8, h⟩ := Sh.bind_some' h
 refine AR.op (r := bl r8) rfl (aop_call1 rfl rfl (by simp) (inquestref08_Right_ok hT hr8)) <| AR.op rfl (aop_move (.inr rfl) rfl) <| AR.nil <| hK2 _ (AWP.weak (Weak.kt [1, 2, 3, 7] rfl) ?_)
 refine awp_seqK fun K3 hK3 => awp_reg rfl <| AR.op rfl (aop_move (.inl rfl) rfl) <| AR.op rfl (aop_move (.inl rfl) rfl) ?_
 rcases Bool.eq_false_or_eq_true (r8) with hb13 | hb13
 ·rw [hb13]
  replace h := Sh.if_t h hb13
  refine AR.op rfl (aop_move (.inl rfl) rfl) <| AR.keep [1, 2, 3, 11, 12] rfl <| AR.op rfl (aop_geq rfl rfl rfl) <| AR.op rfl (aop_pick rfl rfl rfl) <| AR.op rfl (aop_move (.inl rfl) rfl) <| AR.keep [1, 2, 3, 15] rfl ?_
  rcases Bool.eq_false_or_eq_true (decide ((0 : Int) ≤ x_1)) with hb14 | hb14
  ·rw [hb14]
   replace h := Sh.if_t h hb14
   refine AR.op rfl (aop_move (.inl rfl) rfl) <| AR.op rfl (aop_field_pp rfl rfl fd24_0 (by decide)) <| AR.op (r := .sl (List.map G.api_Txn.av h_0.Txns)) rfl (aop_load_pp rfl rfl sz22 rfl) <| AR.keep [2, 3, 15, 16, 18] rfl <| AR.op rfl (t_len_sl G.api_Txn.av h_0.Txns rfl rfl el22) <| AR.op rfl (aop_lss rfl rfl rfl) <| AR.op rfl (aop_pick rfl rfl rfl) <| AR.keep [2, 3, 21] rfl ?_
   refine AR.op rfl (aop_move (.inl rfl) rfl) ?_
   rcases Bool.eq_false_or_eq_true (decide (x_1 < (Sh.len h_0.Txns))) with hb15 | hb15
   ·rw [hb15]
    replace h := Sh.if_t h hb15
    refine AR.op rfl (aop_move (.inl rfl) rfl) <| AR.op rfl (aop_geq rfl rfl rfl) <| AR.keep [2, 3, 22, 24] rfl <| AR.op rfl (aop_pick rfl rfl rfl) <| AR.op rfl (aop_move (.inl rfl) rfl) ?_
    rcases Bool.eq_false_or_eq_true (decide ((0 : Int) ≤ y_2)) with hb16 | hb16
    ·rw [hb16]
     replace h := Sh.if_t h hb16
     refine AR.op rfl (aop_move (.inl rfl) rfl) <| AR.keep [3, 26, 27] rfl <| AR.op rfl (aop_field_pp rfl rfl fd24_0 (by decide)) <| AR.op (r := .sl (List.map G.api_Txn.av h_0.Txns)) rfl (aop_load_pp rfl rfl sz22 rfl) <| AR.op rfl (t_len_sl G.api_Txn.av h_0.Txns rfl rfl el22) <| AR.keep [26, 27, 30] rfl <| AR.op rfl (aop_lss rfl rfl rfl) <| AR.op rfl (aop_pick rfl rfl rfl) ?_
     refine AR.op rfl (aop_move (.inr rfl) rfl) <| AR.nil <| hK3 _ (AWP.weak (Weak.kt [6] rfl) ?_)
     refine awp_ret ?_
     obtain rfl := Option.some.inj h
     refine ⟨.inr rfl, bl (decide (y_2 < (Sh.len h_0.Txns))), rfl, ?_⟩
     exact Weak.e ⟨.k, trivial⟩
    ·rw [hb16]
     replace h := Sh.if_f h hb16
     refine AR.skip rfl <| AR.keep [3, 26, 27] rfl <| AR.skip rfl <| AR.skip rfl <| AR.skip rfl <| AR.keep [26, 27, 30] rfl <| AR.skip rfl <| AR.op rfl (aop_pick rfl rfl rfl) ?_
     refine AR.op rfl (aop_move (.inr rfl) rfl) <| AR.nil <| hK3 _ (AWP.weak (Weak.kt [6] rfl) ?_)
     refine awp_ret ?_
     obtain rfl := Option.some.inj h
     refine ⟨.inr rfl, bl false, rfl, ?_⟩
     exact Weak.e ⟨.k, trivial⟩
   ·rw [hb15]
    replace h := Sh.if_f h hb15
    refine AR.skip rfl <| AR.skip rfl <| AR.keep [2, 3, 22, 24] rfl <| AR.op rfl (aop_pick rfl rfl rfl) <| AR.op rfl (aop_move (.inl rfl) rfl) <| AR.skip rfl <| AR.keep [3, 26, 27] rfl <| AR.skip rfl ?_
    refine AR.skip rfl <| AR.skip rfl <| AR.keep [26, 27, 30] rfl <| AR.skip rfl <| AR.op rfl (aop_pick rfl rfl rfl) <| AR.op rfl (aop_move (.inr rfl) rfl) <| AR.nil <| hK3 _ (AWP.weak (Weak.kt [6] rfl) ?_)
    refine awp_ret ?_
    obtain rfl := Option.some.inj h
    refine ⟨.inr rfl, bl false, rfl, ?_⟩
    exact Weak.e ⟨.k, trivial⟩
  ·rw [hb14]
   replace h := Sh.if_f h hb14
   refine AR.skip rfl <| AR.skip rfl <| AR.skip rfl <| AR.keep [2, 3, 15, 16, 18] rfl <| AR.skip rfl <| AR.skip rfl <| AR.op rfl (aop_pick rfl rfl rfl) <| AR.keep [2, 3, 21] rfl ?_
   refine AR.op rfl (aop_move (.inl rfl) rfl) <| AR.skip rfl <| AR.skip rfl <| AR.keep [2, 3, 22, 24] rfl <| AR.op rfl (aop_pick rfl rfl rfl) <| AR.op rfl (aop_move (.inl rfl) rfl) <| AR.skip rfl <| AR.keep [3, 26, 27] rfl ?_
   refine AR.skip rfl <| AR.skip rfl <| AR.skip rfl <| AR.keep [26, 27, 30] rfl <| AR.skip rfl <| AR.op rfl (aop_pick rfl rfl rfl) <| AR.op rfl (aop_move (.inr rfl) rfl) <| AR.nil ?_
   refine hK3 _ (AWP.weak (Weak.kt [6] rfl) ?_)
   refine awp_ret ?_
   obtain rfl := Option.some.inj h
   refine ⟨.inr rfl, bl false, rfl, ?_⟩
   exact Weak.e ⟨.k, trivial⟩
 ·rw [hb13]
  replace h := Sh.if_f h hb13
  refine AR.skip rfl <| AR.keep [1, 2, 3, 11, 12] rfl <| AR.skip rfl <| AR.op rfl (aop_pick rfl rfl rfl) <| AR.op rfl (aop_move (.inl rfl) rfl) <| AR.keep [1, 2, 3, 15] rfl <| AR.skip rfl <| AR.skip rfl ?_
  refine AR.skip rfl <| AR.keep [2, 3, 15, 16, 18] rfl <| AR.skip rfl <| AR.skip rfl <| AR.op rfl (aop_pick rfl rfl rfl) <| AR.keep [2, 3, 21] rfl <| AR.op rfl (aop_move (.inl rfl) rfl) <| AR.skip rfl ?_
  refine AR.skip rfl <| AR.keep [2, 3, 22, 24] rfl <| AR.op rfl (aop_pick rfl rfl rfl) <| AR.op rfl (aop_move (.inl rfl) rfl) <| AR.skip rfl <| AR.keep [3, 26, 27] rfl <| AR.skip rfl <| AR.skip rfl ?_
  refine AR.skip rfl <| AR.keep [26, 27, 30] rfl <| AR.skip rfl <| AR.op rfl (aop_pick rfl rfl rfl) <| AR.op rfl (aop_move (.inr rfl) rfl) <| AR.nil <| hK3 _ (AWP.weak (Weak.kt [6] rfl) ?_)
  refine awp_ret ?_
  obtain rfl := Option.some.inj h
  refine ⟨.inr rfl, bl false, rfl, ?_⟩
  exact Weak.e ⟨.k, trivial⟩
theorem inquestref19_two_ok {W0 : World} (hT : Tab W0) {h_0 : G.api_Hist} {x_1 : Int} {y_2 : Int} {r : Bool} (h : G.inquestref19_two h_0 x_1 y_2 = some r) : Fun1 Try.prog W0 62 [G.api_Hist.av h_0, i64 x_1, i64 y_2] (bl r) := Fun1.two (inquestref19_two_ok0 hT h) (by simp)


theorem inquestref19_Direct_ok0 {W0 : World} (hT : Tab W0) {h_0 : G.api_Hist} {l_1 : List G.api_Choice} {x_2 : Int} {y_3 : Int} {r : Bool} (h : G.inquestref19_Direct h_0 l_1 x_2 y_3 = some r) : Fun2 Try.prog W0 55 [G.api_Hist.av h_0, .sl (List.map G.api_Choice.av l_1), i64 x_2, i64 y_3] (bl r) .empty := by
 refine fun2_of_awp Try.func55 rfl (by kernel_rfl) Try.ntmps55 (by simp) ?_
 unfold G.inquestref19_Direct at h
 show AWP _ _ _ _ ⟨[(0, G.api_Hist.av h_0), (1, .sl (List.map G.api_Choice.av l_1)), (2, i64 x_2), (3, i64 y_3)], .empty⟩ _
 refine awp_seqK fun K1 hK1 => awp_reg rfl <| AR.op (r := .ref 0 0 0) rfl (aop_box 1 [G.api_Hist.av h_0] rfl rfl rfl (.inl ⟨rfl, rfl⟩)) <| AR.op rfl (aop_move (.inr rfl) rfl) <| AR.nil <| hK1 _ (AWP.weak (Weak.e (fr' := [(1, .sl (List.map G.api_Choice.av l_1)), (2, i64 x_2), (3, i64 y_3), (4, .pp [.sl (List.map G.api_Txn.av h_0.Txns)] 0)]) (H' := .empty) ⟨⟨.sl (List.map G.api_Choice.av l_1), rfl, .sm⟩, .k, .k, ⟨_, rfl, .frzA rfl rfl rfl rfl (by simp)⟩, trivial⟩) ?_)
 refine awp_seqK fun K2 hK2 => awp_reg rfl <| AR.op (r := G.api_Hist.av h_0) rfl (aop_load_pp rfl rfl sz24 rfl) <| AR.op rfl (aop_move (.inl rfl) rfl) <| AR.op rfl (aop_move (.inl rfl) rfl) <| AR.keep [1, 2, 3, 4, 13, 14, 15] rfl ?_
 obtain ⟨r58, hr58, h⟩ := Sh.bind_some' h
 refine AR.op (r := bl r58) rfl (aop_call1 rfl rfl (by simp) (inquestref19_two_ok hT hr58)) <| AR.op rfl (aop_move (.inr rfl) rfl) <| AR.nil <| hK2 _ (AWP.weak (Weak.kt [1, 2, 3, 4, 9] rfl) ?_)
 refine awp_seqK fun K3 hK3 => awp_seqK fun K4 hK4 => awp_reg rfl <| AR.op rfl (aop_move (.inl rfl) rfl) <| AR.op (r := bl (!r58)) rfl (aop_not rfl rfl) <| AR.nil <| hK4 _ (AWP.weak (Weak.kt [1, 2, 3, 4, 18] rfl) ?_)
 refine awp_cond rfl (fun hb59 => ?_) (fun hb59 => ?_)
 ·replace h := Sh.if_t h hb59
  refine awp_seqK fun K5 hK5 => awp_reg rfl <| AR.op rfl (aop_move (.inr rfl) rfl) <| AR.nil <| hK5 _ (AWP.weak (Weak.kt [8] rfl) ?_)
  refine awp_ret ?_
  obtain rfl := Option.some.inj h
  refine ⟨.inr rfl, bl false, rfl, ?_⟩
  exact Weak.e ⟨.k, trivial⟩
 ·replace h := Sh.if_f h hb59
  refine awp_skip <| hK3 _ (AWP.weak (Weak.kt [1, 2, 3, 4] rfl) ?_)
  refine awp_seqK fun K6 hK6 => awp_seqJ (fun (p : Bool) => (⟨[(1, .sl (List.map G.api_Choice.av l_1)), (2, i64 x_2), (3, i64 y_3), (4, .pp [.sl (List.map G.api_Txn.av h_0.Txns)] 0), (36, bl p)], .empty⟩ : St)) (fun (p : Bool) => G.inquestref19_Direct_j1 h_0 l_1 x_2 y_3 p = some r) ?_ ?_
  ·rintro v71 h
   replace h : G.inquestref19_Direct_j1 h_0 l_1 x_2 y_3 v71 = some r := h
   unfold G.inquestref19_Direct_j1 at h
   refine awp_cond rfl (fun hb72 => ?_) (fun hb72 => ?_)
   ·replace h := Sh.if_t h hb72
    refine awp_seqK fun K7 hK7 => awp_reg rfl <| AR.op rfl (aop_move (.inr rfl) rfl) <| AR.nil <| hK7 _ (AWP.weak (Weak.kt [8] rfl) ?_)
    refine awp_ret ?_
    obtain rfl := Option.some.inj h
    refine ⟨.inr rfl, bl true, rfl, ?_⟩
    exact Weak.e ⟨.k, trivial⟩
   ·replace h := Sh.if_f h hb72
    refine awp_skip <| hK6 _ (AWP.weak (Weak.kt [1, 2, 3, 4] rfl) ?_)
    refine awp_seqJ (fun (p : Unit) => (⟨[(1, .sl (List.map G.api_Choice.av l_1)), (2, i64 x_2), (3, i64 y_3), (4, .pp [.sl (List.map G.api_Txn.av h_0.Txns)] 0)], .empty⟩ : St)) (fun (p : Unit) => G.inquestref19_Direct_j2 h_0 l_1 x_2 y_3 = some r) ?_ ?_
    ·rintro ⟨⟩ h
     replace h : G.inquestref19_Direct_j2 h_0 l_1 x_2 y_3 = some r := h
     unfold G.inquestref19_Direct_j2 at h
     refine awp_seqJ (fun (p : Unit) => (⟨[], .empty⟩ : St)) (fun (p : Unit) => G.inquestref19_Direct_j3 = some r) ?_ ?_
     ·rintro ⟨⟩ h
      replace h : G.inquestref19_Direct_j3 = some r := h
      unfold G.inquestref19_Direct_j3 at h
      refine awp_seqK fun K8 hK8 => awp_reg rfl <| AR.op rfl (aop_move (.inr rfl) rfl) <| AR.nil <| hK8 _ ?_
      refine awp_ret ?_
      obtain rfl := Option.some.inj h
      refine ⟨.inr rfl, bl false, rfl, ?_⟩
      exact Weak.e ⟨.k, trivial⟩
     ·intro K9 hK9
      refine awp_seqK fun K10 hK10 => awp_reg rfl <| AR.op rfl (aop_move (.inr rfl) rfl) <| AR.nil <| hK10 _ ?_
      refine awp_block <| awp_iter (fun (p : Int) => G.inquestref19_Direct_b1 h_0 l_1 x_2 y_3 p) (fun (p : Int) => (⟨[(1, .sl (List.map G.api_Choice.av l_1)), (2, i64 x_2), (3, i64 y_3), (4, .pp [.sl (List.map G.api_Txn.av h_0.Txns)] 0), (11, i64 p)], .empty⟩ : St)) h (Weak.kt [1, 2, 3, 4, 11] rfl) ?_
      ·skip
       rintro i141 o1 h hx1
       replace h : G.inquestref19_Direct_b1 h_0 l_1 x_2 y_3 i141 = some o1 := h
       unfold G.inquestref19_Direct_b1 at h
       refine awp_seqK fun K11 hK11 => awp_seqK fun K12 hK12 => awp_reg rfl <| AR.op rfl (aop_move (.inl rfl) rfl) <| AR.op rfl (aop_move (.inl rfl) rfl) <| AR.op rfl (t_len_sl G.api_Choice.av l_1 rfl rfl el53) <| AR.keep [1, 2, 3, 4, 11, 60, 62] rfl <| AR.op rfl (aop_lss rfl rfl rfl) ?_
       refine AR.nil <| hK12 _ (AWP.weak (Weak.kt [1, 2, 3, 4, 11, 63] rfl) ?_)
       refine awp_cond rfl (fun hb142 => ?_) (fun hb142 => ?_)
       ·replace h := Sh.if_t h hb142
        refine awp_skip <| hK11 _ (AWP.weak (Weak.kt [1, 2, 3, 4, 11] rfl) ?_)
        refine awp_seqJ (fun (p : Unit) => (⟨[(1, .sl (List.map G.api_Choice.av l_1)), (2, i64 x_2), (3, i64 y_3), (4, .pp [.sl (List.map G.api_Txn.av h_0.Txns)] 0), (11, i64 i141)], .empty⟩ : St)) (fun (p : Unit) => G.inquestref19_Direct_j4 i141 = some o1) ?_ ?_
        ·rintro ⟨⟩ h
         replace h : G.inquestref19_Direct_j4 i141 = some o1 := h
         unfold G.inquestref19_Direct_j4 at h
         refine awp_reg rfl <| AR.op rfl (aop_move (.inl rfl) rfl) <| AR.op rfl (aop_add rfl rfl rfl rfl) <| AR.op rfl (aop_move (.inr rfl) rfl) <| AR.nil ?_
         replace h := Sh.next_eq h
         exact ⟨_, h, Weak.kt [1, 2, 3, 4, 11] rfl⟩
        ·intro K13 hK13
         refine awp_block <| awp_seqK fun K14 hK14 => awp_seqJ (fun (p : Bool) => (⟨[(1, .sl (List.map G.api_Choice.av l_1)), (2, i64 x_2), (3, i64 y_3), (4, .pp [.sl (List.map G.api_Txn.av h_0.Txns)] 0), (11, i64 i141), (81, bl p)], .empty⟩ : St)) (fun (p : Bool) => G.inquestref19_Direct_j5 h_0 l_1 i141 p = some o1) ?_ ?_
         ·rintro v163 h
          replace h : G.inquestref19_Direct_j5 h_0 l_1 i141 v163 = some o1 := h
          unfold G.inquestref19_Direct_j5 at h
          refine awp_cond rfl (fun hb164 => ?_) (fun hb164 => ?_)
          ·replace h := Sh.if_t h hb164
           refine awp_exit ?_
           exact hK13 () _ h (Weak.kt [1, 2, 3, 4, 11] rfl)
          ·replace h := Sh.if_f h hb164
           refine awp_skip <| hK14 _ (AWP.weak (Weak.kt [1, 2, 3, 4, 11] rfl) ?_)
           refine awp_seqK fun K15 hK15 => awp_any [(true, false), (true, false), (true, false), (true, false), (true, false), (true, false), (true, false)] (by kernel_rfl) (by kernel_rfl) rfl ?_
           refine ARH.dry (r := G.api_Hist.av h_0) rfl (fun _ => aop_load_pp rfl rfl sz24 rfl) <| ARH.dry rfl (fun _ => aop_move (.inl rfl) rfl) <| ARH.dry rfl (fun _ => aop_move (.inl rfl) rfl) <| ARH.keep [1, 2, 3, 4, 11, 82, 83, 84] rfl ?_
           obtain ⟨x168, hx168, h⟩ := Sh.bind_some' h
           obtain ⟨k169, hi169, hl169⟩ := Sh.idx_some hx168
           refine ARH.dry rfl (fun _ => t_index_sl G.api_Choice.av l_1 hi169 hl169 rfl rfl rfl el53 rfl) <| ARH.dry (r := G.api_Choice.av x168) rfl (fun _ => aop_load_pp rfl rfl sz35 rfl) ?_
           obtain ⟨r170, hr170, h⟩ := Sh.bind_some' h
           refine ARH.dry (r := bl r170) rfl (fun _ => aop_call1 rfl rfl (by simp) (inquestref18_One_ok hT hr170)) <| ARH.keep [1, 2, 3, 4, 11, 87] rfl <| ARH.dry rfl (fun _ => aop_move (.inr rfl) rfl) <| ARH.nil <| hK15 _ (AWP.weak (Weak.kt [1, 2, 3, 4, 11, 12] rfl) ?_)
           refine awp_seqK fun K16 hK16 => awp_reg rfl <| AR.op rfl (aop_move (.inl rfl) rfl) <| AR.nil <| hK16 _ (AWP.weak (Weak.kt [1, 2, 3, 4, 11, 88] rfl) ?_)
           refine awp_cond rfl (fun hb171 => ?_) (fun hb171 => ?_)
           ·replace h := Sh.if_t h hb171
            refine awp_seqK fun K17 hK17 => awp_reg rfl <| AR.op rfl (aop_move (.inr rfl) rfl) <| AR.nil <| hK17 _ (AWP.weak (Weak.kt [8] rfl) ?_)
            refine awp_ret ?_
            replace h := Sh.exit_eq h hx1
            obtain rfl := Option.some.inj h
            refine ⟨.inr rfl, bl true, rfl, ?_⟩
            exact Weak.e ⟨.k, trivial⟩
           ·replace h := Sh.if_f h hb171
            refine awp_skip ?_
            exact hK13 () _ h (Weak.kt [1, 2, 3, 4, 11] rfl)
         ·intro K18 hK18
          refine awp_reg rfl <| AR.op rfl (aop_move (.inl rfl) rfl) <| AR.op rfl (aop_move (.inl rfl) rfl) ?_
          obtain ⟨x172, hx172, h⟩ := Sh.bind_some' h
          obtain ⟨k173, hi173, hl173⟩ := Sh.idx_some hx172
          refine AR.op rfl (t_index_sl G.api_Choice.av l_1 hi173 hl173 rfl rfl rfl el53 rfl) <| AR.keep [1, 2, 3, 4, 11, 68] rfl <| AR.op rfl (aop_field_pp rfl rfl fd35_1 (by decide)) <| AR.op (r := i64 x172.A) rfl (aop_load_pp rfl rfl sz3 rfl) <| AR.op rfl (aop_move (.inl rfl) rfl) <| AR.keep [1, 2, 3, 4, 11, 70, 71] rfl <| AR.op (r := bl (decide (x172.A ≠ x_2))) rfl (aop_neq rfl rfl rfl) <| AR.op rfl (aop_move (.inl rfl) rfl) ?_
          rcases Bool.eq_false_or_eq_true (decide (x172.A ≠ x_2)) with hb174 | hb174
          ·rw [hb174]
           replace h := Sh.if_t h hb174
           refine AR.skip rfl <| AR.keep [1, 2, 3, 4, 11, 73, 74] rfl <| AR.skip rfl <| AR.skip rfl <| AR.skip rfl <| AR.keep [1, 2, 3, 4, 11, 73, 74, 75, 76, 77] rfl <| AR.skip rfl <| AR.skip rfl ?_
           refine AR.skip rfl <| AR.keep [1, 2, 3, 4, 11, 73, 74, 75, 76, 77, 78, 79, 80] rfl <| AR.op rfl (aop_pick rfl rfl rfl) <| AR.nil ?_
           exact hK18 true _ h (Weak.kt [1, 2, 3, 4, 11, 81] rfl)
          ·rw [hb174]
           replace h := Sh.if_f h hb174
           refine AR.op rfl (aop_move (.inl rfl) rfl) <| AR.keep [1, 2, 3, 4, 11, 73, 74] rfl <| AR.op rfl (aop_move (.inl rfl) rfl) ?_
           obtain ⟨x175, hx175, h⟩ := Sh.bind_some' h
           obtain ⟨k176, hi176, hl176⟩ := Sh.idx_some hx175
           refine AR.op rfl (t_index_sl G.api_Choice.av l_1 hi176 hl176 rfl rfl rfl el53 rfl) <| AR.op rfl (aop_field_pp rfl rfl fd35_2 (by decide)) <| AR.keep [1, 2, 3, 4, 11, 73, 74, 75, 76, 77] rfl <| AR.op (r := i64 x175.B) rfl (aop_load_pp rfl rfl sz3 rfl) <| AR.op rfl (aop_move (.inl rfl) rfl) <| AR.op (r := bl (decide (x175.B ≠ y_3))) rfl (aop_neq rfl rfl rfl) <| AR.keep [1, 2, 3, 4, 11, 73, 74, 75, 76, 77, 78, 79, 80] rfl <| AR.op rfl (aop_pick rfl rfl rfl) ?_
           refine AR.nil ?_
           exact hK18 (decide (x175.B ≠ y_3)) _ h (Weak.kt [1, 2, 3, 4, 11, 81] rfl)
       ·replace h := Sh.if_f h hb142
        refine awp_exit ?_
        replace h := Sh.exit_eq h hx1
        exact hK9 () _ h (Weak.kt [] rfl)
    ·intro K19 hK19
     refine awp_seqK fun K20 hK20 => awp_reg rfl <| AR.op rfl (aop_move (.inr rfl) rfl) <| AR.nil <| hK20 _ ?_
     refine awp_block <| awp_iter (fun (p : Int) => G.inquestref19_Direct_b2 h_0 l_1 x_2 y_3 p) (fun (p : Int) => (⟨[(1, .sl (List.map G.api_Choice.av l_1)), (2, i64 x_2), (3, i64 y_3), (4, .pp [.sl (List.map G.api_Txn.av h_0.Txns)] 0), (10, i64 p)], .empty⟩ : St)) h (Weak.kt [1, 2, 3, 4, 10] rfl) ?_
     ·skip
      rintro i190 o2 h hx2
      replace h : G.inquestref19_Direct_b2 h_0 l_1 x_2 y_3 i190 = some o2 := h
      unfold G.inquestref19_Direct_b2 at h
      refine awp_seqK fun K21 hK21 => awp_seqK fun K22 hK22 => awp_reg rfl <| AR.op rfl (aop_move (.inl rfl) rfl) <| AR.op rfl (aop_field_pp rfl rfl fd24_0 (by decide)) <| AR.op (r := .sl (List.map G.api_Txn.av h_0.Txns)) rfl (aop_load_pp rfl rfl sz22 rfl) <| AR.keep [1, 2, 3, 4, 10, 37, 39] rfl <| AR.op rfl (aop_move (.inl rfl) rfl) ?_
      obtain ⟨x195, hx195, h⟩ := Sh.bind_some' h
      obtain ⟨k196, hi196, hl196⟩ := Sh.idx_some hx195
      refine AR.op rfl (t_index_sl G.api_Txn.av h_0.Txns hi196 hl196 rfl rfl rfl el22 rfl) <| AR.op rfl (aop_field_pp rfl rfl fd58_2 (by decide)) <| AR.keep [1, 2, 3, 4, 10, 37, 42] rfl <| AR.op (r := .sl (List.map G.api_Take.av x195.Reads)) rfl (aop_load_pp rfl rfl sz56 rfl) <| AR.op rfl (t_len_sl G.api_Take.av x195.Reads rfl rfl el56) <| AR.op rfl (aop_lss rfl rfl rfl) <| AR.nil <| hK22 _ (AWP.weak (Weak.kt [1, 2, 3, 4, 10, 45] rfl) ?_)
      refine awp_cond rfl (fun hb197 => ?_) (fun hb197 => ?_)
      ·replace h := Sh.if_t h hb197
       refine awp_skip <| hK21 _ (AWP.weak (Weak.kt [1, 2, 3, 4, 10] rfl) ?_)
       refine awp_seqK fun K23 hK23 => awp_block <| awp_seqK fun K24 hK24 => awp_reg rfl <| AR.op rfl (aop_field_pp rfl rfl fd24_0 (by decide)) <| AR.op (r := .sl (List.map G.api_Txn.av h_0.Txns)) rfl (aop_load_pp rfl rfl sz22 rfl) <| AR.op rfl (aop_move (.inl rfl) rfl) <| AR.keep [1, 2, 3, 4, 10, 49, 50] rfl ?_
       obtain ⟨x206, hx206, h⟩ := Sh.bind_some' h
       obtain ⟨k207, hi207, hl207⟩ := Sh.idx_some hx206
       refine AR.op rfl (t_index_sl G.api_Txn.av h_0.Txns hi207 hl207 rfl rfl rfl el22 rfl) <| AR.op rfl (aop_field_pp rfl rfl fd58_2 (by decide)) <| AR.op (r := .sl (List.map G.api_Take.av x206.Reads)) rfl (aop_load_pp rfl rfl sz56 rfl) <| AR.keep [1, 2, 3, 4, 10, 53] rfl <| AR.op rfl (aop_move (.inl rfl) rfl) ?_
       obtain ⟨x208, hx208, h⟩ := Sh.bind_some' h
       obtain ⟨k209, hi209, hl209⟩ := Sh.idx_some hx208
       refine AR.op rfl (t_index_sl G.api_Take.av x206.Reads hi209 hl209 rfl rfl rfl el56 rfl) <| AR.op rfl (aop_field_pp rfl rfl fd78_1 (by decide)) <| AR.keep [1, 2, 3, 4, 10, 56] rfl <| AR.op (r := i64 x208.From) rfl (aop_load_pp rfl rfl sz3 rfl) <| AR.op rfl (aop_move (.inl rfl) rfl) <| AR.op (r := bl (decide (x208.From = x_2))) rfl (aop_eql rfl rfl rfl) <| AR.nil <| hK24 _ (AWP.weak (Weak.kt [1, 2, 3, 4, 10, 59] rfl) ?_)
       refine awp_cond rfl (fun hb210 => ?_) (fun hb210 => ?_)
       ·replace h := Sh.if_t h hb210
        refine awp_seqK fun K25 hK25 => awp_reg rfl <| AR.op rfl (aop_move (.inr rfl) rfl) <| AR.nil <| hK25 _ (AWP.weak (Weak.kt [8] rfl) ?_)
        refine awp_ret ?_
        replace h := Sh.exit_eq h hx2
        obtain rfl := Option.some.inj h
        refine ⟨.inr rfl, bl true, rfl, ?_⟩
        exact Weak.e ⟨.k, trivial⟩
       ·replace h := Sh.if_f h hb210
        refine awp_skip <| hK23 _ (AWP.weak (Weak.kt [1, 2, 3, 4, 10] rfl) ?_)
        refine awp_reg rfl <| AR.op rfl (aop_move (.inl rfl) rfl) <| AR.op rfl (aop_add rfl rfl rfl rfl) <| AR.op rfl (aop_move (.inr rfl) rfl) <| AR.nil ?_
        replace h := Sh.next_eq h
        exact ⟨_, h, Weak.kt [1, 2, 3, 4, 10] rfl⟩
      ·replace h := Sh.if_f h hb197
       refine awp_exit ?_
       replace h := Sh.exit_eq h hx2
       exact hK19 () _ h (Weak.kt [1, 2, 3, 4] rfl)
  ·intro K26 hK26
   refine awp_any [(true, false), (true, false), (true, false), (true, false), (true, false), (true, false), (true, false), (true, false), (true, false), (true, false), (true, false), (true, false), (true, false), (true, false), (true, false), (true, false), (true, false), (true, false)] (by kernel_rfl) (by kernel_rfl) rfl ?_
   refine ARH.dry rfl (fun _ => aop_move (.inl rfl) rfl) <| ARH.dry rfl (fun _ => aop_move (.inl rfl) rfl) <| ARH.dry rfl (fun _ => aop_lss rfl rfl rfl) <| ARH.keep [1, 2, 3, 4, 21] rfl <| ARH.dry rfl (fun _ => aop_move (.inl rfl) rfl) ?_
   rcases Bool.eq_false_or_eq_true (decide (x_2 < y_3)) with hb211 | hb211
   ·rw [hb211]
    replace h := Sh.if_t h hb211
    refine ARH.dry rfl (fun _ => aop_field_pp rfl rfl fd24_0 (by decide)) <| ARH.dry (r := .sl (List.map G.api_Txn.av h_0.Txns)) rfl (fun _ => aop_load_pp rfl rfl sz22 rfl) <| ARH.keep [1, 2, 3, 4, 22, 24] rfl <| ARH.dry rfl (fun _ => aop_move (.inl rfl) rfl) ?_
    obtain ⟨x212, hx212, h⟩ := Sh.bind_some' h
    obtain ⟨k213, hi213, hl213⟩ := Sh.idx_some hx212
    refine ARH.dry rfl (fun _ => t_index_sl G.api_Txn.av h_0.Txns hi213 hl213 rfl rfl rfl el22 rfl) <| ARH.dry rfl (fun _ => aop_field_pp rfl rfl fd58_0 (by decide)) <| ARH.keep [1, 2, 3, 4, 22, 27] rfl <| ARH.dry (r := i64 x212.Session) rfl (fun _ => aop_load_pp rfl rfl sz3 rfl) <| ARH.dry rfl (fun _ => aop_field_pp rfl rfl fd24_0 (by decide)) <| ARH.dry (r := .sl (List.map G.api_Txn.av h_0.Txns)) rfl (fun _ => aop_load_pp rfl rfl sz22 rfl) <| ARH.keep [1, 2, 3, 4, 22, 28, 30] rfl <| ARH.dry rfl (fun _ => aop_move (.inl rfl) rfl) ?_
    obtain ⟨x214, hx214, h⟩ := Sh.bind_some' h
    obtain ⟨k215, hi215, hl215⟩ := Sh.idx_some hx214
    refine ARH.dry rfl (fun _ => t_index_sl G.api_Txn.av h_0.Txns hi215 hl215 rfl rfl rfl el22 rfl) <| ARH.dry rfl (fun _ => aop_field_pp rfl rfl fd58_0 (by decide)) <| ARH.keep [1, 2, 3, 4, 22, 28, 33] rfl <| ARH.dry (r := i64 x214.Session) rfl (fun _ => aop_load_pp rfl rfl sz3 rfl) <| ARH.dry (r := bl (decide (x212.Session = x214.Session))) rfl (fun _ => aop_eql rfl rfl rfl) <| ARH.dry rfl (fun _ => aop_pick rfl rfl rfl) <| ARH.nil ?_
    exact hK26 (decide (x212.Session = x214.Session)) _ h (Weak.kt [1, 2, 3, 4, 36] rfl)
   ·rw [hb211]
    replace h := Sh.if_f h hb211
    refine ARH.skip rfl <| ARH.skip rfl <| ARH.keep [1, 2, 3, 4, 22, 24] rfl <| ARH.skip rfl <| ARH.skip rfl <| ARH.skip rfl <| ARH.keep [1, 2, 3, 4, 22, 27] rfl <| ARH.skip rfl ?_
    refine ARH.skip rfl <| ARH.skip rfl <| ARH.keep [1, 2, 3, 4, 22, 28, 30] rfl <| ARH.skip rfl <| ARH.skip rfl <| ARH.skip rfl <| ARH.keep [1, 2, 3, 4, 22, 28, 33] rfl <| ARH.skip rfl ?_
    refine ARH.skip rfl <| ARH.dry rfl (fun _ => aop_pick rfl rfl rfl) <| ARH.nil ?_
    exact hK26 false _ h (Weak.kt [1, 2, 3, 4, 36] rfl)
theorem inquestref19_Direct_ok {W0 : World} (hT : Tab W0) {h_0 : G.api_Hist} {l_1 : List G.api_Choice} {x_2 : Int} {y_3 : Int} {r : Bool} (h : G.inquestref19_Direct h_0 l_1 x_2 y_3 = some r) : Fun1 Try.prog W0 55 [G.api_Hist.av h_0, .sl (List.map G.api_Choice.av l_1), i64 x_2, i64 y_3] (bl r) := Fun1.two (inquestref19_Direct_ok0 hT h) (by simp)


theorem inquestref19_Anti_ok0 {W0 : World} (hT : Tab W0) {h_0 : G.api_Hist} {l_1 : List G.api_Choice} {x_2 : Int} {y_3 : Int} {r : Bool} (h : G.inquestref19_Anti h_0 l_1 x_2 y_3 = some r) : Fun2 Try.prog W0 63 [G.api_Hist.av h_0, .sl (List.map G.api_Choice.av l_1), i64 x_2, i64 y_3] (bl r) .empty := by
 refine fun2_of_awp Try.func63 rfl (by kernel_rfl) Try.ntmps63 (by simp) ?_
 unfold G.inquestref19_Anti at h
 show AWP _ _ _ _ ⟨[(0, G.api_Hist.av h_0), (1, .sl (List.map G.api_Choice.av l_1)), (2, i64 x_2), (3, i64 y_3)], .empty⟩ _
 refine awp_seqK fun K1 hK1 => awp_reg rfl <| AR.op (r := .ref 0 0 0) rfl (aop_box 1 [G.api_Hist.av h_0] rfl rfl rfl (.inl ⟨rfl, rfl⟩)) <| AR.op rfl (aop_move (.inr rfl) rfl) <| AR.nil <| hK1 _ (AWP.weak (Weak.e (fr' := [(1, .sl (List.map G.api_Choice.av l_1)), (2, i64 x_2), (3, i64 y_3), (4, .pp [.sl (List.map G.api_Txn.av h_0.Txns)] 0)]) (H' := .empty) ⟨⟨.sl (List.map G.api_Choice.av l_1), rfl, .sm⟩, .k, .k, ⟨_, rfl, .frzA rfl rfl rfl rfl (by simp)⟩, trivial⟩) ?_)
 refine awp_seqK fun K2 hK2 => awp_reg rfl <| AR.op (r := G.api_Hist.av h_0) rfl (aop_load_pp rfl rfl sz24 rfl) <| AR.op rfl (aop_move (.inl rfl) rfl) <| AR.op rfl (aop_move (.inl rfl) rfl) <| AR.keep [1, 2, 3, 4, 14, 15, 16] rfl ?_
 obtain ⟨r49, hr49, h⟩ := Sh.bind_some' h
 refine AR.op (r := bl r49) rfl (aop_call1 rfl rfl (by simp) (inquestref19_two_ok hT hr49)) <| AR.op rfl (aop_move (.inr rfl) rfl) <| AR.nil <| hK2 _ (AWP.weak (Weak.kt [1, 2, 3, 4, 9] rfl) ?_)
 refine awp_seqK fun K3 hK3 => awp_seqJ (fun (p : Bool) => (⟨[(1, .sl (List.map G.api_Choice.av l_1)), (2, i64 x_2), (3, i64 y_3), (4, .pp [.sl (List.map G.api_Txn.av h_0.Txns)] 0), (24, bl p)], .empty⟩ : St)) (fun (p : Bool) => G.inquestref19_Anti_j1 h_0 l_1 x_2 y_3 p = some r) ?_ ?_
 ·rintro v53 h
  replace h : G.inquestref19_Anti_j1 h_0 l_1 x_2 y_3 v53 = some r := h
  unfold G.inquestref19_Anti_j1 at h
  refine awp_cond rfl (fun hb54 => ?_) (fun hb54 => ?_)
  ·replace h := Sh.if_t h hb54
   refine awp_seqK fun K4 hK4 => awp_reg rfl <| AR.op rfl (aop_move (.inr rfl) rfl) <| AR.nil <| hK4 _ (AWP.weak (Weak.kt [8] rfl) ?_)
   refine awp_ret ?_
   obtain rfl := Option.some.inj h
   refine ⟨.inr rfl, bl false, rfl, ?_⟩
   exact Weak.e ⟨.k, trivial⟩
  ·replace h := Sh.if_f h hb54
   refine awp_skip <| hK3 _ (AWP.weak (Weak.kt [1, 2, 3, 4] rfl) ?_)
   refine awp_seqJ (fun (p : Unit) => (⟨[], .empty⟩ : St)) (fun (p : Unit) => G.inquestref19_Anti_j2 = some r) ?_ ?_
   ·rintro ⟨⟩ h
    replace h : G.inquestref19_Anti_j2 = some r := h
    unfold G.inquestref19_Anti_j2 at h
    refine awp_seqK fun K5 hK5 => awp_reg rfl <| AR.op rfl (aop_move (.inr rfl) rfl) <| AR.nil <| hK5 _ ?_
    refine awp_ret ?_
    obtain rfl := Option.some.inj h
    refine ⟨.inr rfl, bl false, rfl, ?_⟩
    exact Weak.e ⟨.k, trivial⟩
   ·intro K6 hK6
    refine awp_seqK fun K7 hK7 => awp_reg rfl <| AR.op rfl (aop_move (.inr rfl) rfl) <| AR.nil <| hK7 _ ?_
    refine awp_block <| awp_iter (fun (p : Int) => G.inquestref19_Anti_b1 h_0 l_1 x_2 y_3 p) (fun (p : Int) => (⟨[(1, .sl (List.map G.api_Choice.av l_1)), (2, i64 x_2), (3, i64 y_3), (4, .pp [.sl (List.map G.api_Txn.av h_0.Txns)] 0), (10, i64 p)], .empty⟩ : St)) h (Weak.kt [1, 2, 3, 4, 10] rfl) ?_
    ·skip
     rintro i128 o1 h hx1
     replace h : G.inquestref19_Anti_b1 h_0 l_1 x_2 y_3 i128 = some o1 := h
     unfold G.inquestref19_Anti_b1 at h
     refine awp_seqK fun K8 hK8 => awp_seqK fun K9 hK9 => awp_reg rfl <| AR.op rfl (aop_move (.inl rfl) rfl) <| AR.op rfl (aop_field_pp rfl rfl fd24_0 (by decide)) <| AR.op (r := .sl (List.map G.api_Txn.av h_0.Txns)) rfl (aop_load_pp rfl rfl sz22 rfl) <| AR.keep [1, 2, 3, 4, 10, 25, 27] rfl <| AR.op rfl (aop_move (.inl rfl) rfl) ?_
     obtain ⟨x133, hx133, h⟩ := Sh.bind_some' h
     obtain ⟨k134, hi134, hl134⟩ := Sh.idx_some hx133
     refine AR.op rfl (t_index_sl G.api_Txn.av h_0.Txns hi134 hl134 rfl rfl rfl el22 rfl) <| AR.op rfl (aop_field_pp rfl rfl fd58_2 (by decide)) <| AR.keep [1, 2, 3, 4, 10, 25, 30] rfl <| AR.op (r := .sl (List.map G.api_Take.av x133.Reads)) rfl (aop_load_pp rfl rfl sz56 rfl) <| AR.op rfl (t_len_sl G.api_Take.av x133.Reads rfl rfl el56) <| AR.op rfl (aop_lss rfl rfl rfl) <| AR.nil <| hK9 _ (AWP.weak (Weak.kt [1, 2, 3, 4, 10, 33] rfl) ?_)
     refine awp_cond rfl (fun hb135 => ?_) (fun hb135 => ?_)
     ·replace h := Sh.if_t h hb135
      refine awp_skip <| hK8 _ (AWP.weak (Weak.kt [1, 2, 3, 4, 10] rfl) ?_)
      refine awp_seqK fun K10 hK10 => awp_block <| awp_seqK fun K11 hK11 => awp_reg rfl <| AR.op rfl (aop_field_pp rfl rfl fd24_0 (by decide)) <| AR.op (r := .sl (List.map G.api_Txn.av h_0.Txns)) rfl (aop_load_pp rfl rfl sz22 rfl) <| AR.op rfl (aop_move (.inl rfl) rfl) <| AR.keep [1, 2, 3, 4, 10, 37, 38] rfl ?_
      obtain ⟨x152, hx152, h⟩ := Sh.bind_some' h
      obtain ⟨k153, hi153, hl153⟩ := Sh.idx_some hx152
      refine AR.op rfl (t_index_sl G.api_Txn.av h_0.Txns hi153 hl153 rfl rfl rfl el22 rfl) <| AR.op rfl (aop_field_pp rfl rfl fd58_2 (by decide)) <| AR.op (r := .sl (List.map G.api_Take.av x152.Reads)) rfl (aop_load_pp rfl rfl sz56 rfl) <| AR.keep [1, 2, 3, 4, 10, 41] rfl <| AR.op rfl (aop_move (.inl rfl) rfl) ?_
      obtain ⟨x154, hx154, h⟩ := Sh.bind_some' h
      obtain ⟨k155, hi155, hl155⟩ := Sh.idx_some hx154
      refine AR.op rfl (t_index_sl G.api_Take.av x152.Reads hi155 hl155 rfl rfl rfl el56 rfl) <| AR.op (r := G.api_Take.av x154) rfl (aop_load_pp rfl rfl sz78 rfl) <| AR.keep [1, 2, 3, 4, 10, 44] rfl <| AR.op (r := .ref 0 0 0) rfl (aop_alloc 2 [.agg [i64 0, i64 0]] rfl zr78 (by kernel_rfl) (.inl ⟨rfl, rfl⟩)) <| AR.op rfl (aop_store (e' := G.api_Take.av x154) rfl rfl rfl rfl rfl rfl sz78 rfl dt rfl) <| AR.nil <| hK11 _ (AWP.weak (Weak.e (fr' := [(1, .sl (List.map G.api_Choice.av l_1)), (2, i64 x_2), (3, i64 y_3), (4, .pp [.sl (List.map G.api_Txn.av h_0.Txns)] 0), (10, i64 i128), (11, .pp [i64 x154.Key, i64 x154.From] 0)]) (H' := .empty) ⟨⟨.sl (List.map G.api_Choice.av l_1), rfl, .sm⟩, .k, .k, .k, .k, ⟨_, rfl, .frzA rfl rfl rfl rfl (by simp)⟩, trivial⟩) ?_)
      refine awp_seqK fun K12 hK12 => awp_any [(true, false), (true, false), (true, false), (true, false), (true, false), (true, false), (true, false), (true, false), (true, false)] (by kernel_rfl) (by kernel_rfl) rfl ?_
      refine ARH.dry rfl (fun _ => aop_field_pp rfl rfl fd24_0 (by decide)) <| ARH.dry (r := .sl (List.map G.api_Txn.av h_0.Txns)) rfl (fun _ => aop_load_pp rfl rfl sz22 rfl) <| ARH.dry rfl (fun _ => aop_move (.inl rfl) rfl) <| ARH.keep [1, 2, 3, 4, 10, 11, 46, 47] rfl ?_
      obtain ⟨x159, hx159, h⟩ := Sh.bind_some' h
      obtain ⟨k160, hi160, hl160⟩ := Sh.idx_some hx159
      refine ARH.dry rfl (fun _ => t_index_sl G.api_Txn.av h_0.Txns hi160 hl160 rfl rfl rfl el22 rfl) <| ARH.dry (r := G.api_Txn.av x159) rfl (fun _ => aop_load_pp rfl rfl sz58 rfl) <| ARH.dry rfl (fun _ => aop_field_pp rfl rfl fd78_0 (by decide)) <| ARH.keep [1, 2, 3, 4, 10, 11, 49, 50] rfl <| ARH.dry (r := i64 x154.Key) rfl (fun _ => aop_load_pp rfl rfl sz3 rfl) ?_
      obtain ⟨r161, hr161, h⟩ := Sh.bind_some' h
      refine ARH.dry (r := bl r161) rfl (fun _ => aop_call1 rfl rfl (by simp) (inquestref08_Writes_ok hT hr161)) <| ARH.dry rfl (fun _ => aop_move (.inr rfl) rfl) <| ARH.nil <| hK12 _ (AWP.weak (Weak.kt [1, 2, 3, 4, 10, 11, 12] rfl) ?_)
      refine awp_seqK fun K13 hK13 => awp_reg rfl <| AR.op rfl (aop_move (.inl rfl) rfl) <| AR.op rfl (aop_field_pp rfl rfl fd78_0 (by decide)) <| AR.op (r := i64 x154.Key) rfl (aop_load_pp rfl rfl sz3 rfl) <| AR.keep [1, 2, 3, 4, 10, 11, 12, 53, 55] rfl <| AR.op rfl (aop_field_pp rfl rfl fd78_1 (by decide)) <| AR.op (r := i64 x154.From) rfl (aop_load_pp rfl rfl sz3 rfl) ?_
      refine AR.op rfl (aop_move (.inl rfl) rfl) <| AR.keep [1, 2, 3, 4, 10, 11, 12, 53, 55, 57, 58] rfl <| AR.op (r := .agg [i64 x154.Key, i64 x154.From, i64 y_3]) rfl (aop_build rfl bd35 rfl rfl rfl) ?_
      obtain ⟨r163, hr163, h⟩ := Sh.bind_some' h
      refine AR.op (r := bl r163) rfl (aop_callN rfl (ys := [.sl (List.map G.api_Choice.av l_1), .agg [i64 x154.Key, i64 x154.From, i64 y_3]]) (xs := [.sl (List.map G.api_Choice.av l_1), G.api_Choice.av (G.api_Choice.mk x154.Key x154.From y_3)]) rfl (Weak.e (fr' := argsFr 0 [.sl (List.map G.api_Choice.av l_1), G.api_Choice.av (G.api_Choice.mk x154.Key x154.From y_3)]) (H' := .empty) ⟨⟨.sl (List.map G.api_Choice.av l_1), rfl, .sm⟩, ⟨.agg [i64 x154.Key, i64 x154.From, i64 y_3], rfl, .sm⟩, trivial⟩) rfl (by simp) (inquestref18_In_ok hT hr163)) <| AR.op rfl (aop_move (.inr rfl) rfl) <| AR.nil <| hK13 _ (AWP.weak (Weak.kt [1, 2, 3, 4, 10, 11, 12, 13] rfl) ?_)
      refine awp_seqJ (fun (p : Bool) => (⟨[(1, .sl (List.map G.api_Choice.av l_1)), (2, i64 x_2), (3, i64 y_3), (4, .pp [.sl (List.map G.api_Txn.av h_0.Txns)] 0), (10, i64 i128), (75, bl p)], .empty⟩ : St)) (fun (p : Bool) => G.inquestref19_Anti_j3 i128 p = some o1) ?_ ?_
      ·rintro v167 h
       replace h : G.inquestref19_Anti_j3 i128 v167 = some o1 := h
       unfold G.inquestref19_Anti_j3 at h
       refine awp_cond rfl (fun hb168 => ?_) (fun hb168 => ?_)
       ·replace h := Sh.if_t h hb168
        refine awp_seqK fun K14 hK14 => awp_reg rfl <| AR.op rfl (aop_move (.inr rfl) rfl) <| AR.nil <| hK14 _ (AWP.weak (Weak.kt [8] rfl) ?_)
        refine awp_ret ?_
        replace h := Sh.exit_eq h hx1
        obtain rfl := Option.some.inj h
        refine ⟨.inr rfl, bl true, rfl, ?_⟩
        exact Weak.e ⟨.k, trivial⟩
       ·replace h := Sh.if_f h hb168
        refine awp_skip <| hK10 _ (AWP.weak (Weak.kt [1, 2, 3, 4, 10] rfl) ?_)
        refine awp_reg rfl <| AR.op rfl (aop_move (.inl rfl) rfl) <| AR.op rfl (aop_add rfl rfl rfl rfl) <| AR.op rfl (aop_move (.inr rfl) rfl) <| AR.nil ?_
        replace h := Sh.next_eq h
        exact ⟨_, h, Weak.kt [1, 2, 3, 4, 10] rfl⟩
      ·intro K15 hK15
       refine awp_reg rfl <| AR.op rfl (aop_move (.inl rfl) rfl) <| AR.op rfl (aop_move (.inl rfl) rfl) ?_
       rcases Bool.eq_false_or_eq_true (r161) with hb169 | hb169
       ·rw [hb169]
        replace h := Sh.if_t h hb169
        refine AR.op rfl (aop_field_pp rfl rfl fd78_1 (by decide)) <| AR.keep [1, 2, 3, 4, 10, 11, 13, 62, 63] rfl <| AR.op (r := i64 x154.From) rfl (aop_load_pp rfl rfl sz3 rfl) <| AR.op (r := bl (decide (x154.From = (-1)))) rfl (aop_eql rfl rfl rfl) <| AR.op rfl (aop_move (.inl rfl) rfl) <| AR.keep [1, 2, 3, 4, 10, 11, 13, 62, 63, 64, 65, 66] rfl ?_
        rcases Bool.eq_false_or_eq_true (decide (x154.From = (-1))) with hb170 | hb170
        ·rw [hb170]
         replace h := Sh.if_t h hb170
         refine AR.skip rfl <| AR.skip rfl <| AR.skip rfl <| AR.keep [1, 2, 3, 4, 10, 62, 63, 64, 65, 66, 67, 68, 69] rfl <| AR.skip rfl <| AR.skip rfl <| AR.skip rfl <| AR.keep [1, 2, 3, 4, 10, 62, 63, 64, 65, 66, 67, 68, 69, 70, 71, 72] rfl ?_
         refine AR.skip rfl <| AR.op rfl (aop_pick rfl rfl rfl) <| AR.op rfl (aop_pick rfl rfl rfl) <| AR.nil ?_
         exact hK15 true _ h (Weak.kt [1, 2, 3, 4, 10, 75] rfl)
        ·rw [hb170]
         replace h := Sh.if_f h hb170
         refine AR.op rfl (aop_move (.inl rfl) rfl) <| AR.op rfl (aop_move (.inl rfl) rfl) ?_
         rcases Bool.eq_false_or_eq_true (r163) with hb171 | hb171
         ·rw [hb171]
          replace h := Sh.if_t h hb171
          refine AR.op rfl (aop_field_pp rfl rfl fd78_1 (by decide)) <| AR.keep [1, 2, 3, 4, 10, 62, 63, 64, 65, 66, 67, 68, 69] rfl <| AR.op (r := i64 x154.From) rfl (aop_load_pp rfl rfl sz3 rfl) <| AR.op rfl (aop_move (.inl rfl) rfl) <| AR.op (r := bl (decide (x154.From ≠ y_3))) rfl (aop_neq rfl rfl rfl) <| AR.keep [1, 2, 3, 4, 10, 62, 63, 64, 65, 66, 67, 68, 69, 70, 71, 72] rfl <| AR.op rfl (aop_pick rfl rfl rfl) <| AR.op rfl (aop_pick rfl rfl rfl) ?_
          refine AR.op rfl (aop_pick rfl rfl rfl) <| AR.nil ?_
          exact hK15 (decide (x154.From ≠ y_3)) _ h (Weak.kt [1, 2, 3, 4, 10, 75] rfl)
         ·rw [hb171]
          replace h := Sh.if_f h hb171
          refine AR.skip rfl <| AR.keep [1, 2, 3, 4, 10, 62, 63, 64, 65, 66, 67, 68, 69] rfl <| AR.skip rfl <| AR.skip rfl <| AR.skip rfl <| AR.keep [1, 2, 3, 4, 10, 62, 63, 64, 65, 66, 67, 68, 69, 70, 71, 72] rfl <| AR.op rfl (aop_pick rfl rfl rfl) <| AR.op rfl (aop_pick rfl rfl rfl) ?_
          refine AR.op rfl (aop_pick rfl rfl rfl) <| AR.nil ?_
          exact hK15 false _ h (Weak.kt [1, 2, 3, 4, 10, 75] rfl)
       ·rw [hb169]
        replace h := Sh.if_f h hb169
        refine AR.skip rfl <| AR.keep [1, 2, 3, 4, 10, 11, 13, 62, 63] rfl <| AR.skip rfl <| AR.skip rfl <| AR.skip rfl <| AR.keep [1, 2, 3, 4, 10, 11, 13, 62, 63, 64, 65, 66] rfl <| AR.skip rfl <| AR.skip rfl ?_
        refine AR.skip rfl <| AR.keep [1, 2, 3, 4, 10, 62, 63, 64, 65, 66, 67, 68, 69] rfl <| AR.skip rfl <| AR.skip rfl <| AR.skip rfl <| AR.keep [1, 2, 3, 4, 10, 62, 63, 64, 65, 66, 67, 68, 69, 70, 71, 72] rfl <| AR.skip rfl <| AR.skip rfl ?_
        refine AR.op rfl (aop_pick rfl rfl rfl) <| AR.nil ?_
        exact hK15 false _ h (Weak.kt [1, 2, 3, 4, 10, 75] rfl)
     ·replace h := Sh.if_f h hb135
      refine awp_exit ?_
      replace h := Sh.exit_eq h hx1
      exact hK6 () _ h (Weak.kt [] rfl)
 ·intro K16 hK16
  refine awp_reg rfl <| AR.op rfl (aop_move (.inl rfl) rfl) <| AR.op (r := bl (!r49)) rfl (aop_not rfl rfl) <| AR.op rfl (aop_move (.inl rfl) rfl) <| AR.keep [1, 2, 3, 4, 20] rfl ?_
  rcases Bool.eq_false_or_eq_true (!r49) with hb172 | hb172
  ·rw [hb172]
   replace h := Sh.if_t h hb172
   refine AR.skip rfl <| AR.skip rfl <| AR.skip rfl <| AR.keep [1, 2, 3, 4, 20, 23] rfl <| AR.op rfl (aop_pick rfl rfl rfl) <| AR.nil ?_
   exact hK16 true _ h (Weak.kt [1, 2, 3, 4, 24] rfl)
  ·rw [hb172]
   replace h := Sh.if_f h hb172
   refine AR.op rfl (aop_move (.inl rfl) rfl) <| AR.op rfl (aop_move (.inl rfl) rfl) <| AR.op (r := bl (decide (x_2 = y_3))) rfl (aop_eql rfl rfl rfl) <| AR.keep [1, 2, 3, 4, 20, 23] rfl <| AR.op rfl (aop_pick rfl rfl rfl) <| AR.nil ?_
   exact hK16 (decide (x_2 = y_3)) _ h (Weak.kt [1, 2, 3, 4, 24] rfl)
theorem inquestref19_Anti_ok {W0 : World} (hT : Tab W0) {h_0 : G.api_Hist} {l_1 : List G.api_Choice} {x_2 : Int} {y_3 : Int} {r : Bool} (h : G.inquestref19_Anti h_0 l_1 x_2 y_3 = some r) : Fun1 Try.prog W0 63 [G.api_Hist.av h_0, .sl (List.map G.api_Choice.av l_1), i64 x_2, i64 y_3] (bl r) := Fun1.two (inquestref19_Anti_ok0 hT h) (by simp)


theorem inquestref19_Is_ok0 {W0 : World} (hT : Tab W0) {h_0 : G.api_Hist} {level_1 : Int} {l_2 : List G.api_Choice} {x_3 : Int} {y_4 : Int} {r : Bool} (h : G.inquestref19_Is h_0 level_1 l_2 x_3 y_4 = some r) : Fun2 Try.prog W0 57 [G.api_Hist.av h_0, i64 level_1, .sl (List.map G.api_Choice.av l_2), i64 x_3, i64 y_4] (bl r) .empty := by
 refine fun2_of_awp Try.func57 rfl (by kernel_rfl) Try.ntmps57 (by simp) ?_
 unfold G.inquestref19_Is at h
 show AWP _ _ _ _ ⟨[(0, G.api_Hist.av h_0), (1, i64 level_1), (2, .sl (List.map G.api_Choice.av l_2)), (3, i64 x_3), (4, i64 y_4)], .empty⟩ _
 refine awp_seqK fun K1 hK1 => awp_reg rfl <| AR.op (r := .ref 0 0 0) rfl (aop_box 1 [G.api_Hist.av h_0] rfl rfl rfl (.inl ⟨rfl, rfl⟩)) <| AR.op rfl (aop_move (.inr rfl) rfl) <| AR.nil <| hK1 _ (AWP.weak (Weak.e (fr' := [(1, i64 level_1), (2, .sl (List.map G.api_Choice.av l_2)), (3, i64 x_3), (4, i64 y_4), (5, .pp [.sl (List.map G.api_Txn.av h_0.Txns)] 0)]) (H' := .empty) ⟨.k, ⟨.sl (List.map G.api_Choice.av l_2), rfl, .sm⟩, .k, .k, ⟨_, rfl, .frzA rfl rfl rfl rfl (by simp)⟩, trivial⟩) ?_)
 refine awp_seqK fun K2 hK2 => awp_seqJ (fun (p : Bool) => (⟨[(1, i64 level_1), (2, .sl (List.map G.api_Choice.av l_2)), (3, i64 x_3), (4, i64 y_4), (5, .pp [.sl (List.map G.api_Txn.av h_0.Txns)] 0), (21, bl p)], .empty⟩ : St)) (fun (p : Bool) => G.inquestref19_Is_j1 h_0 level_1 l_2 x_3 y_4 p = some r) ?_ ?_
 ·rintro v16 h
  replace h : G.inquestref19_Is_j1 h_0 level_1 l_2 x_3 y_4 v16 = some r := h
  unfold G.inquestref19_Is_j1 at h
  refine awp_cond rfl (fun hb17 => ?_) (fun hb17 => ?_)
  ·replace h := Sh.if_t h hb17
   refine awp_seqK fun K3 hK3 => awp_reg rfl <| AR.op rfl (aop_move (.inr rfl) rfl) <| AR.nil <| hK3 _ (AWP.weak (Weak.kt [10] rfl) ?_)
   refine awp_ret ?_
   obtain rfl := Option.some.inj h
   refine ⟨.inr rfl, bl false, rfl, ?_⟩
   exact Weak.e ⟨.k, trivial⟩
  ·replace h := Sh.if_f h hb17
   refine awp_skip <| hK2 _ (AWP.weak (Weak.kt [1, 2, 3, 4, 5] rfl) ?_)
   refine awp_seqK fun K4 hK4 => awp_reg rfl <| AR.op (r := G.api_Hist.av h_0) rfl (aop_load_pp rfl rfl sz24 rfl) <| AR.op rfl (aop_move (.inl rfl) rfl) <| AR.op rfl (aop_move (.inl rfl) rfl) <| AR.keep [1, 2, 3, 4, 5, 22, 23, 24] rfl <| AR.op rfl (aop_move (.inl rfl) rfl) ?_
   obtain ⟨r19, hr19, h⟩ := Sh.bind_some' h
   refine AR.op (r := bl r19) rfl (aop_call1 rfl rfl (by simp) (inquestref19_Direct_ok hT hr19)) <| AR.op rfl (aop_move (.inr rfl) rfl) <| AR.nil <| hK4 _ (AWP.weak (Weak.kt [1, 2, 3, 4, 5, 11] rfl) ?_)
   refine awp_seqK fun K5 hK5 => awp_seqK fun K6 hK6 => awp_reg rfl <| AR.op rfl (aop_move (.inl rfl) rfl) <| AR.nil <| hK6 _ (AWP.weak (Weak.kt [1, 2, 3, 4, 5, 27] rfl) ?_)
   refine awp_cond rfl (fun hb20 => ?_) (fun hb20 => ?_)
   ·replace h := Sh.if_t h hb20
    refine awp_seqK fun K7 hK7 => awp_reg rfl <| AR.op rfl (aop_move (.inr rfl) rfl) <| AR.nil <| hK7 _ (AWP.weak (Weak.kt [10] rfl) ?_)
    refine awp_ret ?_
    obtain rfl := Option.some.inj h
    refine ⟨.inr rfl, bl true, rfl, ?_⟩
    exact Weak.e ⟨.k, trivial⟩
   ·replace h := Sh.if_f h hb20
    refine awp_skip <| hK5 _ (AWP.weak (Weak.kt [1, 2, 3, 4, 5] rfl) ?_)
    refine awp_seqK fun K8 hK8 => awp_seqK fun K9 hK9 => awp_reg rfl <| AR.op rfl (aop_move (.inl rfl) rfl) <| AR.op (r := bl (decide (level_1 = 0))) rfl (aop_eql rfl rfl rfl) <| AR.nil <| hK9 _ (AWP.weak (Weak.kt [2, 3, 4, 5, 29] rfl) ?_)
    refine awp_cond rfl (fun hb22 => ?_) (fun hb22 => ?_)
    ·replace h := Sh.if_t h hb22
     refine awp_seqK fun K10 hK10 => awp_reg rfl <| AR.op (r := G.api_Hist.av h_0) rfl (aop_load_pp rfl rfl sz24 rfl) <| AR.op rfl (aop_move (.inl rfl) rfl) <| AR.op rfl (aop_move (.inl rfl) rfl) <| AR.keep [4, 30, 31, 32] rfl <| AR.op rfl (aop_move (.inl rfl) rfl) ?_
     obtain ⟨r24, hr24, h⟩ := Sh.bind_some' h
     refine AR.op (r := bl r24) rfl (aop_call1 rfl rfl (by simp) (inquestref19_Anti_ok hT hr24)) <| AR.op rfl (aop_move (.inr rfl) rfl) <| AR.nil <| hK10 _ (AWP.weak (Weak.kt [12] rfl) ?_)
     refine awp_seqK fun K11 hK11 => awp_reg rfl <| AR.op rfl (aop_move (.inl rfl) rfl) <| AR.op rfl (aop_move (.inr rfl) rfl) <| AR.nil <| hK11 _ (AWP.weak (Weak.kt [10] rfl) ?_)
     refine awp_ret ?_
     obtain rfl := Option.some.inj h
     refine ⟨.inr rfl, bl r24, rfl, ?_⟩
     exact Weak.e ⟨.k, trivial⟩
    ·replace h := Sh.if_f h hb22
     refine awp_skip <| hK8 _ (AWP.weak (Weak.kt [2, 3, 4, 5] rfl) ?_)
     refine awp_seqJ (fun (p : Unit) => (⟨[], .empty⟩ : St)) (fun (p : Unit) => G.inquestref19_Is_j2 = some r) ?_ ?_
     ·rintro ⟨⟩ h
      replace h : G.inquestref19_Is_j2 = some r := h
      unfold G.inquestref19_Is_j2 at h
      refine awp_seqK fun K12 hK12 => awp_reg rfl <| AR.op rfl (aop_move (.inr rfl) rfl) <| AR.nil <| hK12 _ ?_
      refine awp_ret ?_
      obtain rfl := Option.some.inj h
      refine ⟨.inr rfl, bl false, rfl, ?_⟩
      exact Weak.e ⟨.k, trivial⟩
     ·intro K13 hK13
      refine awp_seqK fun K14 hK14 => awp_reg rfl <| AR.op rfl (aop_move (.inr rfl) rfl) <| AR.nil <| hK14 _ ?_
      refine awp_block <| awp_iter (fun (p : Int) => G.inquestref19_Is_b1 h_0 l_2 x_3 y_4 p) (fun (p : Int) => (⟨[(2, .sl (List.map G.api_Choice.av l_2)), (3, i64 x_3), (4, i64 y_4), (5, .pp [.sl (List.map G.api_Txn.av h_0.Txns)] 0), (13, i64 p)], .empty⟩ : St)) h (Weak.kt [2, 3, 4, 5, 13] rfl) ?_
      ·skip
       rintro m38 o1 h hx1
       replace h : G.inquestref19_Is_b1 h_0 l_2 x_3 y_4 m38 = some o1 := h
       unfold G.inquestref19_Is_b1 at h
       refine awp_seqK fun K15 hK15 => awp_seqK fun K16 hK16 => awp_reg rfl <| AR.op rfl (aop_move (.inl rfl) rfl) <| AR.op rfl (aop_field_pp rfl rfl fd24_0 (by decide)) <| AR.op (r := .sl (List.map G.api_Txn.av h_0.Txns)) rfl (aop_load_pp rfl rfl sz22 rfl) <| AR.keep [2, 3, 4, 5, 13, 36, 38] rfl <| AR.op rfl (t_len_sl G.api_Txn.av h_0.Txns rfl rfl el22) ?_
       refine AR.op rfl (aop_lss rfl rfl rfl) <| AR.nil <| hK16 _ (AWP.weak (Weak.kt [2, 3, 4, 5, 13, 40] rfl) ?_)
       refine awp_cond rfl (fun hb39 => ?_) (fun hb39 => ?_)
       ·replace h := Sh.if_t h hb39
        refine awp_skip <| hK15 _ (AWP.weak (Weak.kt [2, 3, 4, 5, 13] rfl) ?_)
        refine awp_seqJ (fun (p : Unit) => (⟨[(2, .sl (List.map G.api_Choice.av l_2)), (3, i64 x_3), (4, i64 y_4), (5, .pp [.sl (List.map G.api_Txn.av h_0.Txns)] 0), (13, i64 m38)], .empty⟩ : St)) (fun (p : Unit) => G.inquestref19_Is_j3 m38 = some o1) ?_ ?_
        ·rintro ⟨⟩ h
         replace h : G.inquestref19_Is_j3 m38 = some o1 := h
         unfold G.inquestref19_Is_j3 at h
         refine awp_reg rfl <| AR.op rfl (aop_move (.inl rfl) rfl) <| AR.op rfl (aop_add rfl rfl rfl rfl) <| AR.op rfl (aop_move (.inr rfl) rfl) <| AR.nil ?_
         replace h := Sh.next_eq h
         exact ⟨_, h, Weak.kt [2, 3, 4, 5, 13] rfl⟩
        ·intro K17 hK17
         refine awp_block <| awp_seqK fun K18 hK18 => awp_reg rfl <| AR.op (r := G.api_Hist.av h_0) rfl (aop_load_pp rfl rfl sz24 rfl) <| AR.op rfl (aop_move (.inl rfl) rfl) <| AR.op rfl (aop_move (.inl rfl) rfl) <| AR.keep [2, 3, 4, 5, 13, 43, 44, 45] rfl <| AR.op rfl (aop_move (.inl rfl) rfl) ?_
         obtain ⟨r43, hr43, h⟩ := Sh.bind_some' h
         refine AR.op (r := bl r43) rfl (aop_call1 rfl rfl (by simp) (inquestref19_Direct_ok hT hr43)) <| AR.op rfl (aop_move (.inr rfl) rfl) <| AR.nil <| hK18 _ (AWP.weak (Weak.kt [2, 3, 4, 5, 13, 14] rfl) ?_)
         refine awp_seqK fun K19 hK19 => awp_seqK fun K20 hK20 => awp_reg rfl <| AR.op rfl (aop_move (.inl rfl) rfl) <| AR.op (r := bl (!r43)) rfl (aop_not rfl rfl) <| AR.nil <| hK20 _ (AWP.weak (Weak.kt [2, 3, 4, 5, 13, 49] rfl) ?_)
         refine awp_cond rfl (fun hb44 => ?_) (fun hb44 => ?_)
         ·replace h := Sh.if_t h hb44
          refine awp_exit ?_
          exact hK17 () _ h (Weak.kt [2, 3, 4, 5, 13] rfl)
         ·replace h := Sh.if_f h hb44
          refine awp_skip <| hK19 _ (AWP.weak (Weak.kt [2, 3, 4, 5, 13] rfl) ?_)
          refine awp_seqK fun K21 hK21 => awp_reg rfl <| AR.op (r := G.api_Hist.av h_0) rfl (aop_load_pp rfl rfl sz24 rfl) <| AR.op rfl (aop_move (.inl rfl) rfl) <| AR.op rfl (aop_move (.inl rfl) rfl) <| AR.keep [2, 3, 4, 5, 13, 50, 51, 52] rfl <| AR.op rfl (aop_move (.inl rfl) rfl) ?_
          obtain ⟨r46, hr46, h⟩ := Sh.bind_some' h
          refine AR.op (r := bl r46) rfl (aop_call1 rfl rfl (by simp) (inquestref19_Anti_ok hT hr46)) <| AR.op rfl (aop_move (.inr rfl) rfl) <| AR.nil <| hK21 _ (AWP.weak (Weak.kt [2, 3, 4, 5, 13, 15] rfl) ?_)
          refine awp_seqK fun K22 hK22 => awp_reg rfl <| AR.op rfl (aop_move (.inl rfl) rfl) <| AR.nil <| hK22 _ (AWP.weak (Weak.kt [2, 3, 4, 5, 13, 55] rfl) ?_)
          refine awp_cond rfl (fun hb47 => ?_) (fun hb47 => ?_)
          ·replace h := Sh.if_t h hb47
           refine awp_seqK fun K23 hK23 => awp_reg rfl <| AR.op rfl (aop_move (.inr rfl) rfl) <| AR.nil <| hK23 _ (AWP.weak (Weak.kt [10] rfl) ?_)
           refine awp_ret ?_
           replace h := Sh.exit_eq h hx1
           obtain rfl := Option.some.inj h
           refine ⟨.inr rfl, bl true, rfl, ?_⟩
           exact Weak.e ⟨.k, trivial⟩
          ·replace h := Sh.if_f h hb47
           refine awp_skip ?_
           exact hK17 () _ h (Weak.kt [2, 3, 4, 5, 13] rfl)
       ·replace h := Sh.if_f h hb39
        refine awp_exit ?_
        replace h := Sh.exit_eq h hx1
        exact hK13 () _ h (Weak.kt [] rfl)
 ·intro K24 hK24
  refine awp_reg rfl <| AR.op rfl (aop_move (.inl rfl) rfl) <| AR.op (r := bl (decide (level_1 ≠ 0))) rfl (aop_neq rfl rfl rfl) <| AR.op rfl (aop_move (.inl rfl) rfl) <| AR.keep [1, 2, 3, 4, 5, 18] rfl ?_
  rcases Bool.eq_false_or_eq_true (decide (level_1 ≠ 0)) with hb48 | hb48
  ·rw [hb48]
   replace h := Sh.if_t h hb48
   refine AR.op rfl (aop_move (.inl rfl) rfl) <| AR.op (r := bl (decide (level_1 ≠ 1))) rfl (aop_neq rfl rfl rfl) <| AR.op rfl (aop_pick rfl rfl rfl) <| AR.nil ?_
   exact hK24 (decide (level_1 ≠ 1)) _ h (Weak.kt [1, 2, 3, 4, 5, 21] rfl)
  ·rw [hb48]
   replace h := Sh.if_f h hb48
   refine AR.skip rfl <| AR.skip rfl <| AR.op rfl (aop_pick rfl rfl rfl) <| AR.nil ?_
   exact hK24 false _ h (Weak.kt [1, 2, 3, 4, 5, 21] rfl)
theorem inquestref19_Is_ok {W0 : World} (hT : Tab W0) {h_0 : G.api_Hist} {level_1 : Int} {l_2 : List G.api_Choice} {x_3 : Int} {y_4 : Int} {r : Bool} (h : G.inquestref19_Is h_0 level_1 l_2 x_3 y_4 = some r) : Fun1 Try.prog W0 57 [G.api_Hist.av h_0, i64 level_1, .sl (List.map G.api_Choice.av l_2), i64 x_3, i64 y_4] (bl r) := Fun1.two (inquestref19_Is_ok0 hT h) (by simp)


theorem inquestref19_Cycle_ok0 {W0 : World} (hT : Tab W0) {h_0 : G.api_Hist} {level_1 : Int} {l_2 : List G.api_Choice} {row_3 : List Int} {r : Bool} (h : G.inquestref19_Cycle h_0 level_1 l_2 row_3 = some r) : Fun2 Try.prog W0 47 [G.api_Hist.av h_0, i64 level_1, .sl (List.map G.api_Choice.av l_2), .sl (List.map i64 row_3)] (bl r) .empty := by
 refine fun2_of_awp Try.func47 rfl (by kernel_rfl) Try.ntmps47 (by simp) ?_
 unfold G.inquestref19_Cycle at h
 show AWP _ _ _ _ ⟨[(0, G.api_Hist.av h_0), (1, i64 level_1), (2, .sl (List.map G.api_Choice.av l_2)), (3, .sl (List.map i64 row_3))], .empty⟩ _
 refine awp_seqK fun K1 hK1 => awp_reg rfl <| AR.op (r := .ref 0 0 0) rfl (aop_box 1 [G.api_Hist.av h_0] rfl rfl rfl (.inl ⟨rfl, rfl⟩)) <| AR.op rfl (aop_move (.inr rfl) rfl) <| AR.nil <| hK1 _ (AWP.weak (Weak.e (fr' := [(1, i64 level_1), (2, .sl (List.map G.api_Choice.av l_2)), (3, .sl (List.map i64 row_3)), (4, .pp [.sl (List.map G.api_Txn.av h_0.Txns)] 0)]) (H' := .empty) ⟨.k, ⟨.sl (List.map G.api_Choice.av l_2), rfl, .sm⟩, ⟨.sl (List.map i64 row_3), rfl, .sm⟩, ⟨_, rfl, .frzA rfl rfl rfl rfl (by simp)⟩, trivial⟩) ?_)
 refine awp_seqJ (fun (p : Unit) => (⟨[(3, .sl (List.map i64 row_3))], .empty⟩ : St)) (fun (p : Unit) => G.inquestref19_Cycle_j1 row_3 = some r) ?_ ?_
 ·rintro ⟨⟩ h
  replace h : G.inquestref19_Cycle_j1 row_3 = some r := h
  unfold G.inquestref19_Cycle_j1 at h
  refine awp_seqK fun K2 hK2 => awp_reg rfl <| AR.op rfl (aop_move (.inl rfl) rfl) <| AR.op rfl (t_len_sl i64 row_3 rfl rfl el36) <| AR.op rfl (aop_gtr rfl rfl rfl) <| AR.keep [52] rfl <| AR.op rfl (aop_move (.inr rfl) rfl) <| AR.nil ?_
  refine hK2 _ (AWP.weak (Weak.kt [8] rfl) ?_)
  refine awp_ret ?_
  obtain rfl := Option.some.inj h
  refine ⟨.inr rfl, bl (decide ((0 : Int) < (Sh.len row_3))), rfl, ?_⟩
  exact Weak.e ⟨.k, trivial⟩
 ·intro K3 hK3
  refine awp_seqK fun K4 hK4 => awp_reg rfl <| AR.op rfl (aop_move (.inr rfl) rfl) <| AR.nil <| hK4 _ ?_
  refine awp_block <| awp_iter (fun (p : Int) => G.inquestref19_Cycle_b1 h_0 level_1 l_2 row_3 p) (fun (p : Int) => (⟨[(1, i64 level_1), (2, .sl (List.map G.api_Choice.av l_2)), (3, .sl (List.map i64 row_3)), (4, .pp [.sl (List.map G.api_Txn.av h_0.Txns)] 0), (9, i64 p)], .empty⟩ : St)) h (Weak.kt [1, 2, 3, 4, 9] rfl) ?_
  ·skip
   rintro i124 o1 h hx1
   replace h : G.inquestref19_Cycle_b1 h_0 level_1 l_2 row_3 i124 = some o1 := h
   unfold G.inquestref19_Cycle_b1 at h
   refine awp_seqK fun K5 hK5 => awp_seqK fun K6 hK6 => awp_reg rfl <| AR.op rfl (aop_move (.inl rfl) rfl) <| AR.op rfl (aop_move (.inl rfl) rfl) <| AR.op rfl (t_len_sl i64 row_3 rfl rfl el36) <| AR.keep [1, 2, 3, 4, 9, 12, 14] rfl <| AR.op rfl (aop_lss rfl rfl rfl) ?_
   refine AR.nil <| hK6 _ (AWP.weak (Weak.kt [1, 2, 3, 4, 9, 15] rfl) ?_)
   refine awp_cond rfl (fun hb125 => ?_) (fun hb125 => ?_)
   ·replace h := Sh.if_t h hb125
    refine awp_skip <| hK5 _ (AWP.weak (Weak.kt [1, 2, 3, 4, 9] rfl) ?_)
    refine awp_seqJ (fun (p : Unit) => (⟨[(1, i64 level_1), (2, .sl (List.map G.api_Choice.av l_2)), (3, .sl (List.map i64 row_3)), (4, .pp [.sl (List.map G.api_Txn.av h_0.Txns)] 0), (9, i64 i124)], .empty⟩ : St)) (fun (p : Unit) => G.inquestref19_Cycle_j2 i124 = some o1) ?_ ?_
    ·rintro ⟨⟩ h
     replace h : G.inquestref19_Cycle_j2 i124 = some o1 := h
     unfold G.inquestref19_Cycle_j2 at h
     refine awp_reg rfl <| AR.op rfl (aop_move (.inl rfl) rfl) <| AR.op rfl (aop_add rfl rfl rfl rfl) <| AR.op rfl (aop_move (.inr rfl) rfl) <| AR.nil ?_
     replace h := Sh.next_eq h
     exact ⟨_, h, Weak.kt [1, 2, 3, 4, 9] rfl⟩
    ·intro K7 hK7
     refine awp_block <| awp_seqJ (fun (p : Unit) => (⟨[(1, i64 level_1), (2, .sl (List.map G.api_Choice.av l_2)), (3, .sl (List.map i64 row_3)), (4, .pp [.sl (List.map G.api_Txn.av h_0.Txns)] 0), (9, i64 i124)], .empty⟩ : St)) (fun (p : Unit) => G.inquestref19_Cycle_j3 h_0 level_1 l_2 row_3 i124 = some o1) ?_ ?_
     ·rintro ⟨⟩ h
      replace h : G.inquestref19_Cycle_j3 h_0 level_1 l_2 row_3 i124 = some o1 := h
      unfold G.inquestref19_Cycle_j3 at h
      refine awp_seqK fun K8 hK8 => awp_any [(true, false), (true, false), (true, false), (true, false), (true, false), (true, false), (true, false), (true, false), (true, false), (true, false), (true, false), (true, false), (true, false), (true, false), (true, false), (true, false), (true, false)] (by kernel_rfl) (by kernel_rfl) rfl ?_
      refine ARH.dry (r := G.api_Hist.av h_0) rfl (fun _ => aop_load_pp rfl rfl sz24 rfl) <| ARH.dry rfl (fun _ => aop_move (.inl rfl) rfl) <| ARH.dry rfl (fun _ => aop_move (.inl rfl) rfl) <| ARH.keep [1, 2, 3, 4, 9, 32, 33, 34] rfl <| ARH.dry rfl (fun _ => aop_move (.inl rfl) rfl) <| ARH.dry rfl (fun _ => aop_move (.inl rfl) rfl) ?_
      obtain ⟨x166, hx166, h⟩ := Sh.bind_some' h
      obtain ⟨k167, hi167, hl167⟩ := Sh.idx_some hx166
      refine ARH.dry rfl (fun _ => t_index_sl i64 row_3 hi167 hl167 rfl rfl rfl el36 rfl) <| ARH.keep [1, 2, 3, 4, 9, 32, 33, 34, 37] rfl <| ARH.dry (r := i64 x166) rfl (fun _ => aop_load_pp rfl rfl sz3 rfl) <| ARH.dry rfl (fun _ => aop_move (.inl rfl) rfl) <| ARH.dry rfl (fun _ => aop_move (.inl rfl) rfl) <| ARH.keep [1, 2, 3, 4, 9, 32, 33, 34, 38, 39, 40] rfl <| ARH.dry rfl (fun _ => aop_add rfl rfl rfl rfl) <| ARH.dry rfl (fun _ => aop_move (.inl rfl) rfl) ?_
      refine ARH.dry rfl (fun _ => t_len_sl i64 row_3 rfl rfl el36) <| ARH.keep [1, 2, 3, 4, 9, 32, 33, 34, 38, 39, 41, 43] rfl ?_
      obtain ⟨q168, hq168, h⟩ := Sh.bind_some' h
      refine ARH.dry (r := i64 q168) rfl (fun _ => aop_rem rfl rfl rfl (Sh.rem_some hq168).1 (Sh.rem_some hq168).2) ?_
      obtain ⟨x169, hx169, h⟩ := Sh.bind_some' h
      obtain ⟨k170, hi170, hl170⟩ := Sh.idx_some hx169
      refine ARH.dry rfl (fun _ => t_index_sl i64 row_3 hi170 hl170 rfl rfl rfl el36 rfl) <| ARH.dry (r := i64 x169) rfl (fun _ => aop_load_pp rfl rfl sz3 rfl) <| ARH.keep [1, 2, 3, 4, 9, 32, 33, 34, 38, 46] rfl ?_
      obtain ⟨r171, hr171, h⟩ := Sh.bind_some' h
      refine ARH.dry (r := bl r171) rfl (fun _ => aop_call1 rfl rfl (by simp) (inquestref19_Is_ok hT hr171)) <| ARH.dry rfl (fun _ => aop_move (.inr rfl) rfl) <| ARH.nil <| hK8 _ (AWP.weak (Weak.kt [1, 2, 3, 4, 9, 11] rfl) ?_)
      refine awp_seqK fun K9 hK9 => awp_reg rfl <| AR.op rfl (aop_move (.inl rfl) rfl) <| AR.op (r := bl (!r171)) rfl (aop_not rfl rfl) <| AR.nil <| hK9 _ (AWP.weak (Weak.kt [1, 2, 3, 4, 9, 49] rfl) ?_)
      refine awp_cond rfl (fun hb172 => ?_) (fun hb172 => ?_)
      ·replace h := Sh.if_t h hb172
       refine awp_seqK fun K10 hK10 => awp_reg rfl <| AR.op rfl (aop_move (.inr rfl) rfl) <| AR.nil <| hK10 _ (AWP.weak (Weak.kt [8] rfl) ?_)
       refine awp_ret ?_
       replace h := Sh.exit_eq h hx1
       obtain rfl := Option.some.inj h
       refine ⟨.inr rfl, bl false, rfl, ?_⟩
       exact Weak.e ⟨.k, trivial⟩
      ·replace h := Sh.if_f h hb172
       refine awp_skip ?_
       exact hK7 () _ h (Weak.kt [1, 2, 3, 4, 9] rfl)
     ·intro K11 hK11
      refine awp_seqK fun K12 hK12 => awp_reg rfl <| AR.op rfl (aop_move (.inr rfl) rfl) <| AR.nil <| hK12 _ ?_
      refine awp_block <| awp_iter (fun (p : Int) => G.inquestref19_Cycle_b2 h_0 level_1 l_2 row_3 i124 p) (fun (p : Int) => (⟨[(1, i64 level_1), (2, .sl (List.map G.api_Choice.av l_2)), (3, .sl (List.map i64 row_3)), (4, .pp [.sl (List.map G.api_Txn.av h_0.Txns)] 0), (9, i64 i124), (10, i64 p)], .empty⟩ : St)) h (Weak.kt [1, 2, 3, 4, 9, 10] rfl) ?_
      ·skip
       rintro k182 o2 h hx2
       replace h : G.inquestref19_Cycle_b2 h_0 level_1 l_2 row_3 i124 k182 = some o2 := h
       unfold G.inquestref19_Cycle_b2 at h
       refine awp_seqK fun K13 hK13 => awp_seqK fun K14 hK14 => awp_reg rfl <| AR.op rfl (aop_move (.inl rfl) rfl) <| AR.op rfl (aop_move (.inl rfl) rfl) <| AR.op rfl (aop_lss rfl rfl rfl) <| AR.nil <| hK14 _ (AWP.weak (Weak.kt [1, 2, 3, 4, 9, 10, 20] rfl) ?_)
       refine awp_cond rfl (fun hb183 => ?_) (fun hb183 => ?_)
       ·replace h := Sh.if_t h hb183
        refine awp_skip <| hK13 _ (AWP.weak (Weak.kt [1, 2, 3, 4, 9, 10] rfl) ?_)
        refine awp_seqK fun K15 hK15 => awp_block <| awp_seqK fun K16 hK16 => awp_any [(true, false), (true, false), (true, false), (true, false), (true, false), (true, false), (true, false), (true, false), (true, false)] (by kernel_rfl) (by kernel_rfl) rfl ?_
        refine ARH.dry rfl (fun _ => aop_move (.inl rfl) rfl) <| ARH.dry rfl (fun _ => aop_move (.inl rfl) rfl) ?_
        obtain ⟨x192, hx192, h⟩ := Sh.bind_some' h
        obtain ⟨k193, hi193, hl193⟩ := Sh.idx_some hx192
        refine ARH.dry rfl (fun _ => t_index_sl i64 row_3 hi193 hl193 rfl rfl rfl el36 rfl) <| ARH.keep [1, 2, 3, 4, 9, 10, 25] rfl <| ARH.dry (r := i64 x192) rfl (fun _ => aop_load_pp rfl rfl sz3 rfl) <| ARH.dry rfl (fun _ => aop_move (.inl rfl) rfl) <| ARH.dry rfl (fun _ => aop_move (.inl rfl) rfl) <| ARH.keep [1, 2, 3, 4, 9, 10, 26, 27, 28] rfl ?_
        obtain ⟨x194, hx194, h⟩ := Sh.bind_some' h
        obtain ⟨k195, hi195, hl195⟩ := Sh.idx_some hx194
        refine ARH.dry rfl (fun _ => t_index_sl i64 row_3 hi195 hl195 rfl rfl rfl el36 rfl) <| ARH.dry (r := i64 x194) rfl (fun _ => aop_load_pp rfl rfl sz3 rfl) <| ARH.dry (r := bl (decide (x192 = x194))) rfl (fun _ => aop_eql rfl rfl rfl) <| ARH.nil <| hK16 _ (AWP.weak (Weak.kt [1, 2, 3, 4, 9, 10, 31] rfl) ?_)
        refine awp_cond rfl (fun hb196 => ?_) (fun hb196 => ?_)
        ·replace h := Sh.if_t h hb196
         refine awp_seqK fun K17 hK17 => awp_reg rfl <| AR.op rfl (aop_move (.inr rfl) rfl) <| AR.nil <| hK17 _ (AWP.weak (Weak.kt [8] rfl) ?_)
         refine awp_ret ?_
         replace h := Sh.exit_eq h hx2
         replace h := Sh.exit_eq h hx1
         obtain rfl := Option.some.inj h
         refine ⟨.inr rfl, bl false, rfl, ?_⟩
         exact Weak.e ⟨.k, trivial⟩
        ·replace h := Sh.if_f h hb196
         refine awp_skip <| hK15 _ (AWP.weak (Weak.kt [1, 2, 3, 4, 9, 10] rfl) ?_)
         refine awp_reg rfl <| AR.op rfl (aop_move (.inl rfl) rfl) <| AR.op rfl (aop_add rfl rfl rfl rfl) <| AR.op rfl (aop_move (.inr rfl) rfl) <| AR.nil ?_
         replace h := Sh.next_eq h
         exact ⟨_, h, Weak.kt [1, 2, 3, 4, 9, 10] rfl⟩
       ·replace h := Sh.if_f h hb183
        refine awp_exit ?_
        replace h := Sh.exit_eq h hx2
        exact hK11 () _ h (Weak.kt [1, 2, 3, 4, 9] rfl)
   ·replace h := Sh.if_f h hb125
    refine awp_exit ?_
    replace h := Sh.exit_eq h hx1
    exact hK3 () _ h (Weak.kt [3] rfl)
theorem inquestref19_Cycle_ok {W0 : World} (hT : Tab W0) {h_0 : G.api_Hist} {level_1 : Int} {l_2 : List G.api_Choice} {row_3 : List Int} {r : Bool} (h : G.inquestref19_Cycle h_0 level_1 l_2 row_3 = some r) : Fun1 Try.prog W0 47 [G.api_Hist.av h_0, i64 level_1, .sl (List.map G.api_Choice.av l_2), .sl (List.map i64 row_3)] (bl r) := Fun1.two (inquestref19_Cycle_ok0 hT h) (by simp)

end Wk
