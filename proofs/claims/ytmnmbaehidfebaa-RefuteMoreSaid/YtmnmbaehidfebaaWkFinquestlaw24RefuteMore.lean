/- That a statement does what its plain function says. -/
import Derived.Test.YtmnmbaehidfebaaWkFinquestlaw24
open Go Go.Av Go.Proofs
set_option linter.unusedVariables false
set_option maxHeartbeats 8000000
set_option maxRecDepth 20000
namespace Wk
theorem inquestlaw24_RefuteMore_ok0 {W0 : World} (hT : Tab W0) {x_0 : G.inquestlaw24_Case} {c_1 : G.api_Choice} {r : Bool} (h : G.inquestlaw24_RefuteMore x_0 c_1 = some r) : Fun2 Try.prog W0 5 [G.inquestlaw24_Case.av x_0, G.api_Choice.av c_1] (bl r) .empty := by
 refine fun2_of_awp Try.func5 rfl (by kernel_rfl) Try.ntmps5 (by simp) ?_
 unfold G.inquestlaw24_RefuteMore at h
 show AWP _ _ _ _ ⟨[(0, G.inquestlaw24_Case.av x_0), (1, G.api_Choice.av c_1)], .empty⟩ _
 refine awp_seqK fun K1 hK1 => awp_reg rfl <| AR.op (r := .ref 0 0 0) rfl (aop_box 4 [G.inquestlaw24_Case.av x_0] rfl rfl rfl (.inl ⟨rfl, rfl⟩)) <| AR.op (r := .ref 1 0 0) rfl (aop_box 3 [G.api_Choice.av c_1] rfl rfl rfl (.inl ⟨rfl, rfl⟩)) <| AR.op rfl (aop_move (.inr rfl) rfl) <| AR.nil <| hK1 _ (AWP.weak (Weak.e (fr' := [(2, .pp [.sl (List.map G.api_Txn.av x_0.H.Txns), i64 x_0.Level, .sl (List.map G.api_Choice.av x_0.L), .sl (List.map G.refute_Node.av x_0.Tree)] 0), (3, .pp [i64 c_1.Key, i64 c_1.A, i64 c_1.B] 0)]) (H' := .empty) ⟨⟨_, rfl, .frzA rfl rfl rfl rfl (by simp)⟩, ⟨_, rfl, .frzA rfl rfl rfl rfl (by simp)⟩, trivial⟩) ?_)
 refine awp_seqK fun K2 hK2 => awp_reg rfl ?_
 obtain ⟨r72, hr72, h⟩ := Sh.bind_some' h
 refine AR.op (r := bl r72) rfl (aop_call1 rfl rfl (by simp) (inquestlaw24_awake_ok hT hr72)) <| AR.op rfl (aop_move (.inr rfl) rfl) <| AR.nil <| hK2 _ (AWP.weak (Weak.kt [2, 3, 5] rfl) ?_)
 refine awp_seqK fun K3 hK3 => awp_seqK fun K4 hK4 => awp_reg rfl <| AR.op rfl (aop_move (.inl rfl) rfl) <| AR.op (r := bl (!r72)) rfl (aop_not rfl rfl) <| AR.nil <| hK4 _ (AWP.weak (Weak.kt [2, 3, 18] rfl) ?_)
 refine awp_cond rfl (fun hb73 => ?_) (fun hb73 => ?_)
 ·replace h := Sh.if_t h hb73
  refine awp_seqK fun K5 hK5 => awp_reg rfl <| AR.op rfl (aop_move (.inr rfl) rfl) <| AR.nil <| hK5 _ (AWP.weak (Weak.kt [4] rfl) ?_)
  refine awp_ret ?_
  obtain rfl := Option.some.inj h
  refine ⟨.inr rfl, bl false, rfl, ?_⟩
  exact Weak.e ⟨.k, trivial⟩
 ·replace h := Sh.if_f h hb73
  refine awp_skip <| hK3 _ (AWP.weak (Weak.kt [2, 3] rfl) ?_)
  refine awp_seqK fun K6 hK6 => awp_reg rfl <| AR.op (r := G.inquestlaw24_Case.av x_0) rfl (aop_load_pp rfl rfl sz28 rfl) ?_
  obtain ⟨r75, hr75, h⟩ := Sh.bind_some' h
  refine AR.op (r := bl r75) rfl (aop_call1 rfl rfl (by simp) (inquestlaw24_few_ok hT hr75)) <| AR.op rfl (aop_move (.inr rfl) rfl) <| AR.nil <| hK6 _ (AWP.weak (Weak.kt [2, 3, 6] rfl) ?_)
  refine awp_seqK fun K7 hK7 => awp_seqK fun K8 hK8 => awp_reg rfl <| AR.op rfl (aop_move (.inl rfl) rfl) <| AR.op (r := bl (!r75)) rfl (aop_not rfl rfl) <| AR.nil <| hK8 _ (AWP.weak (Weak.kt [2, 3, 22] rfl) ?_)
  refine awp_cond rfl (fun hb76 => ?_) (fun hb76 => ?_)
  ·replace h := Sh.if_t h hb76
   refine awp_seqK fun K9 hK9 => awp_reg rfl <| AR.op rfl (aop_move (.inr rfl) rfl) <| AR.nil <| hK9 _ (AWP.weak (Weak.kt [4] rfl) ?_)
   refine awp_ret ?_
   obtain rfl := Option.some.inj h
   refine ⟨.inr rfl, bl true, rfl, ?_⟩
   exact Weak.e ⟨.k, trivial⟩
  ·replace h := Sh.if_f h hb76
   refine awp_skip <| hK7 _ (AWP.weak (Weak.kt [2, 3] rfl) ?_)
   refine awp_seqK fun K10 hK10 => awp_reg rfl <| AR.op rfl (aop_move (.inr rfl) rfl) <| AR.nil <| hK10 _ ?_
   refine awp_seqK fun K11 hK11 => awp_reg rfl <| AR.op rfl (aop_move (.inl rfl) rfl) <| AR.op (r := G.api_Choice.av c_1) rfl (aop_load_pp rfl rfl sz42 rfl) <| AR.op (r := .clip (List.map G.api_Choice.av ([c_1] : List G.api_Choice))) rfl (aop_buildSlice rfl (xo := [.tmp 24]) rfl rfl rfl (by simp) (by simp) el25 ze25 (by decide)) <| AR.keep [2, 23, 25] rfl ?_
   obtain ⟨more78, hmore78, h⟩ := Sh.bind_some' h
   refine AR.op (r := .view 0 0 (List.map G.api_Choice.av more78).length) rfl (t_app_nil G.api_Choice.av ([c_1] : List G.api_Choice) more78 hmore78 et25 (fun _ => rfl) rfl rfl rfl rfl rfl) <| AR.op rfl (aop_move (.inr rfl) rfl) <| AR.nil <| hK11 _ (AWP.weak (Weak.kt [2, 7] rfl) ?_)
   refine awp_seqK fun K12 hK12 => awp_reg rfl <| AR.op rfl (aop_move (.inl rfl) rfl) <| AR.op rfl (aop_field_pp rfl rfl fd28_2 (by decide)) <| AR.op (r := .sl (List.map G.api_Choice.av x_0.L)) rfl (aop_load_pp rfl rfl sz25 rfl) <| AR.keep [2, 27, 29] rfl ?_
   obtain ⟨more80, hmore80, h⟩ := Sh.bind_some' h
   refine AR.op (r := .view 1 0 (List.map G.api_Choice.av more80).length) rfl (t_app_view G.api_Choice.av more78 x_0.L more80 hmore80 rfl et25 (fun _ => rfl) rfl rfl rfl rfl rfl rfl rfl) <| AR.op rfl (aop_move (.inr rfl) rfl) <| AR.nil <| hK12 _ (AWP.weak (Weak.e (fr' := [(2, .pp [.sl (List.map G.api_Txn.av x_0.H.Txns), i64 x_0.Level, .sl (List.map G.api_Choice.av x_0.L), .sl (List.map G.refute_Node.av x_0.Tree)] 0), (7, .sl (List.map G.api_Choice.av more80))]) (H' := .empty) ⟨.k, ⟨_, rfl, .lendAll rfl rfl (by simp)⟩, trivial⟩) ?_)
   refine awp_seqK fun K13 hK13 => awp_reg rfl <| AR.op rfl (aop_field_pp rfl rfl fd28_0 (by decide)) <| AR.op (r := G.api_Hist.av x_0.H) rfl (aop_load_pp rfl rfl sz24 rfl) <| AR.op rfl (aop_field_pp rfl rfl fd28_1 (by decide)) <| AR.keep [2, 7, 32, 33] rfl <| AR.op (r := i64 x_0.Level) rfl (aop_load_pp rfl rfl sz3 rfl) <| AR.op rfl (aop_field_pp rfl rfl fd28_2 (by decide)) ?_
   refine AR.op (r := .sl (List.map G.api_Choice.av x_0.L)) rfl (aop_load_pp rfl rfl sz25 rfl) <| AR.keep [2, 7, 32, 34, 36] rfl <| AR.op rfl (aop_field_pp rfl rfl fd28_3 (by decide)) <| AR.op (r := .sl (List.map G.refute_Node.av x_0.Tree)) rfl (aop_load_pp rfl rfl sz26 rfl) ?_
   obtain ⟨r82, hr82, h⟩ := Sh.bind_some' h
   refine AR.op (r := bl r82) rfl (aop_call1 rfl rfl (by simp) (refute_Check_ok hT hr82)) <| AR.keep [2, 7, 39] rfl <| AR.op rfl (aop_move (.inr rfl) rfl) <| AR.nil <| hK13 _ (AWP.weak (Weak.kt [2, 7, 8] rfl) ?_)
   refine awp_seqK fun K14 hK14 => awp_seqJ (fun (p : Bool × Bool) => (⟨[(2, .pp [.sl (List.map G.api_Txn.av x_0.H.Txns), i64 x_0.Level, .sl (List.map G.api_Choice.av x_0.L), .sl (List.map G.refute_Node.av x_0.Tree)] 0), (8, bl p.1), (51, bl p.2)], .empty⟩ : St)) (fun (p : Bool × Bool) => G.inquestlaw24_RefuteMore_j1 x_0 p.1 p.2 = some r) ?_ ?_
   ·rintro ⟨holds89, v90⟩ h
    replace h : G.inquestlaw24_RefuteMore_j1 x_0 holds89 v90 = some r := h
    unfold G.inquestlaw24_RefuteMore_j1 at h
    refine awp_cond rfl (fun hb91 => ?_) (fun hb91 => ?_)
    ·replace h := Sh.if_t h hb91
     refine awp_seqK fun K15 hK15 => awp_reg rfl <| AR.op rfl (aop_move (.inr rfl) rfl) <| AR.nil <| hK15 _ (AWP.weak (Weak.kt [4] rfl) ?_)
     refine awp_ret ?_
     obtain rfl := Option.some.inj h
     refine ⟨.inr rfl, bl false, rfl, ?_⟩
     exact Weak.e ⟨.k, trivial⟩
    ·replace h := Sh.if_f h hb91
     refine awp_skip <| hK14 _ (AWP.weak (Weak.kt [2, 8] rfl) ?_)
     refine awp_seqK fun K16 hK16 => awp_reg rfl <| AR.op rfl (aop_field_pp rfl rfl fd28_3 (by decide)) <| AR.op (r := .sl (List.map G.refute_Node.av x_0.Tree)) rfl (aop_load_pp rfl rfl sz26 rfl) ?_
     obtain ⟨r93, hr93, h⟩ := Sh.bind_some' h
     refine AR.op (r := .tuple [i64 r93.1, i64 r93.2.1, bl r93.2.2]) rfl (aop_call1 rfl rfl (by simp) (refute_Shape_ok hT hr93)) <| AR.keep [2, 8, 55] rfl <| AR.op rfl (aop_move (.inl rfl) rfl) <| AR.op (r := i64 r93.1) rfl (aop_extract rfl rfl rfl) <| AR.op (r := i64 r93.2.1) rfl (aop_extract rfl rfl rfl) <| AR.keep [2, 8, 52, 56, 57] rfl <| AR.op (r := bl r93.2.2) rfl (aop_extract rfl rfl rfl) <| AR.op rfl (aop_move (.inr rfl) rfl) ?_
     refine AR.op rfl (aop_move (.inr rfl) rfl) <| AR.keep [2, 8, 58] rfl <| AR.op rfl (aop_move (.inr rfl) rfl) <| AR.nil <| hK16 _ (AWP.weak (Weak.kt [2, 8, 11] rfl) ?_)
     refine awp_seqJ (fun (p : Bool) => (⟨[(8, bl holds89), (11, bl p)], .empty⟩ : St)) (fun (p : Bool) => G.inquestlaw24_RefuteMore_j2 holds89 p = some r) ?_ ?_
     ·rintro is152 h
      replace h : G.inquestlaw24_RefuteMore_j2 holds89 is152 = some r := h
      unfold G.inquestlaw24_RefuteMore_j2 at h
      refine awp_seqK fun K17 hK17 => awp_reg rfl <| AR.op rfl (aop_move (.inl rfl) rfl) <| AR.op rfl (aop_move (.inl rfl) rfl) ?_
      rcases Bool.eq_false_or_eq_true (is152) with hb154 | hb154
      ·rw [hb154]
       replace h := Sh.if_t h hb154
       refine AR.skip rfl <| AR.keep [107, 108] rfl <| AR.skip rfl <| AR.op rfl (aop_pick rfl rfl rfl) <| AR.op rfl (aop_move (.inr rfl) rfl) <| AR.nil <| hK17 _ (AWP.weak (Weak.kt [4] rfl) ?_)
       refine awp_ret ?_
       obtain rfl := Option.some.inj h
       refine ⟨.inr rfl, bl true, rfl, ?_⟩
       exact Weak.e ⟨.k, trivial⟩
      ·rw [hb154]
       replace h := Sh.if_f h hb154
       refine AR.op rfl (aop_move (.inl rfl) rfl) <| AR.keep [107, 108] rfl <| AR.op (r := bl (!holds89)) rfl (aop_not rfl rfl) <| AR.op rfl (aop_pick rfl rfl rfl) <| AR.op rfl (aop_move (.inr rfl) rfl) <| AR.nil <| hK17 _ (AWP.weak (Weak.kt [4] rfl) ?_)
       refine awp_ret ?_
       obtain rfl := Option.some.inj h
       refine ⟨.inr rfl, bl (!holds89), rfl, ?_⟩
       exact Weak.e ⟨.k, trivial⟩
     ·intro K18 hK18
      refine awp_seqK fun K19 hK19 => awp_reg rfl <| AR.op rfl (aop_move (.inr rfl) rfl) <| AR.nil <| hK19 _ ?_
      refine awp_block <| awp_iter (fun (p : Bool × Int) => G.inquestlaw24_RefuteMore_b1 x_0 holds89 p.1 p.2) (fun (p : Bool × Int) => (⟨[(2, .pp [.sl (List.map G.api_Txn.av x_0.H.Txns), i64 x_0.Level, .sl (List.map G.api_Choice.av x_0.L), .sl (List.map G.refute_Node.av x_0.Tree)] 0), (8, bl holds89), (11, bl p.1), (12, i64 p.2)], .empty⟩ : St)) h (Weak.kt [2, 8, 11, 12] rfl) ?_
      ·skip
       rintro ⟨is193, i194⟩ o1 h hx1
       replace h : G.inquestlaw24_RefuteMore_b1 x_0 holds89 is193 i194 = some o1 := h
       unfold G.inquestlaw24_RefuteMore_b1 at h
       refine awp_seqK fun K20 hK20 => awp_seqK fun K21 hK21 => awp_reg rfl <| AR.op rfl (aop_move (.inl rfl) rfl) <| AR.op rfl (aop_field_pp rfl rfl fd28_3 (by decide)) <| AR.op (r := .sl (List.map G.refute_Node.av x_0.Tree)) rfl (aop_load_pp rfl rfl sz26 rfl) <| AR.keep [2, 8, 11, 12, 59, 61] rfl <| AR.op rfl (t_len_sl G.refute_Node.av x_0.Tree rfl rfl el26) ?_
       refine AR.op rfl (aop_lss rfl rfl rfl) <| AR.nil <| hK21 _ (AWP.weak (Weak.kt [2, 8, 11, 12, 63] rfl) ?_)
       refine awp_cond rfl (fun hb195 => ?_) (fun hb195 => ?_)
       ·replace h := Sh.if_t h hb195
        refine awp_skip <| hK20 _ (AWP.weak (Weak.kt [2, 8, 11, 12] rfl) ?_)
        refine awp_seqK fun K22 hK22 => awp_block <| awp_seqK fun K23 hK23 => awp_reg rfl <| AR.op rfl (aop_field_pp rfl rfl fd28_3 (by decide)) <| AR.op (r := .sl (List.map G.refute_Node.av x_0.Tree)) rfl (aop_load_pp rfl rfl sz26 rfl) <| AR.op rfl (aop_move (.inl rfl) rfl) <| AR.keep [2, 8, 11, 12, 68, 69] rfl ?_
        obtain ⟨part216, hpart216, h⟩ := Sh.bind_some' h
        refine AR.op (r := .sl (List.map G.refute_Node.av part216)) rfl (t_sub G.refute_Node.av x_0.Tree part216 hpart216 (fun _ => rfl) rfl rfl (.inl rfl) (.inl ⟨rfl, rfl⟩) (.inr ⟨_, _, rfl, rfl⟩) el26) ?_
        obtain ⟨r217, hr217, h⟩ := Sh.bind_some' h
        refine AR.op (r := .tuple [i64 r217.1, i64 r217.2.1, bl r217.2.2]) rfl (aop_call1 rfl rfl (by simp) (refute_Shape_ok hT hr217)) <| AR.op rfl (aop_move (.inl rfl) rfl) <| AR.keep [2, 8, 11, 12, 66] rfl <| AR.op (r := i64 r217.1) rfl (aop_extract rfl rfl rfl) <| AR.op (r := i64 r217.2.1) rfl (aop_extract rfl rfl rfl) <| AR.op (r := bl r217.2.2) rfl (aop_extract rfl rfl rfl) <| AR.keep [2, 8, 11, 12, 72, 73, 74] rfl <| AR.op rfl (aop_move (.inr rfl) rfl) ?_
        refine AR.op rfl (aop_move (.inr rfl) rfl) <| AR.op rfl (aop_move (.inr rfl) rfl) <| AR.nil <| hK23 _ (AWP.weak (Weak.kt [2, 8, 11, 12, 13, 14, 15] rfl) ?_)
        refine awp_seqJ (fun (p : Bool × Bool) => (⟨[(2, .pp [.sl (List.map G.api_Txn.av x_0.H.Txns), i64 x_0.Level, .sl (List.map G.api_Choice.av x_0.L), .sl (List.map G.refute_Node.av x_0.Tree)] 0), (8, bl holds89), (11, bl p.1), (12, i64 i194), (105, bl p.2)], .empty⟩ : St)) (fun (p : Bool × Bool) => G.inquestlaw24_RefuteMore_j3 i194 p.1 p.2 = some o1) ?_ ?_
        ·rintro ⟨is232, v233⟩ h
         replace h : G.inquestlaw24_RefuteMore_j3 i194 is232 v233 = some o1 := h
         unfold G.inquestlaw24_RefuteMore_j3 at h
         refine awp_cond rfl (fun hb234 => ?_) (fun hb234 => ?_)
         ·replace h := Sh.if_t h hb234
          refine awp_seqK fun K24 hK24 => awp_reg rfl <| AR.op rfl (aop_move (.inr rfl) rfl) <| AR.nil <| hK24 _ (AWP.weak (Weak.kt [4] rfl) ?_)
          refine awp_ret ?_
          replace h := Sh.exit_eq h hx1
          obtain rfl := Option.some.inj h
          refine ⟨.inr rfl, bl false, rfl, ?_⟩
          exact Weak.e ⟨.k, trivial⟩
         ·replace h := Sh.if_f h hb234
          refine awp_skip <| hK22 _ (AWP.weak (Weak.kt [2, 8, 11, 12] rfl) ?_)
          refine awp_reg rfl <| AR.op rfl (aop_move (.inl rfl) rfl) <| AR.op rfl (aop_add rfl rfl rfl rfl) <| AR.op rfl (aop_move (.inr rfl) rfl) <| AR.nil ?_
          replace h := Sh.next_eq h
          exact ⟨_, h, Weak.kt [2, 8, 11, 12] rfl⟩
        ·intro K25 hK25
         refine awp_any [(true, false), (true, false), (true, false), (true, false), (true, false), (true, false), (true, false), (true, false), (true, false), (true, false), (true, false), (true, false), (true, false), (true, false), (true, false), (true, false), (true, false), (true, false), (true, false), (true, false), (true, false), (true, false), (true, false), (true, false), (true, false), (true, false), (true, false), (true, false), (true, false), (true, false), (true, false)] (by kernel_rfl) (by kernel_rfl) rfl ?_
         refine ARH.dry rfl (fun _ => aop_move (.inl rfl) rfl) <| ARH.dry rfl (fun _ => aop_move (.inl rfl) rfl) ?_
         rcases Bool.eq_false_or_eq_true (is193) with hb235 | hb235
         ·rw [hb235]
          replace h := Sh.if_t h hb235
          refine ARH.dry rfl (fun _ => aop_move (.inl rfl) rfl) <| ARH.keep [2, 8, 11, 12, 13, 14, 15, 76, 77] rfl <| ARH.dry rfl (fun _ => aop_pick rfl rfl rfl) <| ARH.dry rfl (fun _ => aop_move (.inl rfl) rfl) ?_
          rcases Bool.eq_false_or_eq_true (r217.2.2) with hb236 | hb236
          ·rw [hb236]
           replace h := Sh.if_t h hb236
           refine ARH.skip rfl <| ARH.keep [2, 8, 11, 12, 13, 14, 15, 77, 79, 80] rfl <| ARH.skip rfl <| ARH.skip rfl <| ARH.skip rfl <| ARH.keep [2, 8, 11, 12, 14, 15, 77, 79, 80, 81, 82, 83] rfl <| ARH.skip rfl <| ARH.skip rfl ?_
           refine ARH.skip rfl <| ARH.keep [2, 8, 11, 12, 15, 77, 79, 80, 81, 82, 83, 84, 85, 86] rfl <| ARH.skip rfl <| ARH.dry rfl (fun _ => aop_pick rfl rfl rfl) <| ARH.dry rfl (fun _ => aop_move (.inl rfl) rfl) <| ARH.keep [2, 8, 11, 12, 15, 77, 80, 81, 82, 83, 84, 85, 86, 87, 89] rfl <| ARH.skip rfl <| ARH.skip rfl ?_
           refine ARH.skip rfl <| ARH.keep [2, 8, 11, 12, 15, 77, 80, 81, 82, 83, 84, 85, 86, 87, 89, 90, 91, 92] rfl <| ARH.skip rfl <| ARH.skip rfl <| ARH.skip rfl <| ARH.keep [2, 8, 11, 12, 15, 77, 80, 81, 82, 83, 84, 85, 86, 87, 89, 90, 91, 92, 93, 94, 95] rfl <| ARH.skip rfl <| ARH.skip rfl ?_
           refine ARH.skip rfl <| ARH.keep [2, 8, 11, 12, 15, 77, 80, 81, 82, 83, 84, 85, 86, 87, 89, 90, 91, 92, 93, 94, 95, 96, 97, 98] rfl <| ARH.skip rfl <| ARH.skip rfl <| ARH.skip rfl <| ARH.keep [2, 8, 11, 12, 15, 77, 80, 81, 82, 83, 84, 85, 86, 87, 89, 90, 91, 92, 93, 94, 95, 96, 97, 98, 99, 100, 101] rfl <| ARH.skip rfl <| ARH.skip rfl ?_
           refine ARH.skip rfl <| ARH.keep [2, 8, 11, 12, 77, 80, 81, 82, 83, 84, 85, 86, 87, 89, 90, 91, 92, 93, 94, 95, 96, 97, 98, 99, 100, 101, 102, 103, 104] rfl <| ARH.dry rfl (fun _ => aop_pick rfl rfl rfl) <| ARH.nil ?_
           exact hK25 (true, true) _ h (Weak.kt [2, 8, 11, 12, 105] rfl)
          ·rw [hb236]
           replace h := Sh.if_f h hb236
           refine ARH.dry rfl (fun _ => aop_move (.inl rfl) rfl) <| ARH.keep [2, 8, 11, 12, 13, 14, 15, 77, 79, 80] rfl <| ARH.dry (r := bl true) rfl (fun _ => aop_not (b := false) rfl rfl) <| ARH.dry rfl (fun _ => aop_move (.inl rfl) rfl) <| ARH.dry rfl (fun _ => aop_move (.inl rfl) rfl) <| ARH.keep [2, 8, 11, 12, 14, 15, 77, 79, 80, 81, 82, 83] rfl <| ARH.dry rfl (fun _ => aop_move (.inl rfl) rfl) <| ARH.dry rfl (fun _ => aop_add rfl rfl rfl rfl) ?_
           refine ARH.dry (r := bl (decide ((w64 (r217.1 + r217.2.1)) ≠ 0))) rfl (fun _ => aop_neq rfl rfl rfl) <| ARH.keep [2, 8, 11, 12, 15, 77, 79, 80, 81, 82, 83, 84, 85, 86] rfl <| ARH.dry rfl (fun _ => aop_pick rfl rfl rfl) <| ARH.dry rfl (fun _ => aop_pick rfl rfl rfl) <| ARH.dry rfl (fun _ => aop_move (.inl rfl) rfl) <| ARH.keep [2, 8, 11, 12, 15, 77, 80, 81, 82, 83, 84, 85, 86, 87, 89] rfl ?_
           rcases Bool.eq_false_or_eq_true (decide ((w64 (r217.1 + r217.2.1)) ≠ 0)) with hb237 | hb237
           ·rw [hb237]
            replace h := Sh.if_t h hb237
            refine ARH.skip rfl <| ARH.skip rfl <| ARH.skip rfl <| ARH.keep [2, 8, 11, 12, 15, 77, 80, 81, 82, 83, 84, 85, 86, 87, 89, 90, 91, 92] rfl <| ARH.skip rfl <| ARH.skip rfl <| ARH.skip rfl <| ARH.keep [2, 8, 11, 12, 15, 77, 80, 81, 82, 83, 84, 85, 86, 87, 89, 90, 91, 92, 93, 94, 95] rfl ?_
            refine ARH.skip rfl <| ARH.skip rfl <| ARH.skip rfl <| ARH.keep [2, 8, 11, 12, 15, 77, 80, 81, 82, 83, 84, 85, 86, 87, 89, 90, 91, 92, 93, 94, 95, 96, 97, 98] rfl <| ARH.skip rfl <| ARH.skip rfl <| ARH.skip rfl <| ARH.keep [2, 8, 11, 12, 15, 77, 80, 81, 82, 83, 84, 85, 86, 87, 89, 90, 91, 92, 93, 94, 95, 96, 97, 98, 99, 100, 101] rfl ?_
            refine ARH.skip rfl <| ARH.skip rfl <| ARH.skip rfl <| ARH.keep [2, 8, 11, 12, 77, 80, 81, 82, 83, 84, 85, 86, 87, 89, 90, 91, 92, 93, 94, 95, 96, 97, 98, 99, 100, 101, 102, 103, 104] rfl <| ARH.dry rfl (fun _ => aop_pick rfl rfl rfl) <| ARH.nil ?_
            exact hK25 (true, true) _ h (Weak.kt [2, 8, 11, 12, 105] rfl)
           ·rw [hb237]
            replace h := Sh.if_f h hb237
            refine ARH.dry rfl (fun _ => aop_field_pp rfl rfl fd28_0 (by decide)) <| ARH.dry (r := G.api_Hist.av x_0.H) rfl (fun _ => aop_load_pp rfl rfl sz24 rfl) <| ARH.dry rfl (fun _ => aop_field_pp rfl rfl fd28_1 (by decide)) <| ARH.keep [2, 8, 11, 12, 15, 77, 80, 81, 82, 83, 84, 85, 86, 87, 89, 90, 91, 92] rfl <| ARH.dry (r := i64 x_0.Level) rfl (fun _ => aop_load_pp rfl rfl sz3 rfl) <| ARH.dry rfl (fun _ => aop_field_pp rfl rfl fd28_2 (by decide)) <| ARH.dry (r := .sl (List.map G.api_Choice.av x_0.L)) rfl (fun _ => aop_load_pp rfl rfl sz25 rfl) <| ARH.keep [2, 8, 11, 12, 15, 77, 80, 81, 82, 83, 84, 85, 86, 87, 89, 90, 91, 92, 93, 94, 95] rfl ?_
            refine ARH.dry rfl (fun _ => aop_field_pp rfl rfl fd28_3 (by decide)) <| ARH.dry (r := .sl (List.map G.refute_Node.av x_0.Tree)) rfl (fun _ => aop_load_pp rfl rfl sz26 rfl) <| ARH.dry rfl (fun _ => aop_move (.inl rfl) rfl) <| ARH.keep [2, 8, 11, 12, 15, 77, 80, 81, 82, 83, 84, 85, 86, 87, 89, 90, 91, 92, 93, 94, 95, 96, 97, 98] rfl ?_
            obtain ⟨part238, hpart238, h⟩ := Sh.bind_some' h
            refine ARH.dry (r := .sl (List.map G.refute_Node.av part238)) rfl (fun _ => t_sub G.refute_Node.av x_0.Tree part238 hpart238 (fun _ => rfl) rfl rfl (.inl rfl) (.inl ⟨rfl, rfl⟩) (.inr ⟨_, _, rfl, rfl⟩) el26) ?_
            obtain ⟨r239, hr239, h⟩ := Sh.bind_some' h
            refine ARH.dry (r := bl r239) rfl (fun _ => aop_call1 rfl rfl (by simp) (refute_Check_ok hT hr239)) <| ARH.dry rfl (fun _ => aop_move (.inl rfl) rfl) <| ARH.keep [2, 8, 11, 12, 15, 77, 80, 81, 82, 83, 84, 85, 86, 87, 89, 90, 91, 92, 93, 94, 95, 96, 97, 98, 99, 100, 101] rfl ?_
            rcases Bool.eq_false_or_eq_true (r239) with hb240 | hb240
            ·rw [hb240]
             replace h := Sh.if_t h hb240
             refine ARH.dry rfl (fun _ => aop_move (.inl rfl) rfl) <| ARH.dry (r := bl true) rfl (fun _ => aop_not (b := false) rfl rfl) <| ARH.dry rfl (fun _ => aop_pick rfl rfl rfl) <| ARH.keep [2, 8, 11, 12, 77, 80, 81, 82, 83, 84, 85, 86, 87, 89, 90, 91, 92, 93, 94, 95, 96, 97, 98, 99, 100, 101, 102, 103, 104] rfl <| ARH.dry rfl (fun _ => aop_pick rfl rfl rfl) <| ARH.nil ?_
             exact hK25 (true, true) _ h (Weak.kt [2, 8, 11, 12, 105] rfl)
            ·rw [hb240]
             replace h := Sh.if_f h hb240
             refine ARH.skip rfl <| ARH.skip rfl <| ARH.dry rfl (fun _ => aop_pick rfl rfl rfl) <| ARH.keep [2, 8, 11, 12, 77, 80, 81, 82, 83, 84, 85, 86, 87, 89, 90, 91, 92, 93, 94, 95, 96, 97, 98, 99, 100, 101, 102, 103, 104] rfl <| ARH.dry rfl (fun _ => aop_pick rfl rfl rfl) <| ARH.nil ?_
             exact hK25 (true, false) _ h (Weak.kt [2, 8, 11, 12, 105] rfl)
         ·rw [hb235]
          replace h := Sh.if_f h hb235
          refine ARH.skip rfl <| ARH.keep [2, 8, 11, 12, 13, 14, 15, 76, 77] rfl <| ARH.dry rfl (fun _ => aop_pick rfl rfl rfl) <| ARH.dry rfl (fun _ => aop_move (.inl rfl) rfl) <| ARH.dry rfl (fun _ => aop_move (.inl rfl) rfl) <| ARH.keep [2, 8, 11, 12, 13, 14, 15, 77, 79, 80] rfl <| ARH.dry (r := bl (!r217.2.2)) rfl (fun _ => aop_not rfl rfl) <| ARH.dry rfl (fun _ => aop_move (.inl rfl) rfl) ?_
          rcases Bool.eq_false_or_eq_true (!r217.2.2) with hb241 | hb241
          ·rw [hb241]
           replace h := Sh.if_t h hb241
           refine ARH.dry rfl (fun _ => aop_move (.inl rfl) rfl) <| ARH.keep [2, 8, 11, 12, 14, 15, 77, 79, 80, 81, 82, 83] rfl <| ARH.dry rfl (fun _ => aop_move (.inl rfl) rfl) <| ARH.dry rfl (fun _ => aop_add rfl rfl rfl rfl) <| ARH.dry (r := bl (decide ((w64 (r217.1 + r217.2.1)) ≠ 0))) rfl (fun _ => aop_neq rfl rfl rfl) <| ARH.keep [2, 8, 11, 12, 15, 77, 79, 80, 81, 82, 83, 84, 85, 86] rfl <| ARH.dry rfl (fun _ => aop_pick rfl rfl rfl) <| ARH.dry rfl (fun _ => aop_pick rfl rfl rfl) ?_
           refine ARH.dry rfl (fun _ => aop_move (.inl rfl) rfl) <| ARH.keep [2, 8, 11, 12, 15, 77, 80, 81, 82, 83, 84, 85, 86, 87, 89] rfl ?_
           rcases Bool.eq_false_or_eq_true (decide ((w64 (r217.1 + r217.2.1)) ≠ 0)) with hb242 | hb242
           ·rw [hb242]
            replace h := Sh.if_t h hb242
            refine ARH.skip rfl <| ARH.skip rfl <| ARH.skip rfl <| ARH.keep [2, 8, 11, 12, 15, 77, 80, 81, 82, 83, 84, 85, 86, 87, 89, 90, 91, 92] rfl <| ARH.skip rfl <| ARH.skip rfl <| ARH.skip rfl <| ARH.keep [2, 8, 11, 12, 15, 77, 80, 81, 82, 83, 84, 85, 86, 87, 89, 90, 91, 92, 93, 94, 95] rfl ?_
            refine ARH.skip rfl <| ARH.skip rfl <| ARH.skip rfl <| ARH.keep [2, 8, 11, 12, 15, 77, 80, 81, 82, 83, 84, 85, 86, 87, 89, 90, 91, 92, 93, 94, 95, 96, 97, 98] rfl <| ARH.skip rfl <| ARH.skip rfl <| ARH.skip rfl <| ARH.keep [2, 8, 11, 12, 15, 77, 80, 81, 82, 83, 84, 85, 86, 87, 89, 90, 91, 92, 93, 94, 95, 96, 97, 98, 99, 100, 101] rfl ?_
            refine ARH.skip rfl <| ARH.skip rfl <| ARH.skip rfl <| ARH.keep [2, 8, 11, 12, 77, 80, 81, 82, 83, 84, 85, 86, 87, 89, 90, 91, 92, 93, 94, 95, 96, 97, 98, 99, 100, 101, 102, 103, 104] rfl <| ARH.dry rfl (fun _ => aop_pick rfl rfl rfl) <| ARH.nil ?_
            exact hK25 (false, true) _ h (Weak.kt [2, 8, 11, 12, 105] rfl)
           ·rw [hb242]
            replace h := Sh.if_f h hb242
            refine ARH.dry rfl (fun _ => aop_field_pp rfl rfl fd28_0 (by decide)) <| ARH.dry (r := G.api_Hist.av x_0.H) rfl (fun _ => aop_load_pp rfl rfl sz24 rfl) <| ARH.dry rfl (fun _ => aop_field_pp rfl rfl fd28_1 (by decide)) <| ARH.keep [2, 8, 11, 12, 15, 77, 80, 81, 82, 83, 84, 85, 86, 87, 89, 90, 91, 92] rfl <| ARH.dry (r := i64 x_0.Level) rfl (fun _ => aop_load_pp rfl rfl sz3 rfl) <| ARH.dry rfl (fun _ => aop_field_pp rfl rfl fd28_2 (by decide)) <| ARH.dry (r := .sl (List.map G.api_Choice.av x_0.L)) rfl (fun _ => aop_load_pp rfl rfl sz25 rfl) <| ARH.keep [2, 8, 11, 12, 15, 77, 80, 81, 82, 83, 84, 85, 86, 87, 89, 90, 91, 92, 93, 94, 95] rfl ?_
            refine ARH.dry rfl (fun _ => aop_field_pp rfl rfl fd28_3 (by decide)) <| ARH.dry (r := .sl (List.map G.refute_Node.av x_0.Tree)) rfl (fun _ => aop_load_pp rfl rfl sz26 rfl) <| ARH.dry rfl (fun _ => aop_move (.inl rfl) rfl) <| ARH.keep [2, 8, 11, 12, 15, 77, 80, 81, 82, 83, 84, 85, 86, 87, 89, 90, 91, 92, 93, 94, 95, 96, 97, 98] rfl ?_
            obtain ⟨part243, hpart243, h⟩ := Sh.bind_some' h
            refine ARH.dry (r := .sl (List.map G.refute_Node.av part243)) rfl (fun _ => t_sub G.refute_Node.av x_0.Tree part243 hpart243 (fun _ => rfl) rfl rfl (.inl rfl) (.inl ⟨rfl, rfl⟩) (.inr ⟨_, _, rfl, rfl⟩) el26) ?_
            obtain ⟨r244, hr244, h⟩ := Sh.bind_some' h
            refine ARH.dry (r := bl r244) rfl (fun _ => aop_call1 rfl rfl (by simp) (refute_Check_ok hT hr244)) <| ARH.dry rfl (fun _ => aop_move (.inl rfl) rfl) <| ARH.keep [2, 8, 11, 12, 15, 77, 80, 81, 82, 83, 84, 85, 86, 87, 89, 90, 91, 92, 93, 94, 95, 96, 97, 98, 99, 100, 101] rfl ?_
            rcases Bool.eq_false_or_eq_true (r244) with hb245 | hb245
            ·rw [hb245]
             replace h := Sh.if_t h hb245
             refine ARH.dry rfl (fun _ => aop_move (.inl rfl) rfl) <| ARH.dry (r := bl (!r217.2.2)) rfl (fun _ => aop_not rfl rfl) <| ARH.dry rfl (fun _ => aop_pick rfl rfl rfl) <| ARH.keep [2, 8, 11, 12, 77, 80, 81, 82, 83, 84, 85, 86, 87, 89, 90, 91, 92, 93, 94, 95, 96, 97, 98, 99, 100, 101, 102, 103, 104] rfl <| ARH.dry rfl (fun _ => aop_pick rfl rfl rfl) <| ARH.nil ?_
             exact hK25 (false, !r217.2.2) _ h (Weak.kt [2, 8, 11, 12, 105] rfl)
            ·rw [hb245]
             replace h := Sh.if_f h hb245
             refine ARH.skip rfl <| ARH.skip rfl <| ARH.dry rfl (fun _ => aop_pick rfl rfl rfl) <| ARH.keep [2, 8, 11, 12, 77, 80, 81, 82, 83, 84, 85, 86, 87, 89, 90, 91, 92, 93, 94, 95, 96, 97, 98, 99, 100, 101, 102, 103, 104] rfl <| ARH.dry rfl (fun _ => aop_pick rfl rfl rfl) <| ARH.nil ?_
             exact hK25 (false, false) _ h (Weak.kt [2, 8, 11, 12, 105] rfl)
          ·rw [hb241]
           replace h := Sh.if_f h hb241
           refine ARH.skip rfl <| ARH.keep [2, 8, 11, 12, 14, 15, 77, 79, 80, 81, 82, 83] rfl <| ARH.skip rfl <| ARH.skip rfl <| ARH.skip rfl <| ARH.keep [2, 8, 11, 12, 15, 77, 79, 80, 81, 82, 83, 84, 85, 86] rfl <| ARH.dry rfl (fun _ => aop_pick rfl rfl rfl) <| ARH.dry rfl (fun _ => aop_pick rfl rfl rfl) ?_
           refine ARH.dry rfl (fun _ => aop_move (.inl rfl) rfl) <| ARH.keep [2, 8, 11, 12, 15, 77, 80, 81, 82, 83, 84, 85, 86, 87, 89] rfl <| ARH.dry rfl (fun _ => aop_field_pp rfl rfl fd28_0 (by decide)) <| ARH.dry (r := G.api_Hist.av x_0.H) rfl (fun _ => aop_load_pp rfl rfl sz24 rfl) <| ARH.dry rfl (fun _ => aop_field_pp rfl rfl fd28_1 (by decide)) <| ARH.keep [2, 8, 11, 12, 15, 77, 80, 81, 82, 83, 84, 85, 86, 87, 89, 90, 91, 92] rfl <| ARH.dry (r := i64 x_0.Level) rfl (fun _ => aop_load_pp rfl rfl sz3 rfl) <| ARH.dry rfl (fun _ => aop_field_pp rfl rfl fd28_2 (by decide)) ?_
           refine ARH.dry (r := .sl (List.map G.api_Choice.av x_0.L)) rfl (fun _ => aop_load_pp rfl rfl sz25 rfl) <| ARH.keep [2, 8, 11, 12, 15, 77, 80, 81, 82, 83, 84, 85, 86, 87, 89, 90, 91, 92, 93, 94, 95] rfl <| ARH.dry rfl (fun _ => aop_field_pp rfl rfl fd28_3 (by decide)) <| ARH.dry (r := .sl (List.map G.refute_Node.av x_0.Tree)) rfl (fun _ => aop_load_pp rfl rfl sz26 rfl) <| ARH.dry rfl (fun _ => aop_move (.inl rfl) rfl) <| ARH.keep [2, 8, 11, 12, 15, 77, 80, 81, 82, 83, 84, 85, 86, 87, 89, 90, 91, 92, 93, 94, 95, 96, 97, 98] rfl ?_
           obtain ⟨part246, hpart246, h⟩ := Sh.bind_some' h
           refine ARH.dry (r := .sl (List.map G.refute_Node.av part246)) rfl (fun _ => t_sub G.refute_Node.av x_0.Tree part246 hpart246 (fun _ => rfl) rfl rfl (.inl rfl) (.inl ⟨rfl, rfl⟩) (.inr ⟨_, _, rfl, rfl⟩) el26) ?_
           obtain ⟨r247, hr247, h⟩ := Sh.bind_some' h
           refine ARH.dry (r := bl r247) rfl (fun _ => aop_call1 rfl rfl (by simp) (refute_Check_ok hT hr247)) <| ARH.dry rfl (fun _ => aop_move (.inl rfl) rfl) <| ARH.keep [2, 8, 11, 12, 15, 77, 80, 81, 82, 83, 84, 85, 86, 87, 89, 90, 91, 92, 93, 94, 95, 96, 97, 98, 99, 100, 101] rfl ?_
           rcases Bool.eq_false_or_eq_true (r247) with hb248 | hb248
           ·rw [hb248]
            replace h := Sh.if_t h hb248
            refine ARH.dry rfl (fun _ => aop_move (.inl rfl) rfl) <| ARH.dry (r := bl (!r217.2.2)) rfl (fun _ => aop_not rfl rfl) <| ARH.dry rfl (fun _ => aop_pick rfl rfl rfl) <| ARH.keep [2, 8, 11, 12, 77, 80, 81, 82, 83, 84, 85, 86, 87, 89, 90, 91, 92, 93, 94, 95, 96, 97, 98, 99, 100, 101, 102, 103, 104] rfl <| ARH.dry rfl (fun _ => aop_pick rfl rfl rfl) <| ARH.nil ?_
            exact hK25 (false, !r217.2.2) _ h (Weak.kt [2, 8, 11, 12, 105] rfl)
           ·rw [hb248]
            replace h := Sh.if_f h hb248
            refine ARH.skip rfl <| ARH.skip rfl <| ARH.dry rfl (fun _ => aop_pick rfl rfl rfl) <| ARH.keep [2, 8, 11, 12, 77, 80, 81, 82, 83, 84, 85, 86, 87, 89, 90, 91, 92, 93, 94, 95, 96, 97, 98, 99, 100, 101, 102, 103, 104] rfl <| ARH.dry rfl (fun _ => aop_pick rfl rfl rfl) <| ARH.nil ?_
            exact hK25 (false, false) _ h (Weak.kt [2, 8, 11, 12, 105] rfl)
       ·replace h := Sh.if_f h hb195
        refine awp_exit ?_
        replace h := Sh.exit_eq h hx1
        exact hK18 is193 _ h (Weak.kt [8, 11] rfl)
   ·intro K26 hK26
    refine awp_reg rfl <| AR.op rfl (aop_move (.inl rfl) rfl) <| AR.op rfl (aop_move (.inl rfl) rfl) ?_
    rcases Bool.eq_false_or_eq_true (r82) with hb249 | hb249
    ·rw [hb249]
     replace h := Sh.if_t h hb249
     refine AR.op rfl (aop_field_pp rfl rfl fd28_0 (by decide)) <| AR.keep [2, 7, 8, 41, 42] rfl <| AR.op (r := G.api_Hist.av x_0.H) rfl (aop_load_pp rfl rfl sz24 rfl) <| AR.op rfl (aop_field_pp rfl rfl fd28_1 (by decide)) <| AR.op (r := i64 x_0.Level) rfl (aop_load_pp rfl rfl sz3 rfl) <| AR.keep [2, 7, 8, 41, 43, 45] rfl <| AR.op rfl (aop_move (.inl rfl) rfl) <| AR.op rfl (aop_field_pp rfl rfl fd28_3 (by decide)) ?_
     refine AR.op (r := .sl (List.map G.refute_Node.av x_0.Tree)) rfl (aop_load_pp rfl rfl sz26 rfl) <| AR.keep [2, 8, 41, 43, 45, 46, 48] rfl ?_
     obtain ⟨r250, hr250, h⟩ := Sh.bind_some' h
     refine AR.op (r := bl r250) rfl (aop_call1 rfl rfl (by simp) (refute_Check_ok hT hr250)) <| AR.op (r := bl (!r250)) rfl (aop_not rfl rfl) <| AR.op rfl (aop_pick rfl rfl rfl) <| AR.nil ?_
     exact hK26 (true, !r250) _ h (Weak.kt [2, 8, 51] rfl)
    ·rw [hb249]
     replace h := Sh.if_f h hb249
     refine AR.skip rfl <| AR.keep [2, 7, 8, 41, 42] rfl <| AR.skip rfl <| AR.skip rfl <| AR.skip rfl <| AR.keep [2, 7, 8, 41, 43, 45] rfl <| AR.skip rfl <| AR.skip rfl ?_
     refine AR.skip rfl <| AR.keep [2, 8, 41, 43, 45, 46, 48] rfl <| AR.skip rfl <| AR.skip rfl <| AR.op rfl (aop_pick rfl rfl rfl) <| AR.nil ?_
     exact hK26 (false, false) _ h (Weak.kt [2, 8, 51] rfl)
theorem inquestlaw24_RefuteMore_ok {W0 : World} (hT : Tab W0) {x_0 : G.inquestlaw24_Case} {c_1 : G.api_Choice} {r : Bool} (h : G.inquestlaw24_RefuteMore x_0 c_1 = some r) : Fun1 Try.prog W0 5 [G.inquestlaw24_Case.av x_0, G.api_Choice.av c_1] (bl r) := Fun1.two (inquestlaw24_RefuteMore_ok0 hT h) (by simp)

end Wk
