/- That a statement does what its plain function says. -/
import Derived.Test.YtcoegkcdabpijaaWkEinquestlaw20
open Go Go.Av Go.Proofs
set_option linter.unusedVariables false
set_option maxHeartbeats 8000000
set_option maxRecDepth 20000
namespace Wk
theorem inquestlaw20_SerPlays_ok0 {W0 : World} (hT : Tab W0) {h_0 : G.api_Hist} {order_1 : List Int} {r : Bool} (h : G.inquestlaw20_SerPlays h_0 order_1 = some r) : Fun2 Try.prog W0 4 [G.api_Hist.av h_0, .sl (List.map i64 order_1)] (bl r) .empty := by
 refine fun2_of_awp Try.func4 rfl (by kernel_rfl) Try.ntmps4 (by simp) ?_
 unfold G.inquestlaw20_SerPlays at h
 show AWP _ _ _ _ ⟨[(0, G.api_Hist.av h_0), (1, .sl (List.map i64 order_1))], .empty⟩ _
 refine awp_seqK fun K1 hK1 => awp_reg rfl <| AR.op (r := .ref 0 0 0) rfl (aop_box 1 [G.api_Hist.av h_0] rfl rfl rfl (.inl ⟨rfl, rfl⟩)) <| AR.op rfl (aop_move (.inr rfl) rfl) <| AR.nil <| hK1 _ (AWP.weak (Weak.e (fr' := [(1, .sl (List.map i64 order_1)), (2, .pp [.sl (List.map G.api_Txn.av h_0.Txns)] 0)]) (H' := .empty) ⟨⟨.sl (List.map i64 order_1), rfl, .sm⟩, ⟨_, rfl, .frzA rfl rfl rfl rfl (by simp)⟩, trivial⟩) ?_)
 refine awp_seqK fun K2 hK2 => awp_reg rfl ?_
 obtain ⟨r58, hr58, h⟩ := Sh.bind_some' h
 refine AR.op (r := bl r58) rfl (aop_call1 rfl rfl (by simp) (inquestlaw20_awake_ok hT hr58)) <| AR.op rfl (aop_move (.inr rfl) rfl) <| AR.nil <| hK2 _ (AWP.weak (Weak.kt [1, 2, 5] rfl) ?_)
 refine awp_seqK fun K3 hK3 => awp_seqK fun K4 hK4 => awp_reg rfl <| AR.op rfl (aop_move (.inl rfl) rfl) <| AR.op (r := bl (!r58)) rfl (aop_not rfl rfl) <| AR.nil <| hK4 _ (AWP.weak (Weak.kt [1, 2, 16] rfl) ?_)
 refine awp_cond rfl (fun hb59 => ?_) (fun hb59 => ?_)
 ·replace h := Sh.if_t h hb59
  refine awp_seqK fun K5 hK5 => awp_reg rfl <| AR.op rfl (aop_move (.inr rfl) rfl) <| AR.nil <| hK5 _ (AWP.weak (Weak.kt [4] rfl) ?_)
  refine awp_ret ?_
  obtain rfl := Option.some.inj h
  refine ⟨.inr rfl, bl false, rfl, ?_⟩
  exact Weak.e ⟨.k, trivial⟩
 ·replace h := Sh.if_f h hb59
  refine awp_skip <| hK3 _ (AWP.weak (Weak.kt [1, 2] rfl) ?_)
  refine awp_seqK fun K6 hK6 => awp_reg rfl <| AR.op (r := G.api_Hist.av h_0) rfl (aop_load_pp rfl rfl sz24 rfl) ?_
  obtain ⟨r61, hr61, h⟩ := Sh.bind_some' h
  refine AR.op (r := bl r61) rfl (aop_call1 rfl rfl (by simp) (inquestref08_Few_ok hT hr61)) <| AR.op rfl (aop_move (.inr rfl) rfl) <| AR.nil <| hK6 _ (AWP.weak (Weak.kt [1, 2, 6] rfl) ?_)
  refine awp_seqK fun K7 hK7 => awp_reg rfl <| AR.op rfl (aop_move (.inl rfl) rfl) <| AR.op rfl (aop_field_pp rfl rfl fd24_0 (by decide)) <| AR.op (r := .sl (List.map G.api_Txn.av h_0.Txns)) rfl (aop_load_pp rfl rfl sz22 rfl) <| AR.keep [1, 2, 6, 19, 21] rfl <| AR.op rfl (t_len_sl G.api_Txn.av h_0.Txns rfl rfl el22) ?_
  obtain ⟨r63, hr63, h⟩ := Sh.bind_some' h
  refine AR.op (r := bl r63) rfl (aop_call1 rfl rfl (by simp) (inquestref18_Perm_ok hT hr63)) <| AR.op rfl (aop_move (.inr rfl) rfl) <| AR.nil <| hK7 _ (AWP.weak (Weak.kt [1, 2, 6, 7] rfl) ?_)
  refine awp_seqK fun K8 hK8 => awp_seqJ (fun (p : Bool) => (⟨[(1, .sl (List.map i64 order_1)), (2, .pp [.sl (List.map G.api_Txn.av h_0.Txns)] 0), (34, bl p)], .empty⟩ : St)) (fun (p : Bool) => G.inquestlaw20_SerPlays_j1 h_0 order_1 p = some r) ?_ ?_
  ·rintro v71 h
   replace h : G.inquestlaw20_SerPlays_j1 h_0 order_1 v71 = some r := h
   unfold G.inquestlaw20_SerPlays_j1 at h
   refine awp_cond rfl (fun hb72 => ?_) (fun hb72 => ?_)
   ·replace h := Sh.if_t h hb72
    refine awp_seqK fun K9 hK9 => awp_reg rfl <| AR.op rfl (aop_move (.inr rfl) rfl) <| AR.nil <| hK9 _ (AWP.weak (Weak.kt [4] rfl) ?_)
    refine awp_ret ?_
    obtain rfl := Option.some.inj h
    refine ⟨.inr rfl, bl true, rfl, ?_⟩
    exact Weak.e ⟨.k, trivial⟩
   ·replace h := Sh.if_f h hb72
    refine awp_skip <| hK8 _ (AWP.weak (Weak.kt [1, 2] rfl) ?_)
    refine awp_seqK fun K10 hK10 => awp_reg rfl <| AR.op (r := G.api_Hist.av h_0) rfl (aop_load_pp rfl rfl sz24 rfl) <| AR.op rfl (aop_move (.inl rfl) rfl) ?_
    obtain ⟨r74, hr74, h⟩ := Sh.bind_some' h
    refine AR.op (r := .sl (List.map (slA G.api_Take.av) r74)) rfl (aop_call1 rfl rfl (by simp) (ser_Play_ok hT hr74)) <| AR.keep [1, 2, 37] rfl <| AR.op rfl (aop_move (.inr rfl) rfl) <| AR.nil <| hK10 _ (AWP.weak (Weak.kt [1, 2, 8] rfl) ?_)
    refine awp_seqK fun K11 hK11 => awp_seqK fun K12 hK12 => awp_reg rfl <| AR.op rfl (aop_move (.inl rfl) rfl) <| AR.op rfl (t_len_sl (slA G.api_Take.av) r74 rfl rfl el28) <| AR.op rfl (aop_field_pp rfl rfl fd24_0 (by decide)) <| AR.keep [1, 2, 8, 39, 40] rfl <| AR.op (r := .sl (List.map G.api_Txn.av h_0.Txns)) rfl (aop_load_pp rfl rfl sz22 rfl) ?_
    refine AR.op rfl (t_len_sl G.api_Txn.av h_0.Txns rfl rfl el22) <| AR.op (r := bl (decide ((Sh.len r74) ≠ (Sh.len h_0.Txns)))) rfl (aop_neq rfl rfl rfl) <| AR.nil <| hK12 _ (AWP.weak (Weak.kt [1, 2, 8, 43] rfl) ?_)
    refine awp_cond rfl (fun hb75 => ?_) (fun hb75 => ?_)
    ·replace h := Sh.if_t h hb75
     refine awp_seqK fun K13 hK13 => awp_reg rfl <| AR.op rfl (aop_move (.inr rfl) rfl) <| AR.nil <| hK13 _ (AWP.weak (Weak.kt [4] rfl) ?_)
     refine awp_ret ?_
     obtain rfl := Option.some.inj h
     refine ⟨.inr rfl, bl false, rfl, ?_⟩
     exact Weak.e ⟨.k, trivial⟩
    ·replace h := Sh.if_f h hb75
     refine awp_skip <| hK11 _ (AWP.weak (Weak.kt [1, 2, 8] rfl) ?_)
     refine awp_seqK fun K14 hK14 => awp_reg rfl <| AR.op (r := .ref 0 0 0) rfl (aop_alloc 1 [.agg [nilS]] rfl zr24 (by kernel_rfl) (.inl ⟨rfl, rfl⟩)) <| AR.nil <| hK14 _ ?_
     refine awp_seqJ (fun (p : G.api_Hist) => (⟨[(1, .sl (List.map i64 order_1)), (2, .pp [.sl (List.map G.api_Txn.av h_0.Txns)] 0), (8, .sl (List.map (slA G.api_Take.av) r74)), (9, .ref 0 0 0)], ⟨1, [(0, (1, [G.api_Hist.av p]))], []⟩⟩ : St)) (fun (p : G.api_Hist) => G.inquestlaw20_SerPlays_j2 h_0 order_1 r74 p = some r) ?_ ?_
     ·rintro v101 h
      replace h : G.inquestlaw20_SerPlays_j2 h_0 order_1 r74 v101 = some r := h
      unfold G.inquestlaw20_SerPlays_j2 at h
      refine awp_seqK fun K15 hK15 => awp_reg rfl <| AR.op (r := G.api_Hist.av v101) rfl (aop_load_ref rfl rfl rfl rfl sz24 rfl) <| AR.op rfl (aop_move (.inl rfl) rfl) ?_
      obtain ⟨r103, hr103, h⟩ := Sh.bind_some' h
      refine AR.op (r := .sl (List.map (slA G.api_Take.av) r103)) rfl (aop_call1 rfl rfl (by simp) (ser_Play_ok hT hr103)) <| AR.keep [1, 2, 8, 9, 74] rfl <| AR.op rfl (aop_move (.inr rfl) rfl) <| AR.nil <| hK15 _ (AWP.weak (Weak.kt [1, 2, 8, 9, 11] rfl) ?_)
      refine awp_seqK fun K16 hK16 => awp_seqJ (fun (p : Bool) => (⟨[(1, .sl (List.map i64 order_1)), (2, .pp [.sl (List.map G.api_Txn.av h_0.Txns)] 0), (8, .sl (List.map (slA G.api_Take.av) r74)), (9, .ref 0 0 0), (11, .sl (List.map (slA G.api_Take.av) r103)), (84, bl p)], ⟨1, [(0, (1, [G.api_Hist.av v101]))], []⟩⟩ : St)) (fun (p : Bool) => G.inquestlaw20_SerPlays_j3 h_0 order_1 r74 v101 r103 p = some r) ?_ ?_
      ·rintro v109 h
       replace h : G.inquestlaw20_SerPlays_j3 h_0 order_1 r74 v101 r103 v109 = some r := h
       unfold G.inquestlaw20_SerPlays_j3 at h
       refine awp_cond rfl (fun hb110 => ?_) (fun hb110 => ?_)
       ·replace h := Sh.if_t h hb110
        refine awp_seqK fun K17 hK17 => awp_reg rfl <| AR.op rfl (aop_move (.inr rfl) rfl) <| AR.nil <| hK17 _ (AWP.weak (Weak.e (fr' := [(4, bl false)]) (H' := .empty) ⟨.k, trivial⟩) ?_)
        refine awp_ret ?_
        obtain rfl := Option.some.inj h
        refine ⟨.inr rfl, bl false, rfl, ?_⟩
        exact Weak.e ⟨.k, trivial⟩
       ·replace h := Sh.if_f h hb110
        refine awp_skip <| hK16 _ (AWP.weak (Weak.kt [1, 2, 8, 9, 11] rfl) ?_)
        refine awp_seqJ (fun (p : Unit) => (⟨[(1, .sl (List.map i64 order_1)), (2, .pp [.sl (List.map G.api_Txn.av h_0.Txns)] 0), (9, .ref 0 0 0)], ⟨1, [(0, (1, [G.api_Hist.av v101]))], []⟩⟩ : St)) (fun (p : Unit) => G.inquestlaw20_SerPlays_j4 h_0 order_1 v101 = some r) ?_ ?_
        ·rintro ⟨⟩ h
         replace h : G.inquestlaw20_SerPlays_j4 h_0 order_1 v101 = some r := h
         unfold G.inquestlaw20_SerPlays_j4 at h
         refine awp_seqK fun K18 hK18 => awp_any [(false, false), (true, false), (true, false), (true, false), (true, false), (true, false), (true, false), (true, false)] (by kernel_rfl) (by kernel_rfl) rfl ?_
         refine ARH.op (r := G.api_Hist.av v101) rfl rfl (aop_load_ref rfl rfl rfl rfl sz24 rfl) <| ARH.dry rfl (fun _ => aop_move (.inl rfl) rfl) ?_
         obtain ⟨r130, hr130, h⟩ := Sh.bind_some' h
         refine ARH.dry (r := bl r130) rfl (fun _ => aop_call1 rfl rfl (by simp) (ser_Check_ok hT hr130)) <| ARH.keep [1, 2, 104] rfl <| ARH.dry (r := G.api_Hist.av h_0) rfl (fun _ => aop_load_pp rfl rfl sz24 rfl) <| ARH.dry rfl (fun _ => aop_move (.inl rfl) rfl) ?_
         obtain ⟨r131, hr131, h⟩ := Sh.bind_some' h
         refine ARH.dry (r := bl r131) rfl (fun _ => aop_call1 rfl rfl (by simp) (inquestref20_Sessions_ok hT hr131)) <| ARH.keep [104, 107] rfl <| ARH.dry (r := bl (r130 == r131)) rfl (fun _ => aop_eqb rfl rfl rfl Try.underlying4) <| ARH.dry rfl (fun _ => aop_move (.inr rfl) rfl) <| ARH.nil <| hK18 _ (AWP.weak (Weak.e (fr' := [(4, bl (r130 == r131))]) (H' := .empty) ⟨.k, trivial⟩) ?_)
         refine awp_ret ?_
         obtain rfl := Option.some.inj h
         refine ⟨.inr rfl, bl (r130 == r131), rfl, ?_⟩
         exact Weak.e ⟨.k, trivial⟩
        ·intro K19 hK19
         refine awp_seqK fun K20 hK20 => awp_reg rfl <| AR.op rfl (aop_move (.inr rfl) rfl) <| AR.nil <| hK20 _ ?_
         refine awp_block <| awp_iter (fun (p : Int) => G.inquestlaw20_SerPlays_b1 h_0 order_1 r74 v101 r103 p) (fun (p : Int) => (⟨[(1, .sl (List.map i64 order_1)), (2, .pp [.sl (List.map G.api_Txn.av h_0.Txns)] 0), (8, .sl (List.map (slA G.api_Take.av) r74)), (9, .ref 0 0 0), (11, .sl (List.map (slA G.api_Take.av) r103)), (12, i64 p)], ⟨1, [(0, (1, [G.api_Hist.av v101]))], []⟩⟩ : St)) h (Weak.kt [1, 2, 8, 9, 11, 12] rfl) ?_
         ·skip
          rintro t143 o1 h hx1
          replace h : G.inquestlaw20_SerPlays_b1 h_0 order_1 r74 v101 r103 t143 = some o1 := h
          unfold G.inquestlaw20_SerPlays_b1 at h
          refine awp_seqK fun K21 hK21 => awp_seqK fun K22 hK22 => awp_reg rfl <| AR.op rfl (aop_move (.inl rfl) rfl) <| AR.op rfl (aop_move (.inl rfl) rfl) <| AR.op rfl (t_len_sl (slA G.api_Take.av) r74 rfl rfl el28) <| AR.keep [1, 2, 8, 9, 11, 12, 85, 87] rfl <| AR.op rfl (aop_lss rfl rfl rfl) ?_
          refine AR.nil <| hK22 _ (AWP.weak (Weak.kt [1, 2, 8, 9, 11, 12, 88] rfl) ?_)
          refine awp_cond rfl (fun hb144 => ?_) (fun hb144 => ?_)
          ·replace h := Sh.if_t h hb144
           refine awp_skip <| hK21 _ (AWP.weak (Weak.kt [1, 2, 8, 9, 11, 12] rfl) ?_)
           refine awp_seqK fun K23 hK23 => awp_block <| awp_seqK fun K24 hK24 => awp_any [(true, false), (true, false), (true, false), (true, false), (true, false), (true, false), (true, false), (true, false), (true, false), (true, false)] (by kernel_rfl) (by kernel_rfl) rfl ?_
           refine ARH.dry rfl (fun _ => aop_move (.inl rfl) rfl) <| ARH.dry rfl (fun _ => aop_move (.inl rfl) rfl) ?_
           obtain ⟨x155, hx155, h⟩ := Sh.bind_some' h
           obtain ⟨k156, hi156, hl156⟩ := Sh.idx_some hx155
           refine ARH.dry rfl (fun _ => t_index_sl (slA G.api_Take.av) r74 hi156 hl156 rfl rfl rfl el28 rfl) <| ARH.keep [1, 2, 8, 9, 11, 12, 93] rfl <| ARH.dry (r := .sl (List.map G.api_Take.av x155)) rfl (fun _ => aop_load_pp rfl rfl sz32 rfl) <| ARH.dry rfl (fun _ => aop_move (.inl rfl) rfl) <| ARH.dry rfl (fun _ => aop_move (.inl rfl) rfl) <| ARH.keep [1, 2, 8, 9, 11, 12, 94, 95, 96] rfl ?_
           obtain ⟨x157, hx157, h⟩ := Sh.bind_some' h
           obtain ⟨k158, hi158, hl158⟩ := Sh.idx_some hx157
           refine ARH.dry rfl (fun _ => t_index_sl (slA G.api_Take.av) r103 hi158 hl158 rfl rfl rfl el28 rfl) <| ARH.dry (r := .sl (List.map G.api_Take.av x157)) rfl (fun _ => aop_load_pp rfl rfl sz32 rfl) ?_
           obtain ⟨r159, hr159, h⟩ := Sh.bind_some' h
           refine ARH.dry (r := bl r159) rfl (fun _ => aop_call1 rfl rfl (by simp) (inquestref20_Takes_ok hT hr159)) <| ARH.keep [1, 2, 8, 9, 11, 12, 99] rfl <| ARH.dry rfl (fun _ => aop_move (.inr rfl) rfl) <| ARH.nil <| hK24 _ (AWP.weak (Weak.kt [1, 2, 8, 9, 11, 12, 13] rfl) ?_)
           refine awp_seqK fun K25 hK25 => awp_reg rfl <| AR.op rfl (aop_move (.inl rfl) rfl) <| AR.op (r := bl (!r159)) rfl (aop_not rfl rfl) <| AR.nil <| hK25 _ (AWP.weak (Weak.kt [1, 2, 8, 9, 11, 12, 101] rfl) ?_)
           refine awp_cond rfl (fun hb160 => ?_) (fun hb160 => ?_)
           ·replace h := Sh.if_t h hb160
            refine awp_seqK fun K26 hK26 => awp_reg rfl <| AR.op rfl (aop_move (.inr rfl) rfl) <| AR.nil <| hK26 _ (AWP.weak (Weak.e (fr' := [(4, bl false)]) (H' := .empty) ⟨.k, trivial⟩) ?_)
            refine awp_ret ?_
            replace h := Sh.exit_eq h hx1
            obtain rfl := Option.some.inj h
            refine ⟨.inr rfl, bl false, rfl, ?_⟩
            exact Weak.e ⟨.k, trivial⟩
           ·replace h := Sh.if_f h hb160
            refine awp_skip <| hK23 _ (AWP.weak (Weak.kt [1, 2, 8, 9, 11, 12] rfl) ?_)
            refine awp_reg rfl <| AR.op rfl (aop_move (.inl rfl) rfl) <| AR.op rfl (aop_add rfl rfl rfl rfl) <| AR.op rfl (aop_move (.inr rfl) rfl) <| AR.nil ?_
            replace h := Sh.next_eq h
            exact ⟨_, h, Weak.kt [1, 2, 8, 9, 11, 12] rfl⟩
          ·replace h := Sh.if_f h hb144
           refine awp_exit ?_
           replace h := Sh.exit_eq h hx1
           exact hK19 () _ h (Weak.kt [1, 2, 9] rfl)
      ·intro K27 hK27
       refine awp_reg rfl <| AR.op (r := G.api_Hist.av v101) rfl (aop_load_ref rfl rfl rfl rfl sz24 rfl) ?_
       obtain ⟨r161, hr161, h⟩ := Sh.bind_some' h
       refine AR.op (r := bl r161) rfl (aop_call1 rfl rfl (by simp) (hist_Right_ok hT hr161)) <| AR.op (r := bl (!r161)) rfl (aop_not rfl rfl) <| AR.keep [1, 2, 8, 9, 11, 77] rfl <| AR.op rfl (aop_move (.inl rfl) rfl) ?_
       rcases Bool.eq_false_or_eq_true (!r161) with hb162 | hb162
       ·rw [hb162]
        replace h := Sh.if_t h hb162
        refine AR.skip rfl <| AR.skip rfl <| AR.keep [1, 2, 8, 9, 11, 78, 80] rfl <| AR.skip rfl <| AR.skip rfl <| AR.skip rfl <| AR.keep [1, 2, 8, 9, 11, 78, 83] rfl <| AR.op rfl (aop_pick rfl rfl rfl) ?_
        refine AR.nil ?_
        exact hK27 true _ h (Weak.kt [1, 2, 8, 9, 11, 84] rfl)
       ·rw [hb162]
        replace h := Sh.if_f h hb162
        refine AR.op rfl (aop_move (.inl rfl) rfl) <| AR.op rfl (t_len_sl (slA G.api_Take.av) r103 rfl rfl el28) <| AR.keep [1, 2, 8, 9, 11, 78, 80] rfl <| AR.op rfl (aop_move (.inl rfl) rfl) <| AR.op rfl (t_len_sl (slA G.api_Take.av) r74 rfl rfl el28) <| AR.op (r := bl (decide ((Sh.len r103) ≠ (Sh.len r74)))) rfl (aop_neq rfl rfl rfl) <| AR.keep [1, 2, 8, 9, 11, 78, 83] rfl <| AR.op rfl (aop_pick rfl rfl rfl) ?_
        refine AR.nil ?_
        exact hK27 (decide ((Sh.len r103) ≠ (Sh.len r74))) _ h (Weak.kt [1, 2, 8, 9, 11, 84] rfl)
     ·intro K28 hK28
      refine awp_seqK fun K29 hK29 => awp_reg rfl <| AR.op rfl (aop_move (.inr rfl) rfl) <| AR.nil <| hK29 _ ?_
      refine awp_block <| awp_iter (fun (p : (List G.api_Txn) × Int) => G.inquestlaw20_SerPlays_b2 h_0 order_1 r74 p.1 p.2) (fun (p : (List G.api_Txn) × Int) => (⟨[(1, .sl (List.map i64 order_1)), (2, .pp [.sl (List.map G.api_Txn.av h_0.Txns)] 0), (8, .sl (List.map (slA G.api_Take.av) r74)), (9, .ref 0 0 0), (10, i64 p.2)], ⟨2, [(0, (1, [.agg [.view 1 0 (List.map G.api_Txn.av p.1).length]])), (1, (3, List.map G.api_Txn.av p.1))], []⟩⟩ : St)) h (Weak.re [(0, 0)] [1] rfl rfl rfl (.cons rfl rfl (.one (.ag ⟨.nil (by simp), trivial⟩) rfl) dt (.fresh (by simp) dt trivial)) ⟨⟨.sl (List.map i64 order_1), rfl, .sm⟩, .k, ⟨.sl (List.map (slA G.api_Take.av) r74), rfl, .sm⟩, ⟨_, rfl, .ref rfl⟩, .k, trivial⟩) ?_
      ·skip
       rintro ⟨gTxns179, t180⟩ o2 h hx2
       replace h : G.inquestlaw20_SerPlays_b2 h_0 order_1 r74 gTxns179 t180 = some o2 := h
       unfold G.inquestlaw20_SerPlays_b2 at h
       refine awp_seqK fun K30 hK30 => awp_seqK fun K31 hK31 => awp_reg rfl <| AR.op rfl (aop_move (.inl rfl) rfl) <| AR.op rfl (aop_move (.inl rfl) rfl) <| AR.op rfl (t_len_sl (slA G.api_Take.av) r74 rfl rfl el28) <| AR.keep [1, 2, 8, 9, 10, 44, 46] rfl <| AR.op rfl (aop_lss rfl rfl rfl) ?_
       refine AR.nil <| hK31 _ (AWP.weak (Weak.kt [1, 2, 8, 9, 10, 47] rfl) ?_)
       refine awp_cond rfl (fun hb181 => ?_) (fun hb181 => ?_)
       ·replace h := Sh.if_t h hb181
        refine awp_skip <| hK30 _ (AWP.weak (Weak.kt [1, 2, 8, 9, 10] rfl) ?_)
        refine awp_seqK fun K32 hK32 => awp_block <| awp_any [(false, false), (false, false), (true, false), (true, false), (true, false), (true, false), (true, false), (true, false), (true, false), (true, false), (true, false), (true, false), (true, false), (true, false), (true, false), (true, false), (true, false), (true, false), (true, false), (true, false), (false, true), (false, false), (false, true)] (by kernel_rfl) (by kernel_rfl) rfl ?_
        refine ARH.op rfl rfl (aop_field_ref rfl rfl rfl fd24_0 (by decide)) <| ARH.op (r := .view 1 0 (List.map G.api_Txn.av gTxns179).length) rfl rfl (aop_load_ref rfl rfl rfl rfl sz22 rfl) <| ARH.dry rfl (fun _ => aop_field_pp rfl rfl fd24_0 (by decide)) <| ARH.keep [1, 2, 8, 9, 10, 51, 52] rfl <| ARH.dry (r := .sl (List.map G.api_Txn.av h_0.Txns)) rfl (fun _ => aop_load_pp rfl rfl sz22 rfl) <| ARH.dry rfl (fun _ => aop_move (.inl rfl) rfl) ?_
        obtain ⟨x189, hx189, h⟩ := Sh.bind_some' h
        obtain ⟨k190, hi190, hl190⟩ := Sh.idx_some hx189
        refine ARH.dry rfl (fun _ => t_index_sl G.api_Txn.av h_0.Txns hi190 hl190 rfl rfl rfl el22 rfl) <| ARH.keep [1, 2, 8, 9, 10, 51, 55] rfl <| ARH.dry rfl (fun _ => aop_field_pp rfl rfl fd36_0 (by decide)) <| ARH.dry (r := i64 x189.Session) rfl (fun _ => aop_load_pp rfl rfl sz3 rfl) <| ARH.dry rfl (fun _ => aop_field_pp rfl rfl fd24_0 (by decide)) <| ARH.keep [1, 2, 8, 9, 10, 51, 57, 58] rfl <| ARH.dry (r := .sl (List.map G.api_Txn.av h_0.Txns)) rfl (fun _ => aop_load_pp rfl rfl sz22 rfl) <| ARH.dry rfl (fun _ => aop_move (.inl rfl) rfl) ?_
        obtain ⟨x191, hx191, h⟩ := Sh.bind_some' h
        obtain ⟨k192, hi192, hl192⟩ := Sh.idx_some hx191
        refine ARH.dry rfl (fun _ => t_index_sl G.api_Txn.av h_0.Txns hi192 hl192 rfl rfl rfl el22 rfl) <| ARH.keep [1, 2, 8, 9, 10, 51, 57, 61] rfl <| ARH.dry rfl (fun _ => aop_field_pp rfl rfl fd36_1 (by decide)) <| ARH.dry (r := .sl (List.map i64 x191.Writes)) rfl (fun _ => aop_load_pp rfl rfl sz25 rfl) <| ARH.dry rfl (fun _ => aop_move (.inl rfl) rfl) <| ARH.keep [1, 2, 8, 9, 10, 51, 57, 63, 64] rfl <| ARH.dry rfl (fun _ => aop_move (.inl rfl) rfl) ?_
        obtain ⟨x193, hx193, h⟩ := Sh.bind_some' h
        obtain ⟨k194, hi194, hl194⟩ := Sh.idx_some hx193
        refine ARH.dry rfl (fun _ => t_index_sl (slA G.api_Take.av) r74 hi194 hl194 rfl rfl rfl el28 rfl) <| ARH.dry (r := .sl (List.map G.api_Take.av x193)) rfl (fun _ => aop_load_pp rfl rfl sz32 rfl) <| ARH.keep [1, 2, 8, 9, 10, 51, 57, 63, 67] rfl <| ARH.dry (r := .agg [i64 x189.Session, .sl (List.map i64 x191.Writes), .sl (List.map G.api_Take.av x193)]) rfl (fun _ => aop_build rfl bd36 rfl rfl rfl) <| ARH.dry (r := .clip (List.map G.api_Txn.av ([(G.api_Txn.mk x189.Session x191.Writes x193)] : List G.api_Txn))) rfl (fun _ => aop_buildSlice rfl (xo := [.tmp 68]) rfl rfl rfl (by simp) (by simp) el22 ze22 (by decide)) ?_
        obtain ⟨l195, hl195, h⟩ := Sh.bind_some' h
        refine ARH.loud (r := .view 2 0 (List.map G.api_Txn.av l195).length) rfl rfl (t_app_view G.api_Txn.av gTxns179 ([(G.api_Txn.mk x189.Session x191.Writes x193)] : List G.api_Txn) l195 hl195 rfl et22 (fun _ => rfl) rfl rfl rfl rfl rfl rfl rfl) <| ARH.keep [1, 2, 8, 9, 10, 70] rfl <| ARH.op rfl rfl (aop_field_ref rfl rfl rfl fd24_0 (by decide)) <| ARH.loud rfl rfl (aop_store (e' := .agg [.view 2 0 (List.map G.api_Txn.av l195).length]) rfl rfl rfl rfl rfl rfl sz22 rfl dt rfl) <| ARH.nil <| hK32 _ (AWP.weak (Weak.re (fr' := [(1, .sl (List.map i64 order_1)), (2, .pp [.sl (List.map G.api_Txn.av h_0.Txns)] 0), (8, .sl (List.map (slA G.api_Take.av) r74)), (9, .ref 0 0 0), (10, i64 t180)]) (H' := ⟨2, [(0, (1, [.agg [.view 1 0 (List.map G.api_Txn.av l195).length]])), (1, (3, List.map G.api_Txn.av l195))], []⟩) [(0, 0), (1, 2)] [] rfl rfl rfl (.cons rfl rfl (.one (.ag ⟨.view rfl, trivial⟩) rfl) dt (.cons rfl rfl (.same (by simp)) dt trivial)) ⟨⟨.sl (List.map i64 order_1), rfl, .sm⟩, .k, ⟨.sl (List.map (slA G.api_Take.av) r74), rfl, .sm⟩, ⟨_, rfl, .ref rfl⟩, .k, trivial⟩) ?_)
        refine awp_reg rfl <| AR.op rfl (aop_move (.inl rfl) rfl) <| AR.op rfl (aop_add rfl rfl rfl rfl) <| AR.op rfl (aop_move (.inr rfl) rfl) <| AR.nil ?_
        replace h := Sh.next_eq h
        exact ⟨_, h, Weak.kt [1, 2, 8, 9, 10] rfl⟩
       ·replace h := Sh.if_f h hb181
        refine awp_exit ?_
        replace h := Sh.exit_eq h hx2
        exact hK28 (G.api_Hist.mk gTxns179) _ h (Weak.re [(0, 0)] [] rfl rfl rfl (.cons rfl rfl (.one (.ag ⟨.lendAll rfl rfl (by simp), trivial⟩) rfl) dt trivial) ⟨⟨.sl (List.map i64 order_1), rfl, .sm⟩, .k, ⟨.sl (List.map (slA G.api_Take.av) r74), rfl, .sm⟩, ⟨_, rfl, .ref rfl⟩, trivial⟩)
  ·intro K33 hK33
   refine awp_reg rfl <| AR.op rfl (aop_move (.inl rfl) rfl) <| AR.op (r := bl (!r61)) rfl (aop_not rfl rfl) <| AR.op rfl (aop_move (.inl rfl) rfl) <| AR.keep [1, 2, 7, 26] rfl ?_
   rcases Bool.eq_false_or_eq_true (!r61) with hb196 | hb196
   ·rw [hb196]
    replace h := Sh.if_t h hb196
    refine AR.skip rfl <| AR.skip rfl <| AR.op rfl (aop_pick rfl rfl rfl) <| AR.keep [1, 2, 29] rfl <| AR.op rfl (aop_move (.inl rfl) rfl) <| AR.skip rfl <| AR.skip rfl <| AR.keep [1, 2, 30, 32] rfl ?_
    refine AR.skip rfl <| AR.op rfl (aop_pick rfl rfl rfl) <| AR.nil ?_
    exact hK33 true _ h (Weak.kt [1, 2, 34] rfl)
   ·rw [hb196]
    replace h := Sh.if_f h hb196
    refine AR.op rfl (aop_move (.inl rfl) rfl) <| AR.op (r := bl (!r63)) rfl (aop_not rfl rfl) <| AR.op rfl (aop_pick rfl rfl rfl) <| AR.keep [1, 2, 29] rfl <| AR.op rfl (aop_move (.inl rfl) rfl) ?_
    rcases Bool.eq_false_or_eq_true (!r63) with hb197 | hb197
    ·rw [hb197]
     replace h := Sh.if_t h hb197
     refine AR.skip rfl <| AR.skip rfl <| AR.keep [1, 2, 30, 32] rfl <| AR.skip rfl <| AR.op rfl (aop_pick rfl rfl rfl) <| AR.nil ?_
     exact hK33 true _ h (Weak.kt [1, 2, 34] rfl)
    ·rw [hb197]
     replace h := Sh.if_f h hb197
     refine AR.op (r := G.api_Hist.av h_0) rfl (aop_load_pp rfl rfl sz24 rfl) ?_
     obtain ⟨r198, hr198, h⟩ := Sh.bind_some' h
     refine AR.op (r := bl r198) rfl (aop_call1 rfl rfl (by simp) (hist_Right_ok hT hr198)) <| AR.keep [1, 2, 30, 32] rfl <| AR.op (r := bl (!r198)) rfl (aop_not rfl rfl) <| AR.op rfl (aop_pick rfl rfl rfl) <| AR.nil ?_
     exact hK33 (!r198) _ h (Weak.kt [1, 2, 34] rfl)
theorem inquestlaw20_SerPlays_ok {W0 : World} (hT : Tab W0) {h_0 : G.api_Hist} {order_1 : List Int} {r : Bool} (h : G.inquestlaw20_SerPlays h_0 order_1 = some r) : Fun1 Try.prog W0 4 [G.api_Hist.av h_0, .sl (List.map i64 order_1)] (bl r) := Fun1.two (inquestlaw20_SerPlays_ok0 hT h) (by simp)

end Wk
