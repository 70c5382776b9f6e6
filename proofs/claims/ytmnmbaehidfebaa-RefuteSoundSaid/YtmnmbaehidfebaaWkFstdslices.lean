/- That the functions of a package do what their plain functions say. -/
import Derived.Test.YtmnmbaehidfebaaSh
import Derived.Test.YtmnmbaehidfebaaWkFFacts
open Go Go.Av Go.Proofs
set_option linter.unusedVariables false
set_option maxHeartbeats 8000000
set_option maxRecDepth 20000
namespace Wk
theorem slices_Index_int_int_ok0 {W0 : World} (hT : Tab W0) {s_0 : List Int} {v_1 : Int} {r : Int} (h : G.slices_Index_int_int s_0 v_1 = some r) : Fun2 Try.prog W0 80 [.sl (List.map i64 s_0), i64 v_1] (i64 r) .empty := by
 refine fun2_of_awp Try.func80 rfl (by kernel_rfl) Try.ntmps80 (by simp) ?_
 unfold G.slices_Index_int_int at h
 show AWP _ _ _ _ ⟨[(0, .sl (List.map i64 s_0)), (1, i64 v_1)], .empty⟩ _
 refine awp_seqK fun K1 hK1 => awp_reg rfl <| AR.op rfl (aop_move (.inr rfl) rfl) <| AR.nil <| hK1 _ (AWP.weak (Weak.kt [0, 1] rfl) ?_)
 refine awp_seqJ (fun (p : Unit) => (⟨[], .empty⟩ : St)) (fun (p : Unit) => G.slices_Index_int_int_j1 = some r) ?_ ?_
 ·rintro ⟨⟩ h
  replace h : G.slices_Index_int_int_j1 = some r := h
  unfold G.slices_Index_int_int_j1 at h
  refine awp_seqK fun K2 hK2 => awp_reg rfl <| AR.op rfl (aop_move (.inr rfl) rfl) <| AR.nil <| hK2 _ ?_
  refine awp_ret ?_
  obtain rfl := Option.some.inj h
  refine ⟨.inr rfl, i64 (-1), rfl, ?_⟩
  exact Weak.e ⟨.k, trivial⟩
 ·intro K3 hK3
  refine awp_seqK fun K4 hK4 => awp_reg rfl <| AR.op rfl (aop_move (.inl rfl) rfl) <| AR.op rfl (t_len_sl i64 s_0 rfl rfl el44) <| AR.op rfl (aop_move (.inl rfl) rfl) <| AR.nil <| hK4 _ (AWP.weak (Weak.kt [0, 1, 7, 8] rfl) ?_)
  refine awp_block <| awp_iter (fun (p : Int) => G.slices_Index_int_int_b1 s_0 v_1 p) (fun (p : Int) => (⟨[(0, .sl (List.map i64 s_0)), (1, i64 v_1), (7, i64 (Sh.len s_0)), (8, i64 p)], .empty⟩ : St)) h (Weak.kt [0, 1, 7, 8] rfl) ?_
  ·skip
   rintro v22 o1 h hx1
   replace h : G.slices_Index_int_int_b1 s_0 v_1 v22 = some o1 := h
   unfold G.slices_Index_int_int_b1 at h
   refine awp_seqK fun K5 hK5 => awp_reg rfl <| AR.op rfl (aop_lss rfl rfl rfl) <| AR.nil <| hK5 _ ?_
   refine awp_seqK fun K6 hK6 => awp_cond rfl (fun hb23 => ?_) (fun hb23 => ?_)
   ·replace h := Sh.if_t h hb23
    refine awp_skip <| hK6 _ (AWP.weak (Weak.kt [0, 1, 7, 8] rfl) ?_)
    refine awp_seqK fun K7 hK7 => awp_block <| awp_seqK fun K8 hK8 => awp_reg rfl <| AR.op rfl (aop_move (.inl rfl) rfl) <| AR.op rfl (aop_move (.inr rfl) rfl) <| AR.nil <| hK8 _ (AWP.weak (Weak.kt [0, 1, 7, 8, 5] rfl) ?_)
    refine awp_seqK fun K9 hK9 => awp_reg rfl <| AR.op rfl (aop_move (.inl rfl) rfl) <| AR.op rfl (aop_move (.inl rfl) rfl) <| AR.op rfl (aop_move (.inl rfl) rfl) <| AR.keep [0, 1, 7, 8, 5, 11, 12, 13] rfl ?_
    obtain ⟨x28, hx28, h⟩ := Sh.bind_some' h
    obtain ⟨k29, hi29, hl29⟩ := Sh.idx_some hx28
    refine AR.op rfl (t_index_sl i64 s_0 hi29 hl29 rfl rfl rfl el44 rfl) <| AR.op (r := i64 x28) rfl (aop_load_pp rfl rfl sz3 rfl) <| AR.op (r := bl (decide (v_1 = x28))) rfl (aop_eql rfl rfl rfl) <| AR.nil <| hK9 _ (AWP.weak (Weak.kt [0, 1, 7, 8, 5, 16] rfl) ?_)
    refine awp_cond rfl (fun hb30 => ?_) (fun hb30 => ?_)
    ·replace h := Sh.if_t h hb30
     refine awp_seqK fun K10 hK10 => awp_reg rfl <| AR.op rfl (aop_move (.inl rfl) rfl) <| AR.op rfl (aop_move (.inr rfl) rfl) <| AR.nil <| hK10 _ (AWP.weak (Weak.kt [4] rfl) ?_)
     refine awp_ret ?_
     replace h := Sh.exit_eq h hx1
     obtain rfl := Option.some.inj h
     refine ⟨.inr rfl, i64 v22, rfl, ?_⟩
     exact Weak.e ⟨.k, trivial⟩
    ·replace h := Sh.if_f h hb30
     refine awp_skip <| hK7 _ (AWP.weak (Weak.kt [0, 1, 7, 8] rfl) ?_)
     refine awp_reg rfl <| AR.op rfl (aop_add rfl rfl rfl rfl) <| AR.op rfl (aop_move (.inl rfl) rfl) <| AR.nil ?_
     replace h := Sh.next_eq h
     exact ⟨_, h, Weak.kt [0, 1, 7, 8] rfl⟩
   ·replace h := Sh.if_f h hb23
    refine awp_exit ?_
    replace h := Sh.exit_eq h hx1
    exact hK3 () _ h (Weak.kt [] rfl)
theorem slices_Index_int_int_ok {W0 : World} (hT : Tab W0) {s_0 : List Int} {v_1 : Int} {r : Int} (h : G.slices_Index_int_int s_0 v_1 = some r) : Fun1 Try.prog W0 80 [.sl (List.map i64 s_0), i64 v_1] (i64 r) := Fun1.two (slices_Index_int_int_ok0 hT h) (by simp)


theorem slices_Contains_int_int_ok0 {W0 : World} (hT : Tab W0) {s_0 : List Int} {v_1 : Int} {r : Bool} (h : G.slices_Contains_int_int s_0 v_1 = some r) : Fun2 Try.prog W0 66 [.sl (List.map i64 s_0), i64 v_1] (bl r) .empty := by
 refine fun2_of_awp Try.func66 rfl (by kernel_rfl) Try.ntmps66 (by simp) ?_
 unfold G.slices_Contains_int_int at h
 show AWP _ _ _ _ ⟨[(0, .sl (List.map i64 s_0)), (1, i64 v_1)], .empty⟩ _
 refine awp_seqK fun K1 hK1 => awp_reg rfl <| AR.op rfl (aop_move (.inr rfl) rfl) <| AR.nil <| hK1 _ (AWP.weak (Weak.kt [0, 1] rfl) ?_)
 refine awp_seqK fun K2 hK2 => awp_reg rfl <| AR.op rfl (aop_move (.inl rfl) rfl) <| AR.op rfl (aop_move (.inl rfl) rfl) ?_
 obtain ⟨r3, hr3, h⟩ := Sh.bind_some' h
 refine AR.op (r := i64 r3) rfl (aop_call1 rfl rfl (by simp) (slices_Index_int_int_ok hT hr3)) <| AR.keep [7] rfl <| AR.op rfl (aop_geq rfl rfl rfl) <| AR.op rfl (aop_move (.inr rfl) rfl) <| AR.nil <| hK2 _ (AWP.weak (Weak.kt [4] rfl) ?_)
 refine awp_ret ?_
 obtain rfl := Option.some.inj h
 refine ⟨.inr rfl, bl (decide ((0 : Int) ≤ r3)), rfl, ?_⟩
 exact Weak.e ⟨.k, trivial⟩
theorem slices_Contains_int_int_ok {W0 : World} (hT : Tab W0) {s_0 : List Int} {v_1 : Int} {r : Bool} (h : G.slices_Contains_int_int s_0 v_1 = some r) : Fun1 Try.prog W0 66 [.sl (List.map i64 s_0), i64 v_1] (bl r) := Fun1.two (slices_Contains_int_int_ok0 hT h) (by simp)


theorem slices_Index_edge_over_api_Choice_ok0 {W0 : World} (hT : Tab W0) {s_0 : List G.api_Choice} {v_1 : G.api_Choice} {r : Int} (h : G.slices_Index_edge_over_api_Choice s_0 v_1 = some r) : Fun2 Try.prog W0 136 [.sl (List.map G.api_Choice.av s_0), G.api_Choice.av v_1] (i64 r) .empty := by
 refine fun2_of_awp Try.func136 rfl (by kernel_rfl) Try.ntmps136 (by simp) ?_
 unfold G.slices_Index_edge_over_api_Choice at h
 show AWP _ _ _ _ ⟨[(0, .sl (List.map G.api_Choice.av s_0)), (1, G.api_Choice.av v_1)], .empty⟩ _
 refine awp_seqK fun K1 hK1 => awp_reg rfl <| AR.op (r := .ref 0 0 0) rfl (aop_box 3 [G.api_Choice.av v_1] rfl rfl rfl (.inl ⟨rfl, rfl⟩)) <| AR.op rfl (aop_move (.inr rfl) rfl) <| AR.nil <| hK1 _ (AWP.weak (Weak.e (fr' := [(0, .sl (List.map G.api_Choice.av s_0)), (3, .pp [i64 v_1.Key, i64 v_1.A, i64 v_1.B] 0)]) (H' := .empty) ⟨⟨.sl (List.map G.api_Choice.av s_0), rfl, .sm⟩, ⟨_, rfl, .frzA rfl rfl rfl rfl (by simp)⟩, trivial⟩) ?_)
 refine awp_seqJ (fun (p : Unit) => (⟨[], .empty⟩ : St)) (fun (p : Unit) => G.slices_Index_edge_over_api_Choice_j1 = some r) ?_ ?_
 ·rintro ⟨⟩ h
  replace h : G.slices_Index_edge_over_api_Choice_j1 = some r := h
  unfold G.slices_Index_edge_over_api_Choice_j1 at h
  refine awp_seqK fun K2 hK2 => awp_reg rfl <| AR.op rfl (aop_move (.inr rfl) rfl) <| AR.nil <| hK2 _ ?_
  refine awp_ret ?_
  obtain rfl := Option.some.inj h
  refine ⟨.inr rfl, i64 (-1), rfl, ?_⟩
  exact Weak.e ⟨.k, trivial⟩
 ·intro K3 hK3
  refine awp_seqK fun K4 hK4 => awp_reg rfl <| AR.op rfl (aop_move (.inl rfl) rfl) <| AR.op rfl (t_len_sl G.api_Choice.av s_0 rfl rfl el133) <| AR.op rfl (aop_move (.inl rfl) rfl) <| AR.nil <| hK4 _ (AWP.weak (Weak.kt [0, 3, 7, 8] rfl) ?_)
  refine awp_block <| awp_iter (fun (p : Int) => G.slices_Index_edge_over_api_Choice_b1 s_0 v_1 p) (fun (p : Int) => (⟨[(0, .sl (List.map G.api_Choice.av s_0)), (3, .pp [i64 v_1.Key, i64 v_1.A, i64 v_1.B] 0), (7, i64 (Sh.len s_0)), (8, i64 p)], .empty⟩ : St)) h (Weak.kt [0, 3, 7, 8] rfl) ?_
  ·skip
   rintro v22 o1 h hx1
   replace h : G.slices_Index_edge_over_api_Choice_b1 s_0 v_1 v22 = some o1 := h
   unfold G.slices_Index_edge_over_api_Choice_b1 at h
   refine awp_seqK fun K5 hK5 => awp_reg rfl <| AR.op rfl (aop_lss rfl rfl rfl) <| AR.nil <| hK5 _ ?_
   refine awp_seqK fun K6 hK6 => awp_cond rfl (fun hb23 => ?_) (fun hb23 => ?_)
   ·replace h := Sh.if_t h hb23
    refine awp_skip <| hK6 _ (AWP.weak (Weak.kt [0, 3, 7, 8] rfl) ?_)
    refine awp_seqK fun K7 hK7 => awp_block <| awp_seqK fun K8 hK8 => awp_reg rfl <| AR.op rfl (aop_move (.inl rfl) rfl) <| AR.op rfl (aop_move (.inr rfl) rfl) <| AR.nil <| hK8 _ (AWP.weak (Weak.kt [0, 3, 7, 8, 5] rfl) ?_)
    refine awp_seqK fun K9 hK9 => awp_any [(true, false), (true, false), (true, false), (true, false), (true, false), (true, false)] (by kernel_rfl) (by kernel_rfl) rfl ?_
    refine ARH.dry (r := G.api_Choice.av v_1) rfl (fun _ => aop_load_pp rfl rfl sz42 rfl) <| ARH.dry rfl (fun _ => aop_move (.inl rfl) rfl) <| ARH.dry rfl (fun _ => aop_move (.inl rfl) rfl) <| ARH.keep [0, 3, 7, 8, 5, 11, 12, 13] rfl ?_
    obtain ⟨x28, hx28, h⟩ := Sh.bind_some' h
    obtain ⟨k29, hi29, hl29⟩ := Sh.idx_some hx28
    refine ARH.dry rfl (fun _ => t_index_sl G.api_Choice.av s_0 hi29 hl29 rfl rfl rfl el133 rfl) <| ARH.dry (r := G.api_Choice.av x28) rfl (fun _ => aop_load_pp rfl rfl sz42 rfl) <| ARH.dry (r := bl (decide (v_1 = x28))) rfl (fun _ => t_eq_api_Choice (a := v_1) (b := x28) rfl rfl rfl) <| ARH.nil <| hK9 _ (AWP.weak (Weak.kt [0, 3, 7, 8, 5, 16] rfl) ?_)
    refine awp_cond rfl (fun hb30 => ?_) (fun hb30 => ?_)
    ·replace h := Sh.if_t h hb30
     refine awp_seqK fun K10 hK10 => awp_reg rfl <| AR.op rfl (aop_move (.inl rfl) rfl) <| AR.op rfl (aop_move (.inr rfl) rfl) <| AR.nil <| hK10 _ (AWP.weak (Weak.kt [4] rfl) ?_)
     refine awp_ret ?_
     replace h := Sh.exit_eq h hx1
     obtain rfl := Option.some.inj h
     refine ⟨.inr rfl, i64 v22, rfl, ?_⟩
     exact Weak.e ⟨.k, trivial⟩
    ·replace h := Sh.if_f h hb30
     refine awp_skip <| hK7 _ (AWP.weak (Weak.kt [0, 3, 7, 8] rfl) ?_)
     refine awp_reg rfl <| AR.op rfl (aop_add rfl rfl rfl rfl) <| AR.op rfl (aop_move (.inl rfl) rfl) <| AR.nil ?_
     replace h := Sh.next_eq h
     exact ⟨_, h, Weak.kt [0, 3, 7, 8] rfl⟩
   ·replace h := Sh.if_f h hb23
    refine awp_exit ?_
    replace h := Sh.exit_eq h hx1
    exact hK3 () _ h (Weak.kt [] rfl)
theorem slices_Index_edge_over_api_Choice_ok {W0 : World} (hT : Tab W0) {s_0 : List G.api_Choice} {v_1 : G.api_Choice} {r : Int} (h : G.slices_Index_edge_over_api_Choice s_0 v_1 = some r) : Fun1 Try.prog W0 136 [.sl (List.map G.api_Choice.av s_0), G.api_Choice.av v_1] (i64 r) := Fun1.two (slices_Index_edge_over_api_Choice_ok0 hT h) (by simp)


theorem slices_Contains_edge_over_api_Choice_ok0 {W0 : World} (hT : Tab W0) {s_0 : List G.api_Choice} {v_1 : G.api_Choice} {r : Bool} (h : G.slices_Contains_edge_over_api_Choice s_0 v_1 = some r) : Fun2 Try.prog W0 135 [.sl (List.map G.api_Choice.av s_0), G.api_Choice.av v_1] (bl r) .empty := by
 refine fun2_of_awp Try.func135 rfl (by kernel_rfl) Try.ntmps135 (by simp) ?_
 unfold G.slices_Contains_edge_over_api_Choice at h
 show AWP _ _ _ _ ⟨[(0, .sl (List.map G.api_Choice.av s_0)), (1, G.api_Choice.av v_1)], .empty⟩ _
 refine awp_seqK fun K1 hK1 => awp_reg rfl <| AR.op (r := .ref 0 0 0) rfl (aop_box 3 [G.api_Choice.av v_1] rfl rfl rfl (.inl ⟨rfl, rfl⟩)) <| AR.op rfl (aop_move (.inr rfl) rfl) <| AR.nil <| hK1 _ (AWP.weak (Weak.e (fr' := [(0, .sl (List.map G.api_Choice.av s_0)), (3, .pp [i64 v_1.Key, i64 v_1.A, i64 v_1.B] 0)]) (H' := .empty) ⟨⟨.sl (List.map G.api_Choice.av s_0), rfl, .sm⟩, ⟨_, rfl, .frzA rfl rfl rfl rfl (by simp)⟩, trivial⟩) ?_)
 refine awp_seqK fun K2 hK2 => awp_reg rfl <| AR.op rfl (aop_move (.inl rfl) rfl) <| AR.op (r := G.api_Choice.av v_1) rfl (aop_load_pp rfl rfl sz42 rfl) ?_
 obtain ⟨r3, hr3, h⟩ := Sh.bind_some' h
 refine AR.op (r := i64 r3) rfl (aop_call1 rfl rfl (by simp) (slices_Index_edge_over_api_Choice_ok hT hr3)) <| AR.keep [7] rfl <| AR.op rfl (aop_geq rfl rfl rfl) <| AR.op rfl (aop_move (.inr rfl) rfl) <| AR.nil <| hK2 _ (AWP.weak (Weak.kt [4] rfl) ?_)
 refine awp_ret ?_
 obtain rfl := Option.some.inj h
 refine ⟨.inr rfl, bl (decide ((0 : Int) ≤ r3)), rfl, ?_⟩
 exact Weak.e ⟨.k, trivial⟩
theorem slices_Contains_edge_over_api_Choice_ok {W0 : World} (hT : Tab W0) {s_0 : List G.api_Choice} {v_1 : G.api_Choice} {r : Bool} (h : G.slices_Contains_edge_over_api_Choice s_0 v_1 = some r) : Fun1 Try.prog W0 135 [.sl (List.map G.api_Choice.av s_0), G.api_Choice.av v_1] (bl r) := Fun1.two (slices_Contains_edge_over_api_Choice_ok0 hT h) (by simp)


theorem slices_Clip_api_Choice_api_Choice_ok0 {W0 : World} (hT : Tab W0) {s_0 : List G.api_Choice} {r : (List G.api_Choice)} (h : G.slices_Clip_api_Choice_api_Choice s_0 = some r) : Fun2 Try.prog W0 58 [.sl (List.map G.api_Choice.av s_0)] (.clip (List.map G.api_Choice.av r)) .empty := by
 refine fun2_of_awp Try.func58 rfl (by kernel_rfl) Try.ntmps58 (by simp) ?_
 unfold G.slices_Clip_api_Choice_api_Choice at h
 show AWP _ _ _ _ ⟨[(0, .sl (List.map G.api_Choice.av s_0))], .empty⟩ _
 refine awp_seqK fun K1 hK1 => awp_reg rfl <| AR.op rfl (aop_move (.inr rfl) rfl) <| AR.nil <| hK1 _ (AWP.weak (Weak.kt [0] rfl) ?_)
 refine awp_seqK fun K2 hK2 => awp_reg rfl <| AR.op rfl (aop_move (.inl rfl) rfl) <| AR.op rfl (aop_move (.inl rfl) rfl) <| AR.op rfl (t_len_sl G.api_Choice.av s_0 rfl rfl el25) <| AR.keep [0, 3, 5] rfl <| AR.op rfl (aop_move (.inl rfl) rfl) <| AR.op rfl (t_len_sl G.api_Choice.av s_0 rfl rfl el25) ?_
 obtain ⟨part3, hpart3, h⟩ := Sh.bind_some' h
 refine AR.op (r := .clip (List.map G.api_Choice.av part3)) rfl (t_clip G.api_Choice.av s_0 part3 hpart3 (fun _ => rfl) rfl rfl (.inl rfl) rfl rfl el25) <| AR.keep [8] rfl <| AR.op rfl (aop_move (.inr rfl) rfl) <| AR.nil <| hK2 _ (AWP.weak (Weak.kt [2] rfl) ?_)
 refine awp_ret ?_
 obtain rfl := Option.some.inj h
 refine ⟨.inr rfl, .clip (List.map G.api_Choice.av part3), rfl, ?_⟩
 exact Weak.e ⟨⟨.clip (List.map G.api_Choice.av part3), rfl, .sm⟩, trivial⟩
theorem slices_Clip_api_Choice_api_Choice_ok {W0 : World} (hT : Tab W0) {s_0 : List G.api_Choice} {r : (List G.api_Choice)} (h : G.slices_Clip_api_Choice_api_Choice s_0 = some r) : Fun1 Try.prog W0 58 [.sl (List.map G.api_Choice.av s_0)] (.clip (List.map G.api_Choice.av r)) := Fun1.two (slices_Clip_api_Choice_api_Choice_ok0 hT h) (by simp)


end Wk
