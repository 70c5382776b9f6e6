/- That the functions of a package do what their plain functions say. -/
import Derived.Test.YtleihjegenjacaaGreatSh
import Derived.Test.YtleihjegenjacaaGreatWkYFacts
open Go Go.Av Go.Proofs
set_option linter.unusedVariables false
set_option maxHeartbeats 8000000
set_option maxRecDepth 20000
namespace Wk
theorem slices_Index_int_int_ok0 {W0 : World} (hT : Tab W0) {s_0 : List Int} {v_1 : Int} {r : Int} (h : G.slices_Index_int_int s_0 v_1 = some r) : Fun2 Tryz.prog W0 63 [.sl (List.map i64 s_0), i64 v_1] (i64 r) .empty := by
 refine fun2_of_awp Tryz.func63 rfl (by kernel_rfl) Tryz.ntmps63 (by simp) ?_
 unfold G.slices_Index_int_int at h
 show AWP _ _ _ _ ⟨[(0, .sl (List.map i64 s_0)), (1, i64 v_1)], .empty⟩ _
 refine awp_seqK fun K1 hK1 => awp_reg rfl <| AR.op rfl (aop_move (.inr rfl) rfl) <| AR.nil <| hK1 _ (AWP.weak (Weak.kt [0, 1] rfl) ?_)
 refine awp_seqJ (fun (p : Unit) => (⟨[], .empty⟩ : St)) (fun (p : Unit) => G.slices_Index_int_int_j1 = some r) ?_ ?_
 ·rintro ⟨⟩ h
  replace h : G.slices_Index_int_int_j1 = some r := h
  unfold G.slices_Index_int_int_j1 at h
  refine awp_seqK fun K2 hK2 => awp_reg rfl <| AR.op rfl (aop_move (.inr rfl) rfl) <| AR.nil <| hK2 _ ?_
  refine awp_ret ?_
  obtain rfl := Option.some.inj h
  refine ⟨.inr rfl, i64 (-1), rfl, ?_⟩
  exact Weak.e ⟨.k, trivial⟩
 ·intro K3 hK3
  refine awp_seqK fun K4 hK4 => awp_reg rfl <| AR.op rfl (aop_move (.inl rfl) rfl) <| AR.op rfl (t_len_sl i64 s_0 rfl rfl el25) <| AR.op rfl (aop_move (.inl rfl) rfl) <| AR.nil <| hK4 _ (AWP.weak (Weak.kt [0, 1, 7, 8] rfl) ?_)
  refine awp_block <| awp_iter (fun (p : Int) => G.slices_Index_int_int_b1 s_0 v_1 p) (fun (p : Int) => (⟨[(0, .sl (List.map i64 s_0)), (1, i64 v_1), (7, i64 (Sh.len s_0)), (8, i64 p)], .empty⟩ : St)) h (Weak.kt [0, 1, 7, 8] rfl) ?_
  ·skip
   rintro v22 o1 h hx1
   replace h : G.slices_Index_int_int_b1 s_0 v_1 v22 = some o1 := h
   unfold G.slices_Index_int_int_b1 at h
   refine awp_seqK fun K5 hK5 => awp_reg rfl <| AR.op rfl (aop_lss rfl rfl rfl) <| AR.nil <| hK5 _ ?_
   refine awp_seqK fun K6 hK6 => awp_cond rfl (fun hb23 => ?_) (fun hb23 => ?_)
   ·replace h := Sh.if_t h hb23
    refine awp_skip <| hK6 _ (AWP.weak (Weak.kt [0, 1, 7, 8] rfl) ?_)
    refine awp_seqK fun K7 hK7 => awp_block <| awp_seqK fun K8 hK8 => awp_reg rfl <| AR.op rfl (aop_move (.inl rfl) rfl) <| AR.op rfl (aop_move (.inr rfl) rfl) <| AR.nil <| hK8 _ (AWP.weak (Weak.kt [0, 1, 7, 8, 5] rfl) ?_)
    refine awp_seqK fun K9 hK9 => awp_reg rfl <| AR.op rfl (aop_move (.inl rfl) rfl) <| AR.op rfl (aop_move (.inl rfl) rfl) <| AR.op rfl (aop_move (.inl rfl) rfl) <| AR.keep [0, 1, 7, 8, 5, 11, 12, 13] rfl ?_
    obtain ⟨x28, hx28, h⟩ := Sh.bind_some' h
    obtain ⟨k29, hi29, hl29⟩ := Sh.idx_some hx28
    refine AR.op rfl (t_index_sl i64 s_0 hi29 hl29 rfl rfl rfl el25 rfl) <| AR.op (r := i64 x28) rfl (aop_load_pp rfl rfl sz3 rfl) <| AR.op (r := bl (decide (v_1 = x28))) rfl (aop_eql rfl rfl rfl) <| AR.nil <| hK9 _ (AWP.weak (Weak.kt [0, 1, 7, 8, 5, 16] rfl) ?_)
    refine awp_cond rfl (fun hb30 => ?_) (fun hb30 => ?_)
    ·replace h := Sh.if_t h hb30
     refine awp_seqK fun K10 hK10 => awp_reg rfl <| AR.op rfl (aop_move (.inl rfl) rfl) <| AR.op rfl (aop_move (.inr rfl) rfl) <| AR.nil <| hK10 _ (AWP.weak (Weak.kt [4] rfl) ?_)
     refine awp_ret ?_
     replace h := Sh.exit_eq h hx1
     obtain rfl := Option.some.inj h
     refine ⟨.inr rfl, i64 v22, rfl, ?_⟩
     exact Weak.e ⟨.k, trivial⟩
    ·replace h := Sh.if_f h hb30
     refine awp_skip <| hK7 _ (AWP.weak (Weak.kt [0, 1, 7, 8] rfl) ?_)
     refine awp_reg rfl <| AR.op rfl (aop_add rfl rfl rfl rfl) <| AR.op rfl (aop_move (.inl rfl) rfl) <| AR.nil ?_
     replace h := Sh.next_eq h
     exact ⟨_, h, Weak.kt [0, 1, 7, 8] rfl⟩
   ·replace h := Sh.if_f h hb23
    refine awp_exit ?_
    replace h := Sh.exit_eq h hx1
    exact hK3 () _ h (Weak.kt [] rfl)
theorem slices_Index_int_int_ok {W0 : World} (hT : Tab W0) {s_0 : List Int} {v_1 : Int} {r : Int} (h : G.slices_Index_int_int s_0 v_1 = some r) : Fun1 Tryz.prog W0 63 [.sl (List.map i64 s_0), i64 v_1] (i64 r) := Fun1.two (slices_Index_int_int_ok0 hT h) (by simp)


theorem slices_Contains_int_int_ok0 {W0 : World} (hT : Tab W0) {s_0 : List Int} {v_1 : Int} {r : Bool} (h : G.slices_Contains_int_int s_0 v_1 = some r) : Fun2 Tryz.prog W0 95 [.sl (List.map i64 s_0), i64 v_1] (bl r) .empty := by
 refine fun2_of_awp Tryz.func95 rfl (by kernel_rfl) Tryz.ntmps95 (by simp) ?_
 unfold G.slices_Contains_int_int at h
 show AWP _ _ _ _ ⟨[(0, .sl (List.map i64 s_0)), (1, i64 v_1)], .empty⟩ _
 refine awp_seqK fun K1 hK1 => awp_reg rfl <| AR.op rfl (aop_move (.inr rfl) rfl) <| AR.nil <| hK1 _ (AWP.weak (Weak.kt [0, 1] rfl) ?_)
 refine awp_seqK fun K2 hK2 => awp_reg rfl <| AR.op rfl (aop_move (.inl rfl) rfl) <| AR.op rfl (aop_move (.inl rfl) rfl) ?_
 obtain ⟨r3, hr3, h⟩ := Sh.bind_some' h
 refine AR.op (r := i64 r3) rfl (aop_call1 rfl rfl (by simp) (slices_Index_int_int_ok hT hr3)) <| AR.keep [7] rfl <| AR.op rfl (aop_geq rfl rfl rfl) <| AR.op rfl (aop_move (.inr rfl) rfl) <| AR.nil <| hK2 _ (AWP.weak (Weak.kt [4] rfl) ?_)
 refine awp_ret ?_
 obtain rfl := Option.some.inj h
 refine ⟨.inr rfl, bl (decide ((0 : Int) ≤ r3)), rfl, ?_⟩
 exact Weak.e ⟨.k, trivial⟩
theorem slices_Contains_int_int_ok {W0 : World} (hT : Tab W0) {s_0 : List Int} {v_1 : Int} {r : Bool} (h : G.slices_Contains_int_int s_0 v_1 = some r) : Fun1 Tryz.prog W0 95 [.sl (List.map i64 s_0), i64 v_1] (bl r) := Fun1.two (slices_Contains_int_int_ok0 hT h) (by simp)


theorem slices_Clone_int_int_own {W0 : World} (hT : Tab W0) {s_0 : List Int} {r : List Int} (h : G.slices_Clone_int_int s_0 = some r) : Fun2 Tryz.prog W0 37 [.sl (List.map i64 s_0)] (.view 0 0 (List.map i64 r).length) ⟨1, [(0, (1, List.map i64 r))], []⟩ := by
 refine fun2_of_awp Tryz.func37 rfl (by kernel_rfl) Tryz.ntmps37 (by simp) ?_
 replace h : Sh.app 8 [] s_0 = some r := h
 show AWP _ _ _ _ ⟨[(0, .sl (List.map i64 s_0))], .empty⟩ _
 refine awp_seqK fun K1 hK1 => awp_reg rfl <| AR.op rfl (aop_move (.inr rfl) rfl) <| AR.nil <| hK1 _ (AWP.weak (Weak.kt [0] rfl) ?_)
 refine awp_seqK fun K2 hK2 => awp_seqK fun K3 hK3 => awp_eqnil (es := List.map i64 s_0) rfl rfl rfl rfl rfl rfl (by decide) (by decide) Tryz.underlying25 rfl (fun b hb => ?_)
 refine hK3 _ (AWP.weak (Weak.kt [0, 4] rfl) ?_)
 refine awp_cond rfl (fun hc => ?_) (fun hc => ?_)
 ·obtain rfl : s_0 = [] := by simpa using hb hc
  obtain rfl : r = [] := by simpa using (Sh.app_some h).2
  refine awp_seqK fun K4 hK4 => awp_reg rfl <| AR.op rfl (aop_move (.inr rfl) rfl) <| AR.nil <| hK4 _ (AWP.weak (Weak.kt [2] rfl) ?_)
  refine awp_ret <| ⟨.inr rfl, nilS, rfl, ?_⟩
  exact Weak.re [] [0] rfl rfl rfl (.fresh (by simp) dt trivial) ⟨⟨_, rfl, .nil (by simp)⟩, trivial⟩
 ·refine awp_skip <| hK2 _ (AWP.weak (Weak.kt [0] rfl) ?_)
  refine awp_seqK fun K5 hK5 => awp_reg rfl <| AR.op (r := .clip []) rfl (aop_buildSlice rfl (xo := []) rfl rfl rfl (by simp) (by simp) el25 ze25 (by decide)) <| AR.op rfl (aop_move (.inl rfl) rfl) <| AR.op (r := .view 0 0 (List.map i64 r).length) rfl (t_app_clip0 s_0 r h et25 (fun _ => rfl) rfl rfl rfl rfl rfl) <| AR.op rfl (aop_move (.inr rfl) rfl) <| AR.nil <| hK5 _ (AWP.weak (Weak.kt [2] rfl) ?_)
  refine awp_ret <| ⟨.inr rfl, .view 0 0 (List.map i64 r).length, rfl, ?_⟩
  exact Weak.re [(0, 0)] [] rfl rfl rfl (.cons rfl rfl (.same (by simp)) dt trivial) ⟨⟨_, rfl, .view rfl⟩, trivial⟩
theorem slices_Clone_int_int_ok {W0 : World} (hT : Tab W0) {s_0 : List Int} {r : List Int} (h : G.slices_Clone_int_int s_0 = some r) : Fun1 Tryz.prog W0 37 [.sl (List.map i64 s_0)] (.sl (List.map i64 r)) :=
 (slices_Clone_int_int_own hT h).give (Weak.e ⟨⟨_, rfl, .lendAll rfl rfl (by simp)⟩, trivial⟩) (by simp)


theorem slices_Equal_api_Take_api_Take_ok0 {W0 : World} (hT : Tab W0) {s1_0 : List G.api_Take} {s2_1 : List G.api_Take} {r : Bool} (h : G.slices_Equal_api_Take_api_Take s1_0 s2_1 = some r) : Fun2 Tryz.prog W0 52 [.sl (List.map G.api_Take.av s1_0), .sl (List.map G.api_Take.av s2_1)] (bl r) .empty := by
 refine fun2_of_awp Tryz.func52 rfl (by kernel_rfl) Tryz.ntmps52 (by simp) ?_
 unfold G.slices_Equal_api_Take_api_Take at h
 show AWP _ _ _ _ ⟨[(0, .sl (List.map G.api_Take.av s1_0)), (1, .sl (List.map G.api_Take.av s2_1))], .empty⟩ _
 refine awp_seqK fun K1 hK1 => awp_reg rfl <| AR.op rfl (aop_move (.inr rfl) rfl) <| AR.nil <| hK1 _ (AWP.weak (Weak.kt [0, 1] rfl) ?_)
 refine awp_seqK fun K2 hK2 => awp_seqK fun K3 hK3 => awp_reg rfl <| AR.op rfl (aop_move (.inl rfl) rfl) <| AR.op rfl (t_len_sl G.api_Take.av s1_0 rfl rfl el61) <| AR.op rfl (aop_move (.inl rfl) rfl) <| AR.keep [0, 1, 7, 8] rfl <| AR.op rfl (t_len_sl G.api_Take.av s2_1 rfl rfl el61) ?_
 refine AR.op (r := bl (decide ((Sh.len s1_0) ≠ (Sh.len s2_1)))) rfl (aop_neq rfl rfl rfl) <| AR.nil <| hK3 _ (AWP.weak (Weak.kt [0, 1, 10] rfl) ?_)
 refine awp_cond rfl (fun hb15 => ?_) (fun hb15 => ?_)
 ·replace h := Sh.if_t h hb15
  refine awp_seqK fun K4 hK4 => awp_reg rfl <| AR.op rfl (aop_move (.inr rfl) rfl) <| AR.nil <| hK4 _ (AWP.weak (Weak.kt [4] rfl) ?_)
  refine awp_ret ?_
  obtain rfl := Option.some.inj h
  refine ⟨.inr rfl, bl false, rfl, ?_⟩
  exact Weak.e ⟨.k, trivial⟩
 ·replace h := Sh.if_f h hb15
  refine awp_skip <| hK2 _ (AWP.weak (Weak.kt [0, 1] rfl) ?_)
  refine awp_seqJ (fun (p : Unit) => (⟨[], .empty⟩ : St)) (fun (p : Unit) => G.slices_Equal_api_Take_api_Take_j1 = some r) ?_ ?_
  ·rintro ⟨⟩ h
   replace h : G.slices_Equal_api_Take_api_Take_j1 = some r := h
   unfold G.slices_Equal_api_Take_api_Take_j1 at h
   refine awp_seqK fun K5 hK5 => awp_reg rfl <| AR.op rfl (aop_move (.inr rfl) rfl) <| AR.nil <| hK5 _ ?_
   refine awp_ret ?_
   obtain rfl := Option.some.inj h
   refine ⟨.inr rfl, bl true, rfl, ?_⟩
   exact Weak.e ⟨.k, trivial⟩
  ·intro K6 hK6
   refine awp_seqK fun K7 hK7 => awp_reg rfl <| AR.op rfl (aop_move (.inl rfl) rfl) <| AR.op rfl (t_len_sl G.api_Take.av s1_0 rfl rfl el61) <| AR.op rfl (aop_move (.inl rfl) rfl) <| AR.nil <| hK7 _ (AWP.weak (Weak.kt [0, 1, 12, 13] rfl) ?_)
   refine awp_block <| awp_iter (fun (p : Int) => G.slices_Equal_api_Take_api_Take_b1 s1_0 s2_1 p) (fun (p : Int) => (⟨[(0, .sl (List.map G.api_Take.av s1_0)), (1, .sl (List.map G.api_Take.av s2_1)), (12, i64 (Sh.len s1_0)), (13, i64 p)], .empty⟩ : St)) h (Weak.kt [0, 1, 12, 13] rfl) ?_
   ·skip
    rintro v39 o1 h hx1
    replace h : G.slices_Equal_api_Take_api_Take_b1 s1_0 s2_1 v39 = some o1 := h
    unfold G.slices_Equal_api_Take_api_Take_b1 at h
    refine awp_seqK fun K8 hK8 => awp_reg rfl <| AR.op rfl (aop_lss rfl rfl rfl) <| AR.nil <| hK8 _ ?_
    refine awp_seqK fun K9 hK9 => awp_cond rfl (fun hb40 => ?_) (fun hb40 => ?_)
    ·replace h := Sh.if_t h hb40
     refine awp_skip <| hK9 _ (AWP.weak (Weak.kt [0, 1, 12, 13] rfl) ?_)
     refine awp_seqK fun K10 hK10 => awp_block <| awp_seqK fun K11 hK11 => awp_reg rfl <| AR.op rfl (aop_move (.inl rfl) rfl) <| AR.op rfl (aop_move (.inr rfl) rfl) <| AR.nil <| hK11 _ (AWP.weak (Weak.kt [0, 1, 12, 13, 5] rfl) ?_)
     refine awp_seqK fun K12 hK12 => awp_any [(true, false), (true, false), (true, false), (true, false), (true, false), (true, false), (true, false), (true, false), (true, false)] (by kernel_rfl) (by kernel_rfl) rfl ?_
     refine ARH.dry rfl (fun _ => aop_move (.inl rfl) rfl) <| ARH.dry rfl (fun _ => aop_move (.inl rfl) rfl) ?_
     obtain ⟨x49, hx49, h⟩ := Sh.bind_some' h
     obtain ⟨k50, hi50, hl50⟩ := Sh.idx_some hx49
     refine ARH.dry rfl (fun _ => t_index_sl G.api_Take.av s1_0 hi50 hl50 rfl rfl rfl el61 rfl) <| ARH.keep [0, 1, 12, 13, 5, 18] rfl <| ARH.dry (r := G.api_Take.av x49) rfl (fun _ => aop_load_pp rfl rfl sz60 rfl) <| ARH.dry rfl (fun _ => aop_move (.inl rfl) rfl) <| ARH.dry rfl (fun _ => aop_move (.inl rfl) rfl) <| ARH.keep [0, 1, 12, 13, 19, 20, 21] rfl ?_
     obtain ⟨x51, hx51, h⟩ := Sh.bind_some' h
     obtain ⟨k52, hi52, hl52⟩ := Sh.idx_some hx51
     refine ARH.dry rfl (fun _ => t_index_sl G.api_Take.av s2_1 hi52 hl52 rfl rfl rfl el61 rfl) <| ARH.dry (r := G.api_Take.av x51) rfl (fun _ => aop_load_pp rfl rfl sz60 rfl) <| ARH.dry (r := bl (!decide (x49 = x51))) rfl (fun _ => t_ne_api_Take (a := x49) (b := x51) rfl rfl rfl) <| ARH.nil <| hK12 _ (AWP.weak (Weak.kt [0, 1, 12, 13, 24] rfl) ?_)
     refine awp_cond rfl (fun hb53 => ?_) (fun hb53 => ?_)
     ·replace h := Sh.if_t h hb53
      refine awp_seqK fun K13 hK13 => awp_reg rfl <| AR.op rfl (aop_move (.inr rfl) rfl) <| AR.nil <| hK13 _ (AWP.weak (Weak.kt [4] rfl) ?_)
      refine awp_ret ?_
      replace h := Sh.exit_eq h hx1
      obtain rfl := Option.some.inj h
      refine ⟨.inr rfl, bl false, rfl, ?_⟩
      exact Weak.e ⟨.k, trivial⟩
     ·replace h := Sh.if_f h hb53
      refine awp_skip <| hK10 _ (AWP.weak (Weak.kt [0, 1, 12, 13] rfl) ?_)
      refine awp_reg rfl <| AR.op rfl (aop_add rfl rfl rfl rfl) <| AR.op rfl (aop_move (.inl rfl) rfl) <| AR.nil ?_
      replace h := Sh.next_eq h
      exact ⟨_, h, Weak.kt [0, 1, 12, 13] rfl⟩
    ·replace h := Sh.if_f h hb40
     refine awp_exit ?_
     replace h := Sh.exit_eq h hx1
     exact hK6 () _ h (Weak.kt [] rfl)
theorem slices_Equal_api_Take_api_Take_ok {W0 : World} (hT : Tab W0) {s1_0 : List G.api_Take} {s2_1 : List G.api_Take} {r : Bool} (h : G.slices_Equal_api_Take_api_Take s1_0 s2_1 = some r) : Fun1 Tryz.prog W0 52 [.sl (List.map G.api_Take.av s1_0), .sl (List.map G.api_Take.av s2_1)] (bl r) := Fun1.two (slices_Equal_api_Take_api_Take_ok0 hT h) (by simp)

end Wk
