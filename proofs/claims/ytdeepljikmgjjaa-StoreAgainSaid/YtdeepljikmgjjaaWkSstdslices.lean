/- That the functions of a package do what their plain functions say. -/
import Derived.Test.YtdeepljikmgjjaaSh
import Derived.Test.YtdeepljikmgjjaaWkSFacts
open Go Go.Av Go.Proofs
set_option linter.unusedVariables false
set_option maxHeartbeats 8000000
set_option maxRecDepth 20000
namespace Wk
theorem slices_Index_int_int_ok0 {W0 : World} (hT : Tab W0) {s_0 : List Int} {v_1 : Int} {r : Int} (h : G.slices_Index_int_int s_0 v_1 = some r) : Fun2 Try.prog W0 58 [.sl (List.map i64 s_0), i64 v_1] (i64 r) .empty := by
 refine fun2_of_awp Try.func58 rfl (by kernel_rfl) Try.ntmps58 (by simp) ?_
 unfold G.slices_Index_int_int at h
 show AWP _ _ _ _ ⟨[(0, .sl (List.map i64 s_0)), (1, i64 v_1)], .empty⟩ _
 refine awp_seqK fun K1 hK1 => awp_reg rfl <| AR.op rfl (aop_move (.inr rfl) rfl) <| AR.nil <| hK1 _ (AWP.weak (Weak.kt [0, 1] rfl) ?_)
 refine awp_seqJ (fun (p : Unit) => (⟨[], .empty⟩ : St)) (fun (p : Unit) => G.slices_Index_int_int_j1 = some r) ?_ ?_
 ·rintro ⟨⟩ h
  replace h : G.slices_Index_int_int_j1 = some r := h
  unfold G.slices_Index_int_int_j1 at h
  refine awp_seqK fun K2 hK2 => awp_reg rfl <| AR.op rfl (aop_move (.inr rfl) rfl) <| AR.nil <| hK2 _ ?_
  refine awp_ret ?_
  obtain rfl := Option.some.inj h
  refine ⟨.inr rfl, i64 (-1), rfl, ?_⟩
  exact Weak.e ⟨.k, trivial⟩
 ·intro K3 hK3
  refine awp_seqK fun K4 hK4 => awp_reg rfl <| AR.op rfl (aop_move (.inl rfl) rfl) <| AR.op rfl (t_len_sl i64 s_0 rfl rfl el36) <| AR.op rfl (aop_move (.inl rfl) rfl) <| AR.nil <| hK4 _ (AWP.weak (Weak.kt [0, 1, 7, 8] rfl) ?_)
  refine awp_block <| awp_iter (fun (p : Int) => G.slices_Index_int_int_b1 s_0 v_1 p) (fun (p : Int) => (⟨[(0, .sl (List.map i64 s_0)), (1, i64 v_1), (7, i64 (Sh.len s_0)), (8, i64 p)], .empty⟩ : St)) h (Weak.kt [0, 1, 7, 8] rfl) ?_
  ·skip
   rintro v22 o1 h hx1
   replace h : G.slices_Index_int_int_b1 s_0 v_1 v22 = some o1 := h
   unfold G.slices_Index_int_int_b1 at h
   refine awp_seqK fun K5 hK5 => awp_reg rfl <| AR.op rfl (aop_lss rfl rfl rfl) <| AR.nil <| hK5 _ ?_
   refine awp_seqK fun K6 hK6 => awp_cond rfl (fun hb23 => ?_) (fun hb23 => ?_)
   ·replace h := Sh.if_t h hb23
    refine awp_skip <| hK6 _ (AWP.weak (Weak.kt [0, 1, 7, 8] rfl) ?_)
    refine awp_seqK fun K7 hK7 => awp_block <| awp_seqK fun K8 hK8 => awp_reg rfl <| AR.op rfl (aop_move (.inl rfl) rfl) <| AR.op rfl (aop_move (.inr rfl) rfl) <| AR.nil <| hK8 _ (AWP.weak (Weak.kt [0, 1, 7, 8, 5] rfl) ?_)
    refine awp_seqK fun K9 hK9 => awp_reg rfl <| AR.op rfl (aop_move (.inl rfl) rfl) <| AR.op rfl (aop_move (.inl rfl) rfl) <| AR.op rfl (aop_move (.inl rfl) rfl) <| AR.keep [0, 1, 7, 8, 5, 11, 12, 13] rfl ?_
    obtain ⟨x28, hx28, h⟩ := Sh.bind_some' h
    obtain ⟨k29, hi29, hl29⟩ := Sh.idx_some hx28
    refine AR.op rfl (t_index_sl i64 s_0 hi29 hl29 rfl rfl rfl el36 rfl) <| AR.op (r := i64 x28) rfl (aop_load_pp rfl rfl sz3 rfl) <| AR.op (r := bl (decide (v_1 = x28))) rfl (aop_eql rfl rfl rfl) <| AR.nil <| hK9 _ (AWP.weak (Weak.kt [0, 1, 7, 8, 5, 16] rfl) ?_)
    refine awp_cond rfl (fun hb30 => ?_) (fun hb30 => ?_)
    ·replace h := Sh.if_t h hb30
     refine awp_seqK fun K10 hK10 => awp_reg rfl <| AR.op rfl (aop_move (.inl rfl) rfl) <| AR.op rfl (aop_move (.inr rfl) rfl) <| AR.nil <| hK10 _ (AWP.weak (Weak.kt [4] rfl) ?_)
     refine awp_ret ?_
     replace h := Sh.exit_eq h hx1
     obtain rfl := Option.some.inj h
     refine ⟨.inr rfl, i64 v22, rfl, ?_⟩
     exact Weak.e ⟨.k, trivial⟩
    ·replace h := Sh.if_f h hb30
     refine awp_skip <| hK7 _ (AWP.weak (Weak.kt [0, 1, 7, 8] rfl) ?_)
     refine awp_reg rfl <| AR.op rfl (aop_add rfl rfl rfl rfl) <| AR.op rfl (aop_move (.inl rfl) rfl) <| AR.nil ?_
     replace h := Sh.next_eq h
     exact ⟨_, h, Weak.kt [0, 1, 7, 8] rfl⟩
   ·replace h := Sh.if_f h hb23
    refine awp_exit ?_
    replace h := Sh.exit_eq h hx1
    exact hK3 () _ h (Weak.kt [] rfl)
theorem slices_Index_int_int_ok {W0 : World} (hT : Tab W0) {s_0 : List Int} {v_1 : Int} {r : Int} (h : G.slices_Index_int_int s_0 v_1 = some r) : Fun1 Try.prog W0 58 [.sl (List.map i64 s_0), i64 v_1] (i64 r) := Fun1.two (slices_Index_int_int_ok0 hT h) (by simp)


theorem slices_Contains_int_int_ok0 {W0 : World} (hT : Tab W0) {s_0 : List Int} {v_1 : Int} {r : Bool} (h : G.slices_Contains_int_int s_0 v_1 = some r) : Fun2 Try.prog W0 49 [.sl (List.map i64 s_0), i64 v_1] (bl r) .empty := by
 refine fun2_of_awp Try.func49 rfl (by kernel_rfl) Try.ntmps49 (by simp) ?_
 unfold G.slices_Contains_int_int at h
 show AWP _ _ _ _ ⟨[(0, .sl (List.map i64 s_0)), (1, i64 v_1)], .empty⟩ _
 refine awp_seqK fun K1 hK1 => awp_reg rfl <| AR.op rfl (aop_move (.inr rfl) rfl) <| AR.nil <| hK1 _ (AWP.weak (Weak.kt [0, 1] rfl) ?_)
 refine awp_seqK fun K2 hK2 => awp_reg rfl <| AR.op rfl (aop_move (.inl rfl) rfl) <| AR.op rfl (aop_move (.inl rfl) rfl) ?_
 obtain ⟨r3, hr3, h⟩ := Sh.bind_some' h
 refine AR.op (r := i64 r3) rfl (aop_call1 rfl rfl (by simp) (slices_Index_int_int_ok hT hr3)) <| AR.keep [7] rfl <| AR.op rfl (aop_geq rfl rfl rfl) <| AR.op rfl (aop_move (.inr rfl) rfl) <| AR.nil <| hK2 _ (AWP.weak (Weak.kt [4] rfl) ?_)
 refine awp_ret ?_
 obtain rfl := Option.some.inj h
 refine ⟨.inr rfl, bl (decide ((0 : Int) ≤ r3)), rfl, ?_⟩
 exact Weak.e ⟨.k, trivial⟩
theorem slices_Contains_int_int_ok {W0 : World} (hT : Tab W0) {s_0 : List Int} {v_1 : Int} {r : Bool} (h : G.slices_Contains_int_int s_0 v_1 = some r) : Fun1 Try.prog W0 49 [.sl (List.map i64 s_0), i64 v_1] (bl r) := Fun1.two (slices_Contains_int_int_ok0 hT h) (by simp)


theorem slices_Clone_int_int_own {W0 : World} (hT : Tab W0) {s_0 : List Int} {r : List Int} (h : G.slices_Clone_int_int s_0 = some r) : Fun2 Try.prog W0 30 [.sl (List.map i64 s_0)] (.view 0 0 (List.map i64 r).length) ⟨1, [(0, (1, List.map i64 r))], []⟩ := by
 refine fun2_of_awp Try.func30 rfl (by kernel_rfl) Try.ntmps30 (by simp) ?_
 replace h : Sh.app 8 [] s_0 = some r := h
 show AWP _ _ _ _ ⟨[(0, .sl (List.map i64 s_0))], .empty⟩ _
 refine awp_seqK fun K1 hK1 => awp_reg rfl <| AR.op rfl (aop_move (.inr rfl) rfl) <| AR.nil <| hK1 _ (AWP.weak (Weak.kt [0] rfl) ?_)
 refine awp_seqK fun K2 hK2 => awp_seqK fun K3 hK3 => awp_eqnil (es := List.map i64 s_0) rfl rfl rfl rfl rfl rfl (by decide) (by decide) Try.underlying36 rfl (fun b hb => ?_)
 refine hK3 _ (AWP.weak (Weak.kt [0, 4] rfl) ?_)
 refine awp_cond rfl (fun hc => ?_) (fun hc => ?_)
 ·obtain rfl : s_0 = [] := by simpa using hb hc
  obtain rfl : r = [] := by simpa using (Sh.app_some h).2
  refine awp_seqK fun K4 hK4 => awp_reg rfl <| AR.op rfl (aop_move (.inr rfl) rfl) <| AR.nil <| hK4 _ (AWP.weak (Weak.kt [2] rfl) ?_)
  refine awp_ret <| ⟨.inr rfl, nilS, rfl, ?_⟩
  exact Weak.re [] [0] rfl rfl rfl (.fresh (by simp) dt trivial) ⟨⟨_, rfl, .nil (by simp)⟩, trivial⟩
 ·refine awp_skip <| hK2 _ (AWP.weak (Weak.kt [0] rfl) ?_)
  refine awp_seqK fun K5 hK5 => awp_reg rfl <| AR.op (r := .clip []) rfl (aop_buildSlice rfl (xo := []) rfl rfl rfl (by simp) (by simp) el36 ze36 (by decide)) <| AR.op rfl (aop_move (.inl rfl) rfl) <| AR.op (r := .view 0 0 (List.map i64 r).length) rfl (t_app_clip0 s_0 r h et36 (fun _ => rfl) rfl rfl rfl rfl rfl) <| AR.op rfl (aop_move (.inr rfl) rfl) <| AR.nil <| hK5 _ (AWP.weak (Weak.kt [2] rfl) ?_)
  refine awp_ret <| ⟨.inr rfl, .view 0 0 (List.map i64 r).length, rfl, ?_⟩
  exact Weak.re [(0, 0)] [] rfl rfl rfl (.cons rfl rfl (.same (by simp)) dt trivial) ⟨⟨_, rfl, .view rfl⟩, trivial⟩
theorem slices_Clone_int_int_ok {W0 : World} (hT : Tab W0) {s_0 : List Int} {r : List Int} (h : G.slices_Clone_int_int s_0 = some r) : Fun1 Try.prog W0 30 [.sl (List.map i64 s_0)] (.sl (List.map i64 r)) :=
 (slices_Clone_int_int_own hT h).give (Weak.e ⟨⟨_, rfl, .lendAll rfl rfl (by simp)⟩, trivial⟩) (by simp)


theorem slices_Clone_api_Take_api_Take_own {W0 : World} (hT : Tab W0) {s_0 : List G.api_Take} {r : List G.api_Take} (h : G.slices_Clone_api_Take_api_Take s_0 = some r) : Fun2 Try.prog W0 39 [.sl (List.map G.api_Take.av s_0)] (.view 0 0 (List.map G.api_Take.av r).length) ⟨1, [(0, (2, List.map G.api_Take.av r))], []⟩ := by
 refine fun2_of_awp Try.func39 rfl (by kernel_rfl) Try.ntmps39 (by simp) ?_
 replace h : Sh.app 16 [] s_0 = some r := h
 show AWP _ _ _ _ ⟨[(0, .sl (List.map G.api_Take.av s_0))], .empty⟩ _
 refine awp_seqK fun K1 hK1 => awp_reg rfl <| AR.op rfl (aop_move (.inr rfl) rfl) <| AR.nil <| hK1 _ (AWP.weak (Weak.kt [0] rfl) ?_)
 refine awp_seqK fun K2 hK2 => awp_seqK fun K3 hK3 => awp_eqnil (es := List.map G.api_Take.av s_0) rfl rfl rfl rfl rfl rfl (by decide) (by decide) Try.underlying56 rfl (fun b hb => ?_)
 refine hK3 _ (AWP.weak (Weak.kt [0, 4] rfl) ?_)
 refine awp_cond rfl (fun hc => ?_) (fun hc => ?_)
 ·obtain rfl : s_0 = [] := by simpa using hb hc
  obtain rfl : r = [] := by simpa using (Sh.app_some h).2
  refine awp_seqK fun K4 hK4 => awp_reg rfl <| AR.op rfl (aop_move (.inr rfl) rfl) <| AR.nil <| hK4 _ (AWP.weak (Weak.kt [2] rfl) ?_)
  refine awp_ret <| ⟨.inr rfl, nilS, rfl, ?_⟩
  exact Weak.re [] [0] rfl rfl rfl (.fresh (by simp) dt trivial) ⟨⟨_, rfl, .nil (by simp)⟩, trivial⟩
 ·refine awp_skip <| hK2 _ (AWP.weak (Weak.kt [0] rfl) ?_)
  refine awp_seqK fun K5 hK5 => awp_reg rfl <| AR.op (r := .clip []) rfl (aop_buildSlice rfl (xo := []) rfl rfl rfl (by simp) (by simp) el56 ze56 (by decide)) <| AR.op rfl (aop_move (.inl rfl) rfl) <| AR.op (r := .view 0 0 (List.map G.api_Take.av r).length) rfl (t_app_clip0 s_0 r h et56 (fun _ => rfl) rfl rfl rfl rfl rfl) <| AR.op rfl (aop_move (.inr rfl) rfl) <| AR.nil <| hK5 _ (AWP.weak (Weak.kt [2] rfl) ?_)
  refine awp_ret <| ⟨.inr rfl, .view 0 0 (List.map G.api_Take.av r).length, rfl, ?_⟩
  exact Weak.re [(0, 0)] [] rfl rfl rfl (.cons rfl rfl (.same (by simp)) dt trivial) ⟨⟨_, rfl, .view rfl⟩, trivial⟩
theorem slices_Clone_api_Take_api_Take_ok {W0 : World} (hT : Tab W0) {s_0 : List G.api_Take} {r : List G.api_Take} (h : G.slices_Clone_api_Take_api_Take s_0 = some r) : Fun1 Try.prog W0 39 [.sl (List.map G.api_Take.av s_0)] (.sl (List.map G.api_Take.av r)) :=
 (slices_Clone_api_Take_api_Take_own hT h).give (Weak.e ⟨⟨_, rfl, .lendAll rfl rfl (by simp)⟩, trivial⟩) (by simp)


theorem slices_Index_api_Take_api_Take_ok0 {W0 : World} (hT : Tab W0) {s_0 : List G.api_Take} {v_1 : G.api_Take} {r : Int} (h : G.slices_Index_api_Take_api_Take s_0 v_1 = some r) : Fun2 Try.prog W0 65 [.sl (List.map G.api_Take.av s_0), G.api_Take.av v_1] (i64 r) .empty := by
 refine fun2_of_awp Try.func65 rfl (by kernel_rfl) Try.ntmps65 (by simp) ?_
 unfold G.slices_Index_api_Take_api_Take at h
 show AWP _ _ _ _ ⟨[(0, .sl (List.map G.api_Take.av s_0)), (1, G.api_Take.av v_1)], .empty⟩ _
 refine awp_seqK fun K1 hK1 => awp_reg rfl <| AR.op (r := .ref 0 0 0) rfl (aop_box 2 [G.api_Take.av v_1] rfl rfl rfl (.inl ⟨rfl, rfl⟩)) <| AR.op rfl (aop_move (.inr rfl) rfl) <| AR.nil <| hK1 _ (AWP.weak (Weak.e (fr' := [(0, .sl (List.map G.api_Take.av s_0)), (3, .pp [i64 v_1.Key, i64 v_1.From] 0)]) (H' := .empty) ⟨⟨.sl (List.map G.api_Take.av s_0), rfl, .sm⟩, ⟨_, rfl, .frzA rfl rfl rfl rfl (by simp)⟩, trivial⟩) ?_)
 refine awp_seqJ (fun (p : Unit) => (⟨[], .empty⟩ : St)) (fun (p : Unit) => G.slices_Index_api_Take_api_Take_j1 = some r) ?_ ?_
 ·rintro ⟨⟩ h
  replace h : G.slices_Index_api_Take_api_Take_j1 = some r := h
  unfold G.slices_Index_api_Take_api_Take_j1 at h
  refine awp_seqK fun K2 hK2 => awp_reg rfl <| AR.op rfl (aop_move (.inr rfl) rfl) <| AR.nil <| hK2 _ ?_
  refine awp_ret ?_
  obtain rfl := Option.some.inj h
  refine ⟨.inr rfl, i64 (-1), rfl, ?_⟩
  exact Weak.e ⟨.k, trivial⟩
 ·intro K3 hK3
  refine awp_seqK fun K4 hK4 => awp_reg rfl <| AR.op rfl (aop_move (.inl rfl) rfl) <| AR.op rfl (t_len_sl G.api_Take.av s_0 rfl rfl el56) <| AR.op rfl (aop_move (.inl rfl) rfl) <| AR.nil <| hK4 _ (AWP.weak (Weak.kt [0, 3, 7, 8] rfl) ?_)
  refine awp_block <| awp_iter (fun (p : Int) => G.slices_Index_api_Take_api_Take_b1 s_0 v_1 p) (fun (p : Int) => (⟨[(0, .sl (List.map G.api_Take.av s_0)), (3, .pp [i64 v_1.Key, i64 v_1.From] 0), (7, i64 (Sh.len s_0)), (8, i64 p)], .empty⟩ : St)) h (Weak.kt [0, 3, 7, 8] rfl) ?_
  ·skip
   rintro v22 o1 h hx1
   replace h : G.slices_Index_api_Take_api_Take_b1 s_0 v_1 v22 = some o1 := h
   unfold G.slices_Index_api_Take_api_Take_b1 at h
   refine awp_seqK fun K5 hK5 => awp_reg rfl <| AR.op rfl (aop_lss rfl rfl rfl) <| AR.nil <| hK5 _ ?_
   refine awp_seqK fun K6 hK6 => awp_cond rfl (fun hb23 => ?_) (fun hb23 => ?_)
   ·replace h := Sh.if_t h hb23
    refine awp_skip <| hK6 _ (AWP.weak (Weak.kt [0, 3, 7, 8] rfl) ?_)
    refine awp_seqK fun K7 hK7 => awp_block <| awp_seqK fun K8 hK8 => awp_reg rfl <| AR.op rfl (aop_move (.inl rfl) rfl) <| AR.op rfl (aop_move (.inr rfl) rfl) <| AR.nil <| hK8 _ (AWP.weak (Weak.kt [0, 3, 7, 8, 5] rfl) ?_)
    refine awp_seqK fun K9 hK9 => awp_any [(true, false), (true, false), (true, false), (true, false), (true, false), (true, false)] (by kernel_rfl) (by kernel_rfl) rfl ?_
    refine ARH.dry (r := G.api_Take.av v_1) rfl (fun _ => aop_load_pp rfl rfl sz78 rfl) <| ARH.dry rfl (fun _ => aop_move (.inl rfl) rfl) <| ARH.dry rfl (fun _ => aop_move (.inl rfl) rfl) <| ARH.keep [0, 3, 7, 8, 5, 11, 12, 13] rfl ?_
    obtain ⟨x28, hx28, h⟩ := Sh.bind_some' h
    obtain ⟨k29, hi29, hl29⟩ := Sh.idx_some hx28
    refine ARH.dry rfl (fun _ => t_index_sl G.api_Take.av s_0 hi29 hl29 rfl rfl rfl el56 rfl) <| ARH.dry (r := G.api_Take.av x28) rfl (fun _ => aop_load_pp rfl rfl sz78 rfl) <| ARH.dry (r := bl (decide (v_1 = x28))) rfl (fun _ => t_eq_api_Take (a := v_1) (b := x28) rfl rfl rfl) <| ARH.nil <| hK9 _ (AWP.weak (Weak.kt [0, 3, 7, 8, 5, 16] rfl) ?_)
    refine awp_cond rfl (fun hb30 => ?_) (fun hb30 => ?_)
    ·replace h := Sh.if_t h hb30
     refine awp_seqK fun K10 hK10 => awp_reg rfl <| AR.op rfl (aop_move (.inl rfl) rfl) <| AR.op rfl (aop_move (.inr rfl) rfl) <| AR.nil <| hK10 _ (AWP.weak (Weak.kt [4] rfl) ?_)
     refine awp_ret ?_
     replace h := Sh.exit_eq h hx1
     obtain rfl := Option.some.inj h
     refine ⟨.inr rfl, i64 v22, rfl, ?_⟩
     exact Weak.e ⟨.k, trivial⟩
    ·replace h := Sh.if_f h hb30
     refine awp_skip <| hK7 _ (AWP.weak (Weak.kt [0, 3, 7, 8] rfl) ?_)
     refine awp_reg rfl <| AR.op rfl (aop_add rfl rfl rfl rfl) <| AR.op rfl (aop_move (.inl rfl) rfl) <| AR.nil ?_
     replace h := Sh.next_eq h
     exact ⟨_, h, Weak.kt [0, 3, 7, 8] rfl⟩
   ·replace h := Sh.if_f h hb23
    refine awp_exit ?_
    replace h := Sh.exit_eq h hx1
    exact hK3 () _ h (Weak.kt [] rfl)
theorem slices_Index_api_Take_api_Take_ok {W0 : World} (hT : Tab W0) {s_0 : List G.api_Take} {v_1 : G.api_Take} {r : Int} (h : G.slices_Index_api_Take_api_Take s_0 v_1 = some r) : Fun1 Try.prog W0 65 [.sl (List.map G.api_Take.av s_0), G.api_Take.av v_1] (i64 r) := Fun1.two (slices_Index_api_Take_api_Take_ok0 hT h) (by simp)


theorem slices_Contains_api_Take_api_Take_ok0 {W0 : World} (hT : Tab W0) {s_0 : List G.api_Take} {v_1 : G.api_Take} {r : Bool} (h : G.slices_Contains_api_Take_api_Take s_0 v_1 = some r) : Fun2 Try.prog W0 60 [.sl (List.map G.api_Take.av s_0), G.api_Take.av v_1] (bl r) .empty := by
 refine fun2_of_awp Try.func60 rfl (by kernel_rfl) Try.ntmps60 (by simp) ?_
 unfold G.slices_Contains_api_Take_api_Take at h
 show AWP _ _ _ _ ⟨[(0, .sl (List.map G.api_Take.av s_0)), (1, G.api_Take.av v_1)], .empty⟩ _
 refine awp_seqK fun K1 hK1 => awp_reg rfl <| AR.op (r := .ref 0 0 0) rfl (aop_box 2 [G.api_Take.av v_1] rfl rfl rfl (.inl ⟨rfl, rfl⟩)) <| AR.op rfl (aop_move (.inr rfl) rfl) <| AR.nil <| hK1 _ (AWP.weak (Weak.e (fr' := [(0, .sl (List.map G.api_Take.av s_0)), (3, .pp [i64 v_1.Key, i64 v_1.From] 0)]) (H' := .empty) ⟨⟨.sl (List.map G.api_Take.av s_0), rfl, .sm⟩, ⟨_, rfl, .frzA rfl rfl rfl rfl (by simp)⟩, trivial⟩) ?_)
 refine awp_seqK fun K2 hK2 => awp_reg rfl <| AR.op rfl (aop_move (.inl rfl) rfl) <| AR.op (r := G.api_Take.av v_1) rfl (aop_load_pp rfl rfl sz78 rfl) ?_
 obtain ⟨r3, hr3, h⟩ := Sh.bind_some' h
 refine AR.op (r := i64 r3) rfl (aop_call1 rfl rfl (by simp) (slices_Index_api_Take_api_Take_ok hT hr3)) <| AR.keep [7] rfl <| AR.op rfl (aop_geq rfl rfl rfl) <| AR.op rfl (aop_move (.inr rfl) rfl) <| AR.nil <| hK2 _ (AWP.weak (Weak.kt [4] rfl) ?_)
 refine awp_ret ?_
 obtain rfl := Option.some.inj h
 refine ⟨.inr rfl, bl (decide ((0 : Int) ≤ r3)), rfl, ?_⟩
 exact Weak.e ⟨.k, trivial⟩
theorem slices_Contains_api_Take_api_Take_ok {W0 : World} (hT : Tab W0) {s_0 : List G.api_Take} {v_1 : G.api_Take} {r : Bool} (h : G.slices_Contains_api_Take_api_Take s_0 v_1 = some r) : Fun1 Try.prog W0 60 [.sl (List.map G.api_Take.av s_0), G.api_Take.av v_1] (bl r) := Fun1.two (slices_Contains_api_Take_api_Take_ok0 hT h) (by simp)


theorem slices_Index_edge_over_api_Choice_ok0 {W0 : World} (hT : Tab W0) {s_0 : List G.api_Choice} {v_1 : G.api_Choice} {r : Int} (h : G.slices_Index_edge_over_api_Choice s_0 v_1 = some r) : Fun2 Try.prog W0 100 [.sl (List.map G.api_Choice.av s_0), G.api_Choice.av v_1] (i64 r) .empty := by
 refine fun2_of_awp Try.func100 rfl (by kernel_rfl) Try.ntmps100 (by simp) ?_
 unfold G.slices_Index_edge_over_api_Choice at h
 show AWP _ _ _ _ ⟨[(0, .sl (List.map G.api_Choice.av s_0)), (1, G.api_Choice.av v_1)], .empty⟩ _
 refine awp_seqK fun K1 hK1 => awp_reg rfl <| AR.op (r := .ref 0 0 0) rfl (aop_box 3 [G.api_Choice.av v_1] rfl rfl rfl (.inl ⟨rfl, rfl⟩)) <| AR.op rfl (aop_move (.inr rfl) rfl) <| AR.nil <| hK1 _ (AWP.weak (Weak.e (fr' := [(0, .sl (List.map G.api_Choice.av s_0)), (3, .pp [i64 v_1.Key, i64 v_1.A, i64 v_1.B] 0)]) (H' := .empty) ⟨⟨.sl (List.map G.api_Choice.av s_0), rfl, .sm⟩, ⟨_, rfl, .frzA rfl rfl rfl rfl (by simp)⟩, trivial⟩) ?_)
 refine awp_seqJ (fun (p : Unit) => (⟨[], .empty⟩ : St)) (fun (p : Unit) => G.slices_Index_edge_over_api_Choice_j1 = some r) ?_ ?_
 ·rintro ⟨⟩ h
  replace h : G.slices_Index_edge_over_api_Choice_j1 = some r := h
  unfold G.slices_Index_edge_over_api_Choice_j1 at h
  refine awp_seqK fun K2 hK2 => awp_reg rfl <| AR.op rfl (aop_move (.inr rfl) rfl) <| AR.nil <| hK2 _ ?_
  refine awp_ret ?_
  obtain rfl := Option.some.inj h
  refine ⟨.inr rfl, i64 (-1), rfl, ?_⟩
  exact Weak.e ⟨.k, trivial⟩
 ·intro K3 hK3
  refine awp_seqK fun K4 hK4 => awp_reg rfl <| AR.op rfl (aop_move (.inl rfl) rfl) <| AR.op rfl (t_len_sl G.api_Choice.av s_0 rfl rfl el114) <| AR.op rfl (aop_move (.inl rfl) rfl) <| AR.nil <| hK4 _ (AWP.weak (Weak.kt [0, 3, 7, 8] rfl) ?_)
  refine awp_block <| awp_iter (fun (p : Int) => G.slices_Index_edge_over_api_Choice_b1 s_0 v_1 p) (fun (p : Int) => (⟨[(0, .sl (List.map G.api_Choice.av s_0)), (3, .pp [i64 v_1.Key, i64 v_1.A, i64 v_1.B] 0), (7, i64 (Sh.len s_0)), (8, i64 p)], .empty⟩ : St)) h (Weak.kt [0, 3, 7, 8] rfl) ?_
  ·skip
   rintro v22 o1 h hx1
   replace h : G.slices_Index_edge_over_api_Choice_b1 s_0 v_1 v22 = some o1 := h
   unfold G.slices_Index_edge_over_api_Choice_b1 at h
   refine awp_seqK fun K5 hK5 => awp_reg rfl <| AR.op rfl (aop_lss rfl rfl rfl) <| AR.nil <| hK5 _ ?_
   refine awp_seqK fun K6 hK6 => awp_cond rfl (fun hb23 => ?_) (fun hb23 => ?_)
   ·replace h := Sh.if_t h hb23
    refine awp_skip <| hK6 _ (AWP.weak (Weak.kt [0, 3, 7, 8] rfl) ?_)
    refine awp_seqK fun K7 hK7 => awp_block <| awp_seqK fun K8 hK8 => awp_reg rfl <| AR.op rfl (aop_move (.inl rfl) rfl) <| AR.op rfl (aop_move (.inr rfl) rfl) <| AR.nil <| hK8 _ (AWP.weak (Weak.kt [0, 3, 7, 8, 5] rfl) ?_)
    refine awp_seqK fun K9 hK9 => awp_any [(true, false), (true, false), (true, false), (true, false), (true, false), (true, false)] (by kernel_rfl) (by kernel_rfl) rfl ?_
    refine ARH.dry (r := G.api_Choice.av v_1) rfl (fun _ => aop_load_pp rfl rfl sz35 rfl) <| ARH.dry rfl (fun _ => aop_move (.inl rfl) rfl) <| ARH.dry rfl (fun _ => aop_move (.inl rfl) rfl) <| ARH.keep [0, 3, 7, 8, 5, 11, 12, 13] rfl ?_
    obtain ⟨x28, hx28, h⟩ := Sh.bind_some' h
    obtain ⟨k29, hi29, hl29⟩ := Sh.idx_some hx28
    refine ARH.dry rfl (fun _ => t_index_sl G.api_Choice.av s_0 hi29 hl29 rfl rfl rfl el114 rfl) <| ARH.dry (r := G.api_Choice.av x28) rfl (fun _ => aop_load_pp rfl rfl sz35 rfl) <| ARH.dry (r := bl (decide (v_1 = x28))) rfl (fun _ => t_eq_api_Choice (a := v_1) (b := x28) rfl rfl rfl) <| ARH.nil <| hK9 _ (AWP.weak (Weak.kt [0, 3, 7, 8, 5, 16] rfl) ?_)
    refine awp_cond rfl (fun hb30 => ?_) (fun hb30 => ?_)
    ·replace h := Sh.if_t h hb30
     refine awp_seqK fun K10 hK10 => awp_reg rfl <| AR.op rfl (aop_move (.inl rfl) rfl) <| AR.op rfl (aop_move (.inr rfl) rfl) <| AR.nil <| hK10 _ (AWP.weak (Weak.kt [4] rfl) ?_)
     refine awp_ret ?_
     replace h := Sh.exit_eq h hx1
     obtain rfl := Option.some.inj h
     refine ⟨.inr rfl, i64 v22, rfl, ?_⟩
     exact Weak.e ⟨.k, trivial⟩
    ·replace h := Sh.if_f h hb30
     refine awp_skip <| hK7 _ (AWP.weak (Weak.kt [0, 3, 7, 8] rfl) ?_)
     refine awp_reg rfl <| AR.op rfl (aop_add rfl rfl rfl rfl) <| AR.op rfl (aop_move (.inl rfl) rfl) <| AR.nil ?_
     replace h := Sh.next_eq h
     exact ⟨_, h, Weak.kt [0, 3, 7, 8] rfl⟩
   ·replace h := Sh.if_f h hb23
    refine awp_exit ?_
    replace h := Sh.exit_eq h hx1
    exact hK3 () _ h (Weak.kt [] rfl)
theorem slices_Index_edge_over_api_Choice_ok {W0 : World} (hT : Tab W0) {s_0 : List G.api_Choice} {v_1 : G.api_Choice} {r : Int} (h : G.slices_Index_edge_over_api_Choice s_0 v_1 = some r) : Fun1 Try.prog W0 100 [.sl (List.map G.api_Choice.av s_0), G.api_Choice.av v_1] (i64 r) := Fun1.two (slices_Index_edge_over_api_Choice_ok0 hT h) (by simp)


theorem slices_Contains_edge_over_api_Choice_ok0 {W0 : World} (hT : Tab W0) {s_0 : List G.api_Choice} {v_1 : G.api_Choice} {r : Bool} (h : G.slices_Contains_edge_over_api_Choice s_0 v_1 = some r) : Fun2 Try.prog W0 99 [.sl (List.map G.api_Choice.av s_0), G.api_Choice.av v_1] (bl r) .empty := by
 refine fun2_of_awp Try.func99 rfl (by kernel_rfl) Try.ntmps99 (by simp) ?_
 unfold G.slices_Contains_edge_over_api_Choice at h
 show AWP _ _ _ _ ⟨[(0, .sl (List.map G.api_Choice.av s_0)), (1, G.api_Choice.av v_1)], .empty⟩ _
 refine awp_seqK fun K1 hK1 => awp_reg rfl <| AR.op (r := .ref 0 0 0) rfl (aop_box 3 [G.api_Choice.av v_1] rfl rfl rfl (.inl ⟨rfl, rfl⟩)) <| AR.op rfl (aop_move (.inr rfl) rfl) <| AR.nil <| hK1 _ (AWP.weak (Weak.e (fr' := [(0, .sl (List.map G.api_Choice.av s_0)), (3, .pp [i64 v_1.Key, i64 v_1.A, i64 v_1.B] 0)]) (H' := .empty) ⟨⟨.sl (List.map G.api_Choice.av s_0), rfl, .sm⟩, ⟨_, rfl, .frzA rfl rfl rfl rfl (by simp)⟩, trivial⟩) ?_)
 refine awp_seqK fun K2 hK2 => awp_reg rfl <| AR.op rfl (aop_move (.inl rfl) rfl) <| AR.op (r := G.api_Choice.av v_1) rfl (aop_load_pp rfl rfl sz35 rfl) ?_
 obtain ⟨r3, hr3, h⟩ := Sh.bind_some' h
 refine AR.op (r := i64 r3) rfl (aop_call1 rfl rfl (by simp) (slices_Index_edge_over_api_Choice_ok hT hr3)) <| AR.keep [7] rfl <| AR.op rfl (aop_geq rfl rfl rfl) <| AR.op rfl (aop_move (.inr rfl) rfl) <| AR.nil <| hK2 _ (AWP.weak (Weak.kt [4] rfl) ?_)
 refine awp_ret ?_
 obtain rfl := Option.some.inj h
 refine ⟨.inr rfl, bl (decide ((0 : Int) ≤ r3)), rfl, ?_⟩
 exact Weak.e ⟨.k, trivial⟩
theorem slices_Contains_edge_over_api_Choice_ok {W0 : World} (hT : Tab W0) {s_0 : List G.api_Choice} {v_1 : G.api_Choice} {r : Bool} (h : G.slices_Contains_edge_over_api_Choice s_0 v_1 = some r) : Fun1 Try.prog W0 99 [.sl (List.map G.api_Choice.av s_0), G.api_Choice.av v_1] (bl r) := Fun1.two (slices_Contains_edge_over_api_Choice_ok0 hT h) (by simp)


theorem slices_Clone_fact_Fact_fact_Fact_view {W0 : World} (hT : Tab W0) {s_0 : List G.fact_Fact} {r : List G.fact_Fact} (h : G.slices_Clone_fact_Fact_fact_Fact s_0 = some r) : Fun3 Try.prog (.pinned W0 1) 29 [.view 0 0 (List.map G.fact_Fact.av s_0).length] ⟨1, [(0, (7, List.map G.fact_Fact.av s_0))], []⟩ (.view 1 0 (List.map G.fact_Fact.av r).length) ⟨2, [(0, (7, List.map G.fact_Fact.av s_0)), (1, (7, List.map G.fact_Fact.av r))], []⟩ := by
 refine fun3_of_awp rfl Try.func29 rfl (by kernel_rfl) Try.ntmps29 (by simp) ?_
 replace h : Sh.app 72 [] s_0 = some r := h
 show AWP _ _ _ _ ⟨[(0, .view 0 0 (List.map G.fact_Fact.av s_0).length)], ⟨1, [(0, (7, List.map G.fact_Fact.av s_0))], []⟩⟩ _
 refine awp_seqK fun K1 hK1 => awp_reg rfl <| AR.op rfl (aop_move (.inr rfl) rfl) <| AR.nil <| hK1 _ (AWP.weak (Weak.kt [0] rfl) ?_)
 refine awp_seqK fun K2 hK2 => awp_seqK fun K3 hK3 => awp_eqnilV (es := List.map G.fact_Fact.av s_0) rfl rfl rfl rfl rfl rfl (by decide) (by decide) Try.underlying25 rfl rfl (fun b hb => ?_)
 refine hK3 _ (AWP.weak (Weak.kt [0, 4] rfl) ?_)
 refine awp_cond rfl (fun hc => ?_) (fun hc => ?_)
 ·obtain rfl : s_0 = [] := by simpa using hb hc
  obtain rfl : r = [] := by simpa using (Sh.app_some h).2
  refine awp_seqK fun K4 hK4 => awp_reg rfl <| AR.op rfl (aop_move (.inr rfl) rfl) <| AR.nil <| hK4 _ (AWP.weak (Weak.kt [2] rfl) ?_)
  refine awp_ret <| ⟨.inr rfl, nilS, rfl, ?_⟩
  exact Weak.re [(0, 0)] [1] rfl rfl rfl (.cons rfl rfl (.same (by simp)) dt (.fresh (by simp) dt trivial)) ⟨⟨_, rfl, .nil (by simp)⟩, trivial⟩
 ·refine awp_skip <| hK2 _ (AWP.weak (Weak.kt [0] rfl) ?_)
  refine awp_seqK fun K5 hK5 => awp_reg rfl <| AR.op (r := .clip []) rfl (aop_buildSlice rfl (xo := []) rfl rfl rfl (by simp) (by simp) el25 ze25 (by decide)) <| AR.op rfl (aop_move (.inl rfl) rfl) <| AR.op (r := .view 1 0 (List.map G.fact_Fact.av r).length) rfl (t_app_clip0 s_0 r h et25 (fun _ => rfl) rfl rfl rfl rfl (elems_view (es := List.map G.fact_Fact.av s_0) rfl)) <| AR.op rfl (aop_move (.inr rfl) rfl) <| AR.nil <| hK5 _ (AWP.weak (Weak.kt [2] rfl) ?_)
  refine awp_ret <| ⟨.inr rfl, .view 1 0 (List.map G.fact_Fact.av r).length, rfl, ?_⟩
  exact Weak.re [(0, 0), (1, 1)] [] rfl rfl rfl (.cons rfl rfl (.same (by simp)) dt (.cons rfl rfl (.same (by simp)) dt trivial)) ⟨⟨_, rfl, .view rfl⟩, trivial⟩

end Wk
