/- That the functions of a package do what their plain functions say. -/
import Derived.Test.YtcoegkcdabpijaaDoorSh
import Derived.Test.YtcoegkcdabpijaaDoorWkDFacts
import Derived.Test.YtcoegkcdabpijaaDoorWkDgraph
import Derived.Test.YtcoegkcdabpijaaDoorWkDhist
import Derived.Test.YtcoegkcdabpijaaDoorWkDindex
import Derived.Test.YtcoegkcdabpijaaDoorWkDknown
import Derived.Test.YtcoegkcdabpijaaDoorWkDstdslices
open Go Go.Av Go.Proofs
set_option linter.unusedVariables false
set_option maxHeartbeats 8000000
set_option maxRecDepth 20000
namespace Wk
theorem choice_Right_1__1_ok0 {W0 : World} (hT : Tab W0) {t_0 : Int} {key_1 : Int} {a_2 : G.api_Hist} {r : Bool} (h : G.choice_Right_1__1 t_0 key_1 a_2 = some r) : Fun2 Tryd.prog W0 24 [i64 t_0, i64 key_1, .pp [.sl (List.map G.api_Txn.av a_2.Txns)] 0] (bl r) .empty := by
 refine fun2_of_awp Tryd.func24 rfl (by kernel_rfl) Tryd.ntmps24 (by simp) ?_
 unfold G.choice_Right_1__1 at h
 show AWP _ _ _ _ ⟨[(0, i64 t_0), (1, i64 key_1), (2, .pp [.sl (List.map G.api_Txn.av a_2.Txns)] 0)], .empty⟩ _
 refine awp_seqK fun K1 hK1 => awp_reg rfl <| AR.op rfl (aop_move (.inr rfl) rfl) <| AR.nil <| hK1 _ (AWP.weak (Weak.kt [0, 1, 2] rfl) ?_)
 refine awp_seqK fun K2 hK2 => awp_reg rfl <| AR.op rfl (aop_move (.inl rfl) rfl) <| AR.op rfl (aop_geq rfl rfl rfl) <| AR.op rfl (aop_move (.inl rfl) rfl) <| AR.keep [0, 1, 2, 8] rfl ?_
 rcases Bool.eq_false_or_eq_true (decide ((0 : Int) ≤ t_0)) with hb12 | hb12
 ·rw [hb12]
  replace h := Sh.if_t h hb12
  refine AR.op rfl (aop_move (.inl rfl) rfl) <| AR.op rfl (aop_field_pp rfl rfl fd24_0 (by decide)) <| AR.op (r := .sl (List.map G.api_Txn.av a_2.Txns)) rfl (aop_load_pp rfl rfl sz22 rfl) <| AR.keep [0, 1, 2, 8, 9, 11] rfl <| AR.op rfl (t_len_sl G.api_Txn.av a_2.Txns rfl rfl el22) <| AR.op rfl (aop_lss rfl rfl rfl) <| AR.op rfl (aop_pick rfl rfl rfl) <| AR.keep [0, 1, 2, 14] rfl ?_
  refine AR.op rfl (aop_move (.inl rfl) rfl) ?_
  rcases Bool.eq_false_or_eq_true (decide (t_0 < (Sh.len a_2.Txns))) with hb13 | hb13
  ·rw [hb13]
   replace h := Sh.if_t h hb13
   refine AR.op rfl (aop_field_pp rfl rfl fd24_0 (by decide)) <| AR.op (r := .sl (List.map G.api_Txn.av a_2.Txns)) rfl (aop_load_pp rfl rfl sz22 rfl) <| AR.keep [0, 1, 15, 17] rfl <| AR.op rfl (aop_move (.inl rfl) rfl) ?_
   obtain ⟨x14, hx14, h⟩ := Sh.bind_some' h
   obtain ⟨k15, hi15, hl15⟩ := Sh.idx_some hx14
   refine AR.op rfl (t_index_sl G.api_Txn.av a_2.Txns hi15 hl15 rfl rfl rfl el22 rfl) <| AR.op rfl (aop_field_pp rfl rfl fd53_1 (by decide)) <| AR.keep [1, 15, 20] rfl <| AR.op (r := .sl (List.map i64 x14.Writes)) rfl (aop_load_pp rfl rfl sz26 rfl) <| AR.op rfl (aop_move (.inl rfl) rfl) ?_
   obtain ⟨r16, hr16, h⟩ := Sh.bind_some' h
   refine AR.op (r := bl r16) rfl (aop_call1 rfl rfl (by simp) (slices_Contains_int_int_ok hT hr16)) <| AR.keep [15, 23] rfl <| AR.op rfl (aop_pick rfl rfl rfl) <| AR.op rfl (aop_move (.inr rfl) rfl) <| AR.nil <| hK2 _ (AWP.weak (Weak.kt [5] rfl) ?_)
   refine awp_ret ?_
   obtain rfl := Option.some.inj h
   refine ⟨.inr rfl, bl r16, rfl, ?_⟩
   exact Weak.e ⟨.k, trivial⟩
  ·rw [hb13]
   replace h := Sh.if_f h hb13
   refine AR.skip rfl <| AR.skip rfl <| AR.keep [0, 1, 15, 17] rfl <| AR.skip rfl <| AR.skip rfl <| AR.skip rfl <| AR.keep [1, 15, 20] rfl <| AR.skip rfl ?_
   refine AR.skip rfl <| AR.skip rfl <| AR.keep [15, 23] rfl <| AR.op rfl (aop_pick rfl rfl rfl) <| AR.op rfl (aop_move (.inr rfl) rfl) <| AR.nil <| hK2 _ (AWP.weak (Weak.kt [5] rfl) ?_)
   refine awp_ret ?_
   obtain rfl := Option.some.inj h
   refine ⟨.inr rfl, bl false, rfl, ?_⟩
   exact Weak.e ⟨.k, trivial⟩
 ·rw [hb12]
  replace h := Sh.if_f h hb12
  refine AR.skip rfl <| AR.skip rfl <| AR.skip rfl <| AR.keep [0, 1, 2, 8, 9, 11] rfl <| AR.skip rfl <| AR.skip rfl <| AR.op rfl (aop_pick rfl rfl rfl) <| AR.keep [0, 1, 2, 14] rfl ?_
  refine AR.op rfl (aop_move (.inl rfl) rfl) <| AR.skip rfl <| AR.skip rfl <| AR.keep [0, 1, 15, 17] rfl <| AR.skip rfl <| AR.skip rfl <| AR.skip rfl <| AR.keep [1, 15, 20] rfl ?_
  refine AR.skip rfl <| AR.skip rfl <| AR.skip rfl <| AR.keep [15, 23] rfl <| AR.op rfl (aop_pick rfl rfl rfl) <| AR.op rfl (aop_move (.inr rfl) rfl) <| AR.nil <| hK2 _ (AWP.weak (Weak.kt [5] rfl) ?_)
  refine awp_ret ?_
  obtain rfl := Option.some.inj h
  refine ⟨.inr rfl, bl false, rfl, ?_⟩
  exact Weak.e ⟨.k, trivial⟩
theorem choice_Right_1__1_ok {W0 : World} (hT : Tab W0) {t_0 : Int} {key_1 : Int} {a_2 : G.api_Hist} {r : Bool} (h : G.choice_Right_1__1 t_0 key_1 a_2 = some r) : Fun1 Tryd.prog W0 24 [i64 t_0, i64 key_1, .pp [.sl (List.map G.api_Txn.av a_2.Txns)] 0] (bl r) := Fun1.two (choice_Right_1__1_ok0 hT h) (by simp)


theorem choice_Right_2__1_ok0 {W0 : World} (hT : Tab W0) {c_0 : G.api_Choice} {a_1 : G.api_Hist} {r : Bool} (h : G.choice_Right_2__1 c_0 a_1 = some r) : Fun2 Tryd.prog W0 27 [G.api_Choice.av c_0, .pp [.clo (.func 24) [.pp [.sl (List.map G.api_Txn.av a_1.Txns)] 0]] 0] (bl r) .empty := by
 refine fun2_of_awp Tryd.func27 rfl (by kernel_rfl) Tryd.ntmps27 (by simp) ?_
 unfold G.choice_Right_2__1 at h
 show AWP _ _ _ _ ⟨[(0, G.api_Choice.av c_0), (1, .pp [.clo (.func 24) [.pp [.sl (List.map G.api_Txn.av a_1.Txns)] 0]] 0)], .empty⟩ _
 refine awp_seqK fun K1 hK1 => awp_reg rfl <| AR.op (r := .ref 0 0 0) rfl (aop_box 3 [G.api_Choice.av c_0] rfl rfl rfl (.inl ⟨rfl, rfl⟩)) <| AR.op rfl (aop_move (.inr rfl) rfl) <| AR.nil <| hK1 _ (AWP.weak (Weak.e (fr' := [(1, .pp [.clo (.func 24) [.pp [.sl (List.map G.api_Txn.av a_1.Txns)] 0]] 0), (2, .pp [i64 c_0.Key, i64 c_0.A, i64 c_0.B] 0)]) (H' := .empty) ⟨.k, ⟨_, rfl, .frzA rfl rfl rfl rfl (by simp)⟩, trivial⟩) ?_)
 refine awp_seqK fun K2 hK2 => awp_reg rfl <| AR.op rfl (aop_field_pp rfl rfl fd55_1 (by decide)) <| AR.op (r := i64 c_0.A) rfl (aop_load_pp rfl rfl sz3 rfl) <| AR.op rfl (aop_field_pp rfl rfl fd55_2 (by decide)) <| AR.keep [1, 2, 5, 6] rfl <| AR.op (r := i64 c_0.B) rfl (aop_load_pp rfl rfl sz3 rfl) <| AR.op (r := bl (decide (c_0.A = c_0.B))) rfl (aop_eql rfl rfl rfl) ?_
 refine AR.op rfl (aop_move (.inl rfl) rfl) <| AR.keep [1, 2, 9] rfl ?_
 rcases Bool.eq_false_or_eq_true (decide (c_0.A = c_0.B)) with hb10 | hb10
 ·rw [hb10]
  replace h := Sh.if_t h hb10
  refine AR.skip rfl <| AR.skip rfl <| AR.skip rfl <| AR.keep [1, 2, 9, 10, 12] rfl <| AR.skip rfl <| AR.skip rfl <| AR.skip rfl <| AR.keep [1, 2, 9, 15] rfl ?_
  refine AR.skip rfl <| AR.op rfl (aop_pick rfl rfl rfl) <| AR.op rfl (aop_move (.inl rfl) rfl) <| AR.keep [1, 2, 18] rfl <| AR.skip rfl <| AR.skip rfl <| AR.skip rfl <| AR.keep [2, 18, 19, 21] rfl ?_
  refine AR.skip rfl <| AR.skip rfl <| AR.skip rfl <| AR.keep [18, 24] rfl <| AR.skip rfl <| AR.op rfl (aop_pick rfl rfl rfl) <| AR.op rfl (aop_move (.inr rfl) rfl) <| AR.nil ?_
  refine hK2 _ (AWP.weak (Weak.kt [3] rfl) ?_)
  refine awp_ret ?_
  obtain rfl := Option.some.inj h
  refine ⟨.inr rfl, bl true, rfl, ?_⟩
  exact Weak.e ⟨.k, trivial⟩
 ·rw [hb10]
  replace h := Sh.if_f h hb10
  refine AR.op (r := .clo (.func 24) [.pp [.sl (List.map G.api_Txn.av a_1.Txns)] 0]) rfl (aop_load_pp rfl rfl sz57 rfl) <| AR.op rfl (aop_field_pp rfl rfl fd55_1 (by decide)) <| AR.op (r := i64 c_0.A) rfl (aop_load_pp rfl rfl sz3 rfl) <| AR.keep [1, 2, 9, 10, 12] rfl <| AR.op rfl (aop_field_pp rfl rfl fd55_0 (by decide)) <| AR.op (r := i64 c_0.Key) rfl (aop_load_pp rfl rfl sz3 rfl) ?_
  obtain ⟨r11, hr11, h⟩ := Sh.bind_some' h
  refine AR.op (r := bl r11) rfl (aop_callNE (ys := [i64 c_0.A, i64 c_0.Key, .pp [.sl (List.map G.api_Txn.av a_1.Txns)] 0]) (xs := [i64 c_0.A, i64 c_0.Key, .pp [.sl (List.map G.api_Txn.av a_1.Txns)] 0]) (.clo (ys := [i64 c_0.A, i64 c_0.Key]) (caps := [.pp [.sl (List.map G.api_Txn.av a_1.Txns)] 0]) rfl rfl rfl (choice_Right_1__1_ok hT hr11).call) (Weak.refl _) rfl (by simp) (choice_Right_1__1_ok hT hr11)) <| AR.keep [1, 2, 9, 15] rfl <| AR.op (r := bl (!r11)) rfl (aop_not rfl rfl) <| AR.op rfl (aop_pick rfl rfl rfl) <| AR.op rfl (aop_move (.inl rfl) rfl) <| AR.keep [1, 2, 18] rfl ?_
  rcases Bool.eq_false_or_eq_true (!r11) with hb12 | hb12
  ·rw [hb12]
   replace h := Sh.if_t h hb12
   refine AR.skip rfl <| AR.skip rfl <| AR.skip rfl <| AR.keep [2, 18, 19, 21] rfl <| AR.skip rfl <| AR.skip rfl <| AR.skip rfl <| AR.keep [18, 24] rfl ?_
   refine AR.skip rfl <| AR.op rfl (aop_pick rfl rfl rfl) <| AR.op rfl (aop_move (.inr rfl) rfl) <| AR.nil <| hK2 _ (AWP.weak (Weak.kt [3] rfl) ?_)
   refine awp_ret ?_
   obtain rfl := Option.some.inj h
   refine ⟨.inr rfl, bl true, rfl, ?_⟩
   exact Weak.e ⟨.k, trivial⟩
  ·rw [hb12]
   replace h := Sh.if_f h hb12
   refine AR.op (r := .clo (.func 24) [.pp [.sl (List.map G.api_Txn.av a_1.Txns)] 0]) rfl (aop_load_pp rfl rfl sz57 rfl) <| AR.op rfl (aop_field_pp rfl rfl fd55_2 (by decide)) <| AR.op (r := i64 c_0.B) rfl (aop_load_pp rfl rfl sz3 rfl) <| AR.keep [2, 18, 19, 21] rfl <| AR.op rfl (aop_field_pp rfl rfl fd55_0 (by decide)) <| AR.op (r := i64 c_0.Key) rfl (aop_load_pp rfl rfl sz3 rfl) ?_
   obtain ⟨r13, hr13, h⟩ := Sh.bind_some' h
   refine AR.op (r := bl r13) rfl (aop_callNE (ys := [i64 c_0.B, i64 c_0.Key, .pp [.sl (List.map G.api_Txn.av a_1.Txns)] 0]) (xs := [i64 c_0.B, i64 c_0.Key, .pp [.sl (List.map G.api_Txn.av a_1.Txns)] 0]) (.clo (ys := [i64 c_0.B, i64 c_0.Key]) (caps := [.pp [.sl (List.map G.api_Txn.av a_1.Txns)] 0]) rfl rfl rfl (choice_Right_1__1_ok hT hr13).call) (Weak.refl _) rfl (by simp) (choice_Right_1__1_ok hT hr13)) <| AR.keep [18, 24] rfl <| AR.op (r := bl (!r13)) rfl (aop_not rfl rfl) <| AR.op rfl (aop_pick rfl rfl rfl) <| AR.op rfl (aop_move (.inr rfl) rfl) <| AR.nil <| hK2 _ (AWP.weak (Weak.kt [3] rfl) ?_)
   refine awp_ret ?_
   obtain rfl := Option.some.inj h
   refine ⟨.inr rfl, bl (!r13), rfl, ?_⟩
   exact Weak.e ⟨.k, trivial⟩
theorem choice_Right_2__1_ok {W0 : World} (hT : Tab W0) {c_0 : G.api_Choice} {a_1 : G.api_Hist} {r : Bool} (h : G.choice_Right_2__1 c_0 a_1 = some r) : Fun1 Tryd.prog W0 27 [G.api_Choice.av c_0, .pp [.clo (.func 24) [.pp [.sl (List.map G.api_Txn.av a_1.Txns)] 0]] 0] (bl r) := Fun1.two (choice_Right_2__1_ok0 hT h) (by simp)


theorem slices_IndexFunc_api_Choice_api_Choice__choice_Right_2_ok0 {W0 : World} (hT : Tab W0) {s_0 : List G.api_Choice} {f_1 : G.api_Hist} {r : Int} (h : G.slices_IndexFunc_api_Choice_api_Choice__choice_Right_2 s_0 f_1 = some r) : Fun2 Tryd.prog W0 50 [.sl (List.map G.api_Choice.av s_0), .clo (.func 27) [.pp [.clo (.func 24) [.pp [.sl (List.map G.api_Txn.av f_1.Txns)] 0]] 0]] (i64 r) .empty := by
 refine fun2_of_awp Tryd.func50 rfl (by kernel_rfl) Tryd.ntmps50 (by simp) ?_
 unfold G.slices_IndexFunc_api_Choice_api_Choice__choice_Right_2 at h
 show AWP _ _ _ _ ⟨[(0, .sl (List.map G.api_Choice.av s_0)), (1, .clo (.func 27) [.pp [.clo (.func 24) [.pp [.sl (List.map G.api_Txn.av f_1.Txns)] 0]] 0])], .empty⟩ _
 refine awp_seqK fun K1 hK1 => awp_reg rfl <| AR.op rfl (aop_move (.inr rfl) rfl) <| AR.nil <| hK1 _ (AWP.weak (Weak.kt [0, 1] rfl) ?_)
 refine awp_seqJ (fun (p : Unit) => (⟨[], .empty⟩ : St)) (fun (p : Unit) => G.slices_IndexFunc_api_Choice_api_Choice__choice_Right_2_j1 = some r) ?_ ?_
 ·rintro ⟨⟩ h
  replace h : G.slices_IndexFunc_api_Choice_api_Choice__choice_Right_2_j1 = some r := h
  unfold G.slices_IndexFunc_api_Choice_api_Choice__choice_Right_2_j1 at h
  refine awp_seqK fun K2 hK2 => awp_reg rfl <| AR.op rfl (aop_move (.inr rfl) rfl) <| AR.nil <| hK2 _ ?_
  refine awp_ret ?_
  obtain rfl := Option.some.inj h
  refine ⟨.inr rfl, i64 (-1), rfl, ?_⟩
  exact Weak.e ⟨.k, trivial⟩
 ·intro K3 hK3
  refine awp_seqK fun K4 hK4 => awp_reg rfl <| AR.op rfl (aop_move (.inl rfl) rfl) <| AR.op rfl (t_len_sl G.api_Choice.av s_0 rfl rfl el25) <| AR.op rfl (aop_move (.inl rfl) rfl) <| AR.nil <| hK4 _ (AWP.weak (Weak.kt [0, 1, 7, 8] rfl) ?_)
  refine awp_block <| awp_iter (fun (p : Int) => G.slices_IndexFunc_api_Choice_api_Choice__choice_Right_2_b1 s_0 f_1 p) (fun (p : Int) => (⟨[(0, .sl (List.map G.api_Choice.av s_0)), (1, .clo (.func 27) [.pp [.clo (.func 24) [.pp [.sl (List.map G.api_Txn.av f_1.Txns)] 0]] 0]), (7, i64 (Sh.len s_0)), (8, i64 p)], .empty⟩ : St)) h (Weak.kt [0, 1, 7, 8] rfl) ?_
  ·skip
   rintro v30 o1 h hx1
   replace h : G.slices_IndexFunc_api_Choice_api_Choice__choice_Right_2_b1 s_0 f_1 v30 = some o1 := h
   unfold G.slices_IndexFunc_api_Choice_api_Choice__choice_Right_2_b1 at h
   refine awp_seqK fun K5 hK5 => awp_reg rfl <| AR.op rfl (aop_lss rfl rfl rfl) <| AR.nil <| hK5 _ ?_
   refine awp_seqK fun K6 hK6 => awp_cond rfl (fun hb31 => ?_) (fun hb31 => ?_)
   ·replace h := Sh.if_t h hb31
    refine awp_skip <| hK6 _ (AWP.weak (Weak.kt [0, 1, 7, 8] rfl) ?_)
    refine awp_seqK fun K7 hK7 => awp_block <| awp_seqK fun K8 hK8 => awp_reg rfl <| AR.op rfl (aop_move (.inl rfl) rfl) <| AR.op rfl (aop_move (.inr rfl) rfl) <| AR.nil <| hK8 _ (AWP.weak (Weak.kt [0, 1, 7, 8, 5] rfl) ?_)
    refine awp_seqK fun K9 hK9 => awp_reg rfl <| AR.op rfl (aop_move (.inl rfl) rfl) <| AR.op rfl (aop_move (.inl rfl) rfl) <| AR.op rfl (aop_move (.inl rfl) rfl) <| AR.keep [0, 1, 7, 8, 5, 11, 12, 13] rfl ?_
    obtain ⟨x38, hx38, h⟩ := Sh.bind_some' h
    obtain ⟨k39, hi39, hl39⟩ := Sh.idx_some hx38
    refine AR.op rfl (t_index_sl G.api_Choice.av s_0 hi39 hl39 rfl rfl rfl el25 rfl) <| AR.op (r := G.api_Choice.av x38) rfl (aop_load_pp rfl rfl sz55 rfl) ?_
    obtain ⟨r40, hr40, h⟩ := Sh.bind_some' h
    refine AR.op (r := bl r40) rfl (aop_callNE (ys := [G.api_Choice.av x38, .pp [.clo (.func 24) [.pp [.sl (List.map G.api_Txn.av f_1.Txns)] 0]] 0]) (xs := [G.api_Choice.av x38, .pp [.clo (.func 24) [.pp [.sl (List.map G.api_Txn.av f_1.Txns)] 0]] 0]) (.clo (ys := [G.api_Choice.av x38]) (caps := [.pp [.clo (.func 24) [.pp [.sl (List.map G.api_Txn.av f_1.Txns)] 0]] 0]) rfl rfl rfl (choice_Right_2__1_ok hT hr40).call) (Weak.refl _) rfl (by simp) (choice_Right_2__1_ok hT hr40)) <| AR.nil <| hK9 _ (AWP.weak (Weak.kt [0, 1, 7, 8, 5, 16] rfl) ?_)
    refine awp_cond rfl (fun hb41 => ?_) (fun hb41 => ?_)
    ·replace h := Sh.if_t h hb41
     refine awp_seqK fun K10 hK10 => awp_reg rfl <| AR.op rfl (aop_move (.inl rfl) rfl) <| AR.op rfl (aop_move (.inr rfl) rfl) <| AR.nil <| hK10 _ (AWP.weak (Weak.kt [4] rfl) ?_)
     refine awp_ret ?_
     replace h := Sh.exit_eq h hx1
     obtain rfl := Option.some.inj h
     refine ⟨.inr rfl, i64 v30, rfl, ?_⟩
     exact Weak.e ⟨.k, trivial⟩
    ·replace h := Sh.if_f h hb41
     refine awp_skip <| hK7 _ (AWP.weak (Weak.kt [0, 1, 7, 8] rfl) ?_)
     refine awp_reg rfl <| AR.op rfl (aop_add rfl rfl rfl rfl) <| AR.op rfl (aop_move (.inl rfl) rfl) <| AR.nil ?_
     replace h := Sh.next_eq h
     exact ⟨_, h, Weak.kt [0, 1, 7, 8] rfl⟩
   ·replace h := Sh.if_f h hb31
    refine awp_exit ?_
    replace h := Sh.exit_eq h hx1
    exact hK3 () _ h (Weak.kt [] rfl)
theorem slices_IndexFunc_api_Choice_api_Choice__choice_Right_2_ok {W0 : World} (hT : Tab W0) {s_0 : List G.api_Choice} {f_1 : G.api_Hist} {r : Int} (h : G.slices_IndexFunc_api_Choice_api_Choice__choice_Right_2 s_0 f_1 = some r) : Fun1 Tryd.prog W0 50 [.sl (List.map G.api_Choice.av s_0), .clo (.func 27) [.pp [.clo (.func 24) [.pp [.sl (List.map G.api_Txn.av f_1.Txns)] 0]] 0]] (i64 r) := Fun1.two (slices_IndexFunc_api_Choice_api_Choice__choice_Right_2_ok0 hT h) (by simp)


theorem slices_ContainsFunc_api_Choice_api_Choice__choice_Right_2_ok0 {W0 : World} (hT : Tab W0) {s_0 : List G.api_Choice} {f_1 : G.api_Hist} {r : Bool} (h : G.slices_ContainsFunc_api_Choice_api_Choice__choice_Right_2 s_0 f_1 = some r) : Fun2 Tryd.prog W0 26 [.sl (List.map G.api_Choice.av s_0), .clo (.func 27) [.pp [.clo (.func 24) [.pp [.sl (List.map G.api_Txn.av f_1.Txns)] 0]] 0]] (bl r) .empty := by
 refine fun2_of_awp Tryd.func26 rfl (by kernel_rfl) Tryd.ntmps26 (by simp) ?_
 unfold G.slices_ContainsFunc_api_Choice_api_Choice__choice_Right_2 at h
 show AWP _ _ _ _ ⟨[(0, .sl (List.map G.api_Choice.av s_0)), (1, .clo (.func 27) [.pp [.clo (.func 24) [.pp [.sl (List.map G.api_Txn.av f_1.Txns)] 0]] 0])], .empty⟩ _
 refine awp_seqK fun K1 hK1 => awp_reg rfl <| AR.op rfl (aop_move (.inr rfl) rfl) <| AR.nil <| hK1 _ (AWP.weak (Weak.kt [0, 1] rfl) ?_)
 refine awp_seqK fun K2 hK2 => awp_reg rfl <| AR.op rfl (aop_move (.inl rfl) rfl) <| AR.op rfl (aop_move (.inl rfl) rfl) ?_
 obtain ⟨r3, hr3, h⟩ := Sh.bind_some' h
 refine AR.op (r := i64 r3) rfl (aop_call1 rfl rfl (by simp) (slices_IndexFunc_api_Choice_api_Choice__choice_Right_2_ok hT hr3)) <| AR.keep [7] rfl <| AR.op rfl (aop_geq rfl rfl rfl) <| AR.op rfl (aop_move (.inr rfl) rfl) <| AR.nil <| hK2 _ (AWP.weak (Weak.kt [4] rfl) ?_)
 refine awp_ret ?_
 obtain rfl := Option.some.inj h
 refine ⟨.inr rfl, bl (decide ((0 : Int) ≤ r3)), rfl, ?_⟩
 exact Weak.e ⟨.k, trivial⟩
theorem slices_ContainsFunc_api_Choice_api_Choice__choice_Right_2_ok {W0 : World} (hT : Tab W0) {s_0 : List G.api_Choice} {f_1 : G.api_Hist} {r : Bool} (h : G.slices_ContainsFunc_api_Choice_api_Choice__choice_Right_2 s_0 f_1 = some r) : Fun1 Tryd.prog W0 26 [.sl (List.map G.api_Choice.av s_0), .clo (.func 27) [.pp [.clo (.func 24) [.pp [.sl (List.map G.api_Txn.av f_1.Txns)] 0]] 0]] (bl r) := Fun1.two (slices_ContainsFunc_api_Choice_api_Choice__choice_Right_2_ok0 hT h) (by simp)


theorem choice_Right_ok0 {W0 : World} (hT : Tab W0) {h_0 : G.api_Hist} {l_1 : List G.api_Choice} {r : Bool} (h : G.choice_Right h_0 l_1 = some r) : Fun2 Tryd.prog W0 8 [G.api_Hist.av h_0, .sl (List.map G.api_Choice.av l_1)] (bl r) .empty := by
 refine fun2_of_awp Tryd.func8 rfl (by kernel_rfl) Tryd.ntmps8 (by simp) ?_
 unfold G.choice_Right at h
 show AWP _ _ _ _ ⟨[(0, G.api_Hist.av h_0), (1, .sl (List.map G.api_Choice.av l_1))], .empty⟩ _
 refine awp_seqK fun K1 hK1 => awp_reg rfl <| AR.op (r := .ref 0 0 0) rfl (aop_box 1 [G.api_Hist.av h_0] rfl rfl rfl (.inl ⟨rfl, rfl⟩)) <| AR.op rfl (aop_move (.inr rfl) rfl) <| AR.nil <| hK1 _ (AWP.weak (Weak.e (fr' := [(1, .sl (List.map G.api_Choice.av l_1)), (2, .pp [.sl (List.map G.api_Txn.av h_0.Txns)] 0)]) (H' := .empty) ⟨⟨.sl (List.map G.api_Choice.av l_1), rfl, .sm⟩, ⟨_, rfl, .frzA rfl rfl rfl rfl (by simp)⟩, trivial⟩) ?_)
 refine awp_seqK fun K2 hK2 => awp_seqJ (fun (p : Bool) => (⟨[(1, .sl (List.map G.api_Choice.av l_1)), (2, .pp [.sl (List.map G.api_Txn.av h_0.Txns)] 0), (13, bl p)], .empty⟩ : St)) (fun (p : Bool) => G.choice_Right_j1 h_0 l_1 p = some r) ?_ ?_
 ·rintro v10 h
  replace h : G.choice_Right_j1 h_0 l_1 v10 = some r := h
  unfold G.choice_Right_j1 at h
  refine awp_cond rfl (fun hb11 => ?_) (fun hb11 => ?_)
  ·replace h := Sh.if_t h hb11
   refine awp_seqK fun K3 hK3 => awp_reg rfl <| AR.op rfl (aop_move (.inr rfl) rfl) <| AR.nil <| hK3 _ (AWP.weak (Weak.kt [4] rfl) ?_)
   refine awp_ret ?_
   obtain rfl := Option.some.inj h
   refine ⟨.inr rfl, bl false, rfl, ?_⟩
   exact Weak.e ⟨.k, trivial⟩
  ·replace h := Sh.if_f h hb11
   refine awp_skip <| hK2 _ (AWP.weak (Weak.kt [1, 2] rfl) ?_)
   refine awp_seqK fun K4 hK4 => awp_reg rfl <| AR.op (r := .clo (.func 24) [.pp [.sl (List.map G.api_Txn.av h_0.Txns)] 0]) rfl (aop_makeFunc rfl rfl) <| AR.op (r := .ref 0 0 0) rfl (aop_alloc 1 [.imm .nilFunc] rfl zr57 rfl (.inl ⟨rfl, rfl⟩)) <| AR.op rfl (aop_store (e' := .clo (.func 24) [.pp [.sl (List.map G.api_Txn.av h_0.Txns)] 0]) rfl rfl rfl rfl rfl rfl sz57 rfl dt rfl) <| AR.nil <| hK4 _ (AWP.weak (Weak.e (fr' := [(1, .sl (List.map G.api_Choice.av l_1)), (5, .pp [.clo (.func 24) [.pp [.sl (List.map G.api_Txn.av h_0.Txns)] 0]] 0)]) (H' := .empty) ⟨⟨.sl (List.map G.api_Choice.av l_1), rfl, .sm⟩, ⟨_, rfl, .frzA rfl rfl rfl rfl (by simp)⟩, trivial⟩) ?_)
   refine awp_seqK fun K5 hK5 => awp_reg rfl <| AR.op rfl (aop_move (.inl rfl) rfl) <| AR.op (r := .clo (.func 27) [.pp [.clo (.func 24) [.pp [.sl (List.map G.api_Txn.av h_0.Txns)] 0]] 0]) rfl (aop_makeFunc rfl rfl) ?_
   obtain ⟨r13, hr13, h⟩ := Sh.bind_some' h
   refine AR.op (r := bl r13) rfl (aop_call1 rfl rfl (by simp) (slices_ContainsFunc_api_Choice_api_Choice__choice_Right_2_ok hT hr13)) <| AR.keep [17] rfl <| AR.op (r := bl (!r13)) rfl (aop_not rfl rfl) <| AR.op rfl (aop_move (.inr rfl) rfl) <| AR.nil <| hK5 _ (AWP.weak (Weak.kt [4] rfl) ?_)
   refine awp_ret ?_
   obtain rfl := Option.some.inj h
   refine ⟨.inr rfl, bl (!r13), rfl, ?_⟩
   exact Weak.e ⟨.k, trivial⟩
 ·intro K6 hK6
  refine awp_reg rfl <| AR.op (r := G.api_Hist.av h_0) rfl (aop_load_pp rfl rfl sz24 rfl) ?_
  obtain ⟨r14, hr14, h⟩ := Sh.bind_some' h
  refine AR.op (r := bl r14) rfl (aop_call1 rfl rfl (by simp) (hist_Right_ok hT hr14)) <| AR.op (r := bl (!r14)) rfl (aop_not rfl rfl) <| AR.keep [1, 2, 8] rfl <| AR.op rfl (aop_move (.inl rfl) rfl) ?_
  rcases Bool.eq_false_or_eq_true (!r14) with hb15 | hb15
  ·rw [hb15]
   replace h := Sh.if_t h hb15
   refine AR.skip rfl <| AR.skip rfl <| AR.keep [1, 2, 9, 11] rfl <| AR.skip rfl <| AR.op rfl (aop_pick rfl rfl rfl) <| AR.nil ?_
   exact hK6 true _ h (Weak.kt [1, 2, 13] rfl)
  ·rw [hb15]
   replace h := Sh.if_f h hb15
   refine AR.op rfl (aop_move (.inl rfl) rfl) <| AR.op rfl (t_len_sl G.api_Choice.av l_1 rfl rfl el25) <| AR.keep [1, 2, 9, 11] rfl <| AR.op rfl (aop_gtr rfl rfl rfl) <| AR.op rfl (aop_pick rfl rfl rfl) <| AR.nil ?_
   exact hK6 (decide ((20000 : Int) < (Sh.len l_1))) _ h (Weak.kt [1, 2, 13] rfl)
theorem choice_Right_ok {W0 : World} (hT : Tab W0) {h_0 : G.api_Hist} {l_1 : List G.api_Choice} {r : Bool} (h : G.choice_Right h_0 l_1 = some r) : Fun1 Tryd.prog W0 8 [G.api_Hist.av h_0, .sl (List.map G.api_Choice.av l_1)] (bl r) := Fun1.two (choice_Right_ok0 hT h) (by simp)


theorem choice_Rw_ok0 {W0 : World} (hT : Tab W0) {h_0 : G.api_Hist} {l_1 : List G.api_Choice} {r : G.graph_Graph} (h : G.choice_Rw h_0 l_1 = some r) : Fun2 Tryd.prog W0 13 [G.api_Hist.av h_0, .sl (List.map G.api_Choice.av l_1)] (G.graph_Graph.av r) .empty := by
 refine fun2_of_awp Tryd.func13 rfl (by kernel_rfl) Tryd.ntmps13 (by simp) ?_
 unfold G.choice_Rw at h
 show AWP _ _ _ _ ⟨[(0, G.api_Hist.av h_0), (1, .sl (List.map G.api_Choice.av l_1))], .empty⟩ _
 refine awp_seqK fun K1 hK1 => awp_reg rfl <| AR.op (r := .ref 0 0 0) rfl (aop_box 1 [G.api_Hist.av h_0] rfl rfl rfl (.inl ⟨rfl, rfl⟩)) <| AR.op (r := .ref 1 0 0) rfl (aop_alloc 2 [.agg [i64 0, nilS]] rfl zr34 (by kernel_rfl) (.inl ⟨rfl, rfl⟩)) <| AR.nil <| hK1 _ (AWP.weak (Weak.re (fr' := [(1, .sl (List.map G.api_Choice.av l_1)), (2, .pp [.sl (List.map G.api_Txn.av h_0.Txns)] 0), (4, .ref 0 0 0)]) (H' := ⟨1, [(0, (2, [.agg [i64 0, nilS]]))], []⟩) [(0, 1)] [] rfl rfl rfl (.cons rfl rfl (.one (.sm) rfl) dt trivial) ⟨⟨.sl (List.map G.api_Choice.av l_1), rfl, .sm⟩, ⟨_, rfl, .frzA rfl rfl rfl rfl (by simp)⟩, ⟨_, rfl, .ref rfl⟩, trivial⟩) ?_)
 refine awp_seqK fun K2 hK2 => awp_seqK fun K3 hK3 => awp_reg rfl <| AR.op (r := G.api_Hist.av h_0) rfl (aop_load_pp rfl rfl sz24 rfl) <| AR.op rfl (aop_move (.inl rfl) rfl) ?_
 obtain ⟨r99, hr99, h⟩ := Sh.bind_some' h
 refine AR.op (r := bl r99) rfl (aop_call1 rfl rfl (by simp) (choice_Right_ok hT hr99)) <| AR.keep [1, 2, 4, 12] rfl <| AR.op (r := bl (!r99)) rfl (aop_not rfl rfl) <| AR.nil <| hK3 _ (AWP.weak (Weak.kt [1, 2, 4, 13] rfl) ?_)
 refine awp_cond rfl (fun hb100 => ?_) (fun hb100 => ?_)
 ·replace h := Sh.if_t h hb100
  refine awp_seqK fun K4 hK4 => awp_reg rfl <| AR.op (r := .agg [i64 0, nilS]) rfl (aop_build rfl bd34 rfl rfl rfl) <| AR.op rfl (aop_store (e' := .agg [i64 0, nilS]) rfl rfl rfl rfl rfl rfl sz34 rfl dt rfl) <| AR.nil <| hK4 _ (AWP.weak (Weak.kt [4] rfl) ?_)
  refine awp_ret ?_
  obtain rfl := Option.some.inj h
  refine ⟨.inr rfl, .agg [i64 0, nilS], rfl, ?_⟩
  exact Weak.e ⟨⟨.agg [i64 0, nilS], rfl, .ag ⟨.sm, .nilsl, trivial⟩⟩, trivial⟩
 ·replace h := Sh.if_f h hb100
  refine awp_skip <| hK2 _ (AWP.weak (Weak.kt [1, 2, 4] rfl) ?_)
  refine awp_seqK fun K5 hK5 => awp_reg rfl <| AR.op (r := G.api_Hist.av h_0) rfl (aop_load_pp rfl rfl sz24 rfl) ?_
  obtain ⟨r102, hr102, h⟩ := Sh.bind_some' h
  refine AR.op (r := G.graph_Graph.av r102) rfl (aop_call1 rfl rfl (by simp) (known_Init_ok hT hr102)) <| AR.op (r := .ref 1 0 0) rfl (aop_alloc 2 [.agg [i64 0, nilS]] rfl zr34 (by kernel_rfl) (.inl ⟨rfl, rfl⟩)) <| AR.keep [1, 2, 4, 16, 5] rfl <| AR.op rfl (aop_store (e' := G.graph_Graph.av r102) rfl rfl rfl rfl rfl rfl sz34 rfl dt rfl) <| AR.nil <| hK5 _ (AWP.weak (Weak.kt [1, 2, 4, 5] rfl) ?_)
  refine awp_seqJ (fun (p : G.graph_Graph) => (⟨[(4, .ref 0 0 0), (5, .ref 1 0 0)], ⟨2, [(0, (2, [.agg [i64 0, nilS]])), (1, (2, [G.graph_Graph.av p]))], []⟩⟩ : St)) (fun (p : G.graph_Graph) => G.choice_Rw_j1 p = some r) ?_ ?_
  ·rintro v197 h
   replace h : G.choice_Rw_j1 v197 = some r := h
   unfold G.choice_Rw_j1 at h
   refine awp_seqK fun K6 hK6 => awp_reg rfl <| AR.op (r := G.graph_Graph.av v197) rfl (aop_load_ref rfl rfl rfl rfl sz34 rfl) <| AR.op rfl (aop_store (e' := G.graph_Graph.av v197) rfl rfl rfl rfl rfl rfl sz34 rfl dt rfl) <| AR.nil <| hK6 _ (AWP.weak (Weak.re (fr' := [(4, .ref 0 0 0)]) (H' := ⟨1, [(0, (2, [G.graph_Graph.av v197]))], []⟩) [(0, 0)] [] rfl rfl rfl (.cons rfl rfl (.one (.sm) rfl) dt trivial) ⟨⟨_, rfl, .ref rfl⟩, trivial⟩) ?_)
   refine awp_ret ?_
   obtain rfl := Option.some.inj h
   refine ⟨.inr rfl, G.graph_Graph.av v197, rfl, ?_⟩
   exact Weak.e ⟨⟨G.graph_Graph.av v197, rfl, .sm⟩, trivial⟩
  ·intro K7 hK7
   refine awp_seqK fun K8 hK8 => awp_reg rfl <| AR.op rfl (aop_move (.inl rfl) rfl) <| AR.op rfl (t_len_sl G.api_Choice.av l_1 rfl rfl el25) <| AR.op rfl (aop_move (.inl rfl) rfl) <| AR.nil <| hK8 _ (AWP.weak (Weak.kt [2, 4, 5, 17, 18, 19] rfl) ?_)
   refine awp_block <| awp_iter (fun (p : G.graph_Graph × Int) => G.choice_Rw_b1 h_0 l_1 p.1 p.2) (fun (p : G.graph_Graph × Int) => (⟨[(2, .pp [.sl (List.map G.api_Txn.av h_0.Txns)] 0), (4, .ref 0 0 0), (5, .ref 1 0 0), (17, .sl (List.map G.api_Choice.av l_1)), (18, i64 (Sh.len l_1)), (19, i64 p.2)], ⟨2, [(0, (2, [.agg [i64 0, nilS]])), (1, (2, [G.graph_Graph.av p.1]))], []⟩⟩ : St)) h (Weak.kt [2, 4, 5, 17, 18, 19] rfl) ?_
   ·skip
    rintro ⟨g260, v261⟩ o1 h hx1
    replace h : G.choice_Rw_b1 h_0 l_1 g260 v261 = some o1 := h
    unfold G.choice_Rw_b1 at h
    refine awp_seqK fun K9 hK9 => awp_reg rfl <| AR.op rfl (aop_lss rfl rfl rfl) <| AR.nil <| hK9 _ ?_
    refine awp_seqK fun K10 hK10 => awp_cond rfl (fun hb262 => ?_) (fun hb262 => ?_)
    ·replace h := Sh.if_t h hb262
     refine awp_skip <| hK10 _ (AWP.weak (Weak.kt [2, 4, 5, 17, 18, 19] rfl) ?_)
     refine awp_seqJ (fun (p : G.graph_Graph) => (⟨[(2, .pp [.sl (List.map G.api_Txn.av h_0.Txns)] 0), (4, .ref 0 0 0), (5, .ref 1 0 0), (17, .sl (List.map G.api_Choice.av l_1)), (18, i64 (Sh.len l_1)), (19, i64 v261)], ⟨2, [(0, (2, [.agg [i64 0, nilS]])), (1, (2, [G.graph_Graph.av p]))], []⟩⟩ : St)) (fun (p : G.graph_Graph) => G.choice_Rw_j2 v261 p = some o1) ?_ ?_
     ·rintro v293 h
      replace h : G.choice_Rw_j2 v261 v293 = some o1 := h
      unfold G.choice_Rw_j2 at h
      refine awp_reg rfl <| AR.op rfl (aop_add rfl rfl rfl rfl) <| AR.op rfl (aop_move (.inl rfl) rfl) <| AR.nil ?_
      replace h := Sh.next_eq h
      exact ⟨_, h, Weak.kt [2, 4, 5, 17, 18, 19] rfl⟩
     ·intro K11 hK11
      refine awp_block <| awp_seqK fun K12 hK12 => awp_reg rfl ?_
      obtain ⟨x296, hx296, h⟩ := Sh.bind_some' h
      obtain ⟨k297, hi297, hl297⟩ := Sh.idx_some hx296
      refine AR.op rfl (t_index_sl G.api_Choice.av l_1 hi297 hl297 rfl rfl rfl el25 rfl) <| AR.op (r := G.api_Choice.av x296) rfl (aop_load_pp rfl rfl sz55 rfl) <| AR.op (r := .ref 2 0 0) rfl (aop_alloc 3 [.agg [i64 0, i64 0, i64 0]] rfl zr55 (by kernel_rfl) (.inl ⟨rfl, rfl⟩)) <| AR.keep [2, 4, 5, 17, 18, 19, 22, 7] rfl <| AR.op rfl (aop_store (e' := G.api_Choice.av x296) rfl rfl rfl rfl rfl rfl sz55 rfl dt rfl) <| AR.nil <| hK12 _ (AWP.weak (Weak.re (fr' := [(2, .pp [.sl (List.map G.api_Txn.av h_0.Txns)] 0), (4, .ref 0 0 0), (5, .ref 1 0 0), (17, .sl (List.map G.api_Choice.av l_1)), (18, i64 (Sh.len l_1)), (19, i64 v261), (7, .pp [i64 x296.Key, i64 x296.A, i64 x296.B] 0)]) (H' := ⟨2, [(0, (2, [.agg [i64 0, nilS]])), (1, (2, [G.graph_Graph.av g260]))], []⟩) [(0, 0), (1, 1)] [] rfl rfl rfl (.cons rfl rfl (.one (.sm) rfl) dt (.cons rfl rfl (.one (.sm) rfl) dt trivial)) ⟨.k, ⟨_, rfl, .ref rfl⟩, ⟨_, rfl, .ref rfl⟩, ⟨.sl (List.map G.api_Choice.av l_1), rfl, .sm⟩, .k, .k, ⟨_, rfl, .frzA rfl rfl rfl rfl (by simp)⟩, trivial⟩) ?_)
      refine awp_seqK fun K13 hK13 => awp_reg rfl <| AR.op rfl (aop_field_pp rfl rfl fd24_0 (by decide)) <| AR.op (r := .sl (List.map G.api_Txn.av h_0.Txns)) rfl (aop_load_pp rfl rfl sz22 rfl) <| AR.op rfl (t_len_sl G.api_Txn.av h_0.Txns rfl rfl el22) <| AR.keep [2, 4, 5, 17, 18, 19, 7, 24, 25] rfl <| AR.op rfl (aop_move (.inl rfl) rfl) <| AR.nil ?_
      refine hK13 _ ?_
      refine awp_block <| awp_iter (fun (p : G.graph_Graph × Int) => G.choice_Rw_b2 h_0 v261 x296 p.1 p.2) (fun (p : G.graph_Graph × Int) => (⟨[(2, .pp [.sl (List.map G.api_Txn.av h_0.Txns)] 0), (4, .ref 0 0 0), (5, .ref 1 0 0), (17, .sl (List.map G.api_Choice.av l_1)), (18, i64 (Sh.len l_1)), (19, i64 v261), (7, .pp [i64 x296.Key, i64 x296.A, i64 x296.B] 0), (24, .sl (List.map G.api_Txn.av h_0.Txns)), (25, i64 (Sh.len h_0.Txns)), (26, i64 p.2)], ⟨2, [(0, (2, [.agg [i64 0, nilS]])), (1, (2, [G.graph_Graph.av p.1]))], []⟩⟩ : St)) h (Weak.kt [2, 4, 5, 17, 18, 19, 7, 24, 25, 26] rfl) ?_
      ·skip
       rintro ⟨g316, v317⟩ o2 h hx2
       replace h : G.choice_Rw_b2 h_0 v261 x296 g316 v317 = some o2 := h
       unfold G.choice_Rw_b2 at h
       refine awp_seqK fun K14 hK14 => awp_reg rfl <| AR.op rfl (aop_lss rfl rfl rfl) <| AR.nil <| hK14 _ ?_
       refine awp_seqK fun K15 hK15 => awp_cond rfl (fun hb318 => ?_) (fun hb318 => ?_)
       ·replace h := Sh.if_t h hb318
        refine awp_skip <| hK15 _ (AWP.weak (Weak.kt [2, 4, 5, 17, 18, 19, 7, 24, 25, 26] rfl) ?_)
        refine awp_seqJ (fun (p : Int × (List (BitVec 64))) => (⟨[(2, .pp [.sl (List.map G.api_Txn.av h_0.Txns)] 0), (4, .ref 0 0 0), (5, .ref 1 0 0), (17, .sl (List.map G.api_Choice.av l_1)), (18, i64 (Sh.len l_1)), (19, i64 v261), (7, .pp [i64 x296.Key, i64 x296.A, i64 x296.B] 0), (24, .sl (List.map G.api_Txn.av h_0.Txns)), (25, i64 (Sh.len h_0.Txns)), (26, i64 v317)], ⟨2, [(0, (2, [.agg [i64 0, nilS]])), (1, (2, [.agg [i64 p.1, .sl (List.map u64 p.2)]]))], []⟩⟩ : St)) (fun (p : Int × (List (BitVec 64))) => G.choice_Rw_j3 v317 p.1 p.2 = some o2) ?_ ?_
        ·rintro ⟨gN325, gRows326⟩ h
         replace h : G.choice_Rw_j3 v317 gN325 gRows326 = some o2 := h
         unfold G.choice_Rw_j3 at h
         refine awp_reg rfl <| AR.op rfl (aop_add rfl rfl rfl rfl) <| AR.op rfl (aop_move (.inl rfl) rfl) <| AR.nil ?_
         replace h := Sh.next_eq h
         exact ⟨_, h, Weak.re [(0, 0), (1, 1)] [] rfl rfl rfl (.cons rfl rfl (.one (.sm) rfl) dt (.cons rfl rfl (.one (.sm) rfl) dt trivial)) ⟨.k, ⟨_, rfl, .ref rfl⟩, ⟨_, rfl, .ref rfl⟩, ⟨.sl (List.map G.api_Choice.av l_1), rfl, .sm⟩, .k, .k, .k, ⟨.sl (List.map G.api_Txn.av h_0.Txns), rfl, .sm⟩, .k, .k, trivial⟩⟩
        ·intro K16 hK16
         refine awp_block <| awp_seqK fun K17 hK17 => awp_reg rfl <| AR.op rfl (aop_move (.inl rfl) rfl) ?_
         obtain ⟨x329, hx329, h⟩ := Sh.bind_some' h
         obtain ⟨k330, hi330, hl330⟩ := Sh.idx_some hx329
         refine AR.op rfl (t_index_sl G.api_Txn.av h_0.Txns hi330 hl330 rfl rfl rfl el22 rfl) <| AR.op (r := G.api_Txn.av x329) rfl (aop_load_pp rfl rfl sz53 rfl) <| AR.keep [2, 4, 5, 17, 18, 19, 7, 24, 25, 26, 28, 30] rfl <| AR.op (r := .ref 2 0 0) rfl (aop_alloc 3 [.agg [i64 0, nilS, nilS]] rfl zr53 (by kernel_rfl) (.inl ⟨rfl, rfl⟩)) <| AR.op rfl (aop_move (.inr rfl) rfl) <| AR.op rfl (aop_store (e' := G.api_Txn.av x329) rfl rfl rfl rfl rfl rfl sz53 rfl dt rfl) <| AR.nil <| hK17 _ (AWP.weak (Weak.re (fr' := [(2, .pp [.sl (List.map G.api_Txn.av h_0.Txns)] 0), (4, .ref 0 0 0), (5, .ref 1 0 0), (17, .sl (List.map G.api_Choice.av l_1)), (18, i64 (Sh.len l_1)), (19, i64 v261), (7, .pp [i64 x296.Key, i64 x296.A, i64 x296.B] 0), (24, .sl (List.map G.api_Txn.av h_0.Txns)), (25, i64 (Sh.len h_0.Txns)), (26, i64 v317), (9, .pp [i64 x329.Session, .sl (List.map i64 x329.Writes), .sl (List.map G.api_Take.av x329.Reads)] 0), (8, i64 v317)]) (H' := ⟨2, [(0, (2, [.agg [i64 0, nilS]])), (1, (2, [G.graph_Graph.av g316]))], []⟩) [(0, 0), (1, 1)] [] rfl rfl rfl (.cons rfl rfl (.one (.sm) rfl) dt (.cons rfl rfl (.one (.sm) rfl) dt trivial)) ⟨.k, ⟨_, rfl, .ref rfl⟩, ⟨_, rfl, .ref rfl⟩, ⟨.sl (List.map G.api_Choice.av l_1), rfl, .sm⟩, .k, .k, .k, ⟨.sl (List.map G.api_Txn.av h_0.Txns), rfl, .sm⟩, .k, .k, ⟨_, rfl, .frzA rfl rfl rfl rfl (by simp)⟩, .k, trivial⟩) ?_)
         refine awp_seqJ (fun (p : Bool) => (⟨[(2, .pp [.sl (List.map G.api_Txn.av h_0.Txns)] 0), (4, .ref 0 0 0), (5, .ref 1 0 0), (17, .sl (List.map G.api_Choice.av l_1)), (18, i64 (Sh.len l_1)), (19, i64 v261), (7, .pp [i64 x296.Key, i64 x296.A, i64 x296.B] 0), (24, .sl (List.map G.api_Txn.av h_0.Txns)), (25, i64 (Sh.len h_0.Txns)), (26, i64 v317), (8, i64 v317), (44, bl p)], ⟨2, [(0, (2, [.agg [i64 0, nilS]])), (1, (2, [G.graph_Graph.av g316]))], []⟩⟩ : St)) (fun (p : Bool) => G.choice_Rw_j4 x296 g316 v317 p = some o2) ?_ ?_
         ·rintro v333 h
          replace h : G.choice_Rw_j4 x296 g316 v317 v333 = some o2 := h
          unfold G.choice_Rw_j4 at h
          refine awp_cond rfl (fun hb334 => ?_) (fun hb334 => ?_)
          ·replace h := Sh.if_t h hb334
           refine awp_reg rfl <| AR.op (r := G.graph_Graph.av g316) rfl (aop_load_ref rfl rfl rfl rfl sz34 rfl) <| AR.op rfl (aop_move (.inl rfl) rfl) <| AR.op rfl (aop_field_pp rfl rfl fd55_2 (by decide)) <| AR.keep [2, 4, 5, 17, 18, 19, 7, 24, 25, 26, 46, 47, 48] rfl <| AR.op (r := i64 x296.B) rfl (aop_load_pp rfl rfl sz3 rfl) ?_
           obtain ⟨r335, hr335, h⟩ := Sh.bind_some' h
           refine AR.op (r := .tuple [.agg [i64 r335.1.N, .view 2 0 (List.map u64 r335.1.Rows).length], i64 r335.2]) rfl (aop_call2N (.tuple [.agg [i64 r335.1.N, .view 2 0 (List.map u64 r335.1.Rows).length], i64 r335.2]) [(2, (1, List.map u64 r335.1.Rows))] rfl (ys := [G.graph_Graph.av g316, i64 v317, i64 x296.B]) (xs := [G.graph_Graph.av g316, i64 v317, i64 x296.B]) rfl (Weak.refl _) rfl (by simp) (graph_Add_own hT hr335) (.tp ⟨.ag ⟨.sm, .view _ _ _, trivial⟩, .sm, trivial⟩) ⟨rfl, rfl, .same (by simp [AV.flat]), trivial⟩) <| AR.op rfl (aop_move (.inl rfl) rfl) <| AR.keep [2, 4, 5, 17, 18, 19, 7, 24, 25, 26, 45] rfl <| AR.op (r := .agg [i64 r335.1.N, .view 2 0 (List.map u64 r335.1.Rows).length]) rfl (aop_extract rfl rfl rfl) <| AR.op (r := i64 r335.2) rfl (aop_extract rfl rfl rfl) <| AR.op rfl (aop_store (e' := .agg [i64 r335.1.N, .view 2 0 (List.map u64 r335.1.Rows).length]) rfl rfl rfl rfl rfl rfl sz34 rfl dt rfl) <| AR.nil ?_
           exact hK16 (r335.1.N, r335.1.Rows) _ h (Weak.re [(0, 0), (1, 1)] [] rfl rfl rfl (.cons rfl rfl (.one (.sm) rfl) dt (.cons rfl rfl (.one (.ag ⟨.sm, .lendAll rfl rfl (by simp), trivial⟩) rfl) dt trivial)) ⟨.k, ⟨_, rfl, .ref rfl⟩, ⟨_, rfl, .ref rfl⟩, ⟨.sl (List.map G.api_Choice.av l_1), rfl, .sm⟩, .k, .k, .k, ⟨.sl (List.map G.api_Txn.av h_0.Txns), rfl, .sm⟩, .k, .k, trivial⟩)
          ·replace h := Sh.if_f h hb334
           refine awp_skip ?_
           exact hK16 (g316.N, g316.Rows) _ h (Weak.re [(0, 0), (1, 1)] [] rfl rfl rfl (.cons rfl rfl (.one (.sm) rfl) dt (.cons rfl rfl (.one (.sm) rfl) dt trivial)) ⟨.k, ⟨_, rfl, .ref rfl⟩, ⟨_, rfl, .ref rfl⟩, ⟨.sl (List.map G.api_Choice.av l_1), rfl, .sm⟩, .k, .k, .k, ⟨.sl (List.map G.api_Txn.av h_0.Txns), rfl, .sm⟩, .k, .k, trivial⟩)
         ·intro K18 hK18
          refine awp_reg rfl <| AR.op rfl (aop_move (.inl rfl) rfl) <| AR.op rfl (aop_field_pp rfl rfl fd55_2 (by decide)) <| AR.op (r := i64 x296.B) rfl (aop_load_pp rfl rfl sz3 rfl) <| AR.keep [2, 4, 5, 17, 18, 19, 7, 24, 25, 26, 9, 8, 31, 33] rfl <| AR.op (r := bl (decide (v317 ≠ x296.B))) rfl (aop_neq rfl rfl rfl) <| AR.op rfl (aop_move (.inl rfl) rfl) ?_
          rcases Bool.eq_false_or_eq_true (decide (v317 ≠ x296.B)) with hb336 | hb336
          ·rw [hb336]
           replace h := Sh.if_t h hb336
           refine AR.op rfl (aop_field_pp rfl rfl fd53_2 (by decide)) <| AR.keep [2, 4, 5, 17, 18, 19, 7, 24, 25, 26, 8, 35, 36] rfl <| AR.op (r := .sl (List.map G.api_Take.av x329.Reads)) rfl (aop_load_pp rfl rfl sz51 rfl) <| AR.op rfl (aop_field_pp rfl rfl fd55_0 (by decide)) <| AR.op (r := i64 x296.Key) rfl (aop_load_pp rfl rfl sz3 rfl) <| AR.keep [2, 4, 5, 17, 18, 19, 7, 24, 25, 26, 8, 35, 36, 37, 38, 39] rfl <| AR.op rfl (aop_field_pp rfl rfl fd55_1 (by decide)) <| AR.op (r := i64 x296.A) rfl (aop_load_pp rfl rfl sz3 rfl) ?_
           refine AR.op (r := .agg [i64 x296.Key, i64 x296.A]) rfl (aop_build rfl bd50 rfl rfl rfl) <| AR.keep [2, 4, 5, 17, 18, 19, 7, 24, 25, 26, 8, 35, 36, 37, 38, 39, 40, 41, 42] rfl ?_
           obtain ⟨r337, hr337, h⟩ := Sh.bind_some' h
           refine AR.op (r := bl r337) rfl (aop_callN rfl (ys := [.sl (List.map G.api_Take.av x329.Reads), .agg [i64 x296.Key, i64 x296.A]]) (xs := [.sl (List.map G.api_Take.av x329.Reads), G.api_Take.av (G.api_Take.mk x296.Key x296.A)]) rfl (Weak.e (fr' := argsFr 0 [.sl (List.map G.api_Take.av x329.Reads), G.api_Take.av (G.api_Take.mk x296.Key x296.A)]) (H' := .empty) ⟨⟨.sl (List.map G.api_Take.av x329.Reads), rfl, .sm⟩, ⟨.agg [i64 x296.Key, i64 x296.A], rfl, .sm⟩, trivial⟩) rfl (by simp) (slices_Contains_api_Take_api_Take_ok hT hr337)) <| AR.op rfl (aop_pick rfl rfl rfl) <| AR.nil ?_
           exact hK18 r337 _ h (Weak.kt [2, 4, 5, 17, 18, 19, 7, 24, 25, 26, 8, 44] rfl)
          ·rw [hb336]
           replace h := Sh.if_f h hb336
           refine AR.skip rfl <| AR.keep [2, 4, 5, 17, 18, 19, 7, 24, 25, 26, 8, 35, 36] rfl <| AR.skip rfl <| AR.skip rfl <| AR.skip rfl <| AR.keep [2, 4, 5, 17, 18, 19, 7, 24, 25, 26, 8, 35, 36, 37, 38, 39] rfl <| AR.skip rfl <| AR.skip rfl ?_
           refine AR.skip rfl <| AR.keep [2, 4, 5, 17, 18, 19, 7, 24, 25, 26, 8, 35, 36, 37, 38, 39, 40, 41, 42] rfl <| AR.skip rfl <| AR.op rfl (aop_pick rfl rfl rfl) <| AR.nil ?_
           exact hK18 false _ h (Weak.kt [2, 4, 5, 17, 18, 19, 7, 24, 25, 26, 8, 44] rfl)
       ·replace h := Sh.if_f h hb318
        refine awp_exit ?_
        replace h := Sh.exit_eq h hx2
        exact hK11 g316 _ h (Weak.kt [2, 4, 5, 17, 18, 19] rfl)
    ·replace h := Sh.if_f h hb262
     refine awp_exit ?_
     replace h := Sh.exit_eq h hx1
     exact hK7 g260 _ h (Weak.kt [4, 5] rfl)
theorem choice_Rw_ok {W0 : World} (hT : Tab W0) {h_0 : G.api_Hist} {l_1 : List G.api_Choice} {r : G.graph_Graph} (h : G.choice_Rw h_0 l_1 = some r) : Fun1 Tryd.prog W0 13 [G.api_Hist.av h_0, .sl (List.map G.api_Choice.av l_1)] (G.graph_Graph.av r) := Fun1.two (choice_Rw_ok0 hT h) (by simp)


theorem choice_all_ok0 {W0 : World} (hT : Tab W0) {g_0 : G.graph_Graph} {more_1 : List G.graph_Graph} {r : G.graph_Graph} (h : G.choice_all g_0 more_1 = some r) : Fun2 Tryd.prog W0 28 [G.graph_Graph.av g_0, .sl (List.map G.graph_Graph.av more_1)] (G.graph_Graph.av r) .empty := by
 refine fun2_of_awp Tryd.func28 rfl (by kernel_rfl) Tryd.ntmps28 (by simp) ?_
 unfold G.choice_all at h
 show AWP _ _ _ _ ⟨[(0, G.graph_Graph.av g_0), (1, .sl (List.map G.graph_Graph.av more_1))], .empty⟩ _
 refine awp_seqK fun K1 hK1 => awp_reg rfl <| AR.op (r := .ref 0 0 0) rfl (aop_box 2 [G.graph_Graph.av g_0] rfl rfl rfl (.inl ⟨rfl, rfl⟩)) <| AR.op (r := .ref 1 0 0) rfl (aop_alloc 2 [.agg [i64 0, nilS]] rfl zr34 (by kernel_rfl) (.inl ⟨rfl, rfl⟩)) <| AR.nil <| hK1 _ (AWP.weak (Weak.kt [1, 2, 4] rfl) ?_)
 refine awp_seqJ (fun (p : G.graph_Graph) => (⟨[(2, .ref 0 0 0), (4, .ref 1 0 0)], ⟨2, [(0, (2, [G.graph_Graph.av p])), (1, (2, [.agg [i64 0, nilS]]))], []⟩⟩ : St)) (fun (p : G.graph_Graph) => G.choice_all_j1 p = some r) ?_ ?_
 ·rintro v31 h
  replace h : G.choice_all_j1 v31 = some r := h
  unfold G.choice_all_j1 at h
  refine awp_seqK fun K2 hK2 => awp_reg rfl <| AR.op (r := G.graph_Graph.av v31) rfl (aop_load_ref rfl rfl rfl rfl sz34 rfl) <| AR.op rfl (aop_store (e' := G.graph_Graph.av v31) rfl rfl rfl rfl rfl rfl sz34 rfl dt rfl) <| AR.nil <| hK2 _ (AWP.weak (Weak.re (fr' := [(4, .ref 0 0 0)]) (H' := ⟨1, [(0, (2, [G.graph_Graph.av v31]))], []⟩) [(0, 1)] [] rfl rfl rfl (.cons rfl rfl (.one (.sm) rfl) dt trivial) ⟨⟨_, rfl, .ref rfl⟩, trivial⟩) ?_)
  refine awp_ret ?_
  obtain rfl := Option.some.inj h
  refine ⟨.inr rfl, G.graph_Graph.av v31, rfl, ?_⟩
  exact Weak.e ⟨⟨G.graph_Graph.av v31, rfl, .sm⟩, trivial⟩
 ·intro K3 hK3
  refine awp_seqK fun K4 hK4 => awp_reg rfl <| AR.op rfl (aop_move (.inl rfl) rfl) <| AR.op rfl (t_len_sl G.graph_Graph.av more_1 rfl rfl el89) <| AR.op rfl (aop_move (.inl rfl) rfl) <| AR.nil <| hK4 _ (AWP.weak (Weak.kt [2, 4, 7, 8, 9] rfl) ?_)
  refine awp_block <| awp_iter (fun (p : Int × (List (BitVec 64)) × Int) => G.choice_all_b1 more_1 p.1 p.2.1 p.2.2) (fun (p : Int × (List (BitVec 64)) × Int) => (⟨[(2, .ref 0 0 0), (4, .ref 1 0 0), (7, .sl (List.map G.graph_Graph.av more_1)), (8, i64 (Sh.len more_1)), (9, i64 p.2.2)], ⟨2, [(0, (2, [.agg [i64 p.1, .sl (List.map u64 p.2.1)]])), (1, (2, [.agg [i64 0, nilS]]))], []⟩⟩ : St)) h (Weak.re [(0, 0), (1, 1)] [] rfl rfl rfl (.cons rfl rfl (.one (.sm) rfl) dt (.cons rfl rfl (.one (.sm) rfl) dt trivial)) ⟨⟨_, rfl, .ref rfl⟩, ⟨_, rfl, .ref rfl⟩, ⟨.sl (List.map G.graph_Graph.av more_1), rfl, .sm⟩, .k, .k, trivial⟩) ?_
  ·skip
   rintro ⟨gN41, gRows42, v43⟩ o1 h hx1
   replace h : G.choice_all_b1 more_1 gN41 gRows42 v43 = some o1 := h
   unfold G.choice_all_b1 at h
   refine awp_seqK fun K5 hK5 => awp_reg rfl <| AR.op rfl (aop_lss rfl rfl rfl) <| AR.nil <| hK5 _ ?_
   refine awp_seqK fun K6 hK6 => awp_cond rfl (fun hb44 => ?_) (fun hb44 => ?_)
   ·replace h := Sh.if_t h hb44
    refine awp_skip <| hK6 _ (AWP.weak (Weak.kt [2, 4, 7, 8, 9] rfl) ?_)
    refine awp_seqK fun K7 hK7 => awp_block <| awp_seqK fun K8 hK8 => awp_reg rfl ?_
    obtain ⟨x50, hx50, h⟩ := Sh.bind_some' h
    obtain ⟨k51, hi51, hl51⟩ := Sh.idx_some hx50
    refine AR.op rfl (t_index_sl G.graph_Graph.av more_1 hi51 hl51 rfl rfl rfl el89 rfl) <| AR.op (r := G.graph_Graph.av x50) rfl (aop_load_pp rfl rfl sz34 rfl) <| AR.op (r := .ref 2 0 0) rfl (aop_alloc 2 [.agg [i64 0, nilS]] rfl zr34 (by kernel_rfl) (.inl ⟨rfl, rfl⟩)) <| AR.keep [2, 4, 7, 8, 9, 12, 6] rfl <| AR.op rfl (aop_store (e' := G.graph_Graph.av x50) rfl rfl rfl rfl rfl rfl sz34 rfl dt rfl) <| AR.nil <| hK8 _ (AWP.weak (Weak.re (fr' := [(2, .ref 0 0 0), (4, .ref 1 0 0), (7, .sl (List.map G.graph_Graph.av more_1)), (8, i64 (Sh.len more_1)), (9, i64 v43), (6, .pp [i64 x50.N, .sl (List.map u64 x50.Rows)] 0)]) (H' := ⟨2, [(0, (2, [.agg [i64 gN41, .sl (List.map u64 gRows42)]])), (1, (2, [.agg [i64 0, nilS]]))], []⟩) [(0, 0), (1, 1)] [] rfl rfl rfl (.cons rfl rfl (.one (.sm) rfl) dt (.cons rfl rfl (.one (.sm) rfl) dt trivial)) ⟨⟨_, rfl, .ref rfl⟩, ⟨_, rfl, .ref rfl⟩, ⟨.sl (List.map G.graph_Graph.av more_1), rfl, .sm⟩, .k, .k, ⟨_, rfl, .frzA rfl rfl rfl rfl (by simp)⟩, trivial⟩) ?_)
    refine awp_reg rfl <| AR.op (r := .agg [i64 gN41, .sl (List.map u64 gRows42)]) rfl (aop_load_ref rfl rfl rfl rfl sz34 rfl) <| AR.op (r := G.graph_Graph.av x50) rfl (aop_load_pp rfl rfl sz34 rfl) ?_
    obtain ⟨r52, hr52, h⟩ := Sh.bind_some' h
    refine AR.op (r := .tuple [.agg [i64 r52.1.N, .view 2 0 (List.map u64 r52.1.Rows).length], i64 r52.2]) rfl (aop_call2N (.tuple [.agg [i64 r52.1.N, .view 2 0 (List.map u64 r52.1.Rows).length], i64 r52.2]) [(2, (1, List.map u64 r52.1.Rows))] rfl (ys := [.agg [i64 gN41, .sl (List.map u64 gRows42)], G.graph_Graph.av x50]) (xs := [G.graph_Graph.av (G.graph_Graph.mk gN41 gRows42), G.graph_Graph.av x50]) rfl (Weak.e (fr' := argsFr 0 [G.graph_Graph.av (G.graph_Graph.mk gN41 gRows42), G.graph_Graph.av x50]) (H' := .empty) ⟨⟨.agg [i64 gN41, .sl (List.map u64 gRows42)], rfl, .sm⟩, ⟨G.graph_Graph.av x50, rfl, .sm⟩, trivial⟩) rfl (by simp) (graph_Union_own hT hr52) (.tp ⟨.ag ⟨.sm, .view _ _ _, trivial⟩, .sm, trivial⟩) ⟨rfl, rfl, .same (by simp [AV.flat]), trivial⟩) <| AR.keep [2, 4, 7, 8, 9, 16] rfl <| AR.op rfl (aop_move (.inl rfl) rfl) <| AR.op (r := .agg [i64 r52.1.N, .view 2 0 (List.map u64 r52.1.Rows).length]) rfl (aop_extract rfl rfl rfl) <| AR.op (r := i64 r52.2) rfl (aop_extract rfl rfl rfl) <| AR.keep [2, 4, 7, 8, 9, 17] rfl <| AR.op rfl (aop_store (e' := .agg [i64 r52.1.N, .view 2 0 (List.map u64 r52.1.Rows).length]) rfl rfl rfl rfl rfl rfl sz34 rfl dt rfl) <| AR.nil ?_
    refine hK7 _ (AWP.weak (Weak.re (fr' := [(2, .ref 0 0 0), (4, .ref 2 0 0), (7, .sl (List.map G.graph_Graph.av more_1)), (8, i64 (Sh.len more_1)), (9, i64 v43)]) (H' := ⟨3, [(0, (2, [.agg [i64 r52.1.N, .view 1 0 (List.map u64 r52.1.Rows).length]])), (1, (1, List.map u64 r52.1.Rows)), (2, (2, [.agg [i64 0, nilS]]))], []⟩) [(0, 0), (1, 2), (2, 1)] [] rfl rfl rfl (.cons rfl rfl (.one (.ag ⟨.sm, .view rfl, trivial⟩) rfl) dt (.cons rfl rfl (.same (by simp)) dt (.cons rfl rfl (.one (.sm) rfl) dt trivial))) ⟨⟨_, rfl, .ref rfl⟩, ⟨_, rfl, .ref rfl⟩, ⟨.sl (List.map G.graph_Graph.av more_1), rfl, .sm⟩, .k, .k, trivial⟩) ?_)
    refine awp_reg rfl <| AR.op rfl (aop_add rfl rfl rfl rfl) <| AR.op rfl (aop_move (.inl rfl) rfl) <| AR.nil ?_
    replace h := Sh.next_eq h
    exact ⟨_, h, Weak.re [(0, 0), (1, 2)] [] rfl rfl rfl (.cons rfl rfl (.one (.ag ⟨.sm, .lendAll rfl rfl (by simp), trivial⟩) rfl) dt (.cons rfl rfl (.one (.sm) rfl) dt trivial)) ⟨⟨_, rfl, .ref rfl⟩, ⟨_, rfl, .ref rfl⟩, ⟨.sl (List.map G.graph_Graph.av more_1), rfl, .sm⟩, .k, .k, trivial⟩⟩
   ·replace h := Sh.if_f h hb44
    refine awp_exit ?_
    replace h := Sh.exit_eq h hx1
    exact hK3 (G.graph_Graph.mk gN41 gRows42) _ h (Weak.re [(0, 0), (1, 1)] [] rfl rfl rfl (.cons rfl rfl (.one (.sm) rfl) dt (.cons rfl rfl (.one (.sm) rfl) dt trivial)) ⟨⟨_, rfl, .ref rfl⟩, ⟨_, rfl, .ref rfl⟩, trivial⟩)
theorem choice_all_ok {W0 : World} (hT : Tab W0) {g_0 : G.graph_Graph} {more_1 : List G.graph_Graph} {r : G.graph_Graph} (h : G.choice_all g_0 more_1 = some r) : Fun1 Tryd.prog W0 28 [G.graph_Graph.av g_0, .sl (List.map G.graph_Graph.av more_1)] (G.graph_Graph.av r) := Fun1.two (choice_all_ok0 hT h) (by simp)


theorem choice_Ww_own {W0 : World} (hT : Tab W0) {h_0 : G.api_Hist} {l_1 : List G.api_Choice} {r : G.graph_Graph} (h : G.choice_Ww h_0 l_1 = some r) : Fun2 Tryd.prog W0 30 [G.api_Hist.av h_0, .sl (List.map G.api_Choice.av l_1)] (.agg [i64 r.N, .view 0 0 (List.map u64 r.Rows).length]) ⟨1, [(0, (1, List.map u64 r.Rows))], []⟩ := by
 refine fun2_of_awp Tryd.func30 rfl (by kernel_rfl) Tryd.ntmps30 (by simp) ?_
 unfold G.choice_Ww at h
 show AWP _ _ _ _ ⟨[(0, G.api_Hist.av h_0), (1, .sl (List.map G.api_Choice.av l_1))], .empty⟩ _
 refine awp_seqK fun K1 hK1 => awp_reg rfl <| AR.op (r := .ref 0 0 0) rfl (aop_box 1 [G.api_Hist.av h_0] rfl rfl rfl (.inl ⟨rfl, rfl⟩)) <| AR.op (r := .ref 1 0 0) rfl (aop_alloc 2 [.agg [i64 0, nilS]] rfl zr34 (by kernel_rfl) (.inl ⟨rfl, rfl⟩)) <| AR.nil <| hK1 _ (AWP.weak (Weak.re (fr' := [(1, .sl (List.map G.api_Choice.av l_1)), (2, .pp [.sl (List.map G.api_Txn.av h_0.Txns)] 0), (4, .ref 0 0 0)]) (H' := ⟨1, [(0, (2, [.agg [i64 0, nilS]]))], []⟩) [(0, 1)] [] rfl rfl rfl (.cons rfl rfl (.one (.sm) rfl) dt trivial) ⟨⟨.sl (List.map G.api_Choice.av l_1), rfl, .sm⟩, ⟨_, rfl, .frzA rfl rfl rfl rfl (by simp)⟩, ⟨_, rfl, .ref rfl⟩, trivial⟩) ?_)
 refine awp_seqK fun K2 hK2 => awp_seqK fun K3 hK3 => awp_reg rfl <| AR.op (r := G.api_Hist.av h_0) rfl (aop_load_pp rfl rfl sz24 rfl) <| AR.op rfl (aop_move (.inl rfl) rfl) ?_
 obtain ⟨r20, hr20, h⟩ := Sh.bind_some' h
 refine AR.op (r := bl r20) rfl (aop_call1 rfl rfl (by simp) (choice_Right_ok hT hr20)) <| AR.keep [1, 2, 4, 11] rfl <| AR.op (r := bl (!r20)) rfl (aop_not rfl rfl) <| AR.nil <| hK3 _ (AWP.weak (Weak.kt [1, 2, 4, 12] rfl) ?_)
 refine awp_cond rfl (fun hb21 => ?_) (fun hb21 => ?_)
 ·replace h := Sh.if_t h hb21
  refine awp_seqK fun K4 hK4 => awp_reg rfl <| AR.op (r := .agg [i64 0, nilS]) rfl (aop_build rfl bd34 rfl rfl rfl) <| AR.op rfl (aop_store (e' := .agg [i64 0, nilS]) rfl rfl rfl rfl rfl rfl sz34 rfl dt rfl) <| AR.nil <| hK4 _ (AWP.weak (Weak.kt [4] rfl) ?_)
  refine awp_ret ?_
  obtain rfl := Option.some.inj h
  refine ⟨.inr rfl, .agg [i64 0, nilS], rfl, ?_⟩
  exact Weak.re [] [0] rfl rfl rfl (.fresh (by simp) dt trivial) ⟨⟨.agg [i64 0, nilS], rfl, .ag ⟨.sm, .nil (by simp), trivial⟩⟩, trivial⟩
 ·replace h := Sh.if_f h hb21
  refine awp_skip <| hK2 _ (AWP.weak (Weak.kt [1, 2, 4] rfl) ?_)
  refine awp_seqK fun K5 hK5 => awp_reg rfl <| AR.op rfl (aop_field_pp rfl rfl fd24_0 (by decide)) <| AR.op (r := .sl (List.map G.api_Txn.av h_0.Txns)) rfl (aop_load_pp rfl rfl sz22 rfl) <| AR.op rfl (t_len_sl G.api_Txn.av h_0.Txns rfl rfl el22) <| AR.keep [1, 4, 17] rfl ?_
  obtain ⟨r23, hr23, h⟩ := Sh.bind_some' h
  refine AR.op (r := .tuple [.agg [i64 r23.1.N, .view 1 0 (List.map u64 r23.1.Rows).length], i64 r23.2]) rfl (aop_call2N (.tuple [.agg [i64 r23.1.N, .view 1 0 (List.map u64 r23.1.Rows).length], i64 r23.2]) [(1, (1, List.map u64 r23.1.Rows))] rfl (ys := [i64 (Sh.len h_0.Txns)]) (xs := [i64 (Sh.len h_0.Txns)]) rfl (Weak.refl _) rfl (by simp) (graph_New_own hT hr23) (.tp ⟨.ag ⟨.sm, .view _ _ _, trivial⟩, .sm, trivial⟩) ⟨rfl, rfl, .same (by simp [AV.flat]), trivial⟩) <| AR.op rfl (aop_move (.inl rfl) rfl) <| AR.op (r := .agg [i64 r23.1.N, .view 1 0 (List.map u64 r23.1.Rows).length]) rfl (aop_extract rfl rfl rfl) <| AR.keep [1, 4, 14, 19] rfl <| AR.op (r := i64 r23.2) rfl (aop_extract rfl rfl rfl) <| AR.op (r := .ref 2 0 0) rfl (aop_alloc 2 [.agg [i64 0, nilS]] rfl zr34 (by kernel_rfl) (.inl ⟨rfl, rfl⟩)) <| AR.op rfl (aop_store (e' := .agg [i64 r23.1.N, .view 1 0 (List.map u64 r23.1.Rows).length]) rfl rfl rfl rfl rfl rfl sz34 rfl dt rfl) <| AR.keep [1, 4, 20, 5] rfl ?_
  refine AR.op rfl (aop_move (.inr rfl) rfl) <| AR.nil <| hK5 _ (AWP.weak (Weak.re (fr' := [(1, .sl (List.map G.api_Choice.av l_1)), (4, .ref 0 0 0), (5, .ref 1 0 0)]) (H' := ⟨3, [(0, (2, [.agg [i64 0, nilS]])), (1, (2, [.agg [i64 r23.1.N, .view 2 0 (List.map u64 r23.1.Rows).length]])), (2, (1, List.map u64 r23.1.Rows))], []⟩) [(0, 0), (1, 2), (2, 1)] [] rfl rfl rfl (.cons rfl rfl (.one (.sm) rfl) dt (.cons rfl rfl (.one (.ag ⟨.sm, .view rfl, trivial⟩) rfl) dt (.cons rfl rfl (.same (by simp)) dt trivial))) ⟨⟨.sl (List.map G.api_Choice.av l_1), rfl, .sm⟩, ⟨_, rfl, .ref rfl⟩, ⟨_, rfl, .ref rfl⟩, trivial⟩) ?_)
  refine awp_seqJ (fun (p : Int × (List (BitVec 64))) => (⟨[(4, .ref 0 0 0), (5, .ref 1 0 0)], ⟨3, [(0, (2, [.agg [i64 0, nilS]])), (1, (2, [.agg [i64 p.1, .view 2 0 (List.map u64 p.2).length]])), (2, (1, List.map u64 p.2))], []⟩⟩ : St)) (fun (p : Int × (List (BitVec 64))) => G.choice_Ww_j1 p.1 p.2 = some r) ?_ ?_
  ·rintro ⟨v39, v40⟩ h
   replace h : G.choice_Ww_j1 v39 v40 = some r := h
   unfold G.choice_Ww_j1 at h
   refine awp_seqK fun K6 hK6 => awp_reg rfl <| AR.op (r := .agg [i64 v39, .view 2 0 (List.map u64 v40).length]) rfl (aop_load_ref rfl rfl rfl rfl sz34 rfl) <| AR.op rfl (aop_store (e' := .agg [i64 v39, .view 2 0 (List.map u64 v40).length]) rfl rfl rfl rfl rfl rfl sz34 rfl dt rfl) <| AR.nil <| hK6 _ (AWP.weak (Weak.re (fr' := [(4, .ref 0 0 0)]) (H' := ⟨2, [(0, (2, [.agg [i64 v39, .view 1 0 (List.map u64 v40).length]])), (1, (1, List.map u64 v40))], []⟩) [(0, 0), (1, 2)] [] rfl rfl rfl (.cons rfl rfl (.one (.ag ⟨.sm, .view rfl, trivial⟩) rfl) dt (.cons rfl rfl (.same (by simp)) dt trivial)) ⟨⟨_, rfl, .ref rfl⟩, trivial⟩) ?_)
   refine awp_ret ?_
   obtain rfl := Option.some.inj h
   refine ⟨.inr rfl, .agg [i64 v39, .view 1 0 (List.map u64 v40).length], rfl, ?_⟩
   exact Weak.re [(0, 1)] [] rfl rfl rfl (.cons rfl rfl (.same (by simp)) dt trivial) ⟨⟨.agg [i64 v39, .view 1 0 (List.map u64 v40).length], rfl, .ag ⟨.sm, .view rfl, trivial⟩⟩, trivial⟩
  ·intro K7 hK7
   refine awp_seqK fun K8 hK8 => awp_reg rfl <| AR.op rfl (aop_move (.inl rfl) rfl) <| AR.op rfl (t_len_sl G.api_Choice.av l_1 rfl rfl el25) <| AR.op rfl (aop_move (.inl rfl) rfl) <| AR.nil <| hK8 _ (AWP.weak (Weak.kt [4, 5, 21, 22, 23] rfl) ?_)
   refine awp_block <| awp_iter (fun (p : Int × (List (BitVec 64)) × Int) => G.choice_Ww_b1 l_1 p.1 p.2.1 p.2.2) (fun (p : Int × (List (BitVec 64)) × Int) => (⟨[(4, .ref 0 0 0), (5, .ref 1 0 0), (21, .sl (List.map G.api_Choice.av l_1)), (22, i64 (Sh.len l_1)), (23, i64 p.2.2)], ⟨3, [(0, (2, [.agg [i64 0, nilS]])), (1, (2, [.agg [i64 p.1, .view 2 0 (List.map u64 p.2.1).length]])), (2, (1, List.map u64 p.2.1))], []⟩⟩ : St)) h (Weak.kt [4, 5, 21, 22, 23] rfl) ?_
   ·skip
    rintro ⟨gN50, gRows51, v52⟩ o1 h hx1
    replace h : G.choice_Ww_b1 l_1 gN50 gRows51 v52 = some o1 := h
    unfold G.choice_Ww_b1 at h
    refine awp_seqK fun K9 hK9 => awp_reg rfl <| AR.op rfl (aop_lss rfl rfl rfl) <| AR.nil <| hK9 _ ?_
    refine awp_seqK fun K10 hK10 => awp_cond rfl (fun hb53 => ?_) (fun hb53 => ?_)
    ·replace h := Sh.if_t h hb53
     refine awp_skip <| hK10 _ (AWP.weak (Weak.kt [4, 5, 21, 22, 23] rfl) ?_)
     refine awp_seqK fun K11 hK11 => awp_block <| awp_seqK fun K12 hK12 => awp_reg rfl ?_
     obtain ⟨x59, hx59, h⟩ := Sh.bind_some' h
     obtain ⟨k60, hi60, hl60⟩ := Sh.idx_some hx59
     refine AR.op rfl (t_index_sl G.api_Choice.av l_1 hi60 hl60 rfl rfl rfl el25 rfl) <| AR.op (r := G.api_Choice.av x59) rfl (aop_load_pp rfl rfl sz55 rfl) <| AR.op (r := .ref 3 0 0) rfl (aop_alloc 3 [.agg [i64 0, i64 0, i64 0]] rfl zr55 (by kernel_rfl) (.inl ⟨rfl, rfl⟩)) <| AR.keep [4, 5, 21, 22, 23, 26, 8] rfl <| AR.op rfl (aop_store (e' := G.api_Choice.av x59) rfl rfl rfl rfl rfl rfl sz55 rfl dt rfl) <| AR.nil <| hK12 _ (AWP.weak (Weak.re (fr' := [(4, .ref 0 0 0), (5, .ref 1 0 0), (21, .sl (List.map G.api_Choice.av l_1)), (22, i64 (Sh.len l_1)), (23, i64 v52), (8, .pp [i64 x59.Key, i64 x59.A, i64 x59.B] 0)]) (H' := ⟨3, [(0, (2, [.agg [i64 0, nilS]])), (1, (2, [.agg [i64 gN50, .view 2 0 (List.map u64 gRows51).length]])), (2, (1, List.map u64 gRows51))], []⟩) [(0, 0), (1, 1), (2, 2)] [] rfl rfl rfl (.cons rfl rfl (.one (.sm) rfl) dt (.cons rfl rfl (.one (.ag ⟨.sm, .view rfl, trivial⟩) rfl) dt (.cons rfl rfl (.same (by simp)) dt trivial))) ⟨⟨_, rfl, .ref rfl⟩, ⟨_, rfl, .ref rfl⟩, ⟨.sl (List.map G.api_Choice.av l_1), rfl, .sm⟩, .k, .k, ⟨_, rfl, .frzA rfl rfl rfl rfl (by simp)⟩, trivial⟩) ?_)
     refine awp_reg rfl <| AR.op (r := .agg [i64 gN50, .view 2 0 (List.map u64 gRows51).length]) rfl (aop_load_ref rfl rfl rfl rfl sz34 rfl) <| AR.op rfl (aop_field_pp rfl rfl fd55_1 (by decide)) <| AR.op (r := i64 x59.A) rfl (aop_load_pp rfl rfl sz3 rfl) <| AR.keep [4, 5, 21, 22, 23, 8, 28, 30] rfl <| AR.op rfl (aop_field_pp rfl rfl fd55_2 (by decide)) <| AR.op (r := i64 x59.B) rfl (aop_load_pp rfl rfl sz3 rfl) ?_
     obtain ⟨r61, hr61, h⟩ := Sh.bind_some' h
     refine AR.op (r := .tuple [.agg [i64 r61.1.N, .view 3 0 (List.map u64 r61.1.Rows).length], i64 r61.2]) rfl (aop_call2L (.tuple [.agg [i64 r61.1.N, .view 3 0 (List.map u64 r61.1.Rows).length], i64 r61.2]) [(3, (1, List.map u64 r61.1.Rows))] rfl (ys := [.agg [i64 gN50, .view 2 0 (List.map u64 gRows51).length], i64 x59.A, i64 x59.B]) (xs := [G.graph_Graph.av (G.graph_Graph.mk gN50 gRows51), i64 x59.A, i64 x59.B]) rfl (Weak.e (fr' := argsFr 0 [G.graph_Graph.av (G.graph_Graph.mk gN50 gRows51), i64 x59.A, i64 x59.B]) (H' := .empty) ⟨⟨.agg [i64 gN50, .view 2 0 (List.map u64 gRows51).length], rfl, .ag ⟨.sm, .lendAll rfl rfl (by simp), trivial⟩⟩, .k, .k, trivial⟩) rfl (graph_Add_own hT hr61) (.tp ⟨.ag ⟨.sm, .view _ _ _, trivial⟩, .sm, trivial⟩) ⟨rfl, rfl, .same (by simp [AV.flat]), trivial⟩) <| AR.keep [4, 5, 21, 22, 23, 33] rfl <| AR.op rfl (aop_move (.inl rfl) rfl) <| AR.op (r := .agg [i64 r61.1.N, .view 3 0 (List.map u64 r61.1.Rows).length]) rfl (aop_extract rfl rfl rfl) <| AR.op (r := i64 r61.2) rfl (aop_extract rfl rfl rfl) <| AR.keep [4, 5, 21, 22, 23, 34] rfl <| AR.op rfl (aop_store (e' := .agg [i64 r61.1.N, .view 3 0 (List.map u64 r61.1.Rows).length]) rfl rfl rfl rfl rfl rfl sz34 rfl dt rfl) <| AR.nil ?_
     refine hK11 _ (AWP.weak (Weak.re (fr' := [(4, .ref 0 0 0), (5, .ref 1 0 0), (21, .sl (List.map G.api_Choice.av l_1)), (22, i64 (Sh.len l_1)), (23, i64 v52)]) (H' := ⟨3, [(0, (2, [.agg [i64 0, nilS]])), (1, (2, [.agg [i64 r61.1.N, .view 2 0 (List.map u64 r61.1.Rows).length]])), (2, (1, List.map u64 r61.1.Rows))], []⟩) [(0, 0), (1, 1), (2, 3)] [] rfl rfl rfl (.cons rfl rfl (.one (.sm) rfl) dt (.cons rfl rfl (.one (.ag ⟨.sm, .view rfl, trivial⟩) rfl) dt (.cons rfl rfl (.same (by simp)) dt trivial))) ⟨⟨_, rfl, .ref rfl⟩, ⟨_, rfl, .ref rfl⟩, ⟨.sl (List.map G.api_Choice.av l_1), rfl, .sm⟩, .k, .k, trivial⟩) ?_)
     refine awp_reg rfl <| AR.op rfl (aop_add rfl rfl rfl rfl) <| AR.op rfl (aop_move (.inl rfl) rfl) <| AR.nil ?_
     replace h := Sh.next_eq h
     exact ⟨_, h, Weak.kt [4, 5, 21, 22, 23] rfl⟩
    ·replace h := Sh.if_f h hb53
     refine awp_exit ?_
     replace h := Sh.exit_eq h hx1
     exact hK7 (gN50, gRows51) _ h (Weak.kt [4, 5] rfl)
theorem choice_Ww_ok {W0 : World} (hT : Tab W0) {h_0 : G.api_Hist} {l_1 : List G.api_Choice} {r : G.graph_Graph} (h : G.choice_Ww h_0 l_1 = some r) : Fun1 Tryd.prog W0 30 [G.api_Hist.av h_0, .sl (List.map G.api_Choice.av l_1)] (G.graph_Graph.av r) :=
 (choice_Ww_own hT h).give (Weak.e ⟨⟨_, rfl, .ag ⟨.sm, .lendAll rfl rfl (by simp), trivial⟩⟩, trivial⟩) (by simp)


theorem choice_Full_ok0 {W0 : World} (hT : Tab W0) {h_0 : G.api_Hist} {level_1 : Int} {l_2 : List G.api_Choice} {r : G.graph_Graph × Int} (h : G.choice_Full h_0 level_1 l_2 = some r) : Fun2 Tryd.prog W0 9 [G.api_Hist.av h_0, i64 level_1, .sl (List.map G.api_Choice.av l_2)] (.tuple [G.graph_Graph.av r.1, i64 r.2]) .empty := by
 refine fun2_of_awp Tryd.func9 rfl (by kernel_rfl) Tryd.ntmps9 (by simp) ?_
 unfold G.choice_Full at h
 show AWP _ _ _ _ ⟨[(0, G.api_Hist.av h_0), (1, i64 level_1), (2, .sl (List.map G.api_Choice.av l_2))], .empty⟩ _
 refine awp_seqK fun K1 hK1 => awp_reg rfl <| AR.op (r := .ref 0 0 0) rfl (aop_box 1 [G.api_Hist.av h_0] rfl rfl rfl (.inl ⟨rfl, rfl⟩)) <| AR.op (r := .ref 1 0 0) rfl (aop_alloc 2 [.agg [i64 0, nilS]] rfl zr34 (by kernel_rfl) (.inl ⟨rfl, rfl⟩)) <| AR.op rfl (aop_move (.inr rfl) rfl) <| AR.nil <| hK1 _ (AWP.weak (Weak.re (fr' := [(1, i64 level_1), (2, .sl (List.map G.api_Choice.av l_2)), (3, .pp [.sl (List.map G.api_Txn.av h_0.Txns)] 0), (6, .ref 0 0 0)]) (H' := ⟨1, [(0, (2, [.agg [i64 0, nilS]]))], []⟩) [(0, 1)] [] rfl rfl rfl (.cons rfl rfl (.one (.sm) rfl) dt trivial) ⟨.k, ⟨.sl (List.map G.api_Choice.av l_2), rfl, .sm⟩, ⟨_, rfl, .frzA rfl rfl rfl rfl (by simp)⟩, ⟨_, rfl, .ref rfl⟩, trivial⟩) ?_)
 refine awp_seqK fun K2 hK2 => awp_seqJ (fun (p : Bool) => (⟨[(1, i64 level_1), (2, .sl (List.map G.api_Choice.av l_2)), (3, .pp [.sl (List.map G.api_Txn.av h_0.Txns)] 0), (6, .ref 0 0 0), (21, bl p)], ⟨1, [(0, (2, [.agg [i64 0, nilS]]))], []⟩⟩ : St)) (fun (p : Bool) => G.choice_Full_j1 h_0 level_1 l_2 p = some r) ?_ ?_
 ·rintro v19 h
  replace h : G.choice_Full_j1 h_0 level_1 l_2 v19 = some r := h
  unfold G.choice_Full_j1 at h
  refine awp_cond rfl (fun hb20 => ?_) (fun hb20 => ?_)
  ·replace h := Sh.if_t h hb20
   refine awp_seqK fun K3 hK3 => awp_reg rfl <| AR.op (r := .agg [i64 0, nilS]) rfl (aop_build rfl bd34 rfl rfl rfl) <| AR.op rfl (aop_store (e' := .agg [i64 0, nilS]) rfl rfl rfl rfl rfl rfl sz34 rfl dt rfl) <| AR.op rfl (aop_move (.inr rfl) rfl) <| AR.nil <| hK3 _ (AWP.weak (Weak.kt [6, 7] rfl) ?_)
   refine awp_ret ?_
   obtain rfl := Option.some.inj h
   refine ⟨.inr rfl, .tuple [.agg [i64 0, nilS], i64 1], rfl, ?_⟩
   exact Weak.e ⟨⟨.tuple [.agg [i64 0, nilS], i64 1], rfl, .tp ⟨.ag ⟨.sm, .nilsl, trivial⟩, .sm, trivial⟩⟩, trivial⟩
  ·replace h := Sh.if_f h hb20
   refine awp_skip <| hK2 _ (AWP.weak (Weak.kt [1, 2, 3, 6] rfl) ?_)
   refine awp_seqK fun K4 hK4 => awp_any [(true, false), (true, false), (true, false), (true, false), (true, false), (true, false), (true, false), (false, true), (false, true)] (by kernel_rfl) (by kernel_rfl) rfl ?_
   refine ARH.dry (r := G.api_Hist.av h_0) rfl (fun _ => aop_load_pp rfl rfl sz24 rfl) ?_
   obtain ⟨r24, hr24, h⟩ := Sh.bind_some' h
   refine ARH.dry (r := G.graph_Graph.av r24) rfl (fun _ => aop_call1 rfl rfl (by simp) (known_Past_ok hT hr24)) <| ARH.dry (r := G.api_Hist.av h_0) rfl (fun _ => aop_load_pp rfl rfl sz24 rfl) <| ARH.keep [1, 2, 3, 6, 24, 25] rfl <| ARH.dry rfl (fun _ => aop_move (.inl rfl) rfl) ?_
   obtain ⟨r25, hr25, h⟩ := Sh.bind_some' h
   refine ARH.dry (r := G.graph_Graph.av r25) rfl (fun _ => aop_call1 rfl rfl (by simp) (choice_Ww_ok hT hr25)) <| ARH.dry (r := .clip (List.map G.graph_Graph.av ([r25] : List G.graph_Graph))) rfl (fun _ => aop_buildSlice rfl (xo := [.tmp 27]) rfl rfl rfl (by simp) (by simp) el89 ze89 (by decide)) <| ARH.keep [1, 2, 3, 6, 24, 28] rfl ?_
   obtain ⟨r26, hr26, h⟩ := Sh.bind_some' h
   refine ARH.dry (r := G.graph_Graph.av r26) rfl (fun _ => aop_callN rfl (ys := [G.graph_Graph.av r24, .clip (List.map G.graph_Graph.av ([r25] : List G.graph_Graph))]) (xs := [G.graph_Graph.av r24, .sl (List.map G.graph_Graph.av ([r25] : List G.graph_Graph))]) rfl (Weak.e (fr' := argsFr 0 [G.graph_Graph.av r24, .sl (List.map G.graph_Graph.av ([r25] : List G.graph_Graph))]) (H' := .empty) ⟨⟨G.graph_Graph.av r24, rfl, .sm⟩, ⟨.clip (List.map G.graph_Graph.av ([r25] : List G.graph_Graph)), rfl, .wide _ (by simp)⟩, trivial⟩) rfl (by simp) (choice_all_ok hT hr26)) <| ARH.loud (r := .ref 1 0 0) rfl rfl (aop_alloc 2 [.agg [i64 0, nilS]] rfl zr34 (by kernel_rfl) (.inl ⟨rfl, rfl⟩)) <| ARH.loud rfl rfl (aop_store (e' := G.graph_Graph.av r26) rfl rfl rfl rfl rfl rfl sz34 rfl dt rfl) <| ARH.nil <| hK4 _ (AWP.weak (Weak.re (fr' := [(1, i64 level_1), (2, .sl (List.map G.api_Choice.av l_2)), (3, .pp [.sl (List.map G.api_Txn.av h_0.Txns)] 0), (6, .ref 0 0 0), (8, .pp [i64 r26.N, .sl (List.map u64 r26.Rows)] 0)]) (H' := ⟨1, [(0, (2, [.agg [i64 0, nilS]]))], []⟩) [(0, 0)] [] rfl rfl rfl (.cons rfl rfl (.one (.sm) rfl) dt trivial) ⟨.k, ⟨.sl (List.map G.api_Choice.av l_2), rfl, .sm⟩, .k, ⟨_, rfl, .ref rfl⟩, ⟨_, rfl, .frzA rfl rfl rfl rfl (by simp)⟩, trivial⟩) ?_)
   refine awp_seqK fun K5 hK5 => awp_reg rfl <| AR.op (r := G.api_Hist.av h_0) rfl (aop_load_pp rfl rfl sz24 rfl) <| AR.op rfl (aop_move (.inl rfl) rfl) ?_
   obtain ⟨r28, hr28, h⟩ := Sh.bind_some' h
   refine AR.op (r := G.graph_Graph.av r28) rfl (aop_call1 rfl rfl (by simp) (choice_Rw_ok hT hr28)) <| AR.keep [1, 6, 8, 32] rfl <| AR.op (r := .ref 1 0 0) rfl (aop_alloc 2 [.agg [i64 0, nilS]] rfl zr34 (by kernel_rfl) (.inl ⟨rfl, rfl⟩)) <| AR.op rfl (aop_store (e' := G.graph_Graph.av r28) rfl rfl rfl rfl rfl rfl sz34 rfl dt rfl) <| AR.nil <| hK5 _ (AWP.weak (Weak.kt [1, 6, 8, 9] rfl) ?_)
   refine awp_seqJ (fun (p : G.graph_Graph) => (⟨[(6, .ref 0 0 0), (8, .pp [i64 r26.N, .sl (List.map u64 r26.Rows)] 0), (9, .ref 1 0 0)], ⟨2, [(0, (2, [.agg [i64 0, nilS]])), (1, (2, [G.graph_Graph.av p]))], []⟩⟩ : St)) (fun (p : G.graph_Graph) => G.choice_Full_j2 r26 p = some r) ?_ ?_
   ·rintro over30 h
    replace h : G.choice_Full_j2 r26 over30 = some r := h
    unfold G.choice_Full_j2 at h
    refine awp_seqK fun K6 hK6 => awp_reg rfl <| AR.op (r := G.graph_Graph.av r26) rfl (aop_load_pp rfl rfl sz34 rfl) <| AR.op (r := G.graph_Graph.av over30) rfl (aop_load_ref rfl rfl rfl rfl sz34 rfl) <| AR.op (r := .clip (List.map G.graph_Graph.av ([over30] : List G.graph_Graph))) rfl (aop_buildSlice rfl (xo := [.tmp 42]) rfl rfl rfl (by simp) (by simp) el89 ze89 (by decide)) <| AR.keep [6, 41, 43] rfl ?_
    obtain ⟨r32, hr32, h⟩ := Sh.bind_some' h
    refine AR.op (r := G.graph_Graph.av r32) rfl (aop_callN rfl (ys := [G.graph_Graph.av r26, .clip (List.map G.graph_Graph.av ([over30] : List G.graph_Graph))]) (xs := [G.graph_Graph.av r26, .sl (List.map G.graph_Graph.av ([over30] : List G.graph_Graph))]) rfl (Weak.e (fr' := argsFr 0 [G.graph_Graph.av r26, .sl (List.map G.graph_Graph.av ([over30] : List G.graph_Graph))]) (H' := .empty) ⟨⟨G.graph_Graph.av r26, rfl, .sm⟩, ⟨.clip (List.map G.graph_Graph.av ([over30] : List G.graph_Graph)), rfl, .wide _ (by simp)⟩, trivial⟩) rfl (by simp) (choice_all_ok hT hr32)) <| AR.op rfl (aop_store (e' := G.graph_Graph.av r32) rfl rfl rfl rfl rfl rfl sz34 rfl dt rfl) <| AR.op rfl (aop_move (.inr rfl) rfl) <| AR.nil <| hK6 _ (AWP.weak (Weak.re (fr' := [(6, .ref 0 0 0), (7, i64 0)]) (H' := ⟨1, [(0, (2, [G.graph_Graph.av r32]))], []⟩) [(0, 0)] [] rfl rfl rfl (.cons rfl rfl (.one (.sm) rfl) dt trivial) ⟨⟨_, rfl, .ref rfl⟩, .k, trivial⟩) ?_)
    refine awp_ret ?_
    obtain rfl := Option.some.inj h
    refine ⟨.inr rfl, .tuple [G.graph_Graph.av r32, i64 0], rfl, ?_⟩
    exact Weak.e ⟨⟨.tuple [G.graph_Graph.av r32, i64 0], rfl, .tp ⟨.sm, .sm, trivial⟩⟩, trivial⟩
   ·intro K7 hK7
    refine awp_seqK fun K8 hK8 => awp_reg rfl <| AR.op rfl (aop_move (.inl rfl) rfl) <| AR.op (r := bl (decide (level_1 = 1))) rfl (aop_eql rfl rfl rfl) <| AR.nil <| hK8 _ (AWP.weak (Weak.kt [6, 8, 9, 34] rfl) ?_)
    refine awp_cond rfl (fun hb33 => ?_) (fun hb33 => ?_)
    ·replace h := Sh.if_t h hb33
     refine awp_reg rfl <| AR.op (r := G.graph_Graph.av r26) rfl (aop_load_pp rfl rfl sz34 rfl) <| AR.op (r := G.graph_Graph.av r28) rfl (aop_load_ref rfl rfl rfl rfl sz34 rfl) ?_
     obtain ⟨r34, hr34, h⟩ := Sh.bind_some' h
     refine AR.op (r := .tuple [G.graph_Graph.av r34.1, i64 r34.2]) rfl (aop_call1 rfl rfl (by simp) (graph_Compose_ok hT hr34)) <| AR.keep [6, 8, 9, 38] rfl <| AR.op rfl (aop_move (.inl rfl) rfl) <| AR.op (r := G.graph_Graph.av r34.1) rfl (aop_extract rfl rfl rfl) <| AR.op (r := i64 r34.2) rfl (aop_extract rfl rfl rfl) <| AR.keep [6, 8, 9, 39] rfl <| AR.op rfl (aop_store (e' := G.graph_Graph.av r34.1) rfl rfl rfl rfl rfl rfl sz34 rfl dt rfl) <| AR.nil ?_
     exact hK7 r34.1 _ h (Weak.kt [6, 8, 9] rfl)
    ·replace h := Sh.if_f h hb33
     refine awp_skip ?_
     exact hK7 r28 _ h (Weak.kt [6, 8, 9] rfl)
 ·intro K9 hK9
  refine awp_reg rfl <| AR.op (r := G.api_Hist.av h_0) rfl (aop_load_pp rfl rfl sz24 rfl) <| AR.op rfl (aop_move (.inl rfl) rfl) ?_
  obtain ⟨r35, hr35, h⟩ := Sh.bind_some' h
  refine AR.op (r := bl r35) rfl (aop_call1 rfl rfl (by simp) (choice_Right_ok hT hr35)) <| AR.keep [1, 2, 3, 6, 12] rfl <| AR.op (r := bl (!r35)) rfl (aop_not rfl rfl) <| AR.op rfl (aop_move (.inl rfl) rfl) ?_
  rcases Bool.eq_false_or_eq_true (!r35) with hb36 | hb36
  ·rw [hb36]
   replace h := Sh.if_t h hb36
   refine AR.skip rfl <| AR.keep [1, 2, 3, 6, 14, 15] rfl <| AR.skip rfl <| AR.skip rfl <| AR.skip rfl <| AR.keep [1, 2, 3, 6, 14, 17, 18] rfl <| AR.skip rfl <| AR.skip rfl ?_
   refine AR.op rfl (aop_pick rfl rfl rfl) <| AR.nil ?_
   exact hK9 true _ h (Weak.kt [1, 2, 3, 6, 21] rfl)
  ·rw [hb36]
   replace h := Sh.if_f h hb36
   refine AR.op rfl (aop_move (.inl rfl) rfl) <| AR.keep [1, 2, 3, 6, 14, 15] rfl <| AR.op (r := bl (decide (level_1 ≠ 0))) rfl (aop_neq rfl rfl rfl) <| AR.op rfl (aop_move (.inl rfl) rfl) ?_
   rcases Bool.eq_false_or_eq_true (decide (level_1 ≠ 0)) with hb37 | hb37
   ·rw [hb37]
    replace h := Sh.if_t h hb37
    refine AR.op rfl (aop_move (.inl rfl) rfl) <| AR.keep [1, 2, 3, 6, 14, 17, 18] rfl <| AR.op (r := bl (decide (level_1 ≠ 1))) rfl (aop_neq rfl rfl rfl) <| AR.op rfl (aop_pick rfl rfl rfl) <| AR.op rfl (aop_pick rfl rfl rfl) <| AR.nil ?_
    exact hK9 (decide (level_1 ≠ 1)) _ h (Weak.kt [1, 2, 3, 6, 21] rfl)
   ·rw [hb37]
    replace h := Sh.if_f h hb37
    refine AR.skip rfl <| AR.keep [1, 2, 3, 6, 14, 17, 18] rfl <| AR.skip rfl <| AR.op rfl (aop_pick rfl rfl rfl) <| AR.op rfl (aop_pick rfl rfl rfl) <| AR.nil ?_
    exact hK9 false _ h (Weak.kt [1, 2, 3, 6, 21] rfl)
theorem choice_Full_ok {W0 : World} (hT : Tab W0) {h_0 : G.api_Hist} {level_1 : Int} {l_2 : List G.api_Choice} {r : G.graph_Graph × Int} (h : G.choice_Full h_0 level_1 l_2 = some r) : Fun1 Tryd.prog W0 9 [G.api_Hist.av h_0, i64 level_1, .sl (List.map G.api_Choice.av l_2)] (.tuple [G.graph_Graph.av r.1, i64 r.2]) := Fun1.two (choice_Full_ok0 hT h) (by simp)


theorem choice_Of_own {W0 : World} (hT : Tab W0) {h_0 : G.api_Hist} {order_1 : List Int} {r : (List G.api_Choice)} (h : G.choice_Of h_0 order_1 = some r) : Fun2 Tryd.prog W0 16 [G.api_Hist.av h_0, .sl (List.map i64 order_1)] (.view 0 0 (List.map G.api_Choice.av r).length) ⟨1, [(0, (3, List.map G.api_Choice.av r))], []⟩ := by
 refine fun2_of_awp Tryd.func16 rfl (by kernel_rfl) Tryd.ntmps16 (by simp) ?_
 unfold G.choice_Of at h
 show AWP _ _ _ _ ⟨[(0, G.api_Hist.av h_0), (1, .sl (List.map i64 order_1))], .empty⟩ _
 refine awp_seqK fun K1 hK1 => awp_reg rfl <| AR.op (r := .ref 0 0 0) rfl (aop_box 1 [G.api_Hist.av h_0] rfl rfl rfl (.inl ⟨rfl, rfl⟩)) <| AR.op rfl (aop_move (.inr rfl) rfl) <| AR.nil <| hK1 _ (AWP.weak (Weak.e (fr' := [(1, .sl (List.map i64 order_1)), (2, .pp [.sl (List.map G.api_Txn.av h_0.Txns)] 0)]) (H' := .empty) ⟨⟨.sl (List.map i64 order_1), rfl, .sm⟩, ⟨_, rfl, .frzA rfl rfl rfl rfl (by simp)⟩, trivial⟩) ?_)
 refine awp_seqK fun K2 hK2 => awp_seqJ (fun (p : Bool) => (⟨[(1, .sl (List.map i64 order_1)), (2, .pp [.sl (List.map G.api_Txn.av h_0.Txns)] 0), (20, bl p)], .empty⟩ : St)) (fun (p : Bool) => G.choice_Of_j1 h_0 order_1 p = some r) ?_ ?_
 ·rintro v67 h
  replace h : G.choice_Of_j1 h_0 order_1 v67 = some r := h
  unfold G.choice_Of_j1 at h
  refine awp_cond rfl (fun hb68 => ?_) (fun hb68 => ?_)
  ·replace h := Sh.if_t h hb68
   refine awp_seqK fun K3 hK3 => awp_reg rfl <| AR.op rfl (aop_move (.inr rfl) rfl) <| AR.nil <| hK3 _ (AWP.weak (Weak.kt [4] rfl) ?_)
   refine awp_ret ?_
   obtain rfl := Option.some.inj h
   refine ⟨.inr rfl, nilS, rfl, ?_⟩
   exact Weak.re [] [0] rfl rfl rfl (.fresh (by simp) dt trivial) ⟨⟨_, rfl, .nil (by simp)⟩, trivial⟩
  ·replace h := Sh.if_f h hb68
   refine awp_skip <| hK2 _ (AWP.weak (Weak.kt [1, 2] rfl) ?_)
   refine awp_seqK fun K4 hK4 => awp_reg rfl <| AR.op rfl (aop_move (.inl rfl) rfl) <| AR.op rfl (t_len_sl i64 order_1 rfl rfl el26) ?_
   obtain ⟨made70, hmade70, h⟩ := Sh.bind_some' h
   refine AR.op (r := .view 0 0 (List.map i64 made70).length) rfl (t_make i64 0 made70 hmade70 rfl rfl rfl el26 zv26 rfl rfl rfl) <| AR.keep [1, 2, 23] rfl <| AR.op rfl (aop_move (.inr rfl) rfl) <| AR.nil <| hK4 _ (AWP.weak (Weak.kt [1, 2, 5] rfl) ?_)
   refine awp_seqJ (fun (p : (List Int)) => (⟨[(2, .pp [.sl (List.map G.api_Txn.av h_0.Txns)] 0), (5, .sl (List.map i64 p))], .empty⟩ : St)) (fun (p : (List Int)) => G.choice_Of_j2 h_0 p = some r) ?_ ?_
   ·rintro place90 h
    replace h : G.choice_Of_j2 h_0 place90 = some r := h
    unfold G.choice_Of_j2 at h
    refine awp_seqK fun K5 hK5 => awp_reg rfl <| AR.op (r := G.api_Hist.av h_0) rfl (aop_load_pp rfl rfl sz24 rfl) ?_
    obtain ⟨r92, hr92, h⟩ := Sh.bind_some' h
    refine AR.op (r := .view 0 0 (List.map G.api_Choice.av r92).length) rfl (aop_call2N (.view 0 0 (List.map G.api_Choice.av r92).length) [(0, (3, List.map G.api_Choice.av r92))] rfl (ys := [G.api_Hist.av h_0]) (xs := [G.api_Hist.av h_0]) rfl (Weak.refl _) rfl (by simp) (index_Pairs_own hT hr92) (.view _ _ _) ⟨rfl, rfl, .same (by simp [AV.flat, G.api_Choice.av]), trivial⟩) <| AR.op rfl (aop_move (.inr rfl) rfl) <| AR.nil <| hK5 _ (AWP.weak (Weak.kt [5, 7] rfl) ?_)
    refine awp_seqJ (fun (p : (List G.api_Choice)) => (⟨[(7, .view 0 0 (List.map G.api_Choice.av p).length)], ⟨1, [(0, (3, List.map G.api_Choice.av p))], []⟩⟩ : St)) (fun (p : (List G.api_Choice)) => G.choice_Of_j3 p = some r) ?_ ?_
    ·rintro l130 h
     replace h : G.choice_Of_j3 l130 = some r := h
     unfold G.choice_Of_j3 at h
     refine awp_seqK fun K6 hK6 => awp_reg rfl <| AR.op rfl (aop_move (.inl rfl) rfl) <| AR.op rfl (aop_move (.inr rfl) rfl) <| AR.nil <| hK6 _ (AWP.weak (Weak.kt [4] rfl) ?_)
     refine awp_ret ?_
     obtain rfl := Option.some.inj h
     refine ⟨.inr rfl, .view 0 0 (List.map G.api_Choice.av l130).length, rfl, ?_⟩
     exact Weak.re [(0, 0)] [] rfl rfl rfl (.cons rfl rfl (.same (by simp)) dt trivial) ⟨⟨_, rfl, .view rfl⟩, trivial⟩
    ·intro K7 hK7
     refine awp_seqK fun K8 hK8 => awp_reg rfl <| AR.op rfl (aop_move (.inl rfl) rfl) <| AR.op (r := i64 (Sh.len r92)) rfl (t_len_view G.api_Choice.av r92 rfl rfl rfl rfl el25) <| AR.op rfl (aop_move (.inl rfl) rfl) <| AR.nil <| hK8 _ ?_
     refine awp_block <| awp_iter (fun (p : (List G.api_Choice) × Int) => G.choice_Of_b1 place90 r92 p.1 p.2) (fun (p : (List G.api_Choice) × Int) => (⟨[(5, .sl (List.map i64 place90)), (7, .view 0 0 (List.map G.api_Choice.av p.1).length), (43, .view 0 0 (List.map G.api_Choice.av p.1).length), (44, i64 (Sh.len r92)), (45, i64 p.2)], ⟨1, [(0, (3, List.map G.api_Choice.av p.1))], []⟩⟩ : St)) h (Weak.kt [5, 7, 43, 44, 45] rfl) ?_
     ·skip
      rintro ⟨l155, v156⟩ o1 h hx1
      replace h : G.choice_Of_b1 place90 r92 l155 v156 = some o1 := h
      unfold G.choice_Of_b1 at h
      refine awp_seqK fun K9 hK9 => awp_reg rfl <| AR.op rfl (aop_lss rfl rfl rfl) <| AR.nil <| hK9 _ ?_
      refine awp_seqK fun K10 hK10 => awp_cond rfl (fun hb157 => ?_) (fun hb157 => ?_)
      ·replace h := Sh.if_t h hb157
       refine awp_skip <| hK10 _ (AWP.weak (Weak.kt [5, 7, 43, 44, 45] rfl) ?_)
       refine awp_seqJ (fun (p : (List G.api_Choice)) => (⟨[(5, .sl (List.map i64 place90)), (7, .view 0 0 (List.map G.api_Choice.av p).length), (43, .view 0 0 (List.map G.api_Choice.av p).length), (44, i64 (Sh.len r92)), (45, i64 v156)], ⟨1, [(0, (3, List.map G.api_Choice.av p))], []⟩⟩ : St)) (fun (p : (List G.api_Choice)) => G.choice_Of_j4 v156 p = some o1) ?_ ?_
       ·rintro l168 h
        replace h : G.choice_Of_j4 v156 l168 = some o1 := h
        unfold G.choice_Of_j4 at h
        refine awp_reg rfl <| AR.op rfl (aop_add rfl rfl rfl rfl) <| AR.op rfl (aop_move (.inl rfl) rfl) <| AR.nil ?_
        replace h := Sh.next_eq h
        exact ⟨_, h, Weak.kt [5, 7, 43, 44, 45] rfl⟩
       ·intro K11 hK11
        refine awp_block <| awp_seqK fun K12 hK12 => awp_reg rfl <| AR.op rfl (aop_move (.inl rfl) rfl) ?_
        obtain ⟨x171, hx171, h⟩ := Sh.bind_some' h
        obtain ⟨k172, hi172, hl172⟩ := Sh.idx_some hx171
        refine AR.op (r := .ref 0 k172 0) rfl (t_index_view G.api_Choice.av l155 hi172 hl172 rfl rfl rfl rfl rfl el25 rfl) <| AR.op (r := G.api_Choice.av x171) rfl (t_load_el G.api_Choice.av l155 hl172 rfl rfl rfl sz55 rfl) <| AR.keep [5, 7, 43, 44, 45, 47, 49] rfl <| AR.op (r := .ref 1 0 0) rfl (aop_alloc 3 [.agg [i64 0, i64 0, i64 0]] rfl zr55 (by kernel_rfl) (.inl ⟨rfl, rfl⟩)) <| AR.op rfl (aop_move (.inr rfl) rfl) <| AR.op rfl (aop_store (e' := G.api_Choice.av x171) rfl rfl rfl rfl rfl rfl sz55 rfl dt rfl) <| AR.nil <| hK12 _ (AWP.weak (Weak.re (fr' := [(5, .sl (List.map i64 place90)), (7, .view 0 0 (List.map G.api_Choice.av l155).length), (43, .view 0 0 (List.map G.api_Choice.av l155).length), (44, i64 (Sh.len r92)), (45, i64 v156), (9, .pp [i64 x171.Key, i64 x171.A, i64 x171.B] 0), (8, i64 v156)]) (H' := ⟨1, [(0, (3, List.map G.api_Choice.av l155))], []⟩) [(0, 0)] [] rfl rfl rfl (.cons rfl rfl (.same (by simp)) dt trivial) ⟨⟨.sl (List.map i64 place90), rfl, .sm⟩, ⟨_, rfl, .view rfl⟩, ⟨_, rfl, .view rfl⟩, .k, .k, ⟨_, rfl, .frzA rfl rfl rfl rfl (by simp)⟩, .k, trivial⟩) ?_)
        refine awp_seqK fun K13 hK13 => awp_any [(true, false), (true, false), (true, false), (true, false), (true, false), (true, false), (true, false), (true, false), (true, false), (true, false), (true, false)] (by kernel_rfl) (by kernel_rfl) rfl ?_
        refine ARH.dry rfl (fun _ => aop_move (.inl rfl) rfl) <| ARH.dry rfl (fun _ => aop_field_pp rfl rfl fd55_1 (by decide)) <| ARH.dry (r := i64 x171.A) rfl (fun _ => aop_load_pp rfl rfl sz3 rfl) <| ARH.keep [5, 7, 43, 44, 45, 9, 8, 50, 52] rfl ?_
        obtain ⟨x177, hx177, h⟩ := Sh.bind_some' h
        obtain ⟨k178, hi178, hl178⟩ := Sh.idx_some hx177
        refine ARH.dry rfl (fun _ => t_index_sl i64 place90 hi178 hl178 rfl rfl rfl el26 rfl) <| ARH.dry (r := i64 x177) rfl (fun _ => aop_load_pp rfl rfl sz3 rfl) <| ARH.dry rfl (fun _ => aop_move (.inl rfl) rfl) <| ARH.keep [5, 7, 43, 44, 45, 9, 8, 54, 55] rfl <| ARH.dry rfl (fun _ => aop_field_pp rfl rfl fd55_2 (by decide)) <| ARH.dry (r := i64 x171.B) rfl (fun _ => aop_load_pp rfl rfl sz3 rfl) ?_
        obtain ⟨x179, hx179, h⟩ := Sh.bind_some' h
        obtain ⟨k180, hi180, hl180⟩ := Sh.idx_some hx179
        refine ARH.dry rfl (fun _ => t_index_sl i64 place90 hi180 hl180 rfl rfl rfl el26 rfl) <| ARH.keep [5, 7, 43, 44, 45, 9, 8, 54, 58] rfl <| ARH.dry (r := i64 x179) rfl (fun _ => aop_load_pp rfl rfl sz3 rfl) <| ARH.dry rfl (fun _ => aop_gtr rfl rfl rfl) <| ARH.nil <| hK13 _ (AWP.weak (Weak.kt [5, 7, 43, 44, 45, 9, 8, 60] rfl) ?_)
        refine awp_cond rfl (fun hb181 => ?_) (fun hb181 => ?_)
        ·replace h := Sh.if_t h hb181
         refine awp_any [(true, false), (true, false), (true, false), (true, false), (true, false), (true, false), (true, false), (true, false), (false, false), (false, false), (false, true), (false, false), (false, false), (false, true)] (by kernel_rfl) (by kernel_rfl) rfl ?_
         refine ARH.dry rfl (fun _ => aop_move (.inl rfl) rfl) <| ARH.dry rfl (fun _ => aop_move (.inl rfl) rfl) <| ARH.dry rfl (fun _ => aop_move (.inl rfl) rfl) <| ARH.keep [5, 7, 43, 44, 45, 9, 8, 61, 62, 63] rfl <| ARH.dry rfl (fun _ => aop_move (.inl rfl) rfl) <| ARH.dry rfl (fun _ => aop_field_pp rfl rfl fd55_2 (by decide)) <| ARH.dry (r := i64 x171.B) rfl (fun _ => aop_load_pp rfl rfl sz3 rfl) <| ARH.keep [5, 7, 43, 44, 45, 9, 61, 62, 63, 64, 66] rfl ?_
         refine ARH.dry rfl (fun _ => aop_field_pp rfl rfl fd55_1 (by decide)) <| ARH.dry (r := i64 x171.A) rfl (fun _ => aop_load_pp rfl rfl sz3 rfl) ?_
         obtain ⟨x182, hx182, h⟩ := Sh.bind_some' h
         obtain ⟨k183, hi183, hl183⟩ := Sh.idx_some hx182
         refine ARH.op (r := .ref 0 k183 0) rfl rfl (t_index_view G.api_Choice.av l155 hi183 hl183 rfl rfl rfl rfl rfl el25 rfl) <| ARH.keep [5, 7, 43, 44, 45, 63, 64, 66, 68, 69] rfl <| ARH.op rfl rfl (aop_field_ref rfl rfl rfl fd55_1 (by decide)) <| ARH.loud rfl rfl (t_store_el G.api_Choice.av l155 (G.api_Choice.mk x182.Key x171.B x182.B) hi183 hl183 rfl rfl rfl rfl rfl sz3 rfl dt rfl) ?_
         obtain ⟨x184, hx184, h⟩ := Sh.bind_some' h
         obtain ⟨k185, hi185, hl185⟩ := Sh.idx_some hx184
         refine ARH.op (r := .ref 0 k185 0) rfl rfl (t_index_view G.api_Choice.av (Sh.set l155 v156 (G.api_Choice.mk x182.Key x171.B x182.B)) hi185 hl185 (by simp []) rfl rfl rfl rfl el25 rfl) <| ARH.keep [5, 7, 43, 44, 45, 68, 71] rfl <| ARH.op rfl rfl (aop_field_ref rfl rfl rfl fd55_2 (by decide)) <| ARH.loud rfl rfl (t_store_el G.api_Choice.av (Sh.set l155 v156 (G.api_Choice.mk x182.Key x171.B x182.B)) (G.api_Choice.mk x184.Key x184.A x171.A) hi185 hl185 rfl rfl rfl rfl rfl sz3 rfl dt rfl) <| ARH.nil ?_
         exact hK11 (Sh.set (Sh.set l155 v156 (G.api_Choice.mk x182.Key x171.B x182.B)) v156 (G.api_Choice.mk x184.Key x184.A x171.A)) _ h (Weak.re [(0, 0)] [] rfl rfl rfl (.cons rfl rfl (.same (by simp)) dt trivial) ⟨⟨.sl (List.map i64 place90), rfl, .sm⟩, ⟨_, rfl, .viewL rfl (by simp [])⟩, ⟨_, rfl, .viewL rfl (by simp [])⟩, .k, .k, trivial⟩)
        ·replace h := Sh.if_f h hb181
         refine awp_skip ?_
         exact hK11 l155 _ h (Weak.kt [5, 7, 43, 44, 45] rfl)
      ·replace h := Sh.if_f h hb157
       refine awp_exit ?_
       replace h := Sh.exit_eq h hx1
       exact hK7 l155 _ h (Weak.kt [7] rfl)
   ·intro K14 hK14
    refine awp_seqK fun K15 hK15 => awp_reg rfl <| AR.op rfl (aop_move (.inl rfl) rfl) <| AR.op (r := i64 (Sh.len made70)) rfl (t_len_view i64 made70 rfl rfl rfl rfl el26) <| AR.op rfl (aop_move (.inl rfl) rfl) <| AR.nil <| hK15 _ (AWP.weak (Weak.kt [1, 2, 5, 25, 26] rfl) ?_)
    refine awp_block <| awp_iter (fun (p : (List Int) × Int) => G.choice_Of_b2 h_0 order_1 made70 p.1 p.2) (fun (p : (List Int) × Int) => (⟨[(1, .sl (List.map i64 order_1)), (2, .pp [.sl (List.map G.api_Txn.av h_0.Txns)] 0), (5, .view 0 0 (List.map i64 p.1).length), (25, i64 (Sh.len made70)), (26, i64 p.2)], ⟨1, [(0, (1, List.map i64 p.1))], []⟩⟩ : St)) h (Weak.kt [1, 2, 5, 25, 26] rfl) ?_
    ·skip
     rintro ⟨place198, v199⟩ o2 h hx2
     replace h : G.choice_Of_b2 h_0 order_1 made70 place198 v199 = some o2 := h
     unfold G.choice_Of_b2 at h
     refine awp_seqK fun K16 hK16 => awp_reg rfl <| AR.op rfl (aop_lss rfl rfl rfl) <| AR.nil <| hK16 _ ?_
     refine awp_seqK fun K17 hK17 => awp_cond rfl (fun hb200 => ?_) (fun hb200 => ?_)
     ·replace h := Sh.if_t h hb200
      refine awp_skip <| hK17 _ (AWP.weak (Weak.kt [1, 2, 5, 25, 26] rfl) ?_)
      refine awp_seqK fun K18 hK18 => awp_block <| awp_seqK fun K19 hK19 => awp_reg rfl <| AR.op rfl (aop_move (.inl rfl) rfl) <| AR.op rfl (aop_move (.inr rfl) rfl) <| AR.nil <| hK19 _ (AWP.weak (Weak.kt [1, 2, 5, 25, 26, 6] rfl) ?_)
      refine awp_seqK fun K20 hK20 => awp_reg rfl <| AR.op rfl (aop_move (.inl rfl) rfl) <| AR.op rfl (aop_move (.inl rfl) rfl) <| AR.op rfl (aop_move (.inl rfl) rfl) <| AR.keep [1, 2, 5, 25, 26, 6, 29, 30, 31] rfl <| AR.op rfl (aop_move (.inl rfl) rfl) ?_
      obtain ⟨r209, hr209, h⟩ := Sh.bind_some' h
      refine AR.op (r := i64 r209) rfl (aop_call1 rfl rfl (by simp) (slices_Index_int_int_ok hT hr209)) ?_
      obtain ⟨x210, hx210, h⟩ := Sh.bind_some' h
      obtain ⟨k211, hi211, hl211⟩ := Sh.idx_some hx210
      refine AR.op (r := .ref 0 k211 0) rfl (t_index_view i64 place198 hi211 hl211 rfl rfl rfl rfl rfl el26 rfl) <| AR.keep [1, 2, 5, 25, 26, 6, 33, 34] rfl <| AR.op rfl (t_store_el i64 place198 r209 hi211 hl211 rfl rfl rfl rfl rfl sz3 rfl dt rfl) <| AR.nil <| hK20 _ (AWP.weak (Weak.re (fr' := [(1, .sl (List.map i64 order_1)), (2, .pp [.sl (List.map G.api_Txn.av h_0.Txns)] 0), (5, .view 0 0 (List.map i64 (Sh.set place198 v199 r209)).length), (25, i64 (Sh.len made70)), (26, i64 v199), (6, i64 v199)]) (H' := ⟨1, [(0, (1, List.map i64 (Sh.set place198 v199 r209)))], []⟩) [(0, 0)] [] rfl rfl rfl (.cons rfl rfl (.same (by simp)) dt trivial) ⟨⟨.sl (List.map i64 order_1), rfl, .sm⟩, .k, ⟨_, rfl, .viewL rfl (by simp [])⟩, .k, .k, .k, trivial⟩) ?_)
      refine awp_seqK fun K21 hK21 => awp_reg rfl <| AR.op rfl (aop_move (.inl rfl) rfl) <| AR.op rfl (aop_move (.inl rfl) rfl) ?_
      obtain ⟨x214, hx214, h⟩ := Sh.bind_some' h
      obtain ⟨k215, hi215, hl215⟩ := Sh.idx_some hx214
      refine AR.op (r := .ref 0 k215 0) rfl (t_index_view i64 (Sh.set place198 v199 r209) hi215 hl215 rfl rfl rfl rfl rfl el26 rfl) <| AR.keep [1, 2, 5, 25, 26, 37] rfl <| AR.op (r := i64 x214) rfl (t_load_el i64 (Sh.set place198 v199 r209) hl215 rfl rfl rfl sz3 rfl) <| AR.op rfl (aop_lss rfl rfl rfl) <| AR.nil <| hK21 _ (AWP.weak (Weak.kt [1, 2, 5, 25, 26, 39] rfl) ?_)
      refine awp_cond rfl (fun hb216 => ?_) (fun hb216 => ?_)
      ·replace h := Sh.if_t h hb216
       refine awp_seqK fun K22 hK22 => awp_reg rfl <| AR.op rfl (aop_move (.inr rfl) rfl) <| AR.nil <| hK22 _ (AWP.weak (Weak.e (fr' := [(4, nilS)]) (H' := .empty) ⟨.k, trivial⟩) ?_)
       refine awp_ret ?_
       replace h := Sh.exit_eq h hx2
       obtain rfl := Option.some.inj h
       refine ⟨.inr rfl, nilS, rfl, ?_⟩
       exact Weak.re [] [0] rfl rfl rfl (.fresh (by simp) dt trivial) ⟨⟨_, rfl, .nil (by simp)⟩, trivial⟩
      ·replace h := Sh.if_f h hb216
       refine awp_skip <| hK18 _ (AWP.weak (Weak.kt [1, 2, 5, 25, 26] rfl) ?_)
       refine awp_reg rfl <| AR.op rfl (aop_add rfl rfl rfl rfl) <| AR.op rfl (aop_move (.inl rfl) rfl) <| AR.nil ?_
       replace h := Sh.next_eq h
       exact ⟨_, h, Weak.kt [1, 2, 5, 25, 26] rfl⟩
     ·replace h := Sh.if_f h hb200
      refine awp_exit ?_
      replace h := Sh.exit_eq h hx2
      exact hK14 place198 _ h (Weak.e ⟨.k, ⟨_, rfl, .lendAll rfl rfl (by simp)⟩, trivial⟩)
 ·intro K23 hK23
  refine awp_reg rfl <| AR.op (r := G.api_Hist.av h_0) rfl (aop_load_pp rfl rfl sz24 rfl) ?_
  obtain ⟨r217, hr217, h⟩ := Sh.bind_some' h
  refine AR.op (r := bl r217) rfl (aop_call1 rfl rfl (by simp) (hist_Right_ok hT hr217)) <| AR.op (r := bl (!r217)) rfl (aop_not rfl rfl) <| AR.keep [1, 2, 12] rfl <| AR.op rfl (aop_move (.inl rfl) rfl) ?_
  rcases Bool.eq_false_or_eq_true (!r217) with hb218 | hb218
  ·rw [hb218]
   replace h := Sh.if_t h hb218
   refine AR.skip rfl <| AR.skip rfl <| AR.keep [1, 2, 13, 15] rfl <| AR.skip rfl <| AR.skip rfl <| AR.skip rfl <| AR.keep [1, 2, 13, 15, 18] rfl <| AR.skip rfl ?_
   refine AR.op rfl (aop_pick rfl rfl rfl) <| AR.nil ?_
   exact hK23 true _ h (Weak.kt [1, 2, 20] rfl)
  ·rw [hb218]
   replace h := Sh.if_f h hb218
   refine AR.op rfl (aop_move (.inl rfl) rfl) <| AR.op rfl (t_len_sl i64 order_1 rfl rfl el26) <| AR.keep [1, 2, 13, 15] rfl <| AR.op rfl (aop_field_pp rfl rfl fd24_0 (by decide)) <| AR.op (r := .sl (List.map G.api_Txn.av h_0.Txns)) rfl (aop_load_pp rfl rfl sz22 rfl) <| AR.op rfl (t_len_sl G.api_Txn.av h_0.Txns rfl rfl el22) <| AR.keep [1, 2, 13, 15, 18] rfl <| AR.op (r := bl (decide ((Sh.len order_1) ≠ (Sh.len h_0.Txns)))) rfl (aop_neq rfl rfl rfl) ?_
   refine AR.op rfl (aop_pick rfl rfl rfl) <| AR.nil ?_
   exact hK23 (decide ((Sh.len order_1) ≠ (Sh.len h_0.Txns))) _ h (Weak.kt [1, 2, 20] rfl)
theorem choice_Of_ok {W0 : World} (hT : Tab W0) {h_0 : G.api_Hist} {order_1 : List Int} {r : (List G.api_Choice)} (h : G.choice_Of h_0 order_1 = some r) : Fun1 Tryd.prog W0 16 [G.api_Hist.av h_0, .sl (List.map i64 order_1)] (.sl (List.map G.api_Choice.av r)) :=
 (choice_Of_own hT h).give (Weak.e ⟨⟨_, rfl, .lendAll rfl rfl (by simp)⟩, trivial⟩) (by simp)

end Wk
