/- That the functions of a package do what their plain functions say. -/
import Derived.Test.YtcnkohookgfpoaaSh
import Derived.Test.YtcnkohookgfpoaaWkEFacts
import Derived.Test.YtcnkohookgfpoaaWkEhist
import Derived.Test.YtcnkohookgfpoaaWkEstdslices
open Go Go.Av Go.Proofs
set_option linter.unusedVariables false
namespace Wk
set_option maxHeartbeats 8000000 in
set_option maxRecDepth 20000 in
theorem choice_Right_1__1_ok0 {W0 : World} (hT : Tab W0) {t_0 : Int} {key_1 : Int} {a_2 : G.api_Hist} {r : Bool} (h : G.choice_Right_1__1 t_0 key_1 a_2 = some r) : Fun2 Try.prog W0 35 [i64 t_0, i64 key_1, .pp [.sl (List.map G.api_Txn.av a_2.Txns)] 0] (bl r) .empty := by
  refine fun2_of_awp Try.func35 rfl (by kernel_rfl) Try.ntmps35 (by simp) ?_
  unfold G.choice_Right_1__1 at h
  show AWP _ _ _ _ ⟨[(0, i64 t_0), (1, i64 key_1), (2, .pp [.sl (List.map G.api_Txn.av a_2.Txns)] 0)], .empty⟩ _
  refine awp_seqK fun K1 hK1 => ?_
  refine awp_reg rfl ?_
  refine AR.op (r := bl false) rfl (aop_move (.inr rfl) rfl) ?_
  refine AR.nil ?_
  refine hK1 _ (AWP.weak (Weak.kp (fr' := [(0, i64 t_0), (1, i64 key_1), (2, .pp [.sl (List.map G.api_Txn.av a_2.Txns)] 0)]) ⟨rfl, rfl, rfl, trivial⟩) ?_)
  clear hK1 K1
  refine awp_seqK fun K2 hK2 => ?_
  refine awp_reg rfl ?_
  refine AR.op (r := i64 t_0) rfl (aop_move (.inl rfl) rfl) ?_
  refine AR.op (r := bl (decide ((0 : Int) ≤ t_0))) rfl (aop_geq rfl rfl rfl) ?_
  refine AR.op (r := bl (decide ((0 : Int) ≤ t_0))) rfl (aop_move (.inl rfl) rfl) ?_
  refine AR.drop (frx := [(0, _), (1, _), (2, _), (8, _)]) ⟨rfl, rfl, rfl, rfl, trivial⟩ ?_
  rcases Bool.eq_false_or_eq_true (decide ((0 : Int) ≤ t_0)) with hb12 | hb12
  · rw [hb12]
    replace h := Sh.if_t h hb12
    refine AR.op (r := i64 t_0) rfl (aop_move (.inl rfl) rfl) ?_
    refine AR.op rfl (aop_field_pp rfl rfl fd24_0 (by decide)) ?_
    refine AR.op (r := .sl (List.map G.api_Txn.av a_2.Txns)) rfl (aop_load_pp rfl rfl sz22 rfl) ?_
    refine AR.drop (frx := [(0, _), (1, _), (2, _), (8, _), (9, _), (11, _)]) ⟨rfl, rfl, rfl, rfl, rfl, rfl, trivial⟩ ?_
    refine AR.op (r := i64 (Sh.len a_2.Txns)) rfl (t_len_sl G.api_Txn.av a_2.Txns rfl rfl el22) ?_
    refine AR.op (r := bl (decide (t_0 < (Sh.len a_2.Txns)))) rfl (aop_lss rfl rfl rfl) ?_
    refine AR.op (r := bl (decide (t_0 < (Sh.len a_2.Txns)))) rfl (aop_pick rfl rfl rfl) ?_
    refine AR.drop (frx := [(0, _), (1, _), (2, _), (14, _)]) ⟨rfl, rfl, rfl, rfl, trivial⟩ ?_
    refine AR.op (r := bl (decide (t_0 < (Sh.len a_2.Txns)))) rfl (aop_move (.inl rfl) rfl) ?_
    rcases Bool.eq_false_or_eq_true (decide (t_0 < (Sh.len a_2.Txns))) with hb13 | hb13
    · rw [hb13]
      replace h := Sh.if_t h hb13
      refine AR.op rfl (aop_field_pp rfl rfl fd24_0 (by decide)) ?_
      refine AR.op (r := .sl (List.map G.api_Txn.av a_2.Txns)) rfl (aop_load_pp rfl rfl sz22 rfl) ?_
      refine AR.drop (frx := [(0, _), (1, _), (15, _), (17, _)]) ⟨rfl, rfl, rfl, rfl, trivial⟩ ?_
      refine AR.op (r := i64 t_0) rfl (aop_move (.inl rfl) rfl) ?_
      obtain ⟨x14, hx14, h⟩ := Sh.bind_some' h
      obtain ⟨k15, hi15, hl15⟩ := Sh.idx_some hx14
      refine AR.op rfl (t_index_sl G.api_Txn.av a_2.Txns hi15 hl15 rfl rfl rfl el22 rfl) ?_
      refine AR.op rfl (aop_field_pp rfl rfl fd47_1 (by decide)) ?_
      refine AR.drop (frx := [(1, _), (15, _), (20, _)]) ⟨rfl, rfl, rfl, trivial⟩ ?_
      refine AR.op (r := .sl (List.map i64 x14.Writes)) rfl (aop_load_pp rfl rfl sz26 rfl) ?_
      refine AR.op (r := i64 key_1) rfl (aop_move (.inl rfl) rfl) ?_
      obtain ⟨r16, hr16, h⟩ := Sh.bind_some' h
      refine AR.op (r := bl r16) rfl (aop_call1 rfl rfl (by simp) (slices_Contains_int_int_ok hT hr16)) ?_
      refine AR.drop (frx := [(15, _), (23, _)]) ⟨rfl, rfl, trivial⟩ ?_
      refine AR.op (r := bl r16) rfl (aop_pick rfl rfl rfl) ?_
      refine AR.op (r := bl r16) rfl (aop_move (.inr rfl) rfl) ?_
      refine AR.nil ?_
      refine hK2 _ (AWP.weak (Weak.kp (fr' := [(5, bl r16)]) ⟨rfl, trivial⟩) ?_)
      clear hK2 K2
      refine awp_ret ?_
      obtain rfl := Option.some.inj h
      refine ⟨.inr rfl, bl r16, rfl, ?_⟩
      exact Weak.re [] [] rfl rfl rfl (trivial) ⟨⟨_, rfl, .same _ (by simp)⟩, trivial⟩
    · rw [hb13]
      replace h := Sh.if_f h hb13
      refine AR.skip rfl ?_
      refine AR.skip rfl ?_
      refine AR.drop (frx := [(0, _), (1, _), (15, _), (17, _)]) ⟨rfl, rfl, rfl, rfl, trivial⟩ ?_
      refine AR.skip rfl ?_
      refine AR.skip rfl ?_
      refine AR.skip rfl ?_
      refine AR.drop (frx := [(1, _), (15, _), (20, _)]) ⟨rfl, rfl, rfl, trivial⟩ ?_
      refine AR.skip rfl ?_
      refine AR.skip rfl ?_
      refine AR.skip rfl ?_
      refine AR.drop (frx := [(15, _), (23, _)]) ⟨rfl, rfl, trivial⟩ ?_
      refine AR.op (r := bl false) rfl (aop_pick rfl rfl rfl) ?_
      refine AR.op (r := bl false) rfl (aop_move (.inr rfl) rfl) ?_
      refine AR.nil ?_
      refine hK2 _ (AWP.weak (Weak.kp (fr' := [(5, bl false)]) ⟨rfl, trivial⟩) ?_)
      clear hK2 K2
      refine awp_ret ?_
      obtain rfl := Option.some.inj h
      refine ⟨.inr rfl, bl false, rfl, ?_⟩
      exact Weak.re [] [] rfl rfl rfl (trivial) ⟨⟨_, rfl, .same _ (by simp)⟩, trivial⟩
  · rw [hb12]
    replace h := Sh.if_f h hb12
    refine AR.skip rfl ?_
    refine AR.skip rfl ?_
    refine AR.skip rfl ?_
    refine AR.drop (frx := [(0, _), (1, _), (2, _), (8, _), (9, _), (11, _)]) ⟨rfl, rfl, rfl, rfl, rfl, rfl, trivial⟩ ?_
    refine AR.skip rfl ?_
    refine AR.skip rfl ?_
    refine AR.op (r := bl false) rfl (aop_pick rfl rfl rfl) ?_
    refine AR.drop (frx := [(0, _), (1, _), (2, _), (14, _)]) ⟨rfl, rfl, rfl, rfl, trivial⟩ ?_
    refine AR.op (r := bl false) rfl (aop_move (.inl rfl) rfl) ?_
    refine AR.skip rfl ?_
    refine AR.skip rfl ?_
    refine AR.drop (frx := [(0, _), (1, _), (15, _), (17, _)]) ⟨rfl, rfl, rfl, rfl, trivial⟩ ?_
    refine AR.skip rfl ?_
    refine AR.skip rfl ?_
    refine AR.skip rfl ?_
    refine AR.drop (frx := [(1, _), (15, _), (20, _)]) ⟨rfl, rfl, rfl, trivial⟩ ?_
    refine AR.skip rfl ?_
    refine AR.skip rfl ?_
    refine AR.skip rfl ?_
    refine AR.drop (frx := [(15, _), (23, _)]) ⟨rfl, rfl, trivial⟩ ?_
    refine AR.op (r := bl false) rfl (aop_pick rfl rfl rfl) ?_
    refine AR.op (r := bl false) rfl (aop_move (.inr rfl) rfl) ?_
    refine AR.nil ?_
    refine hK2 _ (AWP.weak (Weak.kp (fr' := [(5, bl false)]) ⟨rfl, trivial⟩) ?_)
    clear hK2 K2
    refine awp_ret ?_
    obtain rfl := Option.some.inj h
    refine ⟨.inr rfl, bl false, rfl, ?_⟩
    exact Weak.re [] [] rfl rfl rfl (trivial) ⟨⟨_, rfl, .same _ (by simp)⟩, trivial⟩
theorem choice_Right_1__1_ok {W0 : World} (hT : Tab W0) {t_0 : Int} {key_1 : Int} {a_2 : G.api_Hist} {r : Bool} (h : G.choice_Right_1__1 t_0 key_1 a_2 = some r) : Fun1 Try.prog W0 35 [i64 t_0, i64 key_1, .pp [.sl (List.map G.api_Txn.av a_2.Txns)] 0] (bl r) := Fun1.two (choice_Right_1__1_ok0 hT h) (by simp)


set_option maxHeartbeats 8000000 in
set_option maxRecDepth 20000 in
theorem choice_Right_2__1_ok0 {W0 : World} (hT : Tab W0) {c_0 : G.api_Choice} {a_1 : G.api_Hist} {r : Bool} (h : G.choice_Right_2__1 c_0 a_1 = some r) : Fun2 Try.prog W0 37 [G.api_Choice.av c_0, .pp [.clo (.func 35) [.pp [.sl (List.map G.api_Txn.av a_1.Txns)] 0]] 0] (bl r) .empty := by
  refine fun2_of_awp Try.func37 rfl (by kernel_rfl) Try.ntmps37 (by simp) ?_
  unfold G.choice_Right_2__1 at h
  show AWP _ _ _ _ ⟨[(0, G.api_Choice.av c_0), (1, .pp [.clo (.func 35) [.pp [.sl (List.map G.api_Txn.av a_1.Txns)] 0]] 0)], .empty⟩ _
  refine awp_seqK fun K1 hK1 => ?_
  refine awp_reg rfl ?_
  refine AR.op (r := .ref 0 0 0) rfl (aop_box 3 [G.api_Choice.av c_0] rfl rfl rfl (.inl ⟨rfl, rfl⟩)) ?_
  refine AR.op (r := bl false) rfl (aop_move (.inr rfl) rfl) ?_
  refine AR.nil ?_
  refine hK1 _ (AWP.weak (Weak.re (fr' := [(1, .pp [.clo (.func 35) [.pp [.sl (List.map G.api_Txn.av a_1.Txns)] 0]] 0), (2, .pp [i64 c_0.Key, i64 c_0.A, i64 c_0.B] 0)]) (H' := .empty) [] [] rfl rfl rfl (trivial) ⟨⟨_, rfl, .same _ (by simp)⟩, ⟨_, rfl, .frzA rfl rfl rfl rfl (by simp)⟩, trivial⟩) ?_)
  clear hK1 K1
  refine awp_seqK fun K2 hK2 => ?_
  refine awp_reg rfl ?_
  refine AR.op rfl (aop_field_pp rfl rfl fd35_1 (by decide)) ?_
  refine AR.op (r := i64 c_0.A) rfl (aop_load_pp rfl rfl sz3 rfl) ?_
  refine AR.op rfl (aop_field_pp rfl rfl fd35_2 (by decide)) ?_
  refine AR.drop (frx := [(1, _), (2, _), (5, _), (6, _)]) ⟨rfl, rfl, rfl, rfl, trivial⟩ ?_
  refine AR.op (r := i64 c_0.B) rfl (aop_load_pp rfl rfl sz3 rfl) ?_
  refine AR.op (r := bl (decide (c_0.A = c_0.B))) rfl (aop_eql rfl rfl rfl) ?_
  refine AR.op (r := bl (decide (c_0.A = c_0.B))) rfl (aop_move (.inl rfl) rfl) ?_
  refine AR.drop (frx := [(1, _), (2, _), (9, _)]) ⟨rfl, rfl, rfl, trivial⟩ ?_
  rcases Bool.eq_false_or_eq_true (decide (c_0.A = c_0.B)) with hb10 | hb10
  · rw [hb10]
    replace h := Sh.if_t h hb10
    refine AR.skip rfl ?_
    refine AR.skip rfl ?_
    refine AR.skip rfl ?_
    refine AR.drop (frx := [(1, _), (2, _), (9, _), (10, _), (12, _)]) ⟨rfl, rfl, rfl, rfl, rfl, trivial⟩ ?_
    refine AR.skip rfl ?_
    refine AR.skip rfl ?_
    refine AR.skip rfl ?_
    refine AR.drop (frx := [(1, _), (2, _), (9, _), (15, _)]) ⟨rfl, rfl, rfl, rfl, trivial⟩ ?_
    refine AR.skip rfl ?_
    refine AR.op (r := bl true) rfl (aop_pick rfl rfl rfl) ?_
    refine AR.op (r := bl true) rfl (aop_move (.inl rfl) rfl) ?_
    refine AR.drop (frx := [(1, _), (2, _), (18, _)]) ⟨rfl, rfl, rfl, trivial⟩ ?_
    refine AR.skip rfl ?_
    refine AR.skip rfl ?_
    refine AR.skip rfl ?_
    refine AR.drop (frx := [(2, _), (18, _), (19, _), (21, _)]) ⟨rfl, rfl, rfl, rfl, trivial⟩ ?_
    refine AR.skip rfl ?_
    refine AR.skip rfl ?_
    refine AR.skip rfl ?_
    refine AR.drop (frx := [(18, _), (24, _)]) ⟨rfl, rfl, trivial⟩ ?_
    refine AR.skip rfl ?_
    refine AR.op (r := bl true) rfl (aop_pick rfl rfl rfl) ?_
    refine AR.op (r := bl true) rfl (aop_move (.inr rfl) rfl) ?_
    refine AR.nil ?_
    refine hK2 _ (AWP.weak (Weak.kp (fr' := [(3, bl true)]) ⟨rfl, trivial⟩) ?_)
    clear hK2 K2
    refine awp_ret ?_
    obtain rfl := Option.some.inj h
    refine ⟨.inr rfl, bl true, rfl, ?_⟩
    exact Weak.re [] [] rfl rfl rfl (trivial) ⟨⟨_, rfl, .same _ (by simp)⟩, trivial⟩
  · rw [hb10]
    replace h := Sh.if_f h hb10
    refine AR.op (r := .clo (.func 35) [.pp [.sl (List.map G.api_Txn.av a_1.Txns)] 0]) rfl (aop_load_pp rfl rfl sz61 rfl) ?_
    refine AR.op rfl (aop_field_pp rfl rfl fd35_1 (by decide)) ?_
    refine AR.op (r := i64 c_0.A) rfl (aop_load_pp rfl rfl sz3 rfl) ?_
    refine AR.drop (frx := [(1, _), (2, _), (9, _), (10, _), (12, _)]) ⟨rfl, rfl, rfl, rfl, rfl, trivial⟩ ?_
    refine AR.op rfl (aop_field_pp rfl rfl fd35_0 (by decide)) ?_
    refine AR.op (r := i64 c_0.Key) rfl (aop_load_pp rfl rfl sz3 rfl) ?_
    obtain ⟨r11, hr11, h⟩ := Sh.bind_some' h
    refine AR.op (r := bl r11) rfl (aop_callNE (ys := [i64 c_0.A, i64 c_0.Key, .pp [.sl (List.map G.api_Txn.av a_1.Txns)] 0]) (xs := [i64 c_0.A, i64 c_0.Key, .pp [.sl (List.map G.api_Txn.av a_1.Txns)] 0]) (.clo (ys := [i64 c_0.A, i64 c_0.Key]) (caps := [.pp [.sl (List.map G.api_Txn.av a_1.Txns)] 0]) rfl rfl rfl (choice_Right_1__1_ok hT hr11).call) (Weak.refl _) rfl (by simp) (choice_Right_1__1_ok hT hr11)) ?_
    refine AR.drop (frx := [(1, _), (2, _), (9, _), (15, _)]) ⟨rfl, rfl, rfl, rfl, trivial⟩ ?_
    refine AR.op (r := bl (!r11)) rfl (aop_not rfl rfl) ?_
    refine AR.op (r := bl (!r11)) rfl (aop_pick rfl rfl rfl) ?_
    refine AR.op (r := bl (!r11)) rfl (aop_move (.inl rfl) rfl) ?_
    refine AR.drop (frx := [(1, _), (2, _), (18, _)]) ⟨rfl, rfl, rfl, trivial⟩ ?_
    rcases Bool.eq_false_or_eq_true (!r11) with hb12 | hb12
    · rw [hb12]
      replace h := Sh.if_t h hb12
      refine AR.skip rfl ?_
      refine AR.skip rfl ?_
      refine AR.skip rfl ?_
      refine AR.drop (frx := [(2, _), (18, _), (19, _), (21, _)]) ⟨rfl, rfl, rfl, rfl, trivial⟩ ?_
      refine AR.skip rfl ?_
      refine AR.skip rfl ?_
      refine AR.skip rfl ?_
      refine AR.drop (frx := [(18, _), (24, _)]) ⟨rfl, rfl, trivial⟩ ?_
      refine AR.skip rfl ?_
      refine AR.op (r := bl true) rfl (aop_pick rfl rfl rfl) ?_
      refine AR.op (r := bl true) rfl (aop_move (.inr rfl) rfl) ?_
      refine AR.nil ?_
      refine hK2 _ (AWP.weak (Weak.kp (fr' := [(3, bl true)]) ⟨rfl, trivial⟩) ?_)
      clear hK2 K2
      refine awp_ret ?_
      obtain rfl := Option.some.inj h
      refine ⟨.inr rfl, bl true, rfl, ?_⟩
      exact Weak.re [] [] rfl rfl rfl (trivial) ⟨⟨_, rfl, .same _ (by simp)⟩, trivial⟩
    · rw [hb12]
      replace h := Sh.if_f h hb12
      refine AR.op (r := .clo (.func 35) [.pp [.sl (List.map G.api_Txn.av a_1.Txns)] 0]) rfl (aop_load_pp rfl rfl sz61 rfl) ?_
      refine AR.op rfl (aop_field_pp rfl rfl fd35_2 (by decide)) ?_
      refine AR.op (r := i64 c_0.B) rfl (aop_load_pp rfl rfl sz3 rfl) ?_
      refine AR.drop (frx := [(2, _), (18, _), (19, _), (21, _)]) ⟨rfl, rfl, rfl, rfl, trivial⟩ ?_
      refine AR.op rfl (aop_field_pp rfl rfl fd35_0 (by decide)) ?_
      refine AR.op (r := i64 c_0.Key) rfl (aop_load_pp rfl rfl sz3 rfl) ?_
      obtain ⟨r13, hr13, h⟩ := Sh.bind_some' h
      refine AR.op (r := bl r13) rfl (aop_callNE (ys := [i64 c_0.B, i64 c_0.Key, .pp [.sl (List.map G.api_Txn.av a_1.Txns)] 0]) (xs := [i64 c_0.B, i64 c_0.Key, .pp [.sl (List.map G.api_Txn.av a_1.Txns)] 0]) (.clo (ys := [i64 c_0.B, i64 c_0.Key]) (caps := [.pp [.sl (List.map G.api_Txn.av a_1.Txns)] 0]) rfl rfl rfl (choice_Right_1__1_ok hT hr13).call) (Weak.refl _) rfl (by simp) (choice_Right_1__1_ok hT hr13)) ?_
      refine AR.drop (frx := [(18, _), (24, _)]) ⟨rfl, rfl, trivial⟩ ?_
      refine AR.op (r := bl (!r13)) rfl (aop_not rfl rfl) ?_
      refine AR.op (r := bl (!r13)) rfl (aop_pick rfl rfl rfl) ?_
      refine AR.op (r := bl (!r13)) rfl (aop_move (.inr rfl) rfl) ?_
      refine AR.nil ?_
      refine hK2 _ (AWP.weak (Weak.kp (fr' := [(3, bl (!r13))]) ⟨rfl, trivial⟩) ?_)
      clear hK2 K2
      refine awp_ret ?_
      obtain rfl := Option.some.inj h
      refine ⟨.inr rfl, bl (!r13), rfl, ?_⟩
      exact Weak.re [] [] rfl rfl rfl (trivial) ⟨⟨_, rfl, .same _ (by simp)⟩, trivial⟩
theorem choice_Right_2__1_ok {W0 : World} (hT : Tab W0) {c_0 : G.api_Choice} {a_1 : G.api_Hist} {r : Bool} (h : G.choice_Right_2__1 c_0 a_1 = some r) : Fun1 Try.prog W0 37 [G.api_Choice.av c_0, .pp [.clo (.func 35) [.pp [.sl (List.map G.api_Txn.av a_1.Txns)] 0]] 0] (bl r) := Fun1.two (choice_Right_2__1_ok0 hT h) (by simp)


set_option maxHeartbeats 8000000 in
set_option maxRecDepth 20000 in
theorem slices_IndexFunc_api_Choice_api_Choice__1_ok0 {W0 : World} (hT : Tab W0) {s_0 : List G.api_Choice} {f_1 : G.api_Hist} {r : Int} (h : G.slices_IndexFunc_api_Choice_api_Choice__1 s_0 f_1 = some r) : Fun2 Try.prog W0 47 [.sl (List.map G.api_Choice.av s_0), .clo (.func 37) [.pp [.clo (.func 35) [.pp [.sl (List.map G.api_Txn.av f_1.Txns)] 0]] 0]] (i64 r) .empty := by
  refine fun2_of_awp Try.func47 rfl (by kernel_rfl) Try.ntmps47 (by simp) ?_
  unfold G.slices_IndexFunc_api_Choice_api_Choice__1 at h
  show AWP _ _ _ _ ⟨[(0, .sl (List.map G.api_Choice.av s_0)), (1, .clo (.func 37) [.pp [.clo (.func 35) [.pp [.sl (List.map G.api_Txn.av f_1.Txns)] 0]] 0])], .empty⟩ _
  refine awp_seqK fun K1 hK1 => ?_
  refine awp_reg rfl ?_
  refine AR.op (r := i64 0) rfl (aop_move (.inr rfl) rfl) ?_
  refine AR.nil ?_
  refine hK1 _ (AWP.weak (Weak.kp (fr' := [(0, .sl (List.map G.api_Choice.av s_0)), (1, .clo (.func 37) [.pp [.clo (.func 35) [.pp [.sl (List.map G.api_Txn.av f_1.Txns)] 0]] 0])]) ⟨rfl, rfl, trivial⟩) ?_)
  clear hK1 K1
  refine awp_seqJ (fun (p : Unit) => (⟨[], .empty⟩ : St)) (fun (p : Unit) => G.slices_IndexFunc_api_Choice_api_Choice__1_j1 = some r) ?_ ?_
  · rintro ⟨⟩ h
    replace h : G.slices_IndexFunc_api_Choice_api_Choice__1_j1 = some r := h
    unfold G.slices_IndexFunc_api_Choice_api_Choice__1_j1 at h
    show AWP _ _ _ _ ⟨[], .empty⟩ _
    refine awp_seqK fun K2 hK2 => ?_
    refine awp_reg rfl ?_
    refine AR.op (r := i64 (-1)) rfl (aop_move (.inr rfl) rfl) ?_
    refine AR.nil ?_
    refine hK2 _ ?_
    clear hK2 K2
    refine awp_ret ?_
    obtain rfl := Option.some.inj h
    refine ⟨.inr rfl, i64 (-1), rfl, ?_⟩
    exact Weak.re [] [] rfl rfl rfl (trivial) ⟨⟨_, rfl, .same _ (by simp)⟩, trivial⟩
  · intro K3 hK3
    refine awp_seqK fun K4 hK4 => ?_
    refine awp_reg rfl ?_
    refine AR.op (r := .sl (List.map G.api_Choice.av s_0)) rfl (aop_move (.inl rfl) rfl) ?_
    refine AR.op (r := i64 (Sh.len s_0)) rfl (t_len_sl G.api_Choice.av s_0 rfl rfl el25) ?_
    refine AR.op (r := i64 0) rfl (aop_move (.inl rfl) rfl) ?_
    refine AR.nil ?_
    refine hK4 _ (AWP.weak (Weak.kp (fr' := [(0, .sl (List.map G.api_Choice.av s_0)), (1, .clo (.func 37) [.pp [.clo (.func 35) [.pp [.sl (List.map G.api_Txn.av f_1.Txns)] 0]] 0]), (7, i64 (Sh.len s_0)), (8, i64 0)]) ⟨rfl, rfl, rfl, rfl, trivial⟩) ?_)
    clear hK4 K4
    refine awp_block ?_
    refine awp_iter (fun (p : Int) => G.slices_IndexFunc_api_Choice_api_Choice__1_b1 s_0 f_1 p) (fun (p : Int) => (⟨[(0, .sl (List.map G.api_Choice.av s_0)), (1, .clo (.func 37) [.pp [.clo (.func 35) [.pp [.sl (List.map G.api_Txn.av f_1.Txns)] 0]] 0]), (7, i64 (Sh.len s_0)), (8, i64 p)], .empty⟩ : St)) h (Weak.kp (fr' := [(0, .sl (List.map G.api_Choice.av s_0)), (1, .clo (.func 37) [.pp [.clo (.func 35) [.pp [.sl (List.map G.api_Txn.av f_1.Txns)] 0]] 0]), (7, i64 (Sh.len s_0)), (8, i64 0)]) ⟨rfl, rfl, rfl, rfl, trivial⟩) ?_
    · skip
      rintro v30 o1 h hx1
      replace h : G.slices_IndexFunc_api_Choice_api_Choice__1_b1 s_0 f_1 v30 = some o1 := h
      unfold G.slices_IndexFunc_api_Choice_api_Choice__1_b1 at h
      show AWP _ _ _ _ ⟨[(0, .sl (List.map G.api_Choice.av s_0)), (1, .clo (.func 37) [.pp [.clo (.func 35) [.pp [.sl (List.map G.api_Txn.av f_1.Txns)] 0]] 0]), (7, i64 (Sh.len s_0)), (8, i64 v30)], .empty⟩ _
      refine awp_seqK fun K5 hK5 => ?_
      refine awp_reg rfl ?_
      refine AR.op (r := bl (decide (v30 < (Sh.len s_0)))) rfl (aop_lss rfl rfl rfl) ?_
      refine AR.nil ?_
      refine hK5 _ ?_
      clear hK5 K5
      refine awp_seqK fun K6 hK6 => ?_
      refine awp_cond rfl (fun hb31 => ?_) (fun hb31 => ?_)
      · replace h := Sh.if_t h hb31
        refine awp_skip ?_
        refine hK6 _ (AWP.weak (Weak.kp (fr' := [(0, .sl (List.map G.api_Choice.av s_0)), (1, .clo (.func 37) [.pp [.clo (.func 35) [.pp [.sl (List.map G.api_Txn.av f_1.Txns)] 0]] 0]), (7, i64 (Sh.len s_0)), (8, i64 v30)]) ⟨rfl, rfl, rfl, rfl, trivial⟩) ?_)
        clear hK6 K6
        refine awp_seqK fun K7 hK7 => ?_
        refine awp_block ?_
        refine awp_seqK fun K8 hK8 => ?_
        refine awp_reg rfl ?_
        refine AR.op (r := i64 v30) rfl (aop_move (.inl rfl) rfl) ?_
        refine AR.op (r := i64 v30) rfl (aop_move (.inr rfl) rfl) ?_
        refine AR.nil ?_
        refine hK8 _ (AWP.weak (Weak.kp (fr' := [(0, .sl (List.map G.api_Choice.av s_0)), (1, .clo (.func 37) [.pp [.clo (.func 35) [.pp [.sl (List.map G.api_Txn.av f_1.Txns)] 0]] 0]), (7, i64 (Sh.len s_0)), (8, i64 v30), (5, i64 v30)]) ⟨rfl, rfl, rfl, rfl, rfl, trivial⟩) ?_)
        clear hK8 K8
        refine awp_seqK fun K9 hK9 => ?_
        refine awp_reg rfl ?_
        refine AR.op (r := .clo (.func 37) [.pp [.clo (.func 35) [.pp [.sl (List.map G.api_Txn.av f_1.Txns)] 0]] 0]) rfl (aop_move (.inl rfl) rfl) ?_
        refine AR.op (r := .sl (List.map G.api_Choice.av s_0)) rfl (aop_move (.inl rfl) rfl) ?_
        refine AR.op (r := i64 v30) rfl (aop_move (.inl rfl) rfl) ?_
        refine AR.drop (frx := [(0, _), (1, _), (7, _), (8, _), (5, _), (11, _), (12, _), (13, _)]) ⟨rfl, rfl, rfl, rfl, rfl, rfl, rfl, rfl, trivial⟩ ?_
        obtain ⟨x38, hx38, h⟩ := Sh.bind_some' h
        obtain ⟨k39, hi39, hl39⟩ := Sh.idx_some hx38
        refine AR.op rfl (t_index_sl G.api_Choice.av s_0 hi39 hl39 rfl rfl rfl el25 rfl) ?_
        refine AR.op (r := G.api_Choice.av x38) rfl (aop_load_pp rfl rfl sz35 rfl) ?_
        obtain ⟨r40, hr40, h⟩ := Sh.bind_some' h
        refine AR.op (r := bl r40) rfl (aop_callNE (ys := [G.api_Choice.av x38, .pp [.clo (.func 35) [.pp [.sl (List.map G.api_Txn.av f_1.Txns)] 0]] 0]) (xs := [G.api_Choice.av x38, .pp [.clo (.func 35) [.pp [.sl (List.map G.api_Txn.av f_1.Txns)] 0]] 0]) (.clo (ys := [G.api_Choice.av x38]) (caps := [.pp [.clo (.func 35) [.pp [.sl (List.map G.api_Txn.av f_1.Txns)] 0]] 0]) rfl rfl rfl (choice_Right_2__1_ok hT hr40).call) (Weak.refl _) rfl (by simp) (choice_Right_2__1_ok hT hr40)) ?_
        refine AR.nil ?_
        refine hK9 _ (AWP.weak (Weak.kp (fr' := [(0, .sl (List.map G.api_Choice.av s_0)), (1, .clo (.func 37) [.pp [.clo (.func 35) [.pp [.sl (List.map G.api_Txn.av f_1.Txns)] 0]] 0]), (7, i64 (Sh.len s_0)), (8, i64 v30), (5, i64 v30), (16, bl r40)]) ⟨rfl, rfl, rfl, rfl, rfl, rfl, trivial⟩) ?_)
        clear hK9 K9
        refine awp_cond rfl (fun hb41 => ?_) (fun hb41 => ?_)
        · replace h := Sh.if_t h hb41
          refine awp_seqK fun K10 hK10 => ?_
          refine awp_reg rfl ?_
          refine AR.op (r := i64 v30) rfl (aop_move (.inl rfl) rfl) ?_
          refine AR.op (r := i64 v30) rfl (aop_move (.inr rfl) rfl) ?_
          refine AR.nil ?_
          refine hK10 _ (AWP.weak (Weak.kp (fr' := [(4, i64 v30)]) ⟨rfl, trivial⟩) ?_)
          clear hK10 K10
          refine awp_ret ?_
          replace h := Sh.exit_eq h hx1
          obtain rfl := Option.some.inj h
          refine ⟨.inr rfl, i64 v30, rfl, ?_⟩
          exact Weak.re [] [] rfl rfl rfl (trivial) ⟨⟨_, rfl, .same _ (by simp)⟩, trivial⟩
        · replace h := Sh.if_f h hb41
          refine awp_skip ?_
          refine hK7 _ (AWP.weak (Weak.kp (fr' := [(0, .sl (List.map G.api_Choice.av s_0)), (1, .clo (.func 37) [.pp [.clo (.func 35) [.pp [.sl (List.map G.api_Txn.av f_1.Txns)] 0]] 0]), (7, i64 (Sh.len s_0)), (8, i64 v30)]) ⟨rfl, rfl, rfl, rfl, trivial⟩) ?_)
          clear hK7 K7
          refine awp_reg rfl ?_
          refine AR.op (r := i64 (w64 (v30 + 1))) rfl (aop_add rfl rfl rfl rfl) ?_
          refine AR.op (r := i64 (w64 (v30 + 1))) rfl (aop_move (.inl rfl) rfl) ?_
          refine AR.nil ?_
          replace h := Sh.next_eq h
          exact ⟨_, h, Weak.re (fr' := [(0, .sl (List.map G.api_Choice.av s_0)), (1, .clo (.func 37) [.pp [.clo (.func 35) [.pp [.sl (List.map G.api_Txn.av f_1.Txns)] 0]] 0]), (7, i64 (Sh.len s_0)), (8, i64 (w64 (v30 + 1)))]) (H' := .empty) [] [] rfl rfl rfl (trivial) ⟨⟨.sl (List.map G.api_Choice.av s_0), rfl, .same _ (by simp)⟩, ⟨.clo (.func 37) [.pp [.clo (.func 35) [.pp [.sl (List.map G.api_Txn.av f_1.Txns)] 0]] 0], rfl, .same _ (by simp)⟩, ⟨_, rfl, .same _ (by simp)⟩, ⟨_, rfl, .same _ (by simp)⟩, trivial⟩⟩
      · replace h := Sh.if_f h hb31
        refine awp_exit ?_
        replace h := Sh.exit_eq h hx1
        exact hK3 () _ h (Weak.kp (fr' := []) trivial)
theorem slices_IndexFunc_api_Choice_api_Choice__1_ok {W0 : World} (hT : Tab W0) {s_0 : List G.api_Choice} {f_1 : G.api_Hist} {r : Int} (h : G.slices_IndexFunc_api_Choice_api_Choice__1 s_0 f_1 = some r) : Fun1 Try.prog W0 47 [.sl (List.map G.api_Choice.av s_0), .clo (.func 37) [.pp [.clo (.func 35) [.pp [.sl (List.map G.api_Txn.av f_1.Txns)] 0]] 0]] (i64 r) := Fun1.two (slices_IndexFunc_api_Choice_api_Choice__1_ok0 hT h) (by simp)


set_option maxHeartbeats 8000000 in
set_option maxRecDepth 20000 in
theorem slices_ContainsFunc_api_Choice_api_Choice__1_ok0 {W0 : World} (hT : Tab W0) {s_0 : List G.api_Choice} {f_1 : G.api_Hist} {r : Bool} (h : G.slices_ContainsFunc_api_Choice_api_Choice__1 s_0 f_1 = some r) : Fun2 Try.prog W0 36 [.sl (List.map G.api_Choice.av s_0), .clo (.func 37) [.pp [.clo (.func 35) [.pp [.sl (List.map G.api_Txn.av f_1.Txns)] 0]] 0]] (bl r) .empty := by
  refine fun2_of_awp Try.func36 rfl (by kernel_rfl) Try.ntmps36 (by simp) ?_
  unfold G.slices_ContainsFunc_api_Choice_api_Choice__1 at h
  show AWP _ _ _ _ ⟨[(0, .sl (List.map G.api_Choice.av s_0)), (1, .clo (.func 37) [.pp [.clo (.func 35) [.pp [.sl (List.map G.api_Txn.av f_1.Txns)] 0]] 0])], .empty⟩ _
  refine awp_seqK fun K1 hK1 => ?_
  refine awp_reg rfl ?_
  refine AR.op (r := bl false) rfl (aop_move (.inr rfl) rfl) ?_
  refine AR.nil ?_
  refine hK1 _ (AWP.weak (Weak.kp (fr' := [(0, .sl (List.map G.api_Choice.av s_0)), (1, .clo (.func 37) [.pp [.clo (.func 35) [.pp [.sl (List.map G.api_Txn.av f_1.Txns)] 0]] 0])]) ⟨rfl, rfl, trivial⟩) ?_)
  clear hK1 K1
  refine awp_seqK fun K2 hK2 => ?_
  refine awp_reg rfl ?_
  refine AR.op (r := .sl (List.map G.api_Choice.av s_0)) rfl (aop_move (.inl rfl) rfl) ?_
  refine AR.op (r := .clo (.func 37) [.pp [.clo (.func 35) [.pp [.sl (List.map G.api_Txn.av f_1.Txns)] 0]] 0]) rfl (aop_move (.inl rfl) rfl) ?_
  obtain ⟨r3, hr3, h⟩ := Sh.bind_some' h
  refine AR.op (r := i64 r3) rfl (aop_call1 rfl rfl (by simp) (slices_IndexFunc_api_Choice_api_Choice__1_ok hT hr3)) ?_
  refine AR.drop (frx := [(7, _)]) ⟨rfl, trivial⟩ ?_
  refine AR.op (r := bl (decide ((0 : Int) ≤ r3))) rfl (aop_geq rfl rfl rfl) ?_
  refine AR.op (r := bl (decide ((0 : Int) ≤ r3))) rfl (aop_move (.inr rfl) rfl) ?_
  refine AR.nil ?_
  refine hK2 _ (AWP.weak (Weak.kp (fr' := [(4, bl (decide ((0 : Int) ≤ r3)))]) ⟨rfl, trivial⟩) ?_)
  clear hK2 K2
  refine awp_ret ?_
  obtain rfl := Option.some.inj h
  refine ⟨.inr rfl, bl (decide ((0 : Int) ≤ r3)), rfl, ?_⟩
  exact Weak.re [] [] rfl rfl rfl (trivial) ⟨⟨_, rfl, .same _ (by simp)⟩, trivial⟩
theorem slices_ContainsFunc_api_Choice_api_Choice__1_ok {W0 : World} (hT : Tab W0) {s_0 : List G.api_Choice} {f_1 : G.api_Hist} {r : Bool} (h : G.slices_ContainsFunc_api_Choice_api_Choice__1 s_0 f_1 = some r) : Fun1 Try.prog W0 36 [.sl (List.map G.api_Choice.av s_0), .clo (.func 37) [.pp [.clo (.func 35) [.pp [.sl (List.map G.api_Txn.av f_1.Txns)] 0]] 0]] (bl r) := Fun1.two (slices_ContainsFunc_api_Choice_api_Choice__1_ok0 hT h) (by simp)


set_option maxHeartbeats 8000000 in
set_option maxRecDepth 20000 in
theorem choice_Right_ok0 {W0 : World} (hT : Tab W0) {h_0 : G.api_Hist} {l_1 : List G.api_Choice} {r : Bool} (h : G.choice_Right h_0 l_1 = some r) : Fun2 Try.prog W0 19 [G.api_Hist.av h_0, .sl (List.map G.api_Choice.av l_1)] (bl r) .empty := by
  refine fun2_of_awp Try.func19 rfl (by kernel_rfl) Try.ntmps19 (by simp) ?_
  unfold G.choice_Right at h
  show AWP _ _ _ _ ⟨[(0, G.api_Hist.av h_0), (1, .sl (List.map G.api_Choice.av l_1))], .empty⟩ _
  refine awp_seqK fun K1 hK1 => ?_
  refine awp_reg rfl ?_
  refine AR.op (r := .ref 0 0 0) rfl (aop_box 1 [G.api_Hist.av h_0] rfl rfl rfl (.inl ⟨rfl, rfl⟩)) ?_
  refine AR.op (r := bl false) rfl (aop_move (.inr rfl) rfl) ?_
  refine AR.nil ?_
  refine hK1 _ (AWP.weak (Weak.re (fr' := [(1, .sl (List.map G.api_Choice.av l_1)), (2, .pp [.sl (List.map G.api_Txn.av h_0.Txns)] 0)]) (H' := .empty) [] [] rfl rfl rfl (trivial) ⟨⟨.sl (List.map G.api_Choice.av l_1), rfl, .same _ (by simp)⟩, ⟨_, rfl, .frzA rfl rfl rfl rfl (by simp)⟩, trivial⟩) ?_)
  clear hK1 K1
  refine awp_seqK fun K2 hK2 => ?_
  refine awp_seqJ (fun (p : Bool) => (⟨[(1, .sl (List.map G.api_Choice.av l_1)), (2, .pp [.sl (List.map G.api_Txn.av h_0.Txns)] 0), (13, bl p)], .empty⟩ : St)) (fun (p : Bool) => G.choice_Right_j1 h_0 l_1 p = some r) ?_ ?_
  · rintro v10 h
    replace h : G.choice_Right_j1 h_0 l_1 v10 = some r := h
    unfold G.choice_Right_j1 at h
    show AWP _ _ _ _ ⟨[(1, .sl (List.map G.api_Choice.av l_1)), (2, .pp [.sl (List.map G.api_Txn.av h_0.Txns)] 0), (13, bl v10)], .empty⟩ _
    refine awp_cond rfl (fun hb11 => ?_) (fun hb11 => ?_)
    · replace h := Sh.if_t h hb11
      refine awp_seqK fun K3 hK3 => ?_
      refine awp_reg rfl ?_
      refine AR.op (r := bl false) rfl (aop_move (.inr rfl) rfl) ?_
      refine AR.nil ?_
      refine hK3 _ (AWP.weak (Weak.kp (fr' := [(4, bl false)]) ⟨rfl, trivial⟩) ?_)
      clear hK3 K3
      refine awp_ret ?_
      obtain rfl := Option.some.inj h
      refine ⟨.inr rfl, bl false, rfl, ?_⟩
      exact Weak.re [] [] rfl rfl rfl (trivial) ⟨⟨_, rfl, .same _ (by simp)⟩, trivial⟩
    · replace h := Sh.if_f h hb11
      refine awp_skip ?_
      refine hK2 _ (AWP.weak (Weak.kp (fr' := [(1, .sl (List.map G.api_Choice.av l_1)), (2, .pp [.sl (List.map G.api_Txn.av h_0.Txns)] 0)]) ⟨rfl, rfl, trivial⟩) ?_)
      clear hK2 K2
      refine awp_seqK fun K4 hK4 => ?_
      refine awp_reg rfl ?_
      refine AR.op (r := .clo (.func 35) [.pp [.sl (List.map G.api_Txn.av h_0.Txns)] 0]) rfl (aop_makeFunc rfl rfl) ?_
      refine AR.op (r := .ref 0 0 0) rfl (aop_alloc 1 [.imm .nilFunc] rfl zr61 rfl (.inl ⟨rfl, rfl⟩)) ?_
      refine AR.op rfl (aop_store (e' := .clo (.func 35) [.pp [.sl (List.map G.api_Txn.av h_0.Txns)] 0]) rfl rfl rfl rfl rfl rfl sz61 rfl (of_decide_eq_true rfl) rfl) ?_
      refine AR.nil ?_
      refine hK4 _ (AWP.weak (Weak.re (fr' := [(1, .sl (List.map G.api_Choice.av l_1)), (5, .pp [.clo (.func 35) [.pp [.sl (List.map G.api_Txn.av h_0.Txns)] 0]] 0)]) (H' := .empty) [] [] rfl rfl rfl (trivial) ⟨⟨.sl (List.map G.api_Choice.av l_1), rfl, .same _ (by simp)⟩, ⟨_, rfl, .frzA rfl rfl rfl rfl (by simp)⟩, trivial⟩) ?_)
      clear hK4 K4
      refine awp_seqK fun K5 hK5 => ?_
      refine awp_reg rfl ?_
      refine AR.op (r := .sl (List.map G.api_Choice.av l_1)) rfl (aop_move (.inl rfl) rfl) ?_
      refine AR.op (r := .clo (.func 37) [.pp [.clo (.func 35) [.pp [.sl (List.map G.api_Txn.av h_0.Txns)] 0]] 0]) rfl (aop_makeFunc rfl rfl) ?_
      obtain ⟨r13, hr13, h⟩ := Sh.bind_some' h
      refine AR.op (r := bl r13) rfl (aop_call1 rfl rfl (by simp) (slices_ContainsFunc_api_Choice_api_Choice__1_ok hT hr13)) ?_
      refine AR.drop (frx := [(17, _)]) ⟨rfl, trivial⟩ ?_
      refine AR.op (r := bl (!r13)) rfl (aop_not rfl rfl) ?_
      refine AR.op (r := bl (!r13)) rfl (aop_move (.inr rfl) rfl) ?_
      refine AR.nil ?_
      refine hK5 _ (AWP.weak (Weak.kp (fr' := [(4, bl (!r13))]) ⟨rfl, trivial⟩) ?_)
      clear hK5 K5
      refine awp_ret ?_
      obtain rfl := Option.some.inj h
      refine ⟨.inr rfl, bl (!r13), rfl, ?_⟩
      exact Weak.re [] [] rfl rfl rfl (trivial) ⟨⟨_, rfl, .same _ (by simp)⟩, trivial⟩
  · intro K6 hK6
    refine awp_reg rfl ?_
    refine AR.op (r := G.api_Hist.av h_0) rfl (aop_load_pp rfl rfl sz24 rfl) ?_
    obtain ⟨r14, hr14, h⟩ := Sh.bind_some' h
    refine AR.op (r := bl r14) rfl (aop_call1 rfl rfl (by simp) (hist_Right_ok hT hr14)) ?_
    refine AR.op (r := bl (!r14)) rfl (aop_not rfl rfl) ?_
    refine AR.drop (frx := [(1, _), (2, _), (8, _)]) ⟨rfl, rfl, rfl, trivial⟩ ?_
    refine AR.op (r := bl (!r14)) rfl (aop_move (.inl rfl) rfl) ?_
    rcases Bool.eq_false_or_eq_true (!r14) with hb15 | hb15
    · rw [hb15]
      replace h := Sh.if_t h hb15
      refine AR.skip rfl ?_
      refine AR.skip rfl ?_
      refine AR.drop (frx := [(1, _), (2, _), (9, _), (11, _)]) ⟨rfl, rfl, rfl, rfl, trivial⟩ ?_
      refine AR.skip rfl ?_
      refine AR.op (r := bl true) rfl (aop_pick rfl rfl rfl) ?_
      refine AR.nil ?_
      exact hK6 true _ h (Weak.kp (fr' := [(1, .sl (List.map G.api_Choice.av l_1)), (2, .pp [.sl (List.map G.api_Txn.av h_0.Txns)] 0), (13, bl true)]) ⟨rfl, rfl, rfl, trivial⟩)
    · rw [hb15]
      replace h := Sh.if_f h hb15
      refine AR.op (r := .sl (List.map G.api_Choice.av l_1)) rfl (aop_move (.inl rfl) rfl) ?_
      refine AR.op (r := i64 (Sh.len l_1)) rfl (t_len_sl G.api_Choice.av l_1 rfl rfl el25) ?_
      refine AR.drop (frx := [(1, _), (2, _), (9, _), (11, _)]) ⟨rfl, rfl, rfl, rfl, trivial⟩ ?_
      refine AR.op (r := bl (decide ((20000 : Int) < (Sh.len l_1)))) rfl (aop_gtr rfl rfl rfl) ?_
      refine AR.op (r := bl (decide ((20000 : Int) < (Sh.len l_1)))) rfl (aop_pick rfl rfl rfl) ?_
      refine AR.nil ?_
      exact hK6 (decide ((20000 : Int) < (Sh.len l_1))) _ h (Weak.re (fr' := [(1, .sl (List.map G.api_Choice.av l_1)), (2, .pp [.sl (List.map G.api_Txn.av h_0.Txns)] 0), (13, bl (decide ((20000 : Int) < (Sh.len l_1))))]) (H' := .empty) [] [] rfl rfl rfl (trivial) ⟨⟨.sl (List.map G.api_Choice.av l_1), rfl, .same _ (by simp)⟩, ⟨_, rfl, .same _ (by simp)⟩, ⟨_, rfl, .same _ (by simp)⟩, trivial⟩)
theorem choice_Right_ok {W0 : World} (hT : Tab W0) {h_0 : G.api_Hist} {l_1 : List G.api_Choice} {r : Bool} (h : G.choice_Right h_0 l_1 = some r) : Fun1 Try.prog W0 19 [G.api_Hist.av h_0, .sl (List.map G.api_Choice.av l_1)] (bl r) := Fun1.two (choice_Right_ok0 hT h) (by simp)

end Wk
