/- That the functions of a package do what their plain functions say. -/
import Derived.Test.YtdeepljikmgjjaaSh
import Derived.Test.YtdeepljikmgjjaaWkSFacts
import Derived.Test.YtdeepljikmgjjaaWkSedge
import Derived.Test.YtdeepljikmgjjaaWkShist
import Derived.Test.YtdeepljikmgjjaaWkSstdslices
open Go Go.Av Go.Proofs
set_option linter.unusedVariables false
set_option maxHeartbeats 8000000
set_option maxRecDepth 20000
namespace Wk
theorem fact_may_ok0 {W0 : World} (hT : Tab W0) {h_0 : G.api_Hist} {level_1 : Int} {r : Bool} (h : G.fact_may h_0 level_1 = some r) : Fun2 Try.prog W0 37 [G.api_Hist.av h_0, i64 level_1] (bl r) .empty := by
 refine fun2_of_awp Try.func37 rfl (by kernel_rfl) Try.ntmps37 (by simp) ?_
 unfold G.fact_may at h
 show AWP _ _ _ _ ⟨[(0, G.api_Hist.av h_0), (1, i64 level_1)], .empty⟩ _
 refine awp_seqK fun K1 hK1 => awp_reg rfl <| AR.op (r := .ref 0 0 0) rfl (aop_box 1 [G.api_Hist.av h_0] rfl rfl rfl (.inl ⟨rfl, rfl⟩)) <| AR.op rfl (aop_move (.inr rfl) rfl) <| AR.nil <| hK1 _ (AWP.weak (Weak.e (fr' := [(1, i64 level_1), (2, .pp [.sl (List.map G.api_Txn.av h_0.Txns)] 0)]) (H' := .empty) ⟨.k, ⟨_, rfl, .frzA rfl rfl rfl rfl (by simp)⟩, trivial⟩) ?_)
 refine awp_seqK fun K2 hK2 => awp_reg rfl <| AR.op (r := G.api_Hist.av h_0) rfl (aop_load_pp rfl rfl sz24 rfl) ?_
 obtain ⟨r8, hr8, h⟩ := Sh.bind_some' h
 refine AR.op (r := bl r8) rfl (aop_call1 rfl rfl (by simp) (hist_Right_ok hT hr8)) <| AR.op rfl (aop_move (.inl rfl) rfl) <| AR.keep [1, 7] rfl ?_
 rcases Bool.eq_false_or_eq_true (r8) with hb9 | hb9
 ·rw [hb9]
  replace h := Sh.if_t h hb9
  refine AR.op rfl (aop_move (.inl rfl) rfl) <| AR.op (r := bl (decide (level_1 = 0))) rfl (aop_eql rfl rfl rfl) <| AR.op rfl (aop_move (.inl rfl) rfl) <| AR.keep [1, 7, 10] rfl ?_
  rcases Bool.eq_false_or_eq_true (decide (level_1 = 0)) with hb10 | hb10
  ·rw [hb10]
   replace h := Sh.if_t h hb10
   refine AR.skip rfl <| AR.skip rfl <| AR.op rfl (aop_pick rfl rfl rfl) <| AR.keep [7, 13] rfl <| AR.op rfl (aop_pick rfl rfl rfl) <| AR.op rfl (aop_move (.inr rfl) rfl) <| AR.nil <| hK2 _ (AWP.weak (Weak.kt [4] rfl) ?_)
   refine awp_ret ?_
   obtain rfl := Option.some.inj h
   refine ⟨.inr rfl, bl true, rfl, ?_⟩
   exact Weak.e ⟨.k, trivial⟩
  ·rw [hb10]
   replace h := Sh.if_f h hb10
   refine AR.op rfl (aop_move (.inl rfl) rfl) <| AR.op (r := bl (decide (level_1 = 1))) rfl (aop_eql rfl rfl rfl) <| AR.op rfl (aop_pick rfl rfl rfl) <| AR.keep [7, 13] rfl <| AR.op rfl (aop_pick rfl rfl rfl) <| AR.op rfl (aop_move (.inr rfl) rfl) <| AR.nil <| hK2 _ (AWP.weak (Weak.kt [4] rfl) ?_)
   refine awp_ret ?_
   obtain rfl := Option.some.inj h
   refine ⟨.inr rfl, bl (decide (level_1 = 1)), rfl, ?_⟩
   exact Weak.e ⟨.k, trivial⟩
 ·rw [hb9]
  replace h := Sh.if_f h hb9
  refine AR.skip rfl <| AR.skip rfl <| AR.skip rfl <| AR.keep [1, 7, 10] rfl <| AR.skip rfl <| AR.skip rfl <| AR.skip rfl <| AR.keep [7, 13] rfl ?_
  refine AR.op rfl (aop_pick rfl rfl rfl) <| AR.op rfl (aop_move (.inr rfl) rfl) <| AR.nil <| hK2 _ (AWP.weak (Weak.kt [4] rfl) ?_)
  refine awp_ret ?_
  obtain rfl := Option.some.inj h
  refine ⟨.inr rfl, bl false, rfl, ?_⟩
  exact Weak.e ⟨.k, trivial⟩
theorem fact_may_ok {W0 : World} (hT : Tab W0) {h_0 : G.api_Hist} {level_1 : Int} {r : Bool} (h : G.fact_may h_0 level_1 = some r) : Fun1 Try.prog W0 37 [G.api_Hist.av h_0, i64 level_1] (bl r) := Fun1.two (fact_may_ok0 hT h) (by simp)


theorem fact_choice_1__1_ok0 {W0 : World} (hT : Tab W0) {t_0 : Int} {a_1 : G.api_Hist} {a_2 : G.api_Choice} {r : Bool} (h : G.fact_choice_1__1 t_0 a_1 a_2 = some r) : Fun2 Try.prog W0 50 [i64 t_0, .pp [.sl (List.map G.api_Txn.av a_1.Txns)] 0, .pp [i64 a_2.Key, i64 a_2.A, i64 a_2.B] 0] (bl r) .empty := by
 refine fun2_of_awp Try.func50 rfl (by kernel_rfl) Try.ntmps50 (by simp) ?_
 unfold G.fact_choice_1__1 at h
 show AWP _ _ _ _ ⟨[(0, i64 t_0), (1, .pp [.sl (List.map G.api_Txn.av a_1.Txns)] 0), (2, .pp [i64 a_2.Key, i64 a_2.A, i64 a_2.B] 0)], .empty⟩ _
 refine awp_seqK fun K1 hK1 => awp_reg rfl <| AR.op rfl (aop_move (.inr rfl) rfl) <| AR.nil <| hK1 _ (AWP.weak (Weak.kt [0, 1, 2] rfl) ?_)
 refine awp_seqK fun K2 hK2 => awp_any [(true, false), (true, false), (true, false), (true, false), (true, false), (true, false), (true, false), (true, false), (true, false), (true, false), (true, false), (true, false), (true, false), (true, false), (true, false), (true, false), (true, false), (true, false), (true, false), (true, false), (true, false)] (by kernel_rfl) (by kernel_rfl) rfl ?_
 refine ARH.dry rfl (fun _ => aop_move (.inl rfl) rfl) <| ARH.dry rfl (fun _ => aop_geq rfl rfl rfl) <| ARH.dry rfl (fun _ => aop_move (.inl rfl) rfl) <| ARH.keep [0, 1, 2, 7] rfl ?_
 rcases Bool.eq_false_or_eq_true (decide ((0 : Int) ≤ t_0)) with hb12 | hb12
 ·rw [hb12]
  replace h := Sh.if_t h hb12
  refine ARH.dry rfl (fun _ => aop_move (.inl rfl) rfl) <| ARH.dry rfl (fun _ => aop_field_pp rfl rfl fd24_0 (by decide)) <| ARH.dry (r := .sl (List.map G.api_Txn.av a_1.Txns)) rfl (fun _ => aop_load_pp rfl rfl sz22 rfl) <| ARH.keep [0, 1, 2, 7, 8, 10] rfl <| ARH.dry rfl (fun _ => t_len_sl G.api_Txn.av a_1.Txns rfl rfl el22) <| ARH.dry rfl (fun _ => aop_lss rfl rfl rfl) <| ARH.dry rfl (fun _ => aop_pick rfl rfl rfl) <| ARH.keep [0, 1, 2, 13] rfl ?_
  refine ARH.dry rfl (fun _ => aop_move (.inl rfl) rfl) ?_
  rcases Bool.eq_false_or_eq_true (decide (t_0 < (Sh.len a_1.Txns))) with hb13 | hb13
  ·rw [hb13]
   replace h := Sh.if_t h hb13
   refine ARH.dry rfl (fun _ => aop_field_pp rfl rfl fd24_0 (by decide)) <| ARH.dry (r := .sl (List.map G.api_Txn.av a_1.Txns)) rfl (fun _ => aop_load_pp rfl rfl sz22 rfl) <| ARH.keep [0, 2, 14, 16] rfl <| ARH.dry rfl (fun _ => aop_move (.inl rfl) rfl) ?_
   obtain ⟨x14, hx14, h⟩ := Sh.bind_some' h
   obtain ⟨k15, hi15, hl15⟩ := Sh.idx_some hx14
   refine ARH.dry rfl (fun _ => t_index_sl G.api_Txn.av a_1.Txns hi15 hl15 rfl rfl rfl el22 rfl) <| ARH.dry rfl (fun _ => aop_field_pp rfl rfl fd58_1 (by decide)) <| ARH.keep [2, 14, 19] rfl <| ARH.dry (r := .sl (List.map i64 x14.Writes)) rfl (fun _ => aop_load_pp rfl rfl sz36 rfl) <| ARH.dry rfl (fun _ => aop_field_pp rfl rfl fd35_0 (by decide)) <| ARH.dry (r := i64 a_2.Key) rfl (fun _ => aop_load_pp rfl rfl sz3 rfl) <| ARH.keep [14, 20, 22] rfl ?_
   obtain ⟨r16, hr16, h⟩ := Sh.bind_some' h
   refine ARH.dry (r := bl r16) rfl (fun _ => aop_call1 rfl rfl (by simp) (slices_Contains_int_int_ok hT hr16)) <| ARH.dry rfl (fun _ => aop_pick rfl rfl rfl) <| ARH.dry rfl (fun _ => aop_move (.inr rfl) rfl) <| ARH.nil <| hK2 _ (AWP.weak (Weak.kt [4] rfl) ?_)
   refine awp_ret ?_
   obtain rfl := Option.some.inj h
   refine ⟨.inr rfl, bl r16, rfl, ?_⟩
   exact Weak.e ⟨.k, trivial⟩
  ·rw [hb13]
   replace h := Sh.if_f h hb13
   refine ARH.skip rfl <| ARH.skip rfl <| ARH.keep [0, 2, 14, 16] rfl <| ARH.skip rfl <| ARH.skip rfl <| ARH.skip rfl <| ARH.keep [2, 14, 19] rfl <| ARH.skip rfl ?_
   refine ARH.skip rfl <| ARH.skip rfl <| ARH.keep [14, 20, 22] rfl <| ARH.skip rfl <| ARH.dry rfl (fun _ => aop_pick rfl rfl rfl) <| ARH.dry rfl (fun _ => aop_move (.inr rfl) rfl) <| ARH.nil <| hK2 _ (AWP.weak (Weak.kt [4] rfl) ?_)
   refine awp_ret ?_
   obtain rfl := Option.some.inj h
   refine ⟨.inr rfl, bl false, rfl, ?_⟩
   exact Weak.e ⟨.k, trivial⟩
 ·rw [hb12]
  replace h := Sh.if_f h hb12
  refine ARH.skip rfl <| ARH.skip rfl <| ARH.skip rfl <| ARH.keep [0, 1, 2, 7, 8, 10] rfl <| ARH.skip rfl <| ARH.skip rfl <| ARH.dry rfl (fun _ => aop_pick rfl rfl rfl) <| ARH.keep [0, 1, 2, 13] rfl ?_
  refine ARH.dry rfl (fun _ => aop_move (.inl rfl) rfl) <| ARH.skip rfl <| ARH.skip rfl <| ARH.keep [0, 2, 14, 16] rfl <| ARH.skip rfl <| ARH.skip rfl <| ARH.skip rfl <| ARH.keep [2, 14, 19] rfl ?_
  refine ARH.skip rfl <| ARH.skip rfl <| ARH.skip rfl <| ARH.keep [14, 20, 22] rfl <| ARH.skip rfl <| ARH.dry rfl (fun _ => aop_pick rfl rfl rfl) <| ARH.dry rfl (fun _ => aop_move (.inr rfl) rfl) <| ARH.nil ?_
  refine hK2 _ (AWP.weak (Weak.kt [4] rfl) ?_)
  refine awp_ret ?_
  obtain rfl := Option.some.inj h
  refine ⟨.inr rfl, bl false, rfl, ?_⟩
  exact Weak.e ⟨.k, trivial⟩
theorem fact_choice_1__1_ok {W0 : World} (hT : Tab W0) {t_0 : Int} {a_1 : G.api_Hist} {a_2 : G.api_Choice} {r : Bool} (h : G.fact_choice_1__1 t_0 a_1 a_2 = some r) : Fun1 Try.prog W0 50 [i64 t_0, .pp [.sl (List.map G.api_Txn.av a_1.Txns)] 0, .pp [i64 a_2.Key, i64 a_2.A, i64 a_2.B] 0] (bl r) := Fun1.two (fact_choice_1__1_ok0 hT h) (by simp)


theorem fact_choice_ok0 {W0 : World} (hT : Tab W0) {h_0 : G.api_Hist} {c_1 : G.api_Choice} {r : Bool} (h : G.fact_choice h_0 c_1 = some r) : Fun2 Try.prog W0 40 [G.api_Hist.av h_0, G.api_Choice.av c_1] (bl r) .empty := by
 refine fun2_of_awp Try.func40 rfl (by kernel_rfl) Try.ntmps40 (by simp) ?_
 unfold G.fact_choice at h
 show AWP _ _ _ _ ⟨[(0, G.api_Hist.av h_0), (1, G.api_Choice.av c_1)], .empty⟩ _
 refine awp_seqK fun K1 hK1 => awp_reg rfl <| AR.op (r := .ref 0 0 0) rfl (aop_box 1 [G.api_Hist.av h_0] rfl rfl rfl (.inl ⟨rfl, rfl⟩)) <| AR.op (r := .ref 1 0 0) rfl (aop_box 3 [G.api_Choice.av c_1] rfl rfl rfl (.inl ⟨rfl, rfl⟩)) <| AR.op rfl (aop_move (.inr rfl) rfl) <| AR.nil <| hK1 _ (AWP.weak (Weak.e (fr' := [(2, .pp [.sl (List.map G.api_Txn.av h_0.Txns)] 0), (3, .pp [i64 c_1.Key, i64 c_1.A, i64 c_1.B] 0)]) (H' := .empty) ⟨⟨_, rfl, .frzA rfl rfl rfl rfl (by simp)⟩, ⟨_, rfl, .frzA rfl rfl rfl rfl (by simp)⟩, trivial⟩) ?_)
 refine awp_seqK fun K2 hK2 => awp_reg rfl <| AR.op (r := .clo (.func 50) [.pp [.sl (List.map G.api_Txn.av h_0.Txns)] 0, .pp [i64 c_1.Key, i64 c_1.A, i64 c_1.B] 0]) rfl (aop_makeFunc rfl rfl) <| AR.op rfl (aop_move (.inr rfl) rfl) <| AR.nil <| hK2 _ (AWP.weak (Weak.kt [3, 5] rfl) ?_)
 refine awp_seqK fun K3 hK3 => awp_reg rfl <| AR.op rfl (aop_field_pp rfl rfl fd35_1 (by decide)) <| AR.op (r := i64 c_1.A) rfl (aop_load_pp rfl rfl sz3 rfl) <| AR.op rfl (aop_field_pp rfl rfl fd35_2 (by decide)) <| AR.keep [3, 5, 8, 9] rfl <| AR.op (r := i64 c_1.B) rfl (aop_load_pp rfl rfl sz3 rfl) <| AR.op (r := bl (decide (c_1.A ≠ c_1.B))) rfl (aop_neq rfl rfl rfl) ?_
 refine AR.op rfl (aop_move (.inl rfl) rfl) <| AR.keep [3, 5, 12] rfl ?_
 rcases Bool.eq_false_or_eq_true (decide (c_1.A ≠ c_1.B)) with hb10 | hb10
 ·rw [hb10]
  replace h := Sh.if_t h hb10
  refine AR.op rfl (aop_move (.inl rfl) rfl) <| AR.op rfl (aop_field_pp rfl rfl fd35_1 (by decide)) <| AR.op (r := i64 c_1.A) rfl (aop_load_pp rfl rfl sz3 rfl) <| AR.keep [3, 5, 12, 13, 15] rfl ?_
  obtain ⟨r11, hr11, h⟩ := Sh.bind_some' h
  refine AR.op (r := bl r11) rfl (aop_callNE (ys := [i64 c_1.A, .pp [.sl (List.map G.api_Txn.av h_0.Txns)] 0, .pp [i64 c_1.Key, i64 c_1.A, i64 c_1.B] 0]) (xs := [i64 c_1.A, .pp [.sl (List.map G.api_Txn.av h_0.Txns)] 0, .pp [i64 c_1.Key, i64 c_1.A, i64 c_1.B] 0]) (.clo (ys := [i64 c_1.A]) (caps := [.pp [.sl (List.map G.api_Txn.av h_0.Txns)] 0, .pp [i64 c_1.Key, i64 c_1.A, i64 c_1.B] 0]) rfl rfl rfl (fact_choice_1__1_ok hT hr11).call) (Weak.refl _) rfl (by simp) (fact_choice_1__1_ok hT hr11)) <| AR.op rfl (aop_pick rfl rfl rfl) <| AR.op rfl (aop_move (.inl rfl) rfl) <| AR.keep [3, 5, 18] rfl ?_
  rcases Bool.eq_false_or_eq_true (r11) with hb12 | hb12
  ·rw [hb12]
   replace h := Sh.if_t h hb12
   refine AR.op rfl (aop_move (.inl rfl) rfl) <| AR.op rfl (aop_field_pp rfl rfl fd35_2 (by decide)) <| AR.op (r := i64 c_1.B) rfl (aop_load_pp rfl rfl sz3 rfl) <| AR.keep [18, 19, 21] rfl ?_
   obtain ⟨r13, hr13, h⟩ := Sh.bind_some' h
   refine AR.op (r := bl r13) rfl (aop_callNE (ys := [i64 c_1.B, .pp [.sl (List.map G.api_Txn.av h_0.Txns)] 0, .pp [i64 c_1.Key, i64 c_1.A, i64 c_1.B] 0]) (xs := [i64 c_1.B, .pp [.sl (List.map G.api_Txn.av h_0.Txns)] 0, .pp [i64 c_1.Key, i64 c_1.A, i64 c_1.B] 0]) (.clo (ys := [i64 c_1.B]) (caps := [.pp [.sl (List.map G.api_Txn.av h_0.Txns)] 0, .pp [i64 c_1.Key, i64 c_1.A, i64 c_1.B] 0]) rfl rfl rfl (fact_choice_1__1_ok hT hr13).call) (Weak.refl _) rfl (by simp) (fact_choice_1__1_ok hT hr13)) <| AR.op rfl (aop_pick rfl rfl rfl) <| AR.op rfl (aop_move (.inr rfl) rfl) <| AR.nil <| hK3 _ (AWP.weak (Weak.kt [4] rfl) ?_)
   refine awp_ret ?_
   obtain rfl := Option.some.inj h
   refine ⟨.inr rfl, bl r13, rfl, ?_⟩
   exact Weak.e ⟨.k, trivial⟩
  ·rw [hb12]
   replace h := Sh.if_f h hb12
   refine AR.skip rfl <| AR.skip rfl <| AR.skip rfl <| AR.keep [18, 19, 21] rfl <| AR.skip rfl <| AR.op rfl (aop_pick rfl rfl rfl) <| AR.op rfl (aop_move (.inr rfl) rfl) <| AR.nil ?_
   refine hK3 _ (AWP.weak (Weak.kt [4] rfl) ?_)
   refine awp_ret ?_
   obtain rfl := Option.some.inj h
   refine ⟨.inr rfl, bl false, rfl, ?_⟩
   exact Weak.e ⟨.k, trivial⟩
 ·rw [hb10]
  replace h := Sh.if_f h hb10
  refine AR.skip rfl <| AR.skip rfl <| AR.skip rfl <| AR.keep [3, 5, 12, 13, 15] rfl <| AR.skip rfl <| AR.op rfl (aop_pick rfl rfl rfl) <| AR.op rfl (aop_move (.inl rfl) rfl) <| AR.keep [3, 5, 18] rfl ?_
  refine AR.skip rfl <| AR.skip rfl <| AR.skip rfl <| AR.keep [18, 19, 21] rfl <| AR.skip rfl <| AR.op rfl (aop_pick rfl rfl rfl) <| AR.op rfl (aop_move (.inr rfl) rfl) <| AR.nil ?_
  refine hK3 _ (AWP.weak (Weak.kt [4] rfl) ?_)
  refine awp_ret ?_
  obtain rfl := Option.some.inj h
  refine ⟨.inr rfl, bl false, rfl, ?_⟩
  exact Weak.e ⟨.k, trivial⟩
theorem fact_choice_ok {W0 : World} (hT : Tab W0) {h_0 : G.api_Hist} {c_1 : G.api_Choice} {r : Bool} (h : G.fact_choice h_0 c_1 = some r) : Fun1 Try.prog W0 40 [G.api_Hist.av h_0, G.api_Choice.av c_1] (bl r) := Fun1.two (fact_choice_ok0 hT h) (by simp)


theorem fact_asked_axiom_ok0 {W0 : World} (hT : Tab W0) {a_0 : G.fact_asked} {r : Bool} (h : G.fact_asked_axiom a_0 = some r) : Fun2 Try.prog W0 51 [G.fact_asked.av a_0] (bl r) .empty := by
 refine fun2_of_awp Try.func51 rfl (by kernel_rfl) Try.ntmps51 (by simp) ?_
 unfold G.fact_asked_axiom at h
 show AWP _ _ _ _ ⟨[(0, G.fact_asked.av a_0)], .empty⟩ _
 refine awp_seqK fun K1 hK1 => awp_reg rfl <| AR.op (r := .ref 0 0 0) rfl (aop_box 10 [G.fact_asked.av a_0] rfl rfl rfl (.inl ⟨rfl, rfl⟩)) <| AR.op rfl (aop_move (.inr rfl) rfl) <| AR.nil <| hK1 _ (AWP.weak (Weak.e (fr' := [(1, .pp [.sl (List.map G.api_Txn.av a_0.h.Txns), i64 a_0.level, .sl (List.map G.fact_Fact.av a_0.l), i64 a_0.f.C.Key, i64 a_0.f.C.A, i64 a_0.f.C.B, i64 a_0.f.Kind, i64 a_0.f.I, i64 a_0.f.J, .sl (List.map i64 a_0.f.Cycle)] 0)]) (H' := .empty) ⟨⟨_, rfl, .frzA rfl rfl rfl rfl (by simp)⟩, trivial⟩) ?_)
 refine awp_seqK fun K2 hK2 => awp_reg rfl <| AR.op rfl (aop_field_pp rfl rfl fd86_3 (by decide)) <| AR.op rfl (aop_field_pp rfl rfl fd38_2 (by decide)) <| AR.op (r := i64 a_0.f.I) rfl (aop_load_pp rfl rfl sz3 rfl) <| AR.keep [1, 5] rfl <| AR.op (r := bl (decide (a_0.f.I = 0))) rfl (aop_eql rfl rfl rfl) <| AR.op rfl (aop_move (.inl rfl) rfl) ?_
 rcases Bool.eq_false_or_eq_true (decide (a_0.f.I = 0)) with hb8 | hb8
 ·rw [hb8]
  replace h := Sh.if_t h hb8
  refine AR.op rfl (aop_field_pp rfl rfl fd86_3 (by decide)) <| AR.keep [1, 7, 8] rfl <| AR.op rfl (aop_field_pp rfl rfl fd38_3 (by decide)) <| AR.op (r := i64 a_0.f.J) rfl (aop_load_pp rfl rfl sz3 rfl) <| AR.op (r := bl (decide (a_0.f.J = 0))) rfl (aop_eql rfl rfl rfl) <| AR.keep [1, 7, 11] rfl <| AR.op rfl (aop_pick rfl rfl rfl) <| AR.op rfl (aop_move (.inl rfl) rfl) ?_
  rcases Bool.eq_false_or_eq_true (decide (a_0.f.J = 0)) with hb9 | hb9
  ·rw [hb9]
   replace h := Sh.if_t h hb9
   refine AR.op rfl (aop_field_pp rfl rfl fd86_0 (by decide)) <| AR.keep [1, 13, 14] rfl <| AR.op (r := G.api_Hist.av a_0.h) rfl (aop_load_pp rfl rfl sz24 rfl) <| AR.op rfl (aop_field_pp rfl rfl fd86_3 (by decide)) <| AR.op rfl (aop_field_pp rfl rfl fd38_0 (by decide)) <| AR.keep [1, 13, 15, 17] rfl <| AR.op rfl (aop_field_pp rfl rfl fd35_1 (by decide)) <| AR.op (r := i64 a_0.f.C.A) rfl (aop_load_pp rfl rfl sz3 rfl) ?_
   refine AR.op rfl (aop_field_pp rfl rfl fd86_3 (by decide)) <| AR.keep [13, 15, 19, 20] rfl <| AR.op rfl (aop_field_pp rfl rfl fd38_0 (by decide)) <| AR.op rfl (aop_field_pp rfl rfl fd35_2 (by decide)) <| AR.op (r := i64 a_0.f.C.B) rfl (aop_load_pp rfl rfl sz3 rfl) <| AR.keep [13, 15, 19, 23] rfl ?_
   obtain ⟨r10, hr10, h⟩ := Sh.bind_some' h
   refine AR.op (r := bl r10) rfl (aop_callN rfl (ys := [G.api_Hist.av a_0.h, nilS, i64 a_0.f.C.A, i64 a_0.f.C.B]) (xs := [G.api_Hist.av a_0.h, .sl (List.map G.api_Choice.av []), i64 a_0.f.C.A, i64 a_0.f.C.B]) rfl (Weak.e (fr' := argsFr 0 [G.api_Hist.av a_0.h, .sl (List.map G.api_Choice.av []), i64 a_0.f.C.A, i64 a_0.f.C.B]) (H' := .empty) ⟨⟨G.api_Hist.av a_0.h, rfl, .sm⟩, ⟨_, rfl, .nilsl⟩, .k, .k, trivial⟩) rfl (by simp) (edge_Direct_ok hT hr10)) <| AR.op rfl (aop_pick rfl rfl rfl) <| AR.op rfl (aop_move (.inr rfl) rfl) <| AR.nil <| hK2 _ (AWP.weak (Weak.kt [2] rfl) ?_)
   refine awp_ret ?_
   obtain rfl := Option.some.inj h
   refine ⟨.inr rfl, bl r10, rfl, ?_⟩
   exact Weak.e ⟨.k, trivial⟩
  ·rw [hb9]
   replace h := Sh.if_f h hb9
   refine AR.skip rfl <| AR.keep [1, 13, 14] rfl <| AR.skip rfl <| AR.skip rfl <| AR.skip rfl <| AR.keep [1, 13, 15, 17] rfl <| AR.skip rfl <| AR.skip rfl ?_
   refine AR.skip rfl <| AR.keep [13, 15, 19, 20] rfl <| AR.skip rfl <| AR.skip rfl <| AR.skip rfl <| AR.keep [13, 15, 19, 23] rfl <| AR.skip rfl <| AR.op rfl (aop_pick rfl rfl rfl) ?_
   refine AR.op rfl (aop_move (.inr rfl) rfl) <| AR.nil <| hK2 _ (AWP.weak (Weak.kt [2] rfl) ?_)
   refine awp_ret ?_
   obtain rfl := Option.some.inj h
   refine ⟨.inr rfl, bl false, rfl, ?_⟩
   exact Weak.e ⟨.k, trivial⟩
 ·rw [hb8]
  replace h := Sh.if_f h hb8
  refine AR.skip rfl <| AR.keep [1, 7, 8] rfl <| AR.skip rfl <| AR.skip rfl <| AR.skip rfl <| AR.keep [1, 7, 11] rfl <| AR.op rfl (aop_pick rfl rfl rfl) <| AR.op rfl (aop_move (.inl rfl) rfl) ?_
  refine AR.skip rfl <| AR.keep [1, 13, 14] rfl <| AR.skip rfl <| AR.skip rfl <| AR.skip rfl <| AR.keep [1, 13, 15, 17] rfl <| AR.skip rfl <| AR.skip rfl ?_
  refine AR.skip rfl <| AR.keep [13, 15, 19, 20] rfl <| AR.skip rfl <| AR.skip rfl <| AR.skip rfl <| AR.keep [13, 15, 19, 23] rfl <| AR.skip rfl <| AR.op rfl (aop_pick rfl rfl rfl) ?_
  refine AR.op rfl (aop_move (.inr rfl) rfl) <| AR.nil <| hK2 _ (AWP.weak (Weak.kt [2] rfl) ?_)
  refine awp_ret ?_
  obtain rfl := Option.some.inj h
  refine ⟨.inr rfl, bl false, rfl, ?_⟩
  exact Weak.e ⟨.k, trivial⟩
theorem fact_asked_axiom_ok {W0 : World} (hT : Tab W0) {a_0 : G.fact_asked} {r : Bool} (h : G.fact_asked_axiom a_0 = some r) : Fun1 Try.prog W0 51 [G.fact_asked.av a_0] (bl r) := Fun1.two (fact_asked_axiom_ok0 hT h) (by simp)


theorem fact_asked_joined_ok0 {W0 : World} (hT : Tab W0) {a_0 : G.fact_asked} {r : Bool} (h : G.fact_asked_joined a_0 = some r) : Fun2 Try.prog W0 52 [G.fact_asked.av a_0] (bl r) .empty := by
 refine fun2_of_awp Try.func52 rfl (by kernel_rfl) Try.ntmps52 (by simp) ?_
 unfold G.fact_asked_joined at h
 show AWP _ _ _ _ ⟨[(0, G.fact_asked.av a_0)], .empty⟩ _
 refine awp_seqK fun K1 hK1 => awp_reg rfl <| AR.op (r := .ref 0 0 0) rfl (aop_box 10 [G.fact_asked.av a_0] rfl rfl rfl (.inl ⟨rfl, rfl⟩)) <| AR.op rfl (aop_move (.inr rfl) rfl) <| AR.nil <| hK1 _ (AWP.weak (Weak.e (fr' := [(1, .pp [.sl (List.map G.api_Txn.av a_0.h.Txns), i64 a_0.level, .sl (List.map G.fact_Fact.av a_0.l), i64 a_0.f.C.Key, i64 a_0.f.C.A, i64 a_0.f.C.B, i64 a_0.f.Kind, i64 a_0.f.I, i64 a_0.f.J, .sl (List.map i64 a_0.f.Cycle)] 0)]) (H' := .empty) ⟨⟨_, rfl, .frzA rfl rfl rfl rfl (by simp)⟩, trivial⟩) ?_)
 refine awp_seqK fun K2 hK2 => awp_seqJ (fun (p : Bool) => (⟨[(1, .pp [.sl (List.map G.api_Txn.av a_0.h.Txns), i64 a_0.level, .sl (List.map G.fact_Fact.av a_0.l), i64 a_0.f.C.Key, i64 a_0.f.C.A, i64 a_0.f.C.B, i64 a_0.f.Kind, i64 a_0.f.I, i64 a_0.f.J, .sl (List.map i64 a_0.f.Cycle)] 0), (25, bl p)], .empty⟩ : St)) (fun (p : Bool) => G.fact_asked_joined_j1 a_0 p = some r) ?_ ?_
 ·rintro v13 h
  replace h : G.fact_asked_joined_j1 a_0 v13 = some r := h
  unfold G.fact_asked_joined_j1 at h
  refine awp_cond rfl (fun hb14 => ?_) (fun hb14 => ?_)
  ·replace h := Sh.if_t h hb14
   refine awp_seqK fun K3 hK3 => awp_reg rfl <| AR.op rfl (aop_move (.inr rfl) rfl) <| AR.nil <| hK3 _ (AWP.weak (Weak.kt [2] rfl) ?_)
   refine awp_ret ?_
   obtain rfl := Option.some.inj h
   refine ⟨.inr rfl, bl false, rfl, ?_⟩
   exact Weak.e ⟨.k, trivial⟩
  ·replace h := Sh.if_f h hb14
   refine awp_skip <| hK2 _ (AWP.weak (Weak.kt [1] rfl) ?_)
   refine awp_seqKW fun K4 hW4 hK4 => ?_
   refine awp_anyF [(true, false), (true, false), (true, false), (true, false), (true, false), (true, false), (true, false), (true, false), (true, false), (true, false), (true, false), (true, false), (true, false), (true, false), (true, false), (true, false), (false, true), (false, true), (false, true), (false, true)] (some 16) (by kernel_rfl) (by kernel_rfl) rfl ?_
   refine ARH.dry rfl (fun _ => aop_field_pp rfl rfl fd86_2 (by decide)) <| ARH.dry (r := .sl (List.map G.fact_Fact.av a_0.l)) rfl (fun _ => aop_load_pp rfl rfl sz25 rfl) <| ARH.dry rfl (fun _ => aop_field_pp rfl rfl fd86_3 (by decide)) <| ARH.keep [1, 27, 28] rfl <| ARH.dry rfl (fun _ => aop_field_pp rfl rfl fd38_2 (by decide)) <| ARH.dry (r := i64 a_0.f.I) rfl (fun _ => aop_load_pp rfl rfl sz3 rfl) ?_
   obtain ⟨x19, hx19, h⟩ := Sh.bind_some' h
   obtain ⟨k20, hi20, hl20⟩ := Sh.idx_some hx19
   refine ARH.dry rfl (fun _ => t_index_sl G.fact_Fact.av a_0.l hi20 hl20 rfl rfl rfl el25 rfl) <| ARH.keep [1, 31] rfl <| ARH.dry rfl (fun _ => aop_field_pp rfl rfl fd38_0 (by decide)) <| ARH.dry (r := G.api_Choice.av x19.C) rfl (fun _ => aop_load_pp rfl rfl sz35 rfl) <| ARH.dry rfl (fun _ => aop_field_pp rfl rfl fd86_2 (by decide)) <| ARH.keep [1, 33, 34] rfl <| ARH.dry (r := .sl (List.map G.fact_Fact.av a_0.l)) rfl (fun _ => aop_load_pp rfl rfl sz25 rfl) <| ARH.dry rfl (fun _ => aop_field_pp rfl rfl fd86_3 (by decide)) ?_
   refine ARH.dry rfl (fun _ => aop_field_pp rfl rfl fd38_3 (by decide)) <| ARH.keep [1, 33, 35, 37] rfl <| ARH.dry (r := i64 a_0.f.J) rfl (fun _ => aop_load_pp rfl rfl sz3 rfl) ?_
   obtain ⟨x21, hx21, h⟩ := Sh.bind_some' h
   obtain ⟨k22, hi22, hl22⟩ := Sh.idx_some hx21
   refine ARH.dry rfl (fun _ => t_index_sl G.fact_Fact.av a_0.l hi22 hl22 rfl rfl rfl el25 rfl) <| ARH.dry rfl (fun _ => aop_field_pp rfl rfl fd38_0 (by decide)) <| ARH.keep [1, 33, 40] rfl <| ARH.dry (r := G.api_Choice.av x21.C) rfl (fun _ => aop_load_pp rfl rfl sz35 rfl) ?_
   have hC23 : K4 ⟨[(1, .pp [.sl (List.map G.api_Txn.av a_0.h.Txns), i64 a_0.level, .sl (List.map G.fact_Fact.av a_0.l), i64 a_0.f.C.Key, i64 a_0.f.C.A, i64 a_0.f.C.B, i64 a_0.f.Kind, i64 a_0.f.I, i64 a_0.f.J, .sl (List.map i64 a_0.f.Cycle)] 0), (3, .pp [i64 x19.C.Key, i64 x19.C.A, i64 x19.C.B] 0), (4, .pp [i64 x21.C.Key, i64 x21.C.A, i64 x21.C.B] 0)], .empty⟩ := by
    refine hK4 _ ?_
    refine awp_seqK fun K5 hK5 => awp_reg rfl <| AR.op rfl (aop_field_pp rfl rfl fd35_2 (by decide)) <| AR.op (r := i64 x19.C.B) rfl (aop_load_pp rfl rfl sz3 rfl) <| AR.op rfl (aop_field_pp rfl rfl fd35_1 (by decide)) <| AR.keep [1, 3, 4, 43, 44] rfl <| AR.op (r := i64 x21.C.A) rfl (aop_load_pp rfl rfl sz3 rfl) <| AR.op (r := bl (decide (x19.C.B = x21.C.A))) rfl (aop_eql rfl rfl rfl) ?_
    refine AR.op rfl (aop_move (.inl rfl) rfl) <| AR.keep [1, 3, 4, 47] rfl ?_
    rcases Bool.eq_false_or_eq_true (decide (x19.C.B = x21.C.A)) with hb27 | hb27
    ·rw [hb27]
     replace h := Sh.if_t h hb27
     refine AR.op rfl (aop_field_pp rfl rfl fd35_0 (by decide)) <| AR.op (r := i64 x19.C.Key) rfl (aop_load_pp rfl rfl sz3 rfl) <| AR.op rfl (aop_field_pp rfl rfl fd35_0 (by decide)) <| AR.keep [1, 3, 4, 47, 49, 50] rfl <| AR.op (r := i64 x21.C.Key) rfl (aop_load_pp rfl rfl sz3 rfl) <| AR.op (r := bl (decide (x19.C.Key = x21.C.Key))) rfl (aop_eql rfl rfl rfl) <| AR.op rfl (aop_pick rfl rfl rfl) <| AR.keep [1, 3, 4, 53] rfl ?_
     refine AR.op rfl (aop_move (.inl rfl) rfl) ?_
     rcases Bool.eq_false_or_eq_true (decide (x19.C.Key = x21.C.Key)) with hb28 | hb28
     ·rw [hb28]
      replace h := Sh.if_t h hb28
      refine AR.op rfl (aop_field_pp rfl rfl fd86_3 (by decide)) <| AR.op rfl (aop_field_pp rfl rfl fd38_0 (by decide)) <| AR.keep [3, 4, 54, 56] rfl <| AR.op (r := G.api_Choice.av a_0.f.C) rfl (aop_load_pp rfl rfl sz35 rfl) <| AR.op rfl (aop_field_pp rfl rfl fd35_0 (by decide)) <| AR.op (r := i64 x19.C.Key) rfl (aop_load_pp rfl rfl sz3 rfl) <| AR.keep [3, 4, 54, 57, 59] rfl <| AR.op rfl (aop_field_pp rfl rfl fd35_1 (by decide)) ?_
      refine AR.op (r := i64 x19.C.A) rfl (aop_load_pp rfl rfl sz3 rfl) <| AR.op rfl (aop_field_pp rfl rfl fd35_2 (by decide)) <| AR.keep [54, 57, 59, 61, 62] rfl <| AR.op (r := i64 x21.C.B) rfl (aop_load_pp rfl rfl sz3 rfl) <| AR.op (r := .agg [i64 x19.C.Key, i64 x19.C.A, i64 x21.C.B]) rfl (aop_build rfl bd35 rfl rfl rfl) <| AR.op (r := bl (decide (a_0.f.C = (G.api_Choice.mk x19.C.Key x19.C.A x21.C.B)))) rfl (t_eq_api_Choice (a := a_0.f.C) (b := (G.api_Choice.mk x19.C.Key x19.C.A x21.C.B)) rfl rfl rfl) <| AR.keep [54, 65] rfl <| AR.op rfl (aop_pick rfl rfl rfl) ?_
      obtain ⟨x29, hx29, h⟩ := Sh.lett_some h
      refine AR.op (r := bl x29) rfl ((aop_move (.inr rfl) rfl).conv (congrArg bl hx29)) <| AR.nil <| hK5 _ (AWP.weak (Weak.kt [2] rfl) ?_)
      refine awp_ret ?_
      obtain rfl := Option.some.inj h
      refine ⟨.inr rfl, bl x29, rfl, ?_⟩
      exact Weak.e ⟨.k, trivial⟩
     ·rw [hb28]
      replace h := Sh.if_f h hb28
      refine AR.skip rfl <| AR.skip rfl <| AR.keep [3, 4, 54, 56] rfl <| AR.skip rfl <| AR.skip rfl <| AR.skip rfl <| AR.keep [3, 4, 54, 57, 59] rfl <| AR.skip rfl ?_
      refine AR.skip rfl <| AR.skip rfl <| AR.keep [54, 57, 59, 61, 62] rfl <| AR.skip rfl <| AR.skip rfl <| AR.skip rfl <| AR.keep [54, 65] rfl <| AR.op rfl (aop_pick rfl rfl rfl) ?_
      refine AR.op rfl (aop_move (.inr rfl) rfl) <| AR.nil <| hK5 _ (AWP.weak (Weak.kt [2] rfl) ?_)
      refine awp_ret ?_
      obtain rfl := Option.some.inj h
      refine ⟨.inr rfl, bl false, rfl, ?_⟩
      exact Weak.e ⟨.k, trivial⟩
    ·rw [hb27]
     replace h := Sh.if_f h hb27
     refine AR.skip rfl <| AR.skip rfl <| AR.skip rfl <| AR.keep [1, 3, 4, 47, 49, 50] rfl <| AR.skip rfl <| AR.skip rfl <| AR.op rfl (aop_pick rfl rfl rfl) <| AR.keep [1, 3, 4, 53] rfl ?_
     refine AR.op rfl (aop_move (.inl rfl) rfl) <| AR.skip rfl <| AR.skip rfl <| AR.keep [3, 4, 54, 56] rfl <| AR.skip rfl <| AR.skip rfl <| AR.skip rfl <| AR.keep [3, 4, 54, 57, 59] rfl ?_
     refine AR.skip rfl <| AR.skip rfl <| AR.skip rfl <| AR.keep [54, 57, 59, 61, 62] rfl <| AR.skip rfl <| AR.skip rfl <| AR.skip rfl <| AR.keep [54, 65] rfl ?_
     refine AR.op rfl (aop_pick rfl rfl rfl) <| AR.op rfl (aop_move (.inr rfl) rfl) <| AR.nil <| hK5 _ (AWP.weak (Weak.kt [2] rfl) ?_)
     refine awp_ret ?_
     obtain rfl := Option.some.inj h
     refine ⟨.inr rfl, bl false, rfl, ?_⟩
     exact Weak.e ⟨.k, trivial⟩
   refine ARH.fork ?_
   refine AF.many 16 [17] (by kernel_rfl) ⟨?_, ?_, trivial⟩
   ·skip
    refine AF1.loud (r := .ref 0 0 0) _ rfl rfl rfl (aop_alloc 3 [.agg [i64 0, i64 0, i64 0]] rfl zr35 (by kernel_rfl) (.inl ⟨rfl, rfl⟩)) ?_
    refine AF.many 17 [] (by kernel_rfl) ⟨?_, trivial⟩
    ·skip
     refine AF1.loud (r := .ref 1 0 0) _ rfl rfl rfl (aop_alloc 3 [.agg [i64 0, i64 0, i64 0]] rfl zr35 (by kernel_rfl) (.inl ⟨rfl, rfl⟩)) ?_
     refine AF.many 18 [] (by kernel_rfl) ⟨?_, trivial⟩
     ·skip
      refine AF1.loud _ rfl rfl rfl (aop_store (e' := G.api_Choice.av x19.C) rfl rfl rfl rfl rfl rfl sz35 rfl dt rfl) ?_
      refine AF.many 19 [] (by kernel_rfl) ⟨?_, trivial⟩
      ·skip
       refine AF1.loud _ rfl rfl rfl (aop_store (e' := G.api_Choice.av x21.C) rfl rfl rfl rfl rfl rfl sz35 rfl dt rfl) ?_
       refine AF.done (by kernel_rfl) ?_
       exact hW4 _ _ (Weak.e (fr' := [(1, .pp [.sl (List.map G.api_Txn.av a_0.h.Txns), i64 a_0.level, .sl (List.map G.fact_Fact.av a_0.l), i64 a_0.f.C.Key, i64 a_0.f.C.A, i64 a_0.f.C.B, i64 a_0.f.Kind, i64 a_0.f.I, i64 a_0.f.J, .sl (List.map i64 a_0.f.Cycle)] 0), (3, .pp [i64 x19.C.Key, i64 x19.C.A, i64 x19.C.B] 0), (4, .pp [i64 x21.C.Key, i64 x21.C.A, i64 x21.C.B] 0)]) (H' := .empty) ⟨.k, ⟨_, rfl, .frzA rfl rfl rfl rfl (by simp)⟩, ⟨_, rfl, .frzA rfl rfl rfl rfl (by simp)⟩, trivial⟩) hC23
   ·skip
    refine AF1.loud (r := .ref 0 0 0) _ rfl rfl rfl (aop_alloc 3 [.agg [i64 0, i64 0, i64 0]] rfl zr35 (by kernel_rfl) (.inl ⟨rfl, rfl⟩)) ?_
    refine AF.many 16 [] (by kernel_rfl) ⟨?_, trivial⟩
    ·skip
     refine AF1.loud (r := .ref 1 0 0) _ rfl rfl rfl (aop_alloc 3 [.agg [i64 0, i64 0, i64 0]] rfl zr35 (by kernel_rfl) (.inl ⟨rfl, rfl⟩)) ?_
     refine AF.many 18 [] (by kernel_rfl) ⟨?_, trivial⟩
     ·skip
      refine AF1.loud _ rfl rfl rfl (aop_store (e' := G.api_Choice.av x19.C) rfl rfl rfl rfl rfl rfl sz35 rfl dt rfl) ?_
      refine AF.many 19 [] (by kernel_rfl) ⟨?_, trivial⟩
      ·skip
       refine AF1.loud _ rfl rfl rfl (aop_store (e' := G.api_Choice.av x21.C) rfl rfl rfl rfl rfl rfl sz35 rfl dt rfl) ?_
       refine AF.done (by kernel_rfl) ?_
       exact hW4 _ _ (Weak.e (fr' := [(1, .pp [.sl (List.map G.api_Txn.av a_0.h.Txns), i64 a_0.level, .sl (List.map G.fact_Fact.av a_0.l), i64 a_0.f.C.Key, i64 a_0.f.C.A, i64 a_0.f.C.B, i64 a_0.f.Kind, i64 a_0.f.I, i64 a_0.f.J, .sl (List.map i64 a_0.f.Cycle)] 0), (3, .pp [i64 x19.C.Key, i64 x19.C.A, i64 x19.C.B] 0), (4, .pp [i64 x21.C.Key, i64 x21.C.A, i64 x21.C.B] 0)]) (H' := .empty) ⟨.k, ⟨_, rfl, .frzA rfl rfl rfl rfl (by simp)⟩, ⟨_, rfl, .frzA rfl rfl rfl rfl (by simp)⟩, trivial⟩) hC23
 ·intro K6 hK6
  refine awp_reg rfl <| AR.op rfl (aop_field_pp rfl rfl fd86_3 (by decide)) <| AR.op rfl (aop_field_pp rfl rfl fd38_2 (by decide)) <| AR.op (r := i64 a_0.f.I) rfl (aop_load_pp rfl rfl sz3 rfl) <| AR.keep [1, 7] rfl <| AR.op rfl (aop_field_pp rfl rfl fd86_3 (by decide)) <| AR.op rfl (aop_field_pp rfl rfl fd38_3 (by decide)) <| AR.op (r := i64 a_0.f.J) rfl (aop_load_pp rfl rfl sz3 rfl) ?_
  refine AR.keep [1, 7, 10] rfl <| AR.op (r := i64 (Sh.min a_0.f.I a_0.f.J)) rfl (aop_min2 rfl rfl rfl) <| AR.op rfl (aop_lss rfl rfl rfl) <| AR.op rfl (aop_move (.inl rfl) rfl) <| AR.keep [1, 13] rfl ?_
  rcases Bool.eq_false_or_eq_true (decide ((Sh.min a_0.f.I a_0.f.J) < 0)) with hb30 | hb30
  ·rw [hb30]
   replace h := Sh.if_t h hb30
   refine AR.skip rfl <| AR.skip rfl <| AR.skip rfl <| AR.keep [1, 13, 16] rfl <| AR.skip rfl <| AR.skip rfl <| AR.skip rfl <| AR.keep [1, 13, 16, 19] rfl ?_
   refine AR.skip rfl <| AR.skip rfl <| AR.skip rfl <| AR.keep [1, 13, 20, 22] rfl <| AR.skip rfl <| AR.skip rfl <| AR.op rfl (aop_pick rfl rfl rfl) <| AR.nil ?_
   exact hK6 true _ h (Weak.kt [1, 25] rfl)
  ·rw [hb30]
   replace h := Sh.if_f h hb30
   refine AR.op rfl (aop_field_pp rfl rfl fd86_3 (by decide)) <| AR.op rfl (aop_field_pp rfl rfl fd38_2 (by decide)) <| AR.op (r := i64 a_0.f.I) rfl (aop_load_pp rfl rfl sz3 rfl) <| AR.keep [1, 13, 16] rfl <| AR.op rfl (aop_field_pp rfl rfl fd86_3 (by decide)) <| AR.op rfl (aop_field_pp rfl rfl fd38_3 (by decide)) <| AR.op (r := i64 a_0.f.J) rfl (aop_load_pp rfl rfl sz3 rfl) <| AR.keep [1, 13, 16, 19] rfl ?_
   refine AR.op (r := i64 (Sh.max a_0.f.I a_0.f.J)) rfl (aop_max2 rfl rfl rfl) <| AR.op rfl (aop_field_pp rfl rfl fd86_2 (by decide)) <| AR.op (r := .sl (List.map G.fact_Fact.av a_0.l)) rfl (aop_load_pp rfl rfl sz25 rfl) <| AR.keep [1, 13, 20, 22] rfl <| AR.op rfl (t_len_sl G.fact_Fact.av a_0.l rfl rfl el25) <| AR.op rfl (aop_geq rfl rfl rfl) <| AR.op rfl (aop_pick rfl rfl rfl) <| AR.nil ?_
   exact hK6 (decide ((Sh.len a_0.l) ≤ (Sh.max a_0.f.I a_0.f.J))) _ h (Weak.kt [1, 25] rfl)
theorem fact_asked_joined_ok {W0 : World} (hT : Tab W0) {a_0 : G.fact_asked} {r : Bool} (h : G.fact_asked_joined a_0 = some r) : Fun1 Try.prog W0 52 [G.fact_asked.av a_0] (bl r) := Fun1.two (fact_asked_joined_ok0 hT h) (by simp)


theorem fact_asked_seen_ok0 {W0 : World} (hT : Tab W0) {a_0 : G.fact_asked} {r : Bool} (h : G.fact_asked_seen a_0 = some r) : Fun2 Try.prog W0 53 [G.fact_asked.av a_0] (bl r) .empty := by
 refine fun2_of_awp Try.func53 rfl (by kernel_rfl) Try.ntmps53 (by simp) ?_
 unfold G.fact_asked_seen at h
 show AWP _ _ _ _ ⟨[(0, G.fact_asked.av a_0)], .empty⟩ _
 refine awp_seqK fun K1 hK1 => awp_reg rfl <| AR.op (r := .ref 0 0 0) rfl (aop_box 10 [G.fact_asked.av a_0] rfl rfl rfl (.inl ⟨rfl, rfl⟩)) <| AR.op rfl (aop_move (.inr rfl) rfl) <| AR.nil <| hK1 _ (AWP.weak (Weak.e (fr' := [(1, .pp [.sl (List.map G.api_Txn.av a_0.h.Txns), i64 a_0.level, .sl (List.map G.fact_Fact.av a_0.l), i64 a_0.f.C.Key, i64 a_0.f.C.A, i64 a_0.f.C.B, i64 a_0.f.Kind, i64 a_0.f.I, i64 a_0.f.J, .sl (List.map i64 a_0.f.Cycle)] 0)]) (H' := .empty) ⟨⟨_, rfl, .frzA rfl rfl rfl rfl (by simp)⟩, trivial⟩) ?_)
 refine awp_seqK fun K2 hK2 => awp_seqJ (fun (p : Bool) => (⟨[(1, .pp [.sl (List.map G.api_Txn.av a_0.h.Txns), i64 a_0.level, .sl (List.map G.fact_Fact.av a_0.l), i64 a_0.f.C.Key, i64 a_0.f.C.A, i64 a_0.f.C.B, i64 a_0.f.Kind, i64 a_0.f.I, i64 a_0.f.J, .sl (List.map i64 a_0.f.Cycle)] 0), (33, bl p)], .empty⟩ : St)) (fun (p : Bool) => G.fact_asked_seen_j1 a_0 p = some r) ?_ ?_
 ·rintro v18 h
  replace h : G.fact_asked_seen_j1 a_0 v18 = some r := h
  unfold G.fact_asked_seen_j1 at h
  refine awp_cond rfl (fun hb19 => ?_) (fun hb19 => ?_)
  ·replace h := Sh.if_t h hb19
   refine awp_seqK fun K3 hK3 => awp_reg rfl <| AR.op rfl (aop_move (.inr rfl) rfl) <| AR.nil <| hK3 _ (AWP.weak (Weak.kt [2] rfl) ?_)
   refine awp_ret ?_
   obtain rfl := Option.some.inj h
   refine ⟨.inr rfl, bl false, rfl, ?_⟩
   exact Weak.e ⟨.k, trivial⟩
  ·replace h := Sh.if_f h hb19
   refine awp_skip <| hK2 _ (AWP.weak (Weak.kt [1] rfl) ?_)
   refine awp_seqK fun K4 hK4 => awp_any [(true, false), (true, false), (true, false), (true, false), (true, false), (true, false), (true, false), (true, false), (true, false), (true, false), (true, false), (true, false), (true, false), (true, false), (true, false), (true, false), (true, false), (true, false), (true, false), (true, false)] (by kernel_rfl) (by kernel_rfl) rfl ?_
   refine ARH.dry rfl (fun _ => aop_field_pp rfl rfl fd86_0 (by decide)) <| ARH.dry rfl (fun _ => aop_field_pp rfl rfl fd24_0 (by decide)) <| ARH.dry (r := .sl (List.map G.api_Txn.av a_0.h.Txns)) rfl (fun _ => aop_load_pp rfl rfl sz22 rfl) <| ARH.keep [1, 36] rfl <| ARH.dry rfl (fun _ => aop_field_pp rfl rfl fd86_3 (by decide)) <| ARH.dry rfl (fun _ => aop_field_pp rfl rfl fd38_2 (by decide)) <| ARH.dry (r := i64 a_0.f.I) rfl (fun _ => aop_load_pp rfl rfl sz3 rfl) <| ARH.keep [1, 36, 39] rfl ?_
   obtain ⟨x23, hx23, h⟩ := Sh.bind_some' h
   obtain ⟨k24, hi24, hl24⟩ := Sh.idx_some hx23
   refine ARH.dry rfl (fun _ => t_index_sl G.api_Txn.av a_0.h.Txns hi24 hl24 rfl rfl rfl el22 rfl) <| ARH.dry rfl (fun _ => aop_field_pp rfl rfl fd58_2 (by decide)) <| ARH.dry (r := .sl (List.map G.api_Take.av x23.Reads)) rfl (fun _ => aop_load_pp rfl rfl sz56 rfl) <| ARH.keep [1, 42] rfl <| ARH.dry rfl (fun _ => aop_field_pp rfl rfl fd86_3 (by decide)) <| ARH.dry rfl (fun _ => aop_field_pp rfl rfl fd38_0 (by decide)) <| ARH.dry rfl (fun _ => aop_field_pp rfl rfl fd35_0 (by decide)) <| ARH.keep [1, 42, 45] rfl ?_
   refine ARH.dry (r := i64 a_0.f.C.Key) rfl (fun _ => aop_load_pp rfl rfl sz3 rfl) <| ARH.dry rfl (fun _ => aop_field_pp rfl rfl fd86_3 (by decide)) <| ARH.dry rfl (fun _ => aop_field_pp rfl rfl fd38_0 (by decide)) <| ARH.keep [1, 42, 46, 48] rfl <| ARH.dry rfl (fun _ => aop_field_pp rfl rfl fd35_2 (by decide)) <| ARH.dry (r := i64 a_0.f.C.B) rfl (fun _ => aop_load_pp rfl rfl sz3 rfl) <| ARH.dry (r := .agg [i64 a_0.f.C.Key, i64 a_0.f.C.B]) rfl (fun _ => aop_build rfl bd78 rfl rfl rfl) <| ARH.keep [1, 42, 51] rfl ?_
   obtain ⟨r25, hr25, h⟩ := Sh.bind_some' h
   refine ARH.dry (r := bl r25) rfl (fun _ => aop_callN rfl (ys := [.sl (List.map G.api_Take.av x23.Reads), .agg [i64 a_0.f.C.Key, i64 a_0.f.C.B]]) (xs := [.sl (List.map G.api_Take.av x23.Reads), G.api_Take.av (G.api_Take.mk a_0.f.C.Key a_0.f.C.B)]) rfl (Weak.e (fr' := argsFr 0 [.sl (List.map G.api_Take.av x23.Reads), G.api_Take.av (G.api_Take.mk a_0.f.C.Key a_0.f.C.B)]) (H' := .empty) ⟨⟨.sl (List.map G.api_Take.av x23.Reads), rfl, .sm⟩, ⟨.agg [i64 a_0.f.C.Key, i64 a_0.f.C.B], rfl, .sm⟩, trivial⟩) rfl (by simp) (slices_Contains_api_Take_api_Take_ok hT hr25)) <| ARH.dry rfl (fun _ => aop_move (.inr rfl) rfl) <| ARH.nil <| hK4 _ (AWP.weak (Weak.kt [1, 3] rfl) ?_)
   refine awp_seqK fun K5 hK5 => awp_reg rfl <| AR.op rfl (aop_move (.inl rfl) rfl) <| AR.op rfl (aop_move (.inl rfl) rfl) ?_
   rcases Bool.eq_false_or_eq_true (r25) with hb28 | hb28
   ·rw [hb28]
    replace h := Sh.if_t h hb28
    refine AR.op rfl (aop_field_pp rfl rfl fd86_0 (by decide)) <| AR.keep [1, 54, 55] rfl <| AR.op (r := G.api_Hist.av a_0.h) rfl (aop_load_pp rfl rfl sz24 rfl) <| AR.op rfl (aop_field_pp rfl rfl fd86_3 (by decide)) <| AR.op rfl (aop_field_pp rfl rfl fd38_0 (by decide)) <| AR.keep [1, 54, 56, 58] rfl <| AR.op rfl (aop_field_pp rfl rfl fd35_1 (by decide)) <| AR.op (r := i64 a_0.f.C.A) rfl (aop_load_pp rfl rfl sz3 rfl) ?_
    refine AR.op rfl (aop_field_pp rfl rfl fd86_3 (by decide)) <| AR.keep [54, 56, 60, 61] rfl <| AR.op rfl (aop_field_pp rfl rfl fd38_2 (by decide)) <| AR.op (r := i64 a_0.f.I) rfl (aop_load_pp rfl rfl sz3 rfl) ?_
    obtain ⟨r29, hr29, h⟩ := Sh.bind_some' h
    refine AR.op (r := bl r29) rfl (aop_callN rfl (ys := [G.api_Hist.av a_0.h, nilS, i64 a_0.f.C.A, i64 a_0.f.I]) (xs := [G.api_Hist.av a_0.h, .sl (List.map G.api_Choice.av []), i64 a_0.f.C.A, i64 a_0.f.I]) rfl (Weak.e (fr' := argsFr 0 [G.api_Hist.av a_0.h, .sl (List.map G.api_Choice.av []), i64 a_0.f.C.A, i64 a_0.f.I]) (H' := .empty) ⟨⟨G.api_Hist.av a_0.h, rfl, .sm⟩, ⟨_, rfl, .nilsl⟩, .k, .k, trivial⟩) rfl (by simp) (edge_Direct_ok hT hr29)) <| AR.keep [54, 64] rfl <| AR.op rfl (aop_pick rfl rfl rfl) <| AR.op rfl (aop_move (.inr rfl) rfl) <| AR.nil <| hK5 _ (AWP.weak (Weak.kt [2] rfl) ?_)
    refine awp_ret ?_
    obtain rfl := Option.some.inj h
    refine ⟨.inr rfl, bl r29, rfl, ?_⟩
    exact Weak.e ⟨.k, trivial⟩
   ·rw [hb28]
    replace h := Sh.if_f h hb28
    refine AR.skip rfl <| AR.keep [1, 54, 55] rfl <| AR.skip rfl <| AR.skip rfl <| AR.skip rfl <| AR.keep [1, 54, 56, 58] rfl <| AR.skip rfl <| AR.skip rfl ?_
    refine AR.skip rfl <| AR.keep [54, 56, 60, 61] rfl <| AR.skip rfl <| AR.skip rfl <| AR.skip rfl <| AR.keep [54, 64] rfl <| AR.op rfl (aop_pick rfl rfl rfl) <| AR.op rfl (aop_move (.inr rfl) rfl) ?_
    refine AR.nil <| hK5 _ (AWP.weak (Weak.kt [2] rfl) ?_)
    refine awp_ret ?_
    obtain rfl := Option.some.inj h
    refine ⟨.inr rfl, bl false, rfl, ?_⟩
    exact Weak.e ⟨.k, trivial⟩
 ·intro K6 hK6
  refine awp_reg rfl <| AR.op rfl (aop_field_pp rfl rfl fd86_3 (by decide)) <| AR.op rfl (aop_field_pp rfl rfl fd38_3 (by decide)) <| AR.op (r := i64 a_0.f.J) rfl (aop_load_pp rfl rfl sz3 rfl) <| AR.keep [1, 6] rfl <| AR.op (r := bl (decide (a_0.f.J ≠ 0))) rfl (aop_neq rfl rfl rfl) <| AR.op rfl (aop_move (.inl rfl) rfl) ?_
  rcases Bool.eq_false_or_eq_true (decide (a_0.f.J ≠ 0)) with hb30 | hb30
  ·rw [hb30]
   replace h := Sh.if_t h hb30
   refine AR.skip rfl <| AR.keep [1, 8, 9] rfl <| AR.skip rfl <| AR.skip rfl <| AR.skip rfl <| AR.keep [1, 8, 11, 12] rfl <| AR.skip rfl <| AR.skip rfl ?_
   refine AR.skip rfl <| AR.keep [1, 8, 11, 15] rfl <| AR.skip rfl <| AR.op rfl (aop_pick rfl rfl rfl) <| AR.op rfl (aop_move (.inl rfl) rfl) <| AR.keep [1, 18] rfl <| AR.skip rfl <| AR.skip rfl ?_
   refine AR.skip rfl <| AR.keep [1, 18, 21] rfl <| AR.skip rfl <| AR.op rfl (aop_pick rfl rfl rfl) <| AR.op rfl (aop_move (.inl rfl) rfl) <| AR.keep [1, 24] rfl <| AR.skip rfl <| AR.skip rfl ?_
   refine AR.skip rfl <| AR.keep [1, 24, 27] rfl <| AR.skip rfl <| AR.skip rfl <| AR.skip rfl <| AR.keep [1, 24, 27, 30] rfl <| AR.skip rfl <| AR.skip rfl ?_
   refine AR.op rfl (aop_pick rfl rfl rfl) <| AR.nil ?_
   exact hK6 true _ h (Weak.kt [1, 33] rfl)
  ·rw [hb30]
   replace h := Sh.if_f h hb30
   refine AR.op rfl (aop_field_pp rfl rfl fd86_3 (by decide)) <| AR.keep [1, 8, 9] rfl <| AR.op rfl (aop_field_pp rfl rfl fd38_2 (by decide)) <| AR.op (r := i64 a_0.f.I) rfl (aop_load_pp rfl rfl sz3 rfl) <| AR.op rfl (aop_field_pp rfl rfl fd86_3 (by decide)) <| AR.keep [1, 8, 11, 12] rfl <| AR.op rfl (aop_field_pp rfl rfl fd38_0 (by decide)) <| AR.op rfl (aop_field_pp rfl rfl fd35_1 (by decide)) ?_
   refine AR.op (r := i64 a_0.f.C.A) rfl (aop_load_pp rfl rfl sz3 rfl) <| AR.keep [1, 8, 11, 15] rfl <| AR.op (r := bl (decide (a_0.f.I = a_0.f.C.A))) rfl (aop_eql rfl rfl rfl) <| AR.op rfl (aop_pick rfl rfl rfl) <| AR.op rfl (aop_move (.inl rfl) rfl) <| AR.keep [1, 18] rfl ?_
   rcases Bool.eq_false_or_eq_true (decide (a_0.f.I = a_0.f.C.A)) with hb31 | hb31
   ·rw [hb31]
    replace h := Sh.if_t h hb31
    refine AR.skip rfl <| AR.skip rfl <| AR.skip rfl <| AR.keep [1, 18, 21] rfl <| AR.skip rfl <| AR.op rfl (aop_pick rfl rfl rfl) <| AR.op rfl (aop_move (.inl rfl) rfl) <| AR.keep [1, 24] rfl ?_
    refine AR.skip rfl <| AR.skip rfl <| AR.skip rfl <| AR.keep [1, 24, 27] rfl <| AR.skip rfl <| AR.skip rfl <| AR.skip rfl <| AR.keep [1, 24, 27, 30] rfl ?_
    refine AR.skip rfl <| AR.skip rfl <| AR.op rfl (aop_pick rfl rfl rfl) <| AR.nil ?_
    exact hK6 true _ h (Weak.kt [1, 33] rfl)
   ·rw [hb31]
    replace h := Sh.if_f h hb31
    refine AR.op rfl (aop_field_pp rfl rfl fd86_3 (by decide)) <| AR.op rfl (aop_field_pp rfl rfl fd38_2 (by decide)) <| AR.op (r := i64 a_0.f.I) rfl (aop_load_pp rfl rfl sz3 rfl) <| AR.keep [1, 18, 21] rfl <| AR.op rfl (aop_lss rfl rfl rfl) <| AR.op rfl (aop_pick rfl rfl rfl) <| AR.op rfl (aop_move (.inl rfl) rfl) <| AR.keep [1, 24] rfl ?_
    rcases Bool.eq_false_or_eq_true (decide (a_0.f.I < 0)) with hb32 | hb32
    ·rw [hb32]
     replace h := Sh.if_t h hb32
     refine AR.skip rfl <| AR.skip rfl <| AR.skip rfl <| AR.keep [1, 24, 27] rfl <| AR.skip rfl <| AR.skip rfl <| AR.skip rfl <| AR.keep [1, 24, 27, 30] rfl ?_
     refine AR.skip rfl <| AR.skip rfl <| AR.op rfl (aop_pick rfl rfl rfl) <| AR.nil ?_
     exact hK6 true _ h (Weak.kt [1, 33] rfl)
    ·rw [hb32]
     replace h := Sh.if_f h hb32
     refine AR.op rfl (aop_field_pp rfl rfl fd86_3 (by decide)) <| AR.op rfl (aop_field_pp rfl rfl fd38_2 (by decide)) <| AR.op (r := i64 a_0.f.I) rfl (aop_load_pp rfl rfl sz3 rfl) <| AR.keep [1, 24, 27] rfl <| AR.op rfl (aop_field_pp rfl rfl fd86_0 (by decide)) <| AR.op rfl (aop_field_pp rfl rfl fd24_0 (by decide)) <| AR.op (r := .sl (List.map G.api_Txn.av a_0.h.Txns)) rfl (aop_load_pp rfl rfl sz22 rfl) <| AR.keep [1, 24, 27, 30] rfl ?_
     refine AR.op rfl (t_len_sl G.api_Txn.av a_0.h.Txns rfl rfl el22) <| AR.op rfl (aop_geq rfl rfl rfl) <| AR.op rfl (aop_pick rfl rfl rfl) <| AR.nil ?_
     exact hK6 (decide ((Sh.len a_0.h.Txns) ≤ a_0.f.I)) _ h (Weak.kt [1, 33] rfl)
theorem fact_asked_seen_ok {W0 : World} (hT : Tab W0) {a_0 : G.fact_asked} {r : Bool} (h : G.fact_asked_seen a_0 = some r) : Fun1 Try.prog W0 53 [G.fact_asked.av a_0] (bl r) := Fun1.two (fact_asked_seen_ok0 hT h) (by simp)


theorem fact_Choices_own {W0 : World} (hT : Tab W0) {l_0 : List G.fact_Fact} {r : (List G.api_Choice)} (h : G.fact_Choices l_0 = some r) : Fun2 Try.prog W0 36 [.sl (List.map G.fact_Fact.av l_0)] (.view 0 0 (List.map G.api_Choice.av r).length) ⟨1, [(0, (3, List.map G.api_Choice.av r))], []⟩ := by
 refine fun2_of_awp Try.func36 rfl (by kernel_rfl) Try.ntmps36 (by simp) ?_
 unfold G.fact_Choices at h
 show AWP _ _ _ _ ⟨[(0, .sl (List.map G.fact_Fact.av l_0))], .empty⟩ _
 refine awp_seqK fun K1 hK1 => awp_reg rfl <| AR.op rfl (aop_move (.inr rfl) rfl) <| AR.nil <| hK1 _ (AWP.weak (Weak.kt [0] rfl) ?_)
 refine awp_seqK fun K2 hK2 => awp_reg rfl <| AR.op rfl (aop_move (.inr rfl) rfl) <| AR.nil <| hK2 _ ?_
 refine awp_seqJ (fun (p : (List G.api_Choice)) => (⟨[(3, .view 0 0 (List.map G.api_Choice.av p).length)], ⟨1, [(0, (3, List.map G.api_Choice.av p))], []⟩⟩ : St)) (fun (p : (List G.api_Choice)) => G.fact_Choices_j1 p = some r) ?_ ?_
 ·rintro out27 h
  replace h : G.fact_Choices_j1 out27 = some r := h
  unfold G.fact_Choices_j1 at h
  refine awp_seqK fun K3 hK3 => awp_reg rfl <| AR.op rfl (aop_move (.inl rfl) rfl) <| AR.op rfl (aop_move (.inr rfl) rfl) <| AR.nil <| hK3 _ (AWP.weak (Weak.kt [2] rfl) ?_)
  refine awp_ret ?_
  obtain rfl := Option.some.inj h
  refine ⟨.inr rfl, .view 0 0 (List.map G.api_Choice.av out27).length, rfl, ?_⟩
  exact Weak.re [(0, 0)] [] rfl rfl rfl (.cons rfl rfl (.same (by simp)) dt trivial) ⟨⟨_, rfl, .view rfl⟩, trivial⟩
 ·intro K4 hK4
  refine awp_seqK fun K5 hK5 => awp_reg rfl <| AR.op rfl (aop_move (.inl rfl) rfl) <| AR.op rfl (t_len_sl G.fact_Fact.av l_0 rfl rfl el25) <| AR.op rfl (aop_move (.inl rfl) rfl) <| AR.nil <| hK5 _ (AWP.weak (Weak.kt [3, 6, 7, 8] rfl) ?_)
  refine awp_block <| awp_iter (fun (p : (List G.api_Choice) × Int) => G.fact_Choices_b1 l_0 p.1 p.2) (fun (p : (List G.api_Choice) × Int) => (⟨[(3, .view 0 0 (List.map G.api_Choice.av p.1).length), (6, .sl (List.map G.fact_Fact.av l_0)), (7, i64 (Sh.len l_0)), (8, i64 p.2)], ⟨1, [(0, (3, List.map G.api_Choice.av p.1))], []⟩⟩ : St)) h (Weak.re [] [0] rfl rfl rfl (.fresh (by simp) dt trivial) ⟨⟨_, rfl, .nil (by simp)⟩, ⟨.sl (List.map G.fact_Fact.av l_0), rfl, .sm⟩, .k, .k, trivial⟩) ?_
  ·skip
   rintro ⟨out36, v37⟩ o1 h hx1
   replace h : G.fact_Choices_b1 l_0 out36 v37 = some o1 := h
   unfold G.fact_Choices_b1 at h
   refine awp_seqK fun K6 hK6 => awp_reg rfl <| AR.op rfl (aop_lss rfl rfl rfl) <| AR.nil <| hK6 _ ?_
   refine awp_seqK fun K7 hK7 => awp_cond rfl (fun hb38 => ?_) (fun hb38 => ?_)
   ·replace h := Sh.if_t h hb38
    refine awp_skip <| hK7 _ (AWP.weak (Weak.kt [3, 6, 7, 8] rfl) ?_)
    refine awp_seqK fun K8 hK8 => awp_block <| awp_seqK fun K9 hK9 => awp_reg rfl ?_
    obtain ⟨x44, hx44, h⟩ := Sh.bind_some' h
    obtain ⟨k45, hi45, hl45⟩ := Sh.idx_some hx44
    refine AR.op rfl (t_index_sl G.fact_Fact.av l_0 hi45 hl45 rfl rfl rfl el25 rfl) <| AR.op (r := G.fact_Fact.av x44) rfl (aop_load_pp rfl rfl sz38 rfl) <| AR.op (r := .ref 1 0 0) rfl (aop_alloc 7 [.agg [i64 0, i64 0, i64 0, i64 0, i64 0, i64 0, nilS]] rfl zr38 (by kernel_rfl) (.inl ⟨rfl, rfl⟩)) <| AR.keep [3, 6, 7, 8, 11, 5] rfl <| AR.op rfl (aop_store (e' := G.fact_Fact.av x44) rfl rfl rfl rfl rfl rfl sz38 rfl dt rfl) <| AR.nil <| hK9 _ (AWP.weak (Weak.re (fr' := [(3, .view 0 0 (List.map G.api_Choice.av out36).length), (6, .sl (List.map G.fact_Fact.av l_0)), (7, i64 (Sh.len l_0)), (8, i64 v37), (5, .pp [i64 x44.C.Key, i64 x44.C.A, i64 x44.C.B, i64 x44.Kind, i64 x44.I, i64 x44.J, .sl (List.map i64 x44.Cycle)] 0)]) (H' := ⟨1, [(0, (3, List.map G.api_Choice.av out36))], []⟩) [(0, 0)] [] rfl rfl rfl (.cons rfl rfl (.same (by simp)) dt trivial) ⟨⟨_, rfl, .view rfl⟩, ⟨.sl (List.map G.fact_Fact.av l_0), rfl, .sm⟩, .k, .k, ⟨_, rfl, .frzA rfl rfl rfl rfl (by simp)⟩, trivial⟩) ?_)
    refine awp_reg rfl <| AR.op rfl (aop_move (.inl rfl) rfl) <| AR.op rfl (aop_field_pp rfl rfl fd38_0 (by decide)) <| AR.op (r := G.api_Choice.av x44.C) rfl (aop_load_pp rfl rfl sz35 rfl) <| AR.keep [6, 7, 8, 12, 14] rfl <| AR.op (r := .clip (List.map G.api_Choice.av ([x44.C] : List G.api_Choice))) rfl (aop_buildSlice rfl (xo := [.tmp 14]) rfl rfl rfl (by simp) (by simp) el53 ze53 (by decide)) ?_
    obtain ⟨out46, hout46, h⟩ := Sh.bind_some' h
    refine AR.op (r := .view 1 0 (List.map G.api_Choice.av out46).length) rfl (t_app_view G.api_Choice.av out36 ([x44.C] : List G.api_Choice) out46 hout46 rfl et53 (fun _ => rfl) rfl rfl rfl rfl rfl rfl rfl) <| AR.op rfl (aop_move (.inr rfl) rfl) <| AR.nil <| hK8 _ (AWP.weak (Weak.re (fr' := [(6, .sl (List.map G.fact_Fact.av l_0)), (7, i64 (Sh.len l_0)), (8, i64 v37), (3, .view 0 0 (List.map G.api_Choice.av out46).length)]) (H' := ⟨1, [(0, (3, List.map G.api_Choice.av out46))], []⟩) [(0, 1)] [] rfl rfl rfl (.cons rfl rfl (.same (by simp)) dt trivial) ⟨⟨.sl (List.map G.fact_Fact.av l_0), rfl, .sm⟩, .k, .k, ⟨_, rfl, .view rfl⟩, trivial⟩) ?_)
    refine awp_reg rfl <| AR.op rfl (aop_add rfl rfl rfl rfl) <| AR.op rfl (aop_move (.inl rfl) rfl) <| AR.nil ?_
    replace h := Sh.next_eq h
    exact ⟨_, h, Weak.kt [3, 6, 7, 8] rfl⟩
   ·replace h := Sh.if_f h hb38
    refine awp_exit ?_
    replace h := Sh.exit_eq h hx1
    exact hK4 out36 _ h (Weak.kt [3] rfl)
theorem fact_asked_forced_ok0 {W0 : World} (hT : Tab W0) {a_0 : G.fact_asked} {r : Bool} (h : G.fact_asked_forced a_0 = some r) : Fun2 Try.prog W0 54 [G.fact_asked.av a_0] (bl r) .empty := by
 refine fun2_of_awp Try.func54 rfl (by kernel_rfl) Try.ntmps54 (by simp) ?_
 unfold G.fact_asked_forced at h
 show AWP _ _ _ _ ⟨[(0, G.fact_asked.av a_0)], .empty⟩ _
 refine awp_seqK fun K1 hK1 => awp_reg rfl <| AR.op (r := .ref 0 0 0) rfl (aop_box 10 [G.fact_asked.av a_0] rfl rfl rfl (.inl ⟨rfl, rfl⟩)) <| AR.op rfl (aop_move (.inr rfl) rfl) <| AR.nil <| hK1 _ (AWP.weak (Weak.e (fr' := [(1, .pp [.sl (List.map G.api_Txn.av a_0.h.Txns), i64 a_0.level, .sl (List.map G.fact_Fact.av a_0.l), i64 a_0.f.C.Key, i64 a_0.f.C.A, i64 a_0.f.C.B, i64 a_0.f.Kind, i64 a_0.f.I, i64 a_0.f.J, .sl (List.map i64 a_0.f.Cycle)] 0)]) (H' := .empty) ⟨⟨_, rfl, .frzA rfl rfl rfl rfl (by simp)⟩, trivial⟩) ?_)
 refine awp_seqK fun K2 hK2 => awp_any [(true, false), (true, false), (false, true), (true, false), (true, false), (true, false), (true, false), (true, false), (true, false), (true, false), (true, false), (true, false), (true, false), (true, false), (true, false), (true, false), (true, false), (false, true), (true, false)] (by kernel_rfl) (by kernel_rfl) rfl ?_
 refine ARH.dry rfl (fun _ => aop_field_pp rfl rfl fd86_2 (by decide)) <| ARH.dry (r := .sl (List.map G.fact_Fact.av a_0.l)) rfl (fun _ => aop_load_pp rfl rfl sz25 rfl) ?_
 obtain ⟨r9, hr9, h⟩ := Sh.bind_some' h
 refine ARH.loud (r := .view 0 0 (List.map G.api_Choice.av r9).length) rfl rfl (aop_call2N (.view 0 0 (List.map G.api_Choice.av r9).length) [(0, (3, List.map G.api_Choice.av r9))] rfl (ys := [.sl (List.map G.fact_Fact.av a_0.l)]) (xs := [.sl (List.map G.fact_Fact.av a_0.l)]) rfl (Weak.refl _) rfl (by simp) (fact_Choices_own hT hr9) (.view _ _ _) ⟨rfl, rfl, .same (by simp [AV.flat, G.api_Choice.av]), trivial⟩) <| ARH.keep [1, 6] rfl <| ARH.dry rfl (fun _ => aop_field_pp rfl rfl fd86_3 (by decide)) <| ARH.dry rfl (fun _ => aop_field_pp rfl rfl fd38_0 (by decide)) <| ARH.dry rfl (fun _ => aop_field_pp rfl rfl fd35_0 (by decide)) <| ARH.keep [1, 6, 9] rfl <| ARH.dry (r := i64 a_0.f.C.Key) rfl (fun _ => aop_load_pp rfl rfl sz3 rfl) <| ARH.dry rfl (fun _ => aop_field_pp rfl rfl fd86_3 (by decide)) ?_
 refine ARH.dry rfl (fun _ => aop_field_pp rfl rfl fd38_0 (by decide)) <| ARH.keep [1, 6, 10, 12] rfl <| ARH.dry rfl (fun _ => aop_field_pp rfl rfl fd35_2 (by decide)) <| ARH.dry (r := i64 a_0.f.C.B) rfl (fun _ => aop_load_pp rfl rfl sz3 rfl) <| ARH.dry rfl (fun _ => aop_field_pp rfl rfl fd86_3 (by decide)) <| ARH.keep [1, 6, 10, 14, 15] rfl <| ARH.dry rfl (fun _ => aop_field_pp rfl rfl fd38_0 (by decide)) <| ARH.dry rfl (fun _ => aop_field_pp rfl rfl fd35_1 (by decide)) ?_
 refine ARH.dry (r := i64 a_0.f.C.A) rfl (fun _ => aop_load_pp rfl rfl sz3 rfl) <| ARH.keep [1, 6, 10, 14, 18] rfl <| ARH.dry (r := .agg [i64 a_0.f.C.Key, i64 a_0.f.C.B, i64 a_0.f.C.A]) rfl (fun _ => aop_build rfl bd35 rfl rfl rfl) <| ARH.dry (r := .clip (List.map G.api_Choice.av ([(G.api_Choice.mk a_0.f.C.Key a_0.f.C.B a_0.f.C.A)] : List G.api_Choice))) rfl (fun _ => aop_buildSlice rfl (xo := [.tmp 19]) rfl rfl rfl (by simp) (by simp) el53 ze53 (by decide)) ?_
 obtain ⟨l10, hl10, h⟩ := Sh.bind_some' h
 refine ARH.loud (r := .view 1 0 (List.map G.api_Choice.av l10).length) rfl rfl (t_app_view G.api_Choice.av r9 ([(G.api_Choice.mk a_0.f.C.Key a_0.f.C.B a_0.f.C.A)] : List G.api_Choice) l10 hl10 rfl et53 (fun _ => rfl) rfl rfl rfl rfl rfl rfl rfl) <| ARH.keep [1, 21] rfl <| ARH.dry rfl (fun _ => aop_move (.inr rfl) rfl) <| ARH.nil <| hK2 _ (AWP.weak (Weak.e (fr' := [(1, .pp [.sl (List.map G.api_Txn.av a_0.h.Txns), i64 a_0.level, .sl (List.map G.fact_Fact.av a_0.l), i64 a_0.f.C.Key, i64 a_0.f.C.A, i64 a_0.f.C.B, i64 a_0.f.Kind, i64 a_0.f.I, i64 a_0.f.J, .sl (List.map i64 a_0.f.Cycle)] 0), (3, .sl (List.map G.api_Choice.av l10))]) (H' := .empty) ⟨.k, ⟨_, rfl, .lendAll rfl rfl (by simp)⟩, trivial⟩) ?_)
 refine awp_seqK fun K3 hK3 => awp_reg rfl <| AR.op rfl (aop_field_pp rfl rfl fd86_3 (by decide)) <| AR.op rfl (aop_field_pp rfl rfl fd38_2 (by decide)) <| AR.op (r := i64 a_0.f.I) rfl (aop_load_pp rfl rfl sz3 rfl) <| AR.keep [1, 3, 24] rfl <| AR.op (r := bl (decide (a_0.f.I = 0))) rfl (aop_eql rfl rfl rfl) <| AR.op rfl (aop_move (.inl rfl) rfl) ?_
 rcases Bool.eq_false_or_eq_true (decide (a_0.f.I = 0)) with hb14 | hb14
 ·rw [hb14]
  replace h := Sh.if_t h hb14
  refine AR.op rfl (aop_field_pp rfl rfl fd86_3 (by decide)) <| AR.keep [1, 3, 26, 27] rfl <| AR.op rfl (aop_field_pp rfl rfl fd38_3 (by decide)) <| AR.op (r := i64 a_0.f.J) rfl (aop_load_pp rfl rfl sz3 rfl) <| AR.op (r := bl (decide (a_0.f.J = 0))) rfl (aop_eql rfl rfl rfl) <| AR.keep [1, 3, 26, 30] rfl <| AR.op rfl (aop_pick rfl rfl rfl) <| AR.op rfl (aop_move (.inl rfl) rfl) ?_
  rcases Bool.eq_false_or_eq_true (decide (a_0.f.J = 0)) with hb15 | hb15
  ·rw [hb15]
   replace h := Sh.if_t h hb15
   refine AR.op rfl (aop_field_pp rfl rfl fd86_0 (by decide)) <| AR.keep [1, 3, 32, 33] rfl <| AR.op (r := G.api_Hist.av a_0.h) rfl (aop_load_pp rfl rfl sz24 rfl) <| AR.op rfl (aop_field_pp rfl rfl fd86_1 (by decide)) <| AR.op (r := i64 a_0.level) rfl (aop_load_pp rfl rfl sz3 rfl) <| AR.keep [1, 3, 32, 34, 36] rfl <| AR.op rfl (aop_move (.inl rfl) rfl) <| AR.op rfl (aop_field_pp rfl rfl fd86_3 (by decide)) ?_
   refine AR.op rfl (aop_field_pp rfl rfl fd38_4 (by decide)) <| AR.keep [32, 34, 36, 37, 39] rfl <| AR.op (r := .sl (List.map i64 a_0.f.Cycle)) rfl (aop_load_pp rfl rfl sz36 rfl) ?_
   obtain ⟨r16, hr16, h⟩ := Sh.bind_some' h
   refine AR.op (r := bl r16) rfl (aop_call1 rfl rfl (by simp) (edge_Cycle_ok hT hr16)) <| AR.op rfl (aop_pick rfl rfl rfl) <| AR.keep [42] rfl <| AR.op rfl (aop_move (.inr rfl) rfl) <| AR.nil <| hK3 _ (AWP.weak (Weak.kt [2] rfl) ?_)
   refine awp_ret ?_
   obtain rfl := Option.some.inj h
   refine ⟨.inr rfl, bl r16, rfl, ?_⟩
   exact Weak.e ⟨.k, trivial⟩
  ·rw [hb15]
   replace h := Sh.if_f h hb15
   refine AR.skip rfl <| AR.keep [1, 3, 32, 33] rfl <| AR.skip rfl <| AR.skip rfl <| AR.skip rfl <| AR.keep [1, 3, 32, 34, 36] rfl <| AR.skip rfl <| AR.skip rfl ?_
   refine AR.skip rfl <| AR.keep [32, 34, 36, 37, 39] rfl <| AR.skip rfl <| AR.skip rfl <| AR.op rfl (aop_pick rfl rfl rfl) <| AR.keep [42] rfl <| AR.op rfl (aop_move (.inr rfl) rfl) <| AR.nil ?_
   refine hK3 _ (AWP.weak (Weak.kt [2] rfl) ?_)
   refine awp_ret ?_
   obtain rfl := Option.some.inj h
   refine ⟨.inr rfl, bl false, rfl, ?_⟩
   exact Weak.e ⟨.k, trivial⟩
 ·rw [hb14]
  replace h := Sh.if_f h hb14
  refine AR.skip rfl <| AR.keep [1, 3, 26, 27] rfl <| AR.skip rfl <| AR.skip rfl <| AR.skip rfl <| AR.keep [1, 3, 26, 30] rfl <| AR.op rfl (aop_pick rfl rfl rfl) <| AR.op rfl (aop_move (.inl rfl) rfl) ?_
  refine AR.skip rfl <| AR.keep [1, 3, 32, 33] rfl <| AR.skip rfl <| AR.skip rfl <| AR.skip rfl <| AR.keep [1, 3, 32, 34, 36] rfl <| AR.skip rfl <| AR.skip rfl ?_
  refine AR.skip rfl <| AR.keep [32, 34, 36, 37, 39] rfl <| AR.skip rfl <| AR.skip rfl <| AR.op rfl (aop_pick rfl rfl rfl) <| AR.keep [42] rfl <| AR.op rfl (aop_move (.inr rfl) rfl) <| AR.nil ?_
  refine hK3 _ (AWP.weak (Weak.kt [2] rfl) ?_)
  refine awp_ret ?_
  obtain rfl := Option.some.inj h
  refine ⟨.inr rfl, bl false, rfl, ?_⟩
  exact Weak.e ⟨.k, trivial⟩
theorem fact_asked_forced_ok {W0 : World} (hT : Tab W0) {a_0 : G.fact_asked} {r : Bool} (h : G.fact_asked_forced a_0 = some r) : Fun1 Try.prog W0 54 [G.fact_asked.av a_0] (bl r) := Fun1.two (fact_asked_forced_ok0 hT h) (by simp)


theorem fact_reasons_ok {W0 : World} (hT : Tab W0) {r : Unit} (h : G.fact_reasons = some r) : Fun3 Try.prog (.pinned W0 0) 41 [] .empty (.clip [.agg [i64 1, .clo (.func 51) []], .agg [i64 2, .clo (.func 52) []], .agg [i64 3, .clo (.func 53) []], .agg [i64 4, .clo (.func 54) []]]) .empty := by
 refine fun3_of_awp rfl Try.func41 rfl (by kernel_rfl) Try.ntmps41 (by simp) ?_
 unfold G.fact_reasons at h
 show AWP _ _ _ _ ⟨[], .empty⟩ _
 refine awp_seqK fun K1 hK1 => awp_reg rfl <| AR.op rfl (aop_move (.inr rfl) rfl) <| AR.nil <| hK1 _ (AWP.weak (Weak.kt [] rfl) ?_)
 refine awp_seqK fun K2 hK2 => awp_reg rfl <| AR.op (r := .agg [i64 1, .clo (.func 51) []]) rfl (aop_build rfl bd84 rfl rfl rfl) <| AR.op (r := .agg [i64 2, .clo (.func 52) []]) rfl (aop_build rfl bd84 rfl rfl rfl) <| AR.op (r := .agg [i64 3, .clo (.func 53) []]) rfl (aop_build rfl bd84 rfl rfl rfl) <| AR.keep [1, 2, 3] rfl <| AR.op (r := .agg [i64 4, .clo (.func 54) []]) rfl (aop_build rfl bd84 rfl rfl rfl) <| AR.op (r := .clip [.agg [i64 1, .clo (.func 51) []], .agg [i64 2, .clo (.func 52) []], .agg [i64 3, .clo (.func 53) []], .agg [i64 4, .clo (.func 54) []]]) rfl (aop_buildSlice rfl (xo := [.tmp 1, .tmp 2, .tmp 3, .tmp 4]) rfl rfl rfl (by simp [AV.solid]) (by simp [AV.flat]) el80 ze80 (by decide)) ?_
 refine AR.op rfl (aop_move (.inr rfl) rfl) <| AR.nil <| hK2 _ (AWP.weak (Weak.kt [0] rfl) ?_)
 refine awp_ret ?_
 obtain rfl := Option.some.inj h
 refine ⟨.inr rfl, .clip [.agg [i64 1, .clo (.func 51) []], .agg [i64 2, .clo (.func 52) []], .agg [i64 3, .clo (.func 53) []], .agg [i64 4, .clo (.func 54) []]], rfl, ?_⟩
 exact Weak.e ⟨⟨.clip [.agg [i64 1, .clo (.func 51) []], .agg [i64 2, .clo (.func 52) []], .agg [i64 3, .clo (.func 53) []], .agg [i64 4, .clo (.func 54) []]], rfl, .sm⟩, trivial⟩


theorem fact_Holds_ok0 {W0 : World} (hT : Tab W0) {h_0 : G.api_Hist} {level_1 : Int} {l_2 : List G.fact_Fact} {f_3 : G.fact_Fact} {r : Bool} (h : G.fact_Holds h_0 level_1 l_2 f_3 = some r) : Fun2 Try.prog W0 27 [G.api_Hist.av h_0, i64 level_1, .sl (List.map G.fact_Fact.av l_2), G.fact_Fact.av f_3] (bl r) .empty := by
 refine fun2_of_awp Try.func27 rfl (by kernel_rfl) Try.ntmps27 (by simp) ?_
 unfold G.fact_Holds at h
 show AWP _ _ _ _ ⟨[(0, G.api_Hist.av h_0), (1, i64 level_1), (2, .sl (List.map G.fact_Fact.av l_2)), (3, G.fact_Fact.av f_3)], .empty⟩ _
 refine awp_seqK fun K1 hK1 => awp_reg rfl <| AR.op (r := .ref 0 0 0) rfl (aop_box 1 [G.api_Hist.av h_0] rfl rfl rfl (.inl ⟨rfl, rfl⟩)) <| AR.op (r := .ref 1 0 0) rfl (aop_box 7 [G.fact_Fact.av f_3] rfl rfl rfl (.inl ⟨rfl, rfl⟩)) <| AR.op rfl (aop_move (.inr rfl) rfl) <| AR.nil <| hK1 _ (AWP.weak (Weak.e (fr' := [(1, i64 level_1), (2, .sl (List.map G.fact_Fact.av l_2)), (4, .pp [.sl (List.map G.api_Txn.av h_0.Txns)] 0), (7, .pp [i64 f_3.C.Key, i64 f_3.C.A, i64 f_3.C.B, i64 f_3.Kind, i64 f_3.I, i64 f_3.J, .sl (List.map i64 f_3.Cycle)] 0)]) (H' := .empty) ⟨.k, ⟨.sl (List.map G.fact_Fact.av l_2), rfl, .sm⟩, ⟨_, rfl, .frzA rfl rfl rfl rfl (by simp)⟩, ⟨_, rfl, .frzA rfl rfl rfl rfl (by simp)⟩, trivial⟩) ?_)
 refine awp_seqK fun K2 hK2 => awp_seqJ (fun (p : Bool) => (⟨[(1, i64 level_1), (2, .sl (List.map G.fact_Fact.av l_2)), (4, .pp [.sl (List.map G.api_Txn.av h_0.Txns)] 0), (7, .pp [i64 f_3.C.Key, i64 f_3.C.A, i64 f_3.C.B, i64 f_3.Kind, i64 f_3.I, i64 f_3.J, .sl (List.map i64 f_3.Cycle)] 0), (32, bl p)], .empty⟩ : St)) (fun (p : Bool) => G.fact_Holds_j1 h_0 level_1 l_2 f_3 p = some r) ?_ ?_
 ·rintro v23 h
  replace h : G.fact_Holds_j1 h_0 level_1 l_2 f_3 v23 = some r := h
  unfold G.fact_Holds_j1 at h
  refine awp_cond rfl (fun hb24 => ?_) (fun hb24 => ?_)
  ·replace h := Sh.if_t h hb24
   refine awp_seqK fun K3 hK3 => awp_reg rfl <| AR.op rfl (aop_move (.inr rfl) rfl) <| AR.nil <| hK3 _ (AWP.weak (Weak.kt [8] rfl) ?_)
   refine awp_ret ?_
   obtain rfl := Option.some.inj h
   refine ⟨.inr rfl, bl false, rfl, ?_⟩
   exact Weak.e ⟨.k, trivial⟩
  ·replace h := Sh.if_f h hb24
   refine awp_skip <| hK2 _ (AWP.weak (Weak.kt [1, 2, 4, 7] rfl) ?_)
   refine awp_seqJ (fun (p : Unit) => (⟨[], .empty⟩ : St)) (fun (p : Unit) => G.fact_Holds_j2 = some r) ?_ ?_
   ·rintro ⟨⟩ h
    replace h : G.fact_Holds_j2 = some r := h
    unfold G.fact_Holds_j2 at h
    refine awp_seqK fun K4 hK4 => awp_reg rfl <| AR.op rfl (aop_move (.inr rfl) rfl) <| AR.nil <| hK4 _ ?_
    refine awp_ret ?_
    obtain rfl := Option.some.inj h
    refine ⟨.inr rfl, bl false, rfl, ?_⟩
    exact Weak.e ⟨.k, trivial⟩
   ·intro K5 hK5
    refine awp_seqK fun K6 hK6 => awp_reg rfl ?_
    obtain ⟨r31, hr31, h⟩ := Sh.bind_some' h
    refine AR.op (r := .clip [.agg [i64 1, .clo (.func 51) []], .agg [i64 2, .clo (.func 52) []], .agg [i64 3, .clo (.func 53) []], .agg [i64 4, .clo (.func 54) []]]) rfl (aop_call3E (ok := NoId) (ys := []) (xs := []) (r' := .clip [.agg [i64 1, .clo (.func 51) []], .agg [i64 2, .clo (.func 52) []], .agg [i64 3, .clo (.func 53) []], .agg [i64 4, .clo (.func 54) []]]) (Hs := ⟨0, [], []⟩) (H' := ⟨0, [], []⟩) (g := []) (m := []) (nw := []) (p := 0) (.func rfl rfl (fact_reasons_ok hT hr31).call) (fact_reasons_ok hT hr31) { next := rfl, part := trivial, inj := rfl, lt := rfl, nwf := rfl, gin := rfl, held := trivial, seen := trivial, inlps := rfl, ple := rfl, map := rfl, next' := rfl, back := trivial, lps := .inl ⟨rfl, rfl⟩, mode := .inr ⟨fun _ h => h, rfl⟩, ren := .sm } rfl) <| AR.op (r := i64 4) rfl ((aop_len rfl rfl rfl el80).conv rfl) <| AR.op rfl (aop_move (.inl rfl) rfl) <| AR.nil <| hK6 _ ?_
    refine awp_block <| awp_unr 5 ?_
    refine AWP.weak (Weak.kt [1, 2, 4, 7, 33, 34, 35] rfl) ?_
    refine awp_seqK fun K7 hK7 => awp_reg rfl <| AR.op (r := bl true) rfl ((aop_lss rfl rfl rfl).tt (by decide)) <| AR.nil <| hK7 _ ?_
    refine awp_seqK fun K8 hK8 => awp_cond_t rfl ?_
    refine awp_skip <| hK8 _ (AWP.weak (Weak.kt [1, 2, 4, 7, 33, 34, 35] rfl) ?_)
    refine awp_seqK fun K9 hK9 => awp_block <| awp_seqK fun K10 hK10 => awp_reg rfl <| AR.op rfl (aop_index_sl rfl rfl (.inr rfl) rfl el80 rfl rfl rfl) <| AR.op (r := .agg [i64 1, .clo (.func 51) []]) rfl (aop_load_pp rfl rfl sz84 rfl) <| AR.op (r := .ref 0 0 0) rfl (aop_alloc 2 [.agg [i64 0, .imm .nilFunc]] rfl zr84 (by kernel_rfl) (.inl ⟨rfl, rfl⟩)) <| AR.keep [1, 2, 4, 7, 33, 34, 35, 38, 10] rfl ?_
    refine AR.op rfl (aop_store (e' := .agg [i64 1, .clo (.func 51) []]) rfl rfl rfl rfl rfl rfl sz84 rfl dt rfl) <| AR.nil <| hK10 _ (AWP.weak (Weak.e (fr' := [(1, i64 level_1), (2, .sl (List.map G.fact_Fact.av l_2)), (4, .pp [.sl (List.map G.api_Txn.av h_0.Txns)] 0), (7, .pp [i64 f_3.C.Key, i64 f_3.C.A, i64 f_3.C.B, i64 f_3.Kind, i64 f_3.I, i64 f_3.J, .sl (List.map i64 f_3.Cycle)] 0), (33, .clip [.agg [i64 1, .clo (.func 51) []], .agg [i64 2, .clo (.func 52) []], .agg [i64 3, .clo (.func 53) []], .agg [i64 4, .clo (.func 54) []]]), (34, i64 4), (35, i64 0), (10, .pp [i64 1, .clo (.func 51) []] 0)]) (H' := .empty) ⟨.k, ⟨.sl (List.map G.fact_Fact.av l_2), rfl, .sm⟩, .k, .k, ⟨.clip [.agg [i64 1, .clo (.func 51) []], .agg [i64 2, .clo (.func 52) []], .agg [i64 3, .clo (.func 53) []], .agg [i64 4, .clo (.func 54) []]], rfl, .sm⟩, .k, .k, ⟨_, rfl, .frzA rfl rfl rfl rfl (by simp)⟩, trivial⟩) ?_)
    refine awp_seqK fun K11 hK11 => awp_reg rfl <| AR.op rfl (aop_field_pp rfl rfl fd84_0 (by decide)) <| AR.op (r := i64 1) rfl (aop_load_pp rfl rfl sz3 rfl) <| AR.op rfl (aop_field_pp rfl rfl fd38_1 (by decide)) <| AR.keep [1, 2, 4, 7, 33, 34, 35, 10, 40, 41] rfl <| AR.op (r := i64 f_3.Kind) rfl (aop_load_pp rfl rfl sz3 rfl) <| AR.op (r := bl (decide ((1 : Int) = f_3.Kind))) rfl (aop_eql rfl rfl rfl) ?_
    refine AR.nil <| hK11 _ (AWP.weak (Weak.kt [1, 2, 4, 7, 33, 34, 35, 10, 43] rfl) ?_)
    refine awp_cond rfl (fun hb37 => ?_) (fun hb37 => ?_)
    ·replace h := Sh.if_t h hb37
     refine awp_seqK fun K12 hK12 => awp_reg rfl <| AR.op rfl (aop_field_pp rfl rfl fd84_1 (by decide)) <| AR.op (r := .clo (.func 51) []) rfl (aop_load_pp rfl rfl sz82 rfl) <| AR.op (r := G.api_Hist.av h_0) rfl (aop_load_pp rfl rfl sz24 rfl) <| AR.keep [1, 2, 7, 45, 46] rfl <| AR.op rfl (aop_move (.inl rfl) rfl) <| AR.op rfl (aop_move (.inl rfl) rfl) ?_
     refine AR.op (r := G.fact_Fact.av f_3) rfl (aop_load_pp rfl rfl sz38 rfl) <| AR.keep [45, 46, 47, 48, 49] rfl <| AR.op (r := .agg [.sl (List.map G.api_Txn.av h_0.Txns), i64 level_1, .sl (List.map G.fact_Fact.av l_2), i64 f_3.C.Key, i64 f_3.C.A, i64 f_3.C.B, i64 f_3.Kind, i64 f_3.I, i64 f_3.J, .sl (List.map i64 f_3.Cycle)]) rfl (aop_build rfl bd86 rfl rfl rfl) ?_
     obtain ⟨r39, hr39, h⟩ := Sh.bind_some' h
     refine AR.op (r := bl r39) rfl (aop_callNE (ys := [.agg [.sl (List.map G.api_Txn.av h_0.Txns), i64 level_1, .sl (List.map G.fact_Fact.av l_2), i64 f_3.C.Key, i64 f_3.C.A, i64 f_3.C.B, i64 f_3.Kind, i64 f_3.I, i64 f_3.J, .sl (List.map i64 f_3.Cycle)]]) (xs := [G.fact_asked.av (G.fact_asked.mk (G.api_Hist.mk h_0.Txns) level_1 l_2 (G.fact_Fact.mk (G.api_Choice.mk f_3.C.Key f_3.C.A f_3.C.B) f_3.Kind f_3.I f_3.J f_3.Cycle))]) (.clo (ys := [.agg [.sl (List.map G.api_Txn.av h_0.Txns), i64 level_1, .sl (List.map G.fact_Fact.av l_2), i64 f_3.C.Key, i64 f_3.C.A, i64 f_3.C.B, i64 f_3.Kind, i64 f_3.I, i64 f_3.J, .sl (List.map i64 f_3.Cycle)]]) (caps := []) rfl rfl rfl (fact_asked_axiom_ok hT hr39).call) (Weak.e (fr' := argsFr 0 [G.fact_asked.av (G.fact_asked.mk (G.api_Hist.mk h_0.Txns) level_1 l_2 (G.fact_Fact.mk (G.api_Choice.mk f_3.C.Key f_3.C.A f_3.C.B) f_3.Kind f_3.I f_3.J f_3.Cycle))]) (H' := .empty) ⟨⟨.agg [.sl (List.map G.api_Txn.av h_0.Txns), i64 level_1, .sl (List.map G.fact_Fact.av l_2), i64 f_3.C.Key, i64 f_3.C.A, i64 f_3.C.B, i64 f_3.Kind, i64 f_3.I, i64 f_3.J, .sl (List.map i64 f_3.Cycle)], rfl, .sm⟩, trivial⟩) rfl (by simp) (fact_asked_axiom_ok hT hr39)) <| AR.op rfl (aop_move (.inr rfl) rfl) <| AR.nil <| hK12 _ (AWP.weak (Weak.kt [8] rfl) ?_)
     refine awp_ret ?_
     obtain rfl := Option.some.inj h
     refine ⟨.inr rfl, bl r39, rfl, ?_⟩
     exact Weak.e ⟨.k, trivial⟩
    ·replace h := Sh.if_f h hb37
     refine awp_skip <| hK9 _ (AWP.weak (Weak.kt [1, 2, 4, 7, 33, 34, 35] rfl) ?_)
     refine awp_reg rfl <| AR.op (r := i64 1) rfl ((aop_add rfl rfl rfl rfl).conv (congrArg i64 (by decide))) <| AR.op rfl (aop_move (.inl rfl) rfl) <| AR.nil <| awp_unrS ?_
     refine AWP.weak (Weak.kt [1, 2, 4, 7, 33, 34, 35] rfl) ?_
     refine awp_seqK fun K13 hK13 => awp_reg rfl <| AR.op (r := bl true) rfl ((aop_lss rfl rfl rfl).tt (by decide)) <| AR.nil <| hK13 _ ?_
     refine awp_seqK fun K14 hK14 => awp_cond_t rfl ?_
     refine awp_skip <| hK14 _ (AWP.weak (Weak.kt [1, 2, 4, 7, 33, 34, 35] rfl) ?_)
     refine awp_seqK fun K15 hK15 => awp_block <| awp_seqK fun K16 hK16 => awp_reg rfl <| AR.op rfl (aop_index_sl rfl rfl (.inr rfl) rfl el80 rfl rfl rfl) <| AR.op (r := .agg [i64 2, .clo (.func 52) []]) rfl (aop_load_pp rfl rfl sz84 rfl) <| AR.op (r := .ref 0 0 0) rfl (aop_alloc 2 [.agg [i64 0, .imm .nilFunc]] rfl zr84 (by kernel_rfl) (.inl ⟨rfl, rfl⟩)) <| AR.keep [1, 2, 4, 7, 33, 34, 35, 38, 10] rfl ?_
     refine AR.op rfl (aop_store (e' := .agg [i64 2, .clo (.func 52) []]) rfl rfl rfl rfl rfl rfl sz84 rfl dt rfl) <| AR.nil <| hK16 _ (AWP.weak (Weak.e (fr' := [(1, i64 level_1), (2, .sl (List.map G.fact_Fact.av l_2)), (4, .pp [.sl (List.map G.api_Txn.av h_0.Txns)] 0), (7, .pp [i64 f_3.C.Key, i64 f_3.C.A, i64 f_3.C.B, i64 f_3.Kind, i64 f_3.I, i64 f_3.J, .sl (List.map i64 f_3.Cycle)] 0), (33, .clip [.agg [i64 1, .clo (.func 51) []], .agg [i64 2, .clo (.func 52) []], .agg [i64 3, .clo (.func 53) []], .agg [i64 4, .clo (.func 54) []]]), (34, i64 4), (35, i64 1), (10, .pp [i64 2, .clo (.func 52) []] 0)]) (H' := .empty) ⟨.k, ⟨.sl (List.map G.fact_Fact.av l_2), rfl, .sm⟩, .k, .k, ⟨.clip [.agg [i64 1, .clo (.func 51) []], .agg [i64 2, .clo (.func 52) []], .agg [i64 3, .clo (.func 53) []], .agg [i64 4, .clo (.func 54) []]], rfl, .sm⟩, .k, .k, ⟨_, rfl, .frzA rfl rfl rfl rfl (by simp)⟩, trivial⟩) ?_)
     refine awp_seqK fun K17 hK17 => awp_reg rfl <| AR.op rfl (aop_field_pp rfl rfl fd84_0 (by decide)) <| AR.op (r := i64 2) rfl (aop_load_pp rfl rfl sz3 rfl) <| AR.op rfl (aop_field_pp rfl rfl fd38_1 (by decide)) <| AR.keep [1, 2, 4, 7, 33, 34, 35, 10, 40, 41] rfl <| AR.op (r := i64 f_3.Kind) rfl (aop_load_pp rfl rfl sz3 rfl) <| AR.op (r := bl (decide ((2 : Int) = f_3.Kind))) rfl (aop_eql rfl rfl rfl) ?_
     refine AR.nil <| hK17 _ (AWP.weak (Weak.kt [1, 2, 4, 7, 33, 34, 35, 10, 43] rfl) ?_)
     refine awp_cond rfl (fun hb41 => ?_) (fun hb41 => ?_)
     ·replace h := Sh.if_t h hb41
      refine awp_seqK fun K18 hK18 => awp_reg rfl <| AR.op rfl (aop_field_pp rfl rfl fd84_1 (by decide)) <| AR.op (r := .clo (.func 52) []) rfl (aop_load_pp rfl rfl sz82 rfl) <| AR.op (r := G.api_Hist.av h_0) rfl (aop_load_pp rfl rfl sz24 rfl) <| AR.keep [1, 2, 7, 45, 46] rfl <| AR.op rfl (aop_move (.inl rfl) rfl) <| AR.op rfl (aop_move (.inl rfl) rfl) ?_
      refine AR.op (r := G.fact_Fact.av f_3) rfl (aop_load_pp rfl rfl sz38 rfl) <| AR.keep [45, 46, 47, 48, 49] rfl <| AR.op (r := .agg [.sl (List.map G.api_Txn.av h_0.Txns), i64 level_1, .sl (List.map G.fact_Fact.av l_2), i64 f_3.C.Key, i64 f_3.C.A, i64 f_3.C.B, i64 f_3.Kind, i64 f_3.I, i64 f_3.J, .sl (List.map i64 f_3.Cycle)]) rfl (aop_build rfl bd86 rfl rfl rfl) ?_
      obtain ⟨r43, hr43, h⟩ := Sh.bind_some' h
      refine AR.op (r := bl r43) rfl (aop_callNE (ys := [.agg [.sl (List.map G.api_Txn.av h_0.Txns), i64 level_1, .sl (List.map G.fact_Fact.av l_2), i64 f_3.C.Key, i64 f_3.C.A, i64 f_3.C.B, i64 f_3.Kind, i64 f_3.I, i64 f_3.J, .sl (List.map i64 f_3.Cycle)]]) (xs := [G.fact_asked.av (G.fact_asked.mk (G.api_Hist.mk h_0.Txns) level_1 l_2 (G.fact_Fact.mk (G.api_Choice.mk f_3.C.Key f_3.C.A f_3.C.B) f_3.Kind f_3.I f_3.J f_3.Cycle))]) (.clo (ys := [.agg [.sl (List.map G.api_Txn.av h_0.Txns), i64 level_1, .sl (List.map G.fact_Fact.av l_2), i64 f_3.C.Key, i64 f_3.C.A, i64 f_3.C.B, i64 f_3.Kind, i64 f_3.I, i64 f_3.J, .sl (List.map i64 f_3.Cycle)]]) (caps := []) rfl rfl rfl (fact_asked_joined_ok hT hr43).call) (Weak.e (fr' := argsFr 0 [G.fact_asked.av (G.fact_asked.mk (G.api_Hist.mk h_0.Txns) level_1 l_2 (G.fact_Fact.mk (G.api_Choice.mk f_3.C.Key f_3.C.A f_3.C.B) f_3.Kind f_3.I f_3.J f_3.Cycle))]) (H' := .empty) ⟨⟨.agg [.sl (List.map G.api_Txn.av h_0.Txns), i64 level_1, .sl (List.map G.fact_Fact.av l_2), i64 f_3.C.Key, i64 f_3.C.A, i64 f_3.C.B, i64 f_3.Kind, i64 f_3.I, i64 f_3.J, .sl (List.map i64 f_3.Cycle)], rfl, .sm⟩, trivial⟩) rfl (by simp) (fact_asked_joined_ok hT hr43)) <| AR.op rfl (aop_move (.inr rfl) rfl) <| AR.nil <| hK18 _ (AWP.weak (Weak.kt [8] rfl) ?_)
      refine awp_ret ?_
      obtain rfl := Option.some.inj h
      refine ⟨.inr rfl, bl r43, rfl, ?_⟩
      exact Weak.e ⟨.k, trivial⟩
     ·replace h := Sh.if_f h hb41
      refine awp_skip <| hK15 _ (AWP.weak (Weak.kt [1, 2, 4, 7, 33, 34, 35] rfl) ?_)
      refine awp_reg rfl <| AR.op (r := i64 2) rfl ((aop_add rfl rfl rfl rfl).conv (congrArg i64 (by decide))) <| AR.op rfl (aop_move (.inl rfl) rfl) <| AR.nil <| awp_unrS ?_
      refine AWP.weak (Weak.kt [1, 2, 4, 7, 33, 34, 35] rfl) ?_
      refine awp_seqK fun K19 hK19 => awp_reg rfl <| AR.op (r := bl true) rfl ((aop_lss rfl rfl rfl).tt (by decide)) <| AR.nil <| hK19 _ ?_
      refine awp_seqK fun K20 hK20 => awp_cond_t rfl ?_
      refine awp_skip <| hK20 _ (AWP.weak (Weak.kt [1, 2, 4, 7, 33, 34, 35] rfl) ?_)
      refine awp_seqK fun K21 hK21 => awp_block <| awp_seqK fun K22 hK22 => awp_reg rfl <| AR.op rfl (aop_index_sl rfl rfl (.inr rfl) rfl el80 rfl rfl rfl) <| AR.op (r := .agg [i64 3, .clo (.func 53) []]) rfl (aop_load_pp rfl rfl sz84 rfl) <| AR.op (r := .ref 0 0 0) rfl (aop_alloc 2 [.agg [i64 0, .imm .nilFunc]] rfl zr84 (by kernel_rfl) (.inl ⟨rfl, rfl⟩)) <| AR.keep [1, 2, 4, 7, 33, 34, 35, 38, 10] rfl ?_
      refine AR.op rfl (aop_store (e' := .agg [i64 3, .clo (.func 53) []]) rfl rfl rfl rfl rfl rfl sz84 rfl dt rfl) <| AR.nil <| hK22 _ (AWP.weak (Weak.e (fr' := [(1, i64 level_1), (2, .sl (List.map G.fact_Fact.av l_2)), (4, .pp [.sl (List.map G.api_Txn.av h_0.Txns)] 0), (7, .pp [i64 f_3.C.Key, i64 f_3.C.A, i64 f_3.C.B, i64 f_3.Kind, i64 f_3.I, i64 f_3.J, .sl (List.map i64 f_3.Cycle)] 0), (33, .clip [.agg [i64 1, .clo (.func 51) []], .agg [i64 2, .clo (.func 52) []], .agg [i64 3, .clo (.func 53) []], .agg [i64 4, .clo (.func 54) []]]), (34, i64 4), (35, i64 2), (10, .pp [i64 3, .clo (.func 53) []] 0)]) (H' := .empty) ⟨.k, ⟨.sl (List.map G.fact_Fact.av l_2), rfl, .sm⟩, .k, .k, ⟨.clip [.agg [i64 1, .clo (.func 51) []], .agg [i64 2, .clo (.func 52) []], .agg [i64 3, .clo (.func 53) []], .agg [i64 4, .clo (.func 54) []]], rfl, .sm⟩, .k, .k, ⟨_, rfl, .frzA rfl rfl rfl rfl (by simp)⟩, trivial⟩) ?_)
      refine awp_seqK fun K23 hK23 => awp_reg rfl <| AR.op rfl (aop_field_pp rfl rfl fd84_0 (by decide)) <| AR.op (r := i64 3) rfl (aop_load_pp rfl rfl sz3 rfl) <| AR.op rfl (aop_field_pp rfl rfl fd38_1 (by decide)) <| AR.keep [1, 2, 4, 7, 33, 34, 35, 10, 40, 41] rfl <| AR.op (r := i64 f_3.Kind) rfl (aop_load_pp rfl rfl sz3 rfl) <| AR.op (r := bl (decide ((3 : Int) = f_3.Kind))) rfl (aop_eql rfl rfl rfl) ?_
      refine AR.nil <| hK23 _ (AWP.weak (Weak.kt [1, 2, 4, 7, 33, 34, 35, 10, 43] rfl) ?_)
      refine awp_cond rfl (fun hb45 => ?_) (fun hb45 => ?_)
      ·replace h := Sh.if_t h hb45
       refine awp_seqK fun K24 hK24 => awp_reg rfl <| AR.op rfl (aop_field_pp rfl rfl fd84_1 (by decide)) <| AR.op (r := .clo (.func 53) []) rfl (aop_load_pp rfl rfl sz82 rfl) <| AR.op (r := G.api_Hist.av h_0) rfl (aop_load_pp rfl rfl sz24 rfl) <| AR.keep [1, 2, 7, 45, 46] rfl <| AR.op rfl (aop_move (.inl rfl) rfl) <| AR.op rfl (aop_move (.inl rfl) rfl) ?_
       refine AR.op (r := G.fact_Fact.av f_3) rfl (aop_load_pp rfl rfl sz38 rfl) <| AR.keep [45, 46, 47, 48, 49] rfl <| AR.op (r := .agg [.sl (List.map G.api_Txn.av h_0.Txns), i64 level_1, .sl (List.map G.fact_Fact.av l_2), i64 f_3.C.Key, i64 f_3.C.A, i64 f_3.C.B, i64 f_3.Kind, i64 f_3.I, i64 f_3.J, .sl (List.map i64 f_3.Cycle)]) rfl (aop_build rfl bd86 rfl rfl rfl) ?_
       obtain ⟨r47, hr47, h⟩ := Sh.bind_some' h
       refine AR.op (r := bl r47) rfl (aop_callNE (ys := [.agg [.sl (List.map G.api_Txn.av h_0.Txns), i64 level_1, .sl (List.map G.fact_Fact.av l_2), i64 f_3.C.Key, i64 f_3.C.A, i64 f_3.C.B, i64 f_3.Kind, i64 f_3.I, i64 f_3.J, .sl (List.map i64 f_3.Cycle)]]) (xs := [G.fact_asked.av (G.fact_asked.mk (G.api_Hist.mk h_0.Txns) level_1 l_2 (G.fact_Fact.mk (G.api_Choice.mk f_3.C.Key f_3.C.A f_3.C.B) f_3.Kind f_3.I f_3.J f_3.Cycle))]) (.clo (ys := [.agg [.sl (List.map G.api_Txn.av h_0.Txns), i64 level_1, .sl (List.map G.fact_Fact.av l_2), i64 f_3.C.Key, i64 f_3.C.A, i64 f_3.C.B, i64 f_3.Kind, i64 f_3.I, i64 f_3.J, .sl (List.map i64 f_3.Cycle)]]) (caps := []) rfl rfl rfl (fact_asked_seen_ok hT hr47).call) (Weak.e (fr' := argsFr 0 [G.fact_asked.av (G.fact_asked.mk (G.api_Hist.mk h_0.Txns) level_1 l_2 (G.fact_Fact.mk (G.api_Choice.mk f_3.C.Key f_3.C.A f_3.C.B) f_3.Kind f_3.I f_3.J f_3.Cycle))]) (H' := .empty) ⟨⟨.agg [.sl (List.map G.api_Txn.av h_0.Txns), i64 level_1, .sl (List.map G.fact_Fact.av l_2), i64 f_3.C.Key, i64 f_3.C.A, i64 f_3.C.B, i64 f_3.Kind, i64 f_3.I, i64 f_3.J, .sl (List.map i64 f_3.Cycle)], rfl, .sm⟩, trivial⟩) rfl (by simp) (fact_asked_seen_ok hT hr47)) <| AR.op rfl (aop_move (.inr rfl) rfl) <| AR.nil <| hK24 _ (AWP.weak (Weak.kt [8] rfl) ?_)
       refine awp_ret ?_
       obtain rfl := Option.some.inj h
       refine ⟨.inr rfl, bl r47, rfl, ?_⟩
       exact Weak.e ⟨.k, trivial⟩
      ·replace h := Sh.if_f h hb45
       refine awp_skip <| hK21 _ (AWP.weak (Weak.kt [1, 2, 4, 7, 33, 34, 35] rfl) ?_)
       refine awp_reg rfl <| AR.op (r := i64 3) rfl ((aop_add rfl rfl rfl rfl).conv (congrArg i64 (by decide))) <| AR.op rfl (aop_move (.inl rfl) rfl) <| AR.nil <| awp_unrS ?_
       refine AWP.weak (Weak.kt [1, 2, 4, 7, 33, 34, 35] rfl) ?_
       refine awp_seqK fun K25 hK25 => awp_reg rfl <| AR.op (r := bl true) rfl ((aop_lss rfl rfl rfl).tt (by decide)) <| AR.nil <| hK25 _ ?_
       refine awp_seqK fun K26 hK26 => awp_cond_t rfl ?_
       refine awp_skip <| hK26 _ (AWP.weak (Weak.kt [1, 2, 4, 7, 33, 34, 35] rfl) ?_)
       refine awp_seqK fun K27 hK27 => awp_block <| awp_seqK fun K28 hK28 => awp_reg rfl <| AR.op rfl (aop_index_sl rfl rfl (.inr rfl) rfl el80 rfl rfl rfl) <| AR.op (r := .agg [i64 4, .clo (.func 54) []]) rfl (aop_load_pp rfl rfl sz84 rfl) <| AR.op (r := .ref 0 0 0) rfl (aop_alloc 2 [.agg [i64 0, .imm .nilFunc]] rfl zr84 (by kernel_rfl) (.inl ⟨rfl, rfl⟩)) <| AR.keep [1, 2, 4, 7, 33, 34, 35, 38, 10] rfl ?_
       refine AR.op rfl (aop_store (e' := .agg [i64 4, .clo (.func 54) []]) rfl rfl rfl rfl rfl rfl sz84 rfl dt rfl) <| AR.nil <| hK28 _ (AWP.weak (Weak.e (fr' := [(1, i64 level_1), (2, .sl (List.map G.fact_Fact.av l_2)), (4, .pp [.sl (List.map G.api_Txn.av h_0.Txns)] 0), (7, .pp [i64 f_3.C.Key, i64 f_3.C.A, i64 f_3.C.B, i64 f_3.Kind, i64 f_3.I, i64 f_3.J, .sl (List.map i64 f_3.Cycle)] 0), (33, .clip [.agg [i64 1, .clo (.func 51) []], .agg [i64 2, .clo (.func 52) []], .agg [i64 3, .clo (.func 53) []], .agg [i64 4, .clo (.func 54) []]]), (34, i64 4), (35, i64 3), (10, .pp [i64 4, .clo (.func 54) []] 0)]) (H' := .empty) ⟨.k, ⟨.sl (List.map G.fact_Fact.av l_2), rfl, .sm⟩, .k, .k, ⟨.clip [.agg [i64 1, .clo (.func 51) []], .agg [i64 2, .clo (.func 52) []], .agg [i64 3, .clo (.func 53) []], .agg [i64 4, .clo (.func 54) []]], rfl, .sm⟩, .k, .k, ⟨_, rfl, .frzA rfl rfl rfl rfl (by simp)⟩, trivial⟩) ?_)
       refine awp_seqK fun K29 hK29 => awp_reg rfl <| AR.op rfl (aop_field_pp rfl rfl fd84_0 (by decide)) <| AR.op (r := i64 4) rfl (aop_load_pp rfl rfl sz3 rfl) <| AR.op rfl (aop_field_pp rfl rfl fd38_1 (by decide)) <| AR.keep [1, 2, 4, 7, 33, 34, 35, 10, 40, 41] rfl <| AR.op (r := i64 f_3.Kind) rfl (aop_load_pp rfl rfl sz3 rfl) <| AR.op (r := bl (decide ((4 : Int) = f_3.Kind))) rfl (aop_eql rfl rfl rfl) ?_
       refine AR.nil <| hK29 _ (AWP.weak (Weak.kt [1, 2, 4, 7, 33, 34, 35, 10, 43] rfl) ?_)
       refine awp_cond rfl (fun hb49 => ?_) (fun hb49 => ?_)
       ·replace h := Sh.if_t h hb49
        refine awp_seqK fun K30 hK30 => awp_reg rfl <| AR.op rfl (aop_field_pp rfl rfl fd84_1 (by decide)) <| AR.op (r := .clo (.func 54) []) rfl (aop_load_pp rfl rfl sz82 rfl) <| AR.op (r := G.api_Hist.av h_0) rfl (aop_load_pp rfl rfl sz24 rfl) <| AR.keep [1, 2, 7, 45, 46] rfl <| AR.op rfl (aop_move (.inl rfl) rfl) <| AR.op rfl (aop_move (.inl rfl) rfl) ?_
        refine AR.op (r := G.fact_Fact.av f_3) rfl (aop_load_pp rfl rfl sz38 rfl) <| AR.keep [45, 46, 47, 48, 49] rfl <| AR.op (r := .agg [.sl (List.map G.api_Txn.av h_0.Txns), i64 level_1, .sl (List.map G.fact_Fact.av l_2), i64 f_3.C.Key, i64 f_3.C.A, i64 f_3.C.B, i64 f_3.Kind, i64 f_3.I, i64 f_3.J, .sl (List.map i64 f_3.Cycle)]) rfl (aop_build rfl bd86 rfl rfl rfl) ?_
        obtain ⟨r51, hr51, h⟩ := Sh.bind_some' h
        refine AR.op (r := bl r51) rfl (aop_callNE (ys := [.agg [.sl (List.map G.api_Txn.av h_0.Txns), i64 level_1, .sl (List.map G.fact_Fact.av l_2), i64 f_3.C.Key, i64 f_3.C.A, i64 f_3.C.B, i64 f_3.Kind, i64 f_3.I, i64 f_3.J, .sl (List.map i64 f_3.Cycle)]]) (xs := [G.fact_asked.av (G.fact_asked.mk (G.api_Hist.mk h_0.Txns) level_1 l_2 (G.fact_Fact.mk (G.api_Choice.mk f_3.C.Key f_3.C.A f_3.C.B) f_3.Kind f_3.I f_3.J f_3.Cycle))]) (.clo (ys := [.agg [.sl (List.map G.api_Txn.av h_0.Txns), i64 level_1, .sl (List.map G.fact_Fact.av l_2), i64 f_3.C.Key, i64 f_3.C.A, i64 f_3.C.B, i64 f_3.Kind, i64 f_3.I, i64 f_3.J, .sl (List.map i64 f_3.Cycle)]]) (caps := []) rfl rfl rfl (fact_asked_forced_ok hT hr51).call) (Weak.e (fr' := argsFr 0 [G.fact_asked.av (G.fact_asked.mk (G.api_Hist.mk h_0.Txns) level_1 l_2 (G.fact_Fact.mk (G.api_Choice.mk f_3.C.Key f_3.C.A f_3.C.B) f_3.Kind f_3.I f_3.J f_3.Cycle))]) (H' := .empty) ⟨⟨.agg [.sl (List.map G.api_Txn.av h_0.Txns), i64 level_1, .sl (List.map G.fact_Fact.av l_2), i64 f_3.C.Key, i64 f_3.C.A, i64 f_3.C.B, i64 f_3.Kind, i64 f_3.I, i64 f_3.J, .sl (List.map i64 f_3.Cycle)], rfl, .sm⟩, trivial⟩) rfl (by simp) (fact_asked_forced_ok hT hr51)) <| AR.op rfl (aop_move (.inr rfl) rfl) <| AR.nil <| hK30 _ (AWP.weak (Weak.kt [8] rfl) ?_)
        refine awp_ret ?_
        obtain rfl := Option.some.inj h
        refine ⟨.inr rfl, bl r51, rfl, ?_⟩
        exact Weak.e ⟨.k, trivial⟩
       ·replace h := Sh.if_f h hb49
        refine awp_skip <| hK27 _ (AWP.weak (Weak.kt [1, 2, 4, 7, 33, 34, 35] rfl) ?_)
        refine awp_reg rfl <| AR.op (r := i64 4) rfl ((aop_add rfl rfl rfl rfl).conv (congrArg i64 (by decide))) <| AR.op rfl (aop_move (.inl rfl) rfl) <| AR.nil <| awp_unrS ?_
        refine AWP.weak (Weak.kt [1, 2, 4, 7, 33, 34, 35] rfl) ?_
        refine awp_seqK fun K31 hK31 => awp_reg rfl <| AR.op (r := bl false) rfl ((aop_lss rfl rfl rfl).ff (by decide)) <| AR.nil <| hK31 _ ?_
        refine awp_seqK fun K32 hK32 => awp_cond_f rfl ?_
        refine awp_exit ?_
        exact hK5 () _ h (Weak.kt [] rfl)
 ·intro K33 hK33
  refine awp_reg rfl <| AR.op (r := G.api_Hist.av h_0) rfl (aop_load_pp rfl rfl sz24 rfl) <| AR.op rfl (aop_move (.inl rfl) rfl) ?_
  obtain ⟨r52, hr52, h⟩ := Sh.bind_some' h
  refine AR.op (r := bl r52) rfl (aop_call1 rfl rfl (by simp) (fact_may_ok hT hr52)) <| AR.keep [1, 2, 4, 7, 13] rfl <| AR.op (r := bl (!r52)) rfl (aop_not rfl rfl) <| AR.op rfl (aop_move (.inl rfl) rfl) ?_
  rcases Bool.eq_false_or_eq_true (!r52) with hb53 | hb53
  ·rw [hb53]
   replace h := Sh.if_t h hb53
   refine AR.skip rfl <| AR.keep [1, 2, 4, 7, 15, 16] rfl <| AR.skip rfl <| AR.skip rfl <| AR.skip rfl <| AR.keep [1, 2, 4, 7, 15, 19] rfl <| AR.skip rfl <| AR.op rfl (aop_pick rfl rfl rfl) ?_
   refine AR.op rfl (aop_move (.inl rfl) rfl) <| AR.keep [1, 2, 4, 7, 22] rfl <| AR.skip rfl <| AR.skip rfl <| AR.skip rfl <| AR.keep [1, 2, 4, 7, 22, 25] rfl <| AR.skip rfl <| AR.skip rfl ?_
   refine AR.skip rfl <| AR.keep [1, 2, 4, 7, 22, 26, 28] rfl <| AR.skip rfl <| AR.skip rfl <| AR.skip rfl <| AR.keep [1, 2, 4, 7, 22, 31] rfl <| AR.op rfl (aop_pick rfl rfl rfl) <| AR.nil ?_
   exact hK33 true _ h (Weak.kt [1, 2, 4, 7, 32] rfl)
  ·rw [hb53]
   replace h := Sh.if_f h hb53
   refine AR.op (r := G.api_Hist.av h_0) rfl (aop_load_pp rfl rfl sz24 rfl) <| AR.keep [1, 2, 4, 7, 15, 16] rfl <| AR.op rfl (aop_field_pp rfl rfl fd38_0 (by decide)) <| AR.op (r := G.api_Choice.av f_3.C) rfl (aop_load_pp rfl rfl sz35 rfl) ?_
   obtain ⟨r54, hr54, h⟩ := Sh.bind_some' h
   refine AR.op (r := bl r54) rfl (aop_call1 rfl rfl (by simp) (fact_choice_ok hT hr54)) <| AR.keep [1, 2, 4, 7, 15, 19] rfl <| AR.op (r := bl (!r54)) rfl (aop_not rfl rfl) <| AR.op rfl (aop_pick rfl rfl rfl) <| AR.op rfl (aop_move (.inl rfl) rfl) <| AR.keep [1, 2, 4, 7, 22] rfl ?_
   rcases Bool.eq_false_or_eq_true (!r54) with hb55 | hb55
   ·rw [hb55]
    replace h := Sh.if_t h hb55
    refine AR.skip rfl <| AR.skip rfl <| AR.skip rfl <| AR.keep [1, 2, 4, 7, 22, 25] rfl <| AR.skip rfl <| AR.skip rfl <| AR.skip rfl <| AR.keep [1, 2, 4, 7, 22, 26, 28] rfl ?_
    refine AR.skip rfl <| AR.skip rfl <| AR.skip rfl <| AR.keep [1, 2, 4, 7, 22, 31] rfl <| AR.op rfl (aop_pick rfl rfl rfl) <| AR.nil ?_
    exact hK33 true _ h (Weak.kt [1, 2, 4, 7, 32] rfl)
   ·rw [hb55]
    replace h := Sh.if_f h hb55
    refine AR.op rfl (aop_field_pp rfl rfl fd38_1 (by decide)) <| AR.op (r := i64 f_3.Kind) rfl (aop_load_pp rfl rfl sz3 rfl) <| AR.op (r := bl (decide (f_3.Kind ≠ 4))) rfl (aop_neq rfl rfl rfl) <| AR.keep [1, 2, 4, 7, 22, 25] rfl <| AR.op rfl (aop_move (.inl rfl) rfl) ?_
    rcases Bool.eq_false_or_eq_true (decide (f_3.Kind ≠ 4)) with hb56 | hb56
    ·rw [hb56]
     replace h := Sh.if_t h hb56
     refine AR.op rfl (aop_field_pp rfl rfl fd38_4 (by decide)) <| AR.op (r := .sl (List.map i64 f_3.Cycle)) rfl (aop_load_pp rfl rfl sz36 rfl) <| AR.keep [1, 2, 4, 7, 22, 26, 28] rfl <| AR.op rfl (t_len_sl i64 f_3.Cycle rfl rfl el36) <| AR.op rfl (aop_gtr rfl rfl rfl) <| AR.op rfl (aop_pick rfl rfl rfl) <| AR.keep [1, 2, 4, 7, 22, 31] rfl <| AR.op rfl (aop_pick rfl rfl rfl) ?_
     refine AR.nil ?_
     exact hK33 (decide ((0 : Int) < (Sh.len f_3.Cycle))) _ h (Weak.kt [1, 2, 4, 7, 32] rfl)
    ·rw [hb56]
     replace h := Sh.if_f h hb56
     refine AR.skip rfl <| AR.skip rfl <| AR.keep [1, 2, 4, 7, 22, 26, 28] rfl <| AR.skip rfl <| AR.skip rfl <| AR.op rfl (aop_pick rfl rfl rfl) <| AR.keep [1, 2, 4, 7, 22, 31] rfl <| AR.op rfl (aop_pick rfl rfl rfl) ?_
     refine AR.nil ?_
     exact hK33 false _ h (Weak.kt [1, 2, 4, 7, 32] rfl)
theorem fact_Holds_ok {W0 : World} (hT : Tab W0) {h_0 : G.api_Hist} {level_1 : Int} {l_2 : List G.fact_Fact} {f_3 : G.fact_Fact} {r : Bool} (h : G.fact_Holds h_0 level_1 l_2 f_3 = some r) : Fun1 Try.prog W0 27 [G.api_Hist.av h_0, i64 level_1, .sl (List.map G.fact_Fact.av l_2), G.fact_Fact.av f_3] (bl r) := Fun1.two (fact_Holds_ok0 hT h) (by simp)

end Wk
