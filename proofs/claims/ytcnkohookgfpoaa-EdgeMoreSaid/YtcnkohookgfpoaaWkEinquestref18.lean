/- That the functions of a package do what their plain functions say. -/
import Derived.Test.YtcnkohookgfpoaaSh
import Derived.Test.YtcnkohookgfpoaaWkEFacts
import Derived.Test.YtcnkohookgfpoaaWkEinquestref08
open Go Go.Av Go.Proofs
set_option linter.unusedVariables false
namespace Wk
set_option maxHeartbeats 8000000 in
set_option maxRecDepth 20000 in
theorem inquestref18_One_ok0 {W0 : World} (hT : Tab W0) {h_0 : G.api_Hist} {c_1 : G.api_Choice} {r : Bool} (h : G.inquestref18_One h_0 c_1 = some r) : Fun2 Try.prog W0 32 [G.api_Hist.av h_0, G.api_Choice.av c_1] (bl r) .empty := by
  refine fun2_of_awp Try.func32 rfl (by kernel_rfl) Try.ntmps32 (by simp) ?_
  unfold G.inquestref18_One at h
  show AWP _ _ _ _ ⟨[(0, G.api_Hist.av h_0), (1, G.api_Choice.av c_1)], .empty⟩ _
  refine awp_seqK fun K1 hK1 => ?_
  refine awp_reg rfl ?_
  refine AR.op (r := .ref 0 0 0) rfl (aop_box 1 [G.api_Hist.av h_0] rfl rfl rfl (.inl ⟨rfl, rfl⟩)) ?_
  refine AR.op (r := .ref 1 0 0) rfl (aop_box 3 [G.api_Choice.av c_1] rfl rfl rfl (.inl ⟨rfl, rfl⟩)) ?_
  refine AR.op (r := bl false) rfl (aop_move (.inr rfl) rfl) ?_
  refine AR.nil ?_
  refine hK1 _ (AWP.weak (Weak.re (fr' := [(2, .pp [.sl (List.map G.api_Txn.av h_0.Txns)] 0), (3, .pp [i64 c_1.Key, i64 c_1.A, i64 c_1.B] 0)]) (H' := .empty) [] [] rfl rfl rfl (trivial) ⟨⟨_, rfl, .frzA rfl rfl rfl rfl (by simp)⟩, ⟨_, rfl, .frzA rfl rfl rfl rfl (by simp)⟩, trivial⟩) ?_)
  clear hK1 K1
  refine awp_seqK fun K2 hK2 => ?_
  refine awp_reg rfl ?_
  refine AR.op rfl (aop_field_pp rfl rfl fd24_0 (by decide)) ?_
  refine AR.op (r := .sl (List.map G.api_Txn.av h_0.Txns)) rfl (aop_load_pp rfl rfl sz22 rfl) ?_
  refine AR.op (r := i64 (Sh.len h_0.Txns)) rfl (t_len_sl G.api_Txn.av h_0.Txns rfl rfl el22) ?_
  refine AR.drop (frx := [(2, _), (3, _), (10, _)]) ⟨rfl, rfl, rfl, trivial⟩ ?_
  refine AR.op (r := i64 (Sh.len h_0.Txns)) rfl (aop_move (.inr rfl) rfl) ?_
  refine AR.nil ?_
  refine hK2 _ (AWP.weak (Weak.kp (fr' := [(2, .pp [.sl (List.map G.api_Txn.av h_0.Txns)] 0), (3, .pp [i64 c_1.Key, i64 c_1.A, i64 c_1.B] 0), (5, i64 (Sh.len h_0.Txns))]) ⟨rfl, rfl, rfl, trivial⟩) ?_)
  clear hK2 K2
  refine awp_seqK fun K3 hK3 => ?_
  refine awp_seqJ (fun (p : Bool) => (⟨[(2, .pp [.sl (List.map G.api_Txn.av h_0.Txns)] 0), (3, .pp [i64 c_1.Key, i64 c_1.A, i64 c_1.B] 0), (37, bl p)], .empty⟩ : St)) (fun (p : Bool) => G.inquestref18_One_j1 h_0 c_1 p = some r) ?_ ?_
  · rintro v23 h
    replace h : G.inquestref18_One_j1 h_0 c_1 v23 = some r := h
    unfold G.inquestref18_One_j1 at h
    show AWP _ _ _ _ ⟨[(2, .pp [.sl (List.map G.api_Txn.av h_0.Txns)] 0), (3, .pp [i64 c_1.Key, i64 c_1.A, i64 c_1.B] 0), (37, bl v23)], .empty⟩ _
    refine awp_cond rfl (fun hb24 => ?_) (fun hb24 => ?_)
    · replace h := Sh.if_t h hb24
      refine awp_seqK fun K4 hK4 => ?_
      refine awp_reg rfl ?_
      refine AR.op (r := bl false) rfl (aop_move (.inr rfl) rfl) ?_
      refine AR.nil ?_
      refine hK4 _ (AWP.weak (Weak.kp (fr' := [(4, bl false)]) ⟨rfl, trivial⟩) ?_)
      clear hK4 K4
      refine awp_ret ?_
      obtain rfl := Option.some.inj h
      refine ⟨.inr rfl, bl false, rfl, ?_⟩
      exact Weak.re [] [] rfl rfl rfl (trivial) ⟨⟨_, rfl, .same _ (by simp)⟩, trivial⟩
    · replace h := Sh.if_f h hb24
      refine awp_skip ?_
      refine hK3 _ (AWP.weak (Weak.kp (fr' := [(2, .pp [.sl (List.map G.api_Txn.av h_0.Txns)] 0), (3, .pp [i64 c_1.Key, i64 c_1.A, i64 c_1.B] 0)]) ⟨rfl, rfl, trivial⟩) ?_)
      clear hK3 K3
      refine awp_seqK fun K5 hK5 => ?_
      refine awp_any [(true, false), (true, false), (true, false), (true, false), (true, false), (true, false), (true, false), (true, false), (true, false), (true, false)] (by kernel_rfl) (by kernel_rfl) rfl ?_
      refine ARH.dry rfl (fun _ => aop_field_pp rfl rfl fd24_0 (by decide)) ?_
      refine ARH.dry (r := .sl (List.map G.api_Txn.av h_0.Txns)) rfl (fun _ => aop_load_pp rfl rfl sz22 rfl) ?_
      refine ARH.dry rfl (fun _ => aop_field_pp rfl rfl fd35_1 (by decide)) ?_
      refine ARH.drop (frx := [(2, _), (3, _), (39, _), (40, _)]) ⟨rfl, rfl, rfl, rfl, trivial⟩ ?_
      refine ARH.dry (r := i64 c_1.A) rfl (fun _ => aop_load_pp rfl rfl sz3 rfl) ?_
      obtain ⟨x28, hx28, h⟩ := Sh.bind_some' h
      obtain ⟨k29, hi29, hl29⟩ := Sh.idx_some hx28
      refine ARH.dry rfl (fun _ => t_index_sl G.api_Txn.av h_0.Txns hi29 hl29 rfl rfl rfl el22 rfl) ?_
      refine ARH.dry (r := G.api_Txn.av x28) rfl (fun _ => aop_load_pp rfl rfl sz47 rfl) ?_
      refine ARH.drop (frx := [(2, _), (3, _), (43, _)]) ⟨rfl, rfl, rfl, trivial⟩ ?_
      refine ARH.dry rfl (fun _ => aop_field_pp rfl rfl fd35_0 (by decide)) ?_
      refine ARH.dry (r := i64 c_1.Key) rfl (fun _ => aop_load_pp rfl rfl sz3 rfl) ?_
      obtain ⟨r30, hr30, h⟩ := Sh.bind_some' h
      refine ARH.dry (r := bl r30) rfl (fun _ => aop_call1 rfl rfl (by simp) (inquestref08_Writes_ok hT hr30)) ?_
      refine ARH.drop (frx := [(2, _), (3, _), (46, _)]) ⟨rfl, rfl, rfl, trivial⟩ ?_
      refine ARH.dry (r := bl r30) rfl (fun _ => aop_move (.inr rfl) rfl) ?_
      refine ARH.nil ?_
      refine hK5 _ (AWP.weak (Weak.kp (fr' := [(2, .pp [.sl (List.map G.api_Txn.av h_0.Txns)] 0), (3, .pp [i64 c_1.Key, i64 c_1.A, i64 c_1.B] 0), (6, bl r30)]) ⟨rfl, rfl, rfl, trivial⟩) ?_)
      clear hK5 K5
      refine awp_seqK fun K6 hK6 => ?_
      refine awp_any [(true, false), (true, false), (true, false), (true, false), (true, false), (true, false), (true, false), (true, false), (true, false), (true, false)] (by kernel_rfl) (by kernel_rfl) rfl ?_
      refine ARH.dry rfl (fun _ => aop_field_pp rfl rfl fd24_0 (by decide)) ?_
      refine ARH.dry (r := .sl (List.map G.api_Txn.av h_0.Txns)) rfl (fun _ => aop_load_pp rfl rfl sz22 rfl) ?_
      refine ARH.dry rfl (fun _ => aop_field_pp rfl rfl fd35_2 (by decide)) ?_
      refine ARH.drop (frx := [(3, _), (6, _), (48, _), (49, _)]) ⟨rfl, rfl, rfl, rfl, trivial⟩ ?_
      refine ARH.dry (r := i64 c_1.B) rfl (fun _ => aop_load_pp rfl rfl sz3 rfl) ?_
      obtain ⟨x34, hx34, h⟩ := Sh.bind_some' h
      obtain ⟨k35, hi35, hl35⟩ := Sh.idx_some hx34
      refine ARH.dry rfl (fun _ => t_index_sl G.api_Txn.av h_0.Txns hi35 hl35 rfl rfl rfl el22 rfl) ?_
      refine ARH.dry (r := G.api_Txn.av x34) rfl (fun _ => aop_load_pp rfl rfl sz47 rfl) ?_
      refine ARH.drop (frx := [(3, _), (6, _), (52, _)]) ⟨rfl, rfl, rfl, trivial⟩ ?_
      refine ARH.dry rfl (fun _ => aop_field_pp rfl rfl fd35_0 (by decide)) ?_
      refine ARH.dry (r := i64 c_1.Key) rfl (fun _ => aop_load_pp rfl rfl sz3 rfl) ?_
      obtain ⟨r36, hr36, h⟩ := Sh.bind_some' h
      refine ARH.dry (r := bl r36) rfl (fun _ => aop_call1 rfl rfl (by simp) (inquestref08_Writes_ok hT hr36)) ?_
      refine ARH.drop (frx := [(6, _), (55, _)]) ⟨rfl, rfl, trivial⟩ ?_
      refine ARH.dry (r := bl r36) rfl (fun _ => aop_move (.inr rfl) rfl) ?_
      refine ARH.nil ?_
      refine hK6 _ (AWP.weak (Weak.kp (fr' := [(6, bl r30), (7, bl r36)]) ⟨rfl, rfl, trivial⟩) ?_)
      clear hK6 K6
      refine awp_seqK fun K7 hK7 => ?_
      refine awp_reg rfl ?_
      refine AR.op (r := bl r30) rfl (aop_move (.inl rfl) rfl) ?_
      refine AR.op (r := bl r30) rfl (aop_move (.inl rfl) rfl) ?_
      rcases Bool.eq_false_or_eq_true (r30) with hb38 | hb38
      · rw [hb38]
        replace h := Sh.if_t h hb38
        refine AR.op (r := bl r36) rfl (aop_move (.inl rfl) rfl) ?_
        refine AR.drop (frx := [(57, _), (58, _)]) ⟨rfl, rfl, trivial⟩ ?_
        refine AR.op (r := bl r36) rfl (aop_pick rfl rfl rfl) ?_
        refine AR.op (r := bl r36) rfl (aop_move (.inr rfl) rfl) ?_
        refine AR.nil ?_
        refine hK7 _ (AWP.weak (Weak.kp (fr' := [(4, bl r36)]) ⟨rfl, trivial⟩) ?_)
        clear hK7 K7
        refine awp_ret ?_
        obtain rfl := Option.some.inj h
        refine ⟨.inr rfl, bl r36, rfl, ?_⟩
        exact Weak.re [] [] rfl rfl rfl (trivial) ⟨⟨_, rfl, .same _ (by simp)⟩, trivial⟩
      · rw [hb38]
        replace h := Sh.if_f h hb38
        refine AR.skip rfl ?_
        refine AR.drop (frx := [(57, _), (58, _)]) ⟨rfl, rfl, trivial⟩ ?_
        refine AR.op (r := bl false) rfl (aop_pick rfl rfl rfl) ?_
        refine AR.op (r := bl false) rfl (aop_move (.inr rfl) rfl) ?_
        refine AR.nil ?_
        refine hK7 _ (AWP.weak (Weak.kp (fr' := [(4, bl false)]) ⟨rfl, trivial⟩) ?_)
        clear hK7 K7
        refine awp_ret ?_
        obtain rfl := Option.some.inj h
        refine ⟨.inr rfl, bl false, rfl, ?_⟩
        exact Weak.re [] [] rfl rfl rfl (trivial) ⟨⟨_, rfl, .same _ (by simp)⟩, trivial⟩
  · intro K8 hK8
    refine awp_reg rfl ?_
    refine AR.op rfl (aop_field_pp rfl rfl fd35_1 (by decide)) ?_
    refine AR.op (r := i64 c_1.A) rfl (aop_load_pp rfl rfl sz3 rfl) ?_
    refine AR.op rfl (aop_field_pp rfl rfl fd35_2 (by decide)) ?_
    refine AR.drop (frx := [(2, _), (3, _), (5, _), (12, _), (13, _)]) ⟨rfl, rfl, rfl, rfl, rfl, trivial⟩ ?_
    refine AR.op (r := i64 c_1.B) rfl (aop_load_pp rfl rfl sz3 rfl) ?_
    refine AR.op (r := bl (decide (c_1.A = c_1.B))) rfl (aop_eql rfl rfl rfl) ?_
    refine AR.op (r := bl (decide (c_1.A = c_1.B))) rfl (aop_move (.inl rfl) rfl) ?_
    refine AR.drop (frx := [(2, _), (3, _), (5, _), (16, _)]) ⟨rfl, rfl, rfl, rfl, trivial⟩ ?_
    rcases Bool.eq_false_or_eq_true (decide (c_1.A = c_1.B)) with hb39 | hb39
    · rw [hb39]
      replace h := Sh.if_t h hb39
      refine AR.skip rfl ?_
      refine AR.skip rfl ?_
      refine AR.skip rfl ?_
      refine AR.drop (frx := [(2, _), (3, _), (5, _), (16, _), (19, _)]) ⟨rfl, rfl, rfl, rfl, rfl, trivial⟩ ?_
      refine AR.op (r := bl true) rfl (aop_pick rfl rfl rfl) ?_
      refine AR.op (r := bl true) rfl (aop_move (.inl rfl) rfl) ?_
      refine AR.skip rfl ?_
      refine AR.drop (frx := [(2, _), (3, _), (5, _), (21, _), (22, _)]) ⟨rfl, rfl, rfl, rfl, rfl, trivial⟩ ?_
      refine AR.skip rfl ?_
      refine AR.skip rfl ?_
      refine AR.skip rfl ?_
      refine AR.drop (frx := [(2, _), (3, _), (5, _), (21, _), (25, _)]) ⟨rfl, rfl, rfl, rfl, rfl, trivial⟩ ?_
      refine AR.op (r := bl true) rfl (aop_pick rfl rfl rfl) ?_
      refine AR.op (r := bl true) rfl (aop_move (.inl rfl) rfl) ?_
      refine AR.skip rfl ?_
      refine AR.drop (frx := [(2, _), (3, _), (5, _), (27, _), (28, _)]) ⟨rfl, rfl, rfl, rfl, rfl, trivial⟩ ?_
      refine AR.skip rfl ?_
      refine AR.skip rfl ?_
      refine AR.op (r := bl true) rfl (aop_pick rfl rfl rfl) ?_
      refine AR.drop (frx := [(2, _), (3, _), (5, _), (31, _)]) ⟨rfl, rfl, rfl, rfl, trivial⟩ ?_
      refine AR.op (r := bl true) rfl (aop_move (.inl rfl) rfl) ?_
      refine AR.skip rfl ?_
      refine AR.skip rfl ?_
      refine AR.drop (frx := [(2, _), (3, _), (5, _), (32, _), (34, _)]) ⟨rfl, rfl, rfl, rfl, rfl, trivial⟩ ?_
      refine AR.skip rfl ?_
      refine AR.skip rfl ?_
      refine AR.op (r := bl true) rfl (aop_pick rfl rfl rfl) ?_
      refine AR.nil ?_
      exact hK8 true _ h (Weak.kp (fr' := [(2, .pp [.sl (List.map G.api_Txn.av h_0.Txns)] 0), (3, .pp [i64 c_1.Key, i64 c_1.A, i64 c_1.B] 0), (37, bl true)]) ⟨rfl, rfl, rfl, trivial⟩)
    · rw [hb39]
      replace h := Sh.if_f h hb39
      refine AR.op rfl (aop_field_pp rfl rfl fd35_1 (by decide)) ?_
      refine AR.op (r := i64 c_1.A) rfl (aop_load_pp rfl rfl sz3 rfl) ?_
      refine AR.op (r := bl (decide (c_1.A < 0))) rfl (aop_lss rfl rfl rfl) ?_
      refine AR.drop (frx := [(2, _), (3, _), (5, _), (16, _), (19, _)]) ⟨rfl, rfl, rfl, rfl, rfl, trivial⟩ ?_
      refine AR.op (r := bl (decide (c_1.A < 0))) rfl (aop_pick rfl rfl rfl) ?_
      refine AR.op (r := bl (decide (c_1.A < 0))) rfl (aop_move (.inl rfl) rfl) ?_
      rcases Bool.eq_false_or_eq_true (decide (c_1.A < 0)) with hb40 | hb40
      · rw [hb40]
        replace h := Sh.if_t h hb40
        refine AR.skip rfl ?_
        refine AR.drop (frx := [(2, _), (3, _), (5, _), (21, _), (22, _)]) ⟨rfl, rfl, rfl, rfl, rfl, trivial⟩ ?_
        refine AR.skip rfl ?_
        refine AR.skip rfl ?_
        refine AR.skip rfl ?_
        refine AR.drop (frx := [(2, _), (3, _), (5, _), (21, _), (25, _)]) ⟨rfl, rfl, rfl, rfl, rfl, trivial⟩ ?_
        refine AR.op (r := bl true) rfl (aop_pick rfl rfl rfl) ?_
        refine AR.op (r := bl true) rfl (aop_move (.inl rfl) rfl) ?_
        refine AR.skip rfl ?_
        refine AR.drop (frx := [(2, _), (3, _), (5, _), (27, _), (28, _)]) ⟨rfl, rfl, rfl, rfl, rfl, trivial⟩ ?_
        refine AR.skip rfl ?_
        refine AR.skip rfl ?_
        refine AR.op (r := bl true) rfl (aop_pick rfl rfl rfl) ?_
        refine AR.drop (frx := [(2, _), (3, _), (5, _), (31, _)]) ⟨rfl, rfl, rfl, rfl, trivial⟩ ?_
        refine AR.op (r := bl true) rfl (aop_move (.inl rfl) rfl) ?_
        refine AR.skip rfl ?_
        refine AR.skip rfl ?_
        refine AR.drop (frx := [(2, _), (3, _), (5, _), (32, _), (34, _)]) ⟨rfl, rfl, rfl, rfl, rfl, trivial⟩ ?_
        refine AR.skip rfl ?_
        refine AR.skip rfl ?_
        refine AR.op (r := bl true) rfl (aop_pick rfl rfl rfl) ?_
        refine AR.nil ?_
        exact hK8 true _ h (Weak.kp (fr' := [(2, .pp [.sl (List.map G.api_Txn.av h_0.Txns)] 0), (3, .pp [i64 c_1.Key, i64 c_1.A, i64 c_1.B] 0), (37, bl true)]) ⟨rfl, rfl, rfl, trivial⟩)
      · rw [hb40]
        replace h := Sh.if_f h hb40
        refine AR.op rfl (aop_field_pp rfl rfl fd35_1 (by decide)) ?_
        refine AR.drop (frx := [(2, _), (3, _), (5, _), (21, _), (22, _)]) ⟨rfl, rfl, rfl, rfl, rfl, trivial⟩ ?_
        refine AR.op (r := i64 c_1.A) rfl (aop_load_pp rfl rfl sz3 rfl) ?_
        refine AR.op (r := i64 (Sh.len h_0.Txns)) rfl (aop_move (.inl rfl) rfl) ?_
        refine AR.op (r := bl (decide ((Sh.len h_0.Txns) ≤ c_1.A))) rfl (aop_geq rfl rfl rfl) ?_
        refine AR.drop (frx := [(2, _), (3, _), (5, _), (21, _), (25, _)]) ⟨rfl, rfl, rfl, rfl, rfl, trivial⟩ ?_
        refine AR.op (r := bl (decide ((Sh.len h_0.Txns) ≤ c_1.A))) rfl (aop_pick rfl rfl rfl) ?_
        refine AR.op (r := bl (decide ((Sh.len h_0.Txns) ≤ c_1.A))) rfl (aop_move (.inl rfl) rfl) ?_
        rcases Bool.eq_false_or_eq_true (decide ((Sh.len h_0.Txns) ≤ c_1.A)) with hb41 | hb41
        · rw [hb41]
          replace h := Sh.if_t h hb41
          refine AR.skip rfl ?_
          refine AR.drop (frx := [(2, _), (3, _), (5, _), (27, _), (28, _)]) ⟨rfl, rfl, rfl, rfl, rfl, trivial⟩ ?_
          refine AR.skip rfl ?_
          refine AR.skip rfl ?_
          refine AR.op (r := bl true) rfl (aop_pick rfl rfl rfl) ?_
          refine AR.drop (frx := [(2, _), (3, _), (5, _), (31, _)]) ⟨rfl, rfl, rfl, rfl, trivial⟩ ?_
          refine AR.op (r := bl true) rfl (aop_move (.inl rfl) rfl) ?_
          refine AR.skip rfl ?_
          refine AR.skip rfl ?_
          refine AR.drop (frx := [(2, _), (3, _), (5, _), (32, _), (34, _)]) ⟨rfl, rfl, rfl, rfl, rfl, trivial⟩ ?_
          refine AR.skip rfl ?_
          refine AR.skip rfl ?_
          refine AR.op (r := bl true) rfl (aop_pick rfl rfl rfl) ?_
          refine AR.nil ?_
          exact hK8 true _ h (Weak.kp (fr' := [(2, .pp [.sl (List.map G.api_Txn.av h_0.Txns)] 0), (3, .pp [i64 c_1.Key, i64 c_1.A, i64 c_1.B] 0), (37, bl true)]) ⟨rfl, rfl, rfl, trivial⟩)
        · rw [hb41]
          replace h := Sh.if_f h hb41
          refine AR.op rfl (aop_field_pp rfl rfl fd35_2 (by decide)) ?_
          refine AR.drop (frx := [(2, _), (3, _), (5, _), (27, _), (28, _)]) ⟨rfl, rfl, rfl, rfl, rfl, trivial⟩ ?_
          refine AR.op (r := i64 c_1.B) rfl (aop_load_pp rfl rfl sz3 rfl) ?_
          refine AR.op (r := bl (decide (c_1.B < 0))) rfl (aop_lss rfl rfl rfl) ?_
          refine AR.op (r := bl (decide (c_1.B < 0))) rfl (aop_pick rfl rfl rfl) ?_
          refine AR.drop (frx := [(2, _), (3, _), (5, _), (31, _)]) ⟨rfl, rfl, rfl, rfl, trivial⟩ ?_
          refine AR.op (r := bl (decide (c_1.B < 0))) rfl (aop_move (.inl rfl) rfl) ?_
          rcases Bool.eq_false_or_eq_true (decide (c_1.B < 0)) with hb42 | hb42
          · rw [hb42]
            replace h := Sh.if_t h hb42
            refine AR.skip rfl ?_
            refine AR.skip rfl ?_
            refine AR.drop (frx := [(2, _), (3, _), (5, _), (32, _), (34, _)]) ⟨rfl, rfl, rfl, rfl, rfl, trivial⟩ ?_
            refine AR.skip rfl ?_
            refine AR.skip rfl ?_
            refine AR.op (r := bl true) rfl (aop_pick rfl rfl rfl) ?_
            refine AR.nil ?_
            exact hK8 true _ h (Weak.kp (fr' := [(2, .pp [.sl (List.map G.api_Txn.av h_0.Txns)] 0), (3, .pp [i64 c_1.Key, i64 c_1.A, i64 c_1.B] 0), (37, bl true)]) ⟨rfl, rfl, rfl, trivial⟩)
          · rw [hb42]
            replace h := Sh.if_f h hb42
            refine AR.op rfl (aop_field_pp rfl rfl fd35_2 (by decide)) ?_
            refine AR.op (r := i64 c_1.B) rfl (aop_load_pp rfl rfl sz3 rfl) ?_
            refine AR.drop (frx := [(2, _), (3, _), (5, _), (32, _), (34, _)]) ⟨rfl, rfl, rfl, rfl, rfl, trivial⟩ ?_
            refine AR.op (r := i64 (Sh.len h_0.Txns)) rfl (aop_move (.inl rfl) rfl) ?_
            refine AR.op (r := bl (decide ((Sh.len h_0.Txns) ≤ c_1.B))) rfl (aop_geq rfl rfl rfl) ?_
            refine AR.op (r := bl (decide ((Sh.len h_0.Txns) ≤ c_1.B))) rfl (aop_pick rfl rfl rfl) ?_
            refine AR.nil ?_
            exact hK8 (decide ((Sh.len h_0.Txns) ≤ c_1.B)) _ h (Weak.re (fr' := [(2, .pp [.sl (List.map G.api_Txn.av h_0.Txns)] 0), (3, .pp [i64 c_1.Key, i64 c_1.A, i64 c_1.B] 0), (37, bl (decide ((Sh.len h_0.Txns) ≤ c_1.B)))]) (H' := .empty) [] [] rfl rfl rfl (trivial) ⟨⟨_, rfl, .same _ (by simp)⟩, ⟨_, rfl, .same _ (by simp)⟩, ⟨_, rfl, .same _ (by simp)⟩, trivial⟩)
theorem inquestref18_One_ok {W0 : World} (hT : Tab W0) {h_0 : G.api_Hist} {c_1 : G.api_Choice} {r : Bool} (h : G.inquestref18_One h_0 c_1 = some r) : Fun1 Try.prog W0 32 [G.api_Hist.av h_0, G.api_Choice.av c_1] (bl r) := Fun1.two (inquestref18_One_ok0 hT h) (by simp)


set_option maxHeartbeats 8000000 in
set_option maxRecDepth 20000 in
theorem inquestref18_In_ok0 {W0 : World} (hT : Tab W0) {l_0 : List G.api_Choice} {c_1 : G.api_Choice} {r : Bool} (h : G.inquestref18_In l_0 c_1 = some r) : Fun2 Try.prog W0 33 [.sl (List.map G.api_Choice.av l_0), G.api_Choice.av c_1] (bl r) .empty := by
  refine fun2_of_awp Try.func33 rfl (by kernel_rfl) Try.ntmps33 (by simp) ?_
  unfold G.inquestref18_In at h
  show AWP _ _ _ _ ⟨[(0, .sl (List.map G.api_Choice.av l_0)), (1, G.api_Choice.av c_1)], .empty⟩ _
  refine awp_seqK fun K1 hK1 => ?_
  refine awp_reg rfl ?_
  refine AR.op (r := .ref 0 0 0) rfl (aop_box 3 [G.api_Choice.av c_1] rfl rfl rfl (.inl ⟨rfl, rfl⟩)) ?_
  refine AR.op (r := bl false) rfl (aop_move (.inr rfl) rfl) ?_
  refine AR.nil ?_
  refine hK1 _ (AWP.weak (Weak.re (fr' := [(0, .sl (List.map G.api_Choice.av l_0)), (3, .pp [i64 c_1.Key, i64 c_1.A, i64 c_1.B] 0)]) (H' := .empty) [] [] rfl rfl rfl (trivial) ⟨⟨.sl (List.map G.api_Choice.av l_0), rfl, .same _ (by simp)⟩, ⟨_, rfl, .frzA rfl rfl rfl rfl (by simp)⟩, trivial⟩) ?_)
  clear hK1 K1
  refine awp_seqJ (fun (p : Unit) => (⟨[], .empty⟩ : St)) (fun (p : Unit) => G.inquestref18_In_j1 = some r) ?_ ?_
  · rintro ⟨⟩ h
    replace h : G.inquestref18_In_j1 = some r := h
    unfold G.inquestref18_In_j1 at h
    show AWP _ _ _ _ ⟨[], .empty⟩ _
    refine awp_seqK fun K2 hK2 => ?_
    refine awp_reg rfl ?_
    refine AR.op (r := bl false) rfl (aop_move (.inr rfl) rfl) ?_
    refine AR.nil ?_
    refine hK2 _ ?_
    clear hK2 K2
    refine awp_ret ?_
    obtain rfl := Option.some.inj h
    refine ⟨.inr rfl, bl false, rfl, ?_⟩
    exact Weak.re [] [] rfl rfl rfl (trivial) ⟨⟨_, rfl, .same _ (by simp)⟩, trivial⟩
  · intro K3 hK3
    refine awp_seqK fun K4 hK4 => ?_
    refine awp_reg rfl ?_
    refine AR.op (r := i64 0) rfl (aop_move (.inr rfl) rfl) ?_
    refine AR.nil ?_
    refine hK4 _ ?_
    clear hK4 K4
    refine awp_block ?_
    refine awp_iter (fun (p : Int) => G.inquestref18_In_b1 l_0 c_1 p) (fun (p : Int) => (⟨[(0, .sl (List.map G.api_Choice.av l_0)), (3, .pp [i64 c_1.Key, i64 c_1.A, i64 c_1.B] 0), (5, i64 p)], .empty⟩ : St)) h (Weak.kp (fr' := [(0, .sl (List.map G.api_Choice.av l_0)), (3, .pp [i64 c_1.Key, i64 c_1.A, i64 c_1.B] 0), (5, i64 0)]) ⟨rfl, rfl, rfl, trivial⟩) ?_
    · skip
      rintro i22 o1 h hx1
      replace h : G.inquestref18_In_b1 l_0 c_1 i22 = some o1 := h
      unfold G.inquestref18_In_b1 at h
      show AWP _ _ _ _ ⟨[(0, .sl (List.map G.api_Choice.av l_0)), (3, .pp [i64 c_1.Key, i64 c_1.A, i64 c_1.B] 0), (5, i64 i22)], .empty⟩ _
      refine awp_seqK fun K5 hK5 => ?_
      refine awp_seqK fun K6 hK6 => ?_
      refine awp_reg rfl ?_
      refine AR.op (r := i64 i22) rfl (aop_move (.inl rfl) rfl) ?_
      refine AR.op (r := .sl (List.map G.api_Choice.av l_0)) rfl (aop_move (.inl rfl) rfl) ?_
      refine AR.op (r := i64 (Sh.len l_0)) rfl (t_len_sl G.api_Choice.av l_0 rfl rfl el25) ?_
      refine AR.drop (frx := [(0, _), (3, _), (5, _), (6, _), (8, _)]) ⟨rfl, rfl, rfl, rfl, rfl, trivial⟩ ?_
      refine AR.op (r := bl (decide (i22 < (Sh.len l_0)))) rfl (aop_lss rfl rfl rfl) ?_
      refine AR.nil ?_
      refine hK6 _ (AWP.weak (Weak.kp (fr' := [(0, .sl (List.map G.api_Choice.av l_0)), (3, .pp [i64 c_1.Key, i64 c_1.A, i64 c_1.B] 0), (5, i64 i22), (9, bl (decide (i22 < (Sh.len l_0))))]) ⟨rfl, rfl, rfl, rfl, trivial⟩) ?_)
      clear hK6 K6
      refine awp_cond rfl (fun hb23 => ?_) (fun hb23 => ?_)
      · replace h := Sh.if_t h hb23
        refine awp_skip ?_
        refine hK5 _ (AWP.weak (Weak.kp (fr' := [(0, .sl (List.map G.api_Choice.av l_0)), (3, .pp [i64 c_1.Key, i64 c_1.A, i64 c_1.B] 0), (5, i64 i22)]) ⟨rfl, rfl, rfl, trivial⟩) ?_)
        clear hK5 K5
        refine awp_seqK fun K7 hK7 => ?_
        refine awp_block ?_
        refine awp_seqK fun K8 hK8 => ?_
        refine awp_any [(true, false), (true, false), (true, false), (true, false), (true, false), (true, false)] (by kernel_rfl) (by kernel_rfl) rfl ?_
        refine ARH.dry (r := .sl (List.map G.api_Choice.av l_0)) rfl (fun _ => aop_move (.inl rfl) rfl) ?_
        refine ARH.dry (r := i64 i22) rfl (fun _ => aop_move (.inl rfl) rfl) ?_
        obtain ⟨x28, hx28, h⟩ := Sh.bind_some' h
        obtain ⟨k29, hi29, hl29⟩ := Sh.idx_some hx28
        refine ARH.dry rfl (fun _ => t_index_sl G.api_Choice.av l_0 hi29 hl29 rfl rfl rfl el25 rfl) ?_
        refine ARH.drop (frx := [(0, _), (3, _), (5, _), (14, _)]) ⟨rfl, rfl, rfl, rfl, trivial⟩ ?_
        refine ARH.dry (r := G.api_Choice.av x28) rfl (fun _ => aop_load_pp rfl rfl sz35 rfl) ?_
        refine ARH.dry (r := G.api_Choice.av c_1) rfl (fun _ => aop_load_pp rfl rfl sz35 rfl) ?_
        refine ARH.dry (r := bl (decide (x28 = c_1))) rfl (fun _ => t_eq_api_Choice (a := x28) (b := c_1) rfl rfl rfl) ?_
        refine ARH.nil ?_
        refine hK8 _ (AWP.weak (Weak.kp (fr' := [(0, .sl (List.map G.api_Choice.av l_0)), (3, .pp [i64 c_1.Key, i64 c_1.A, i64 c_1.B] 0), (5, i64 i22), (17, bl (decide (x28 = c_1)))]) ⟨rfl, rfl, rfl, rfl, trivial⟩) ?_)
        clear hK8 K8
        refine awp_cond rfl (fun hb30 => ?_) (fun hb30 => ?_)
        · replace h := Sh.if_t h hb30
          refine awp_seqK fun K9 hK9 => ?_
          refine awp_reg rfl ?_
          refine AR.op (r := bl true) rfl (aop_move (.inr rfl) rfl) ?_
          refine AR.nil ?_
          refine hK9 _ (AWP.weak (Weak.kp (fr' := [(4, bl true)]) ⟨rfl, trivial⟩) ?_)
          clear hK9 K9
          refine awp_ret ?_
          replace h := Sh.exit_eq h hx1
          obtain rfl := Option.some.inj h
          refine ⟨.inr rfl, bl true, rfl, ?_⟩
          exact Weak.re [] [] rfl rfl rfl (trivial) ⟨⟨_, rfl, .same _ (by simp)⟩, trivial⟩
        · replace h := Sh.if_f h hb30
          refine awp_skip ?_
          refine hK7 _ (AWP.weak (Weak.kp (fr' := [(0, .sl (List.map G.api_Choice.av l_0)), (3, .pp [i64 c_1.Key, i64 c_1.A, i64 c_1.B] 0), (5, i64 i22)]) ⟨rfl, rfl, rfl, trivial⟩) ?_)
          clear hK7 K7
          refine awp_reg rfl ?_
          refine AR.op (r := i64 i22) rfl (aop_move (.inl rfl) rfl) ?_
          refine AR.op (r := i64 (w64 (i22 + 1))) rfl (aop_add rfl rfl rfl rfl) ?_
          refine AR.op (r := i64 (w64 (i22 + 1))) rfl (aop_move (.inr rfl) rfl) ?_
          refine AR.nil ?_
          replace h := Sh.next_eq h
          exact ⟨_, h, Weak.re (fr' := [(0, .sl (List.map G.api_Choice.av l_0)), (3, .pp [i64 c_1.Key, i64 c_1.A, i64 c_1.B] 0), (5, i64 (w64 (i22 + 1)))]) (H' := .empty) [] [] rfl rfl rfl (trivial) ⟨⟨.sl (List.map G.api_Choice.av l_0), rfl, .same _ (by simp)⟩, ⟨_, rfl, .same _ (by simp)⟩, ⟨_, rfl, .same _ (by simp)⟩, trivial⟩⟩
      · replace h := Sh.if_f h hb23
        refine awp_exit ?_
        replace h := Sh.exit_eq h hx1
        exact hK3 () _ h (Weak.kp (fr' := []) trivial)
theorem inquestref18_In_ok {W0 : World} (hT : Tab W0) {l_0 : List G.api_Choice} {c_1 : G.api_Choice} {r : Bool} (h : G.inquestref18_In l_0 c_1 = some r) : Fun1 Try.prog W0 33 [.sl (List.map G.api_Choice.av l_0), G.api_Choice.av c_1] (bl r) := Fun1.two (inquestref18_In_ok0 hT h) (by simp)


set_option maxHeartbeats 8000000 in
set_option maxRecDepth 20000 in
theorem inquestref18_place_ok0 {W0 : World} (hT : Tab W0) {l_0 : List Int} {n_1 : Int} {r : Int} (h : G.inquestref18_place l_0 n_1 = some r) : Fun2 Try.prog W0 42 [.sl (List.map i64 l_0), i64 n_1] (i64 r) .empty := by
  refine fun2_of_awp Try.func42 rfl (by kernel_rfl) Try.ntmps42 (by simp) ?_
  unfold G.inquestref18_place at h
  show AWP _ _ _ _ ⟨[(0, .sl (List.map i64 l_0)), (1, i64 n_1)], .empty⟩ _
  refine awp_seqK fun K1 hK1 => ?_
  refine awp_reg rfl ?_
  refine AR.op (r := i64 0) rfl (aop_move (.inr rfl) rfl) ?_
  refine AR.nil ?_
  refine hK1 _ (AWP.weak (Weak.kp (fr' := [(0, .sl (List.map i64 l_0)), (1, i64 n_1)]) ⟨rfl, rfl, trivial⟩) ?_)
  clear hK1 K1
  refine awp_seqJ (fun (p : Unit) => (⟨[], .empty⟩ : St)) (fun (p : Unit) => G.inquestref18_place_j1 = some r) ?_ ?_
  · rintro ⟨⟩ h
    replace h : G.inquestref18_place_j1 = some r := h
    unfold G.inquestref18_place_j1 at h
    show AWP _ _ _ _ ⟨[], .empty⟩ _
    refine awp_seqK fun K2 hK2 => ?_
    refine awp_reg rfl ?_
    refine AR.op (r := i64 (-1)) rfl (aop_move (.inr rfl) rfl) ?_
    refine AR.nil ?_
    refine hK2 _ ?_
    clear hK2 K2
    refine awp_ret ?_
    obtain rfl := Option.some.inj h
    refine ⟨.inr rfl, i64 (-1), rfl, ?_⟩
    exact Weak.re [] [] rfl rfl rfl (trivial) ⟨⟨_, rfl, .same _ (by simp)⟩, trivial⟩
  · intro K3 hK3
    refine awp_seqK fun K4 hK4 => ?_
    refine awp_reg rfl ?_
    refine AR.op (r := i64 0) rfl (aop_move (.inr rfl) rfl) ?_
    refine AR.nil ?_
    refine hK4 _ ?_
    clear hK4 K4
    refine awp_block ?_
    refine awp_iter (fun (p : Int) => G.inquestref18_place_b1 l_0 n_1 p) (fun (p : Int) => (⟨[(0, .sl (List.map i64 l_0)), (1, i64 n_1), (5, i64 p)], .empty⟩ : St)) h (Weak.kp (fr' := [(0, .sl (List.map i64 l_0)), (1, i64 n_1), (5, i64 0)]) ⟨rfl, rfl, rfl, trivial⟩) ?_
    · skip
      rintro i22 o1 h hx1
      replace h : G.inquestref18_place_b1 l_0 n_1 i22 = some o1 := h
      unfold G.inquestref18_place_b1 at h
      show AWP _ _ _ _ ⟨[(0, .sl (List.map i64 l_0)), (1, i64 n_1), (5, i64 i22)], .empty⟩ _
      refine awp_seqK fun K5 hK5 => ?_
      refine awp_seqK fun K6 hK6 => ?_
      refine awp_reg rfl ?_
      refine AR.op (r := i64 i22) rfl (aop_move (.inl rfl) rfl) ?_
      refine AR.op (r := .sl (List.map i64 l_0)) rfl (aop_move (.inl rfl) rfl) ?_
      refine AR.op (r := i64 (Sh.len l_0)) rfl (t_len_sl i64 l_0 rfl rfl el26) ?_
      refine AR.drop (frx := [(0, _), (1, _), (5, _), (6, _), (8, _)]) ⟨rfl, rfl, rfl, rfl, rfl, trivial⟩ ?_
      refine AR.op (r := bl (decide (i22 < (Sh.len l_0)))) rfl (aop_lss rfl rfl rfl) ?_
      refine AR.nil ?_
      refine hK6 _ (AWP.weak (Weak.kp (fr' := [(0, .sl (List.map i64 l_0)), (1, i64 n_1), (5, i64 i22), (9, bl (decide (i22 < (Sh.len l_0))))]) ⟨rfl, rfl, rfl, rfl, trivial⟩) ?_)
      clear hK6 K6
      refine awp_cond rfl (fun hb23 => ?_) (fun hb23 => ?_)
      · replace h := Sh.if_t h hb23
        refine awp_skip ?_
        refine hK5 _ (AWP.weak (Weak.kp (fr' := [(0, .sl (List.map i64 l_0)), (1, i64 n_1), (5, i64 i22)]) ⟨rfl, rfl, rfl, trivial⟩) ?_)
        clear hK5 K5
        refine awp_seqK fun K7 hK7 => ?_
        refine awp_block ?_
        refine awp_seqK fun K8 hK8 => ?_
        refine awp_reg rfl ?_
        refine AR.op (r := .sl (List.map i64 l_0)) rfl (aop_move (.inl rfl) rfl) ?_
        refine AR.op (r := i64 i22) rfl (aop_move (.inl rfl) rfl) ?_
        obtain ⟨x28, hx28, h⟩ := Sh.bind_some' h
        obtain ⟨k29, hi29, hl29⟩ := Sh.idx_some hx28
        refine AR.op rfl (t_index_sl i64 l_0 hi29 hl29 rfl rfl rfl el26 rfl) ?_
        refine AR.drop (frx := [(0, _), (1, _), (5, _), (14, _)]) ⟨rfl, rfl, rfl, rfl, trivial⟩ ?_
        refine AR.op (r := i64 x28) rfl (aop_load_pp rfl rfl sz3 rfl) ?_
        refine AR.op (r := i64 n_1) rfl (aop_move (.inl rfl) rfl) ?_
        refine AR.op (r := bl (decide (x28 = n_1))) rfl (aop_eql rfl rfl rfl) ?_
        refine AR.nil ?_
        refine hK8 _ (AWP.weak (Weak.kp (fr' := [(0, .sl (List.map i64 l_0)), (1, i64 n_1), (5, i64 i22), (17, bl (decide (x28 = n_1)))]) ⟨rfl, rfl, rfl, rfl, trivial⟩) ?_)
        clear hK8 K8
        refine awp_cond rfl (fun hb30 => ?_) (fun hb30 => ?_)
        · replace h := Sh.if_t h hb30
          refine awp_seqK fun K9 hK9 => ?_
          refine awp_reg rfl ?_
          refine AR.op (r := i64 i22) rfl (aop_move (.inl rfl) rfl) ?_
          refine AR.op (r := i64 i22) rfl (aop_move (.inr rfl) rfl) ?_
          refine AR.nil ?_
          refine hK9 _ (AWP.weak (Weak.kp (fr' := [(4, i64 i22)]) ⟨rfl, trivial⟩) ?_)
          clear hK9 K9
          refine awp_ret ?_
          replace h := Sh.exit_eq h hx1
          obtain rfl := Option.some.inj h
          refine ⟨.inr rfl, i64 i22, rfl, ?_⟩
          exact Weak.re [] [] rfl rfl rfl (trivial) ⟨⟨_, rfl, .same _ (by simp)⟩, trivial⟩
        · replace h := Sh.if_f h hb30
          refine awp_skip ?_
          refine hK7 _ (AWP.weak (Weak.kp (fr' := [(0, .sl (List.map i64 l_0)), (1, i64 n_1), (5, i64 i22)]) ⟨rfl, rfl, rfl, trivial⟩) ?_)
          clear hK7 K7
          refine awp_reg rfl ?_
          refine AR.op (r := i64 i22) rfl (aop_move (.inl rfl) rfl) ?_
          refine AR.op (r := i64 (w64 (i22 + 1))) rfl (aop_add rfl rfl rfl rfl) ?_
          refine AR.op (r := i64 (w64 (i22 + 1))) rfl (aop_move (.inr rfl) rfl) ?_
          refine AR.nil ?_
          replace h := Sh.next_eq h
          exact ⟨_, h, Weak.re (fr' := [(0, .sl (List.map i64 l_0)), (1, i64 n_1), (5, i64 (w64 (i22 + 1)))]) (H' := .empty) [] [] rfl rfl rfl (trivial) ⟨⟨.sl (List.map i64 l_0), rfl, .same _ (by simp)⟩, ⟨_, rfl, .same _ (by simp)⟩, ⟨_, rfl, .same _ (by simp)⟩, trivial⟩⟩
      · replace h := Sh.if_f h hb23
        refine awp_exit ?_
        replace h := Sh.exit_eq h hx1
        exact hK3 () _ h (Weak.kp (fr' := []) trivial)
theorem inquestref18_place_ok {W0 : World} (hT : Tab W0) {l_0 : List Int} {n_1 : Int} {r : Int} (h : G.inquestref18_place l_0 n_1 = some r) : Fun1 Try.prog W0 42 [.sl (List.map i64 l_0), i64 n_1] (i64 r) := Fun1.two (inquestref18_place_ok0 hT h) (by simp)


set_option maxHeartbeats 8000000 in
set_option maxRecDepth 20000 in
theorem inquestref18_Perm_ok0 {W0 : World} (hT : Tab W0) {l_0 : List Int} {n_1 : Int} {r : Bool} (h : G.inquestref18_Perm l_0 n_1 = some r) : Fun2 Try.prog W0 26 [.sl (List.map i64 l_0), i64 n_1] (bl r) .empty := by
  refine fun2_of_awp Try.func26 rfl (by kernel_rfl) Try.ntmps26 (by simp) ?_
  unfold G.inquestref18_Perm at h
  show AWP _ _ _ _ ⟨[(0, .sl (List.map i64 l_0)), (1, i64 n_1)], .empty⟩ _
  refine awp_seqK fun K1 hK1 => ?_
  refine awp_reg rfl ?_
  refine AR.op (r := bl false) rfl (aop_move (.inr rfl) rfl) ?_
  refine AR.nil ?_
  refine hK1 _ (AWP.weak (Weak.kp (fr' := [(0, .sl (List.map i64 l_0)), (1, i64 n_1)]) ⟨rfl, rfl, trivial⟩) ?_)
  clear hK1 K1
  refine awp_seqK fun K2 hK2 => ?_
  refine awp_seqK fun K3 hK3 => ?_
  refine awp_reg rfl ?_
  refine AR.op (r := .sl (List.map i64 l_0)) rfl (aop_move (.inl rfl) rfl) ?_
  refine AR.op (r := i64 (Sh.len l_0)) rfl (t_len_sl i64 l_0 rfl rfl el26) ?_
  refine AR.op (r := i64 n_1) rfl (aop_move (.inl rfl) rfl) ?_
  refine AR.drop (frx := [(0, _), (1, _), (8, _), (9, _)]) ⟨rfl, rfl, rfl, rfl, trivial⟩ ?_
  refine AR.op (r := bl (decide ((Sh.len l_0) ≠ n_1))) rfl (aop_neq rfl rfl rfl) ?_
  refine AR.nil ?_
  refine hK3 _ (AWP.weak (Weak.kp (fr' := [(0, .sl (List.map i64 l_0)), (1, i64 n_1), (10, bl (decide ((Sh.len l_0) ≠ n_1)))]) ⟨rfl, rfl, rfl, trivial⟩) ?_)
  clear hK3 K3
  refine awp_cond rfl (fun hb6 => ?_) (fun hb6 => ?_)
  · replace h := Sh.if_t h hb6
    refine awp_seqK fun K4 hK4 => ?_
    refine awp_reg rfl ?_
    refine AR.op (r := bl false) rfl (aop_move (.inr rfl) rfl) ?_
    refine AR.nil ?_
    refine hK4 _ (AWP.weak (Weak.kp (fr' := [(4, bl false)]) ⟨rfl, trivial⟩) ?_)
    clear hK4 K4
    refine awp_ret ?_
    obtain rfl := Option.some.inj h
    refine ⟨.inr rfl, bl false, rfl, ?_⟩
    exact Weak.re [] [] rfl rfl rfl (trivial) ⟨⟨_, rfl, .same _ (by simp)⟩, trivial⟩
  · replace h := Sh.if_f h hb6
    refine awp_skip ?_
    refine hK2 _ (AWP.weak (Weak.kp (fr' := [(0, .sl (List.map i64 l_0)), (1, i64 n_1)]) ⟨rfl, rfl, trivial⟩) ?_)
    clear hK2 K2
    refine awp_seqJ (fun (p : Unit) => (⟨[], .empty⟩ : St)) (fun (p : Unit) => G.inquestref18_Perm_j1 = some r) ?_ ?_
    · rintro ⟨⟩ h
      replace h : G.inquestref18_Perm_j1 = some r := h
      unfold G.inquestref18_Perm_j1 at h
      show AWP _ _ _ _ ⟨[], .empty⟩ _
      refine awp_seqK fun K5 hK5 => ?_
      refine awp_reg rfl ?_
      refine AR.op (r := bl true) rfl (aop_move (.inr rfl) rfl) ?_
      refine AR.nil ?_
      refine hK5 _ ?_
      clear hK5 K5
      refine awp_ret ?_
      obtain rfl := Option.some.inj h
      refine ⟨.inr rfl, bl true, rfl, ?_⟩
      exact Weak.re [] [] rfl rfl rfl (trivial) ⟨⟨_, rfl, .same _ (by simp)⟩, trivial⟩
    · intro K6 hK6
      refine awp_seqK fun K7 hK7 => ?_
      refine awp_reg rfl ?_
      refine AR.op (r := i64 0) rfl (aop_move (.inr rfl) rfl) ?_
      refine AR.nil ?_
      refine hK7 _ ?_
      clear hK7 K7
      refine awp_block ?_
      refine awp_iter (fun (p : Int) => G.inquestref18_Perm_b1 l_0 n_1 p) (fun (p : Int) => (⟨[(0, .sl (List.map i64 l_0)), (1, i64 n_1), (5, i64 p)], .empty⟩ : St)) h (Weak.kp (fr' := [(0, .sl (List.map i64 l_0)), (1, i64 n_1), (5, i64 0)]) ⟨rfl, rfl, rfl, trivial⟩) ?_
      · skip
        rintro i15 o1 h hx1
        replace h : G.inquestref18_Perm_b1 l_0 n_1 i15 = some o1 := h
        unfold G.inquestref18_Perm_b1 at h
        show AWP _ _ _ _ ⟨[(0, .sl (List.map i64 l_0)), (1, i64 n_1), (5, i64 i15)], .empty⟩ _
        refine awp_seqK fun K8 hK8 => ?_
        refine awp_seqK fun K9 hK9 => ?_
        refine awp_reg rfl ?_
        refine AR.op (r := i64 i15) rfl (aop_move (.inl rfl) rfl) ?_
        refine AR.op (r := i64 n_1) rfl (aop_move (.inl rfl) rfl) ?_
        refine AR.op (r := bl (decide (i15 < n_1))) rfl (aop_lss rfl rfl rfl) ?_
        refine AR.nil ?_
        refine hK9 _ (AWP.weak (Weak.kp (fr' := [(0, .sl (List.map i64 l_0)), (1, i64 n_1), (5, i64 i15), (13, bl (decide (i15 < n_1)))]) ⟨rfl, rfl, rfl, rfl, trivial⟩) ?_)
        clear hK9 K9
        refine awp_cond rfl (fun hb16 => ?_) (fun hb16 => ?_)
        · replace h := Sh.if_t h hb16
          refine awp_skip ?_
          refine hK8 _ (AWP.weak (Weak.kp (fr' := [(0, .sl (List.map i64 l_0)), (1, i64 n_1), (5, i64 i15)]) ⟨rfl, rfl, rfl, trivial⟩) ?_)
          clear hK8 K8
          refine awp_seqK fun K10 hK10 => ?_
          refine awp_block ?_
          refine awp_seqK fun K11 hK11 => ?_
          refine awp_reg rfl ?_
          refine AR.op (r := .sl (List.map i64 l_0)) rfl (aop_move (.inl rfl) rfl) ?_
          refine AR.op (r := i64 i15) rfl (aop_move (.inl rfl) rfl) ?_
          obtain ⟨r19, hr19, h⟩ := Sh.bind_some' h
          refine AR.op (r := i64 r19) rfl (aop_call1 rfl rfl (by simp) (inquestref18_place_ok hT hr19)) ?_
          refine AR.drop (frx := [(0, _), (1, _), (5, _), (18, _)]) ⟨rfl, rfl, rfl, rfl, trivial⟩ ?_
          refine AR.op (r := i64 r19) rfl (aop_move (.inr rfl) rfl) ?_
          refine AR.nil ?_
          refine hK11 _ (AWP.weak (Weak.kp (fr' := [(0, .sl (List.map i64 l_0)), (1, i64 n_1), (5, i64 i15), (6, i64 r19)]) ⟨rfl, rfl, rfl, rfl, trivial⟩) ?_)
          clear hK11 K11
          refine awp_seqK fun K12 hK12 => ?_
          refine awp_reg rfl ?_
          refine AR.op (r := i64 r19) rfl (aop_move (.inl rfl) rfl) ?_
          refine AR.op (r := bl (decide (r19 < 0))) rfl (aop_lss rfl rfl rfl) ?_
          refine AR.nil ?_
          refine hK12 _ (AWP.weak (Weak.kp (fr' := [(0, .sl (List.map i64 l_0)), (1, i64 n_1), (5, i64 i15), (20, bl (decide (r19 < 0)))]) ⟨rfl, rfl, rfl, rfl, trivial⟩) ?_)
          clear hK12 K12
          refine awp_cond rfl (fun hb20 => ?_) (fun hb20 => ?_)
          · replace h := Sh.if_t h hb20
            refine awp_seqK fun K13 hK13 => ?_
            refine awp_reg rfl ?_
            refine AR.op (r := bl false) rfl (aop_move (.inr rfl) rfl) ?_
            refine AR.nil ?_
            refine hK13 _ (AWP.weak (Weak.kp (fr' := [(4, bl false)]) ⟨rfl, trivial⟩) ?_)
            clear hK13 K13
            refine awp_ret ?_
            replace h := Sh.exit_eq h hx1
            obtain rfl := Option.some.inj h
            refine ⟨.inr rfl, bl false, rfl, ?_⟩
            exact Weak.re [] [] rfl rfl rfl (trivial) ⟨⟨_, rfl, .same _ (by simp)⟩, trivial⟩
          · replace h := Sh.if_f h hb20
            refine awp_skip ?_
            refine hK10 _ (AWP.weak (Weak.kp (fr' := [(0, .sl (List.map i64 l_0)), (1, i64 n_1), (5, i64 i15)]) ⟨rfl, rfl, rfl, trivial⟩) ?_)
            clear hK10 K10
            refine awp_reg rfl ?_
            refine AR.op (r := i64 i15) rfl (aop_move (.inl rfl) rfl) ?_
            refine AR.op (r := i64 (w64 (i15 + 1))) rfl (aop_add rfl rfl rfl rfl) ?_
            refine AR.op (r := i64 (w64 (i15 + 1))) rfl (aop_move (.inr rfl) rfl) ?_
            refine AR.nil ?_
            replace h := Sh.next_eq h
            exact ⟨_, h, Weak.re (fr' := [(0, .sl (List.map i64 l_0)), (1, i64 n_1), (5, i64 (w64 (i15 + 1)))]) (H' := .empty) [] [] rfl rfl rfl (trivial) ⟨⟨.sl (List.map i64 l_0), rfl, .same _ (by simp)⟩, ⟨_, rfl, .same _ (by simp)⟩, ⟨_, rfl, .same _ (by simp)⟩, trivial⟩⟩
        · replace h := Sh.if_f h hb16
          refine awp_exit ?_
          replace h := Sh.exit_eq h hx1
          exact hK6 () _ h (Weak.kp (fr' := []) trivial)
theorem inquestref18_Perm_ok {W0 : World} (hT : Tab W0) {l_0 : List Int} {n_1 : Int} {r : Bool} (h : G.inquestref18_Perm l_0 n_1 = some r) : Fun1 Try.prog W0 26 [.sl (List.map i64 l_0), i64 n_1] (bl r) := Fun1.two (inquestref18_Perm_ok0 hT h) (by simp)

end Wk
