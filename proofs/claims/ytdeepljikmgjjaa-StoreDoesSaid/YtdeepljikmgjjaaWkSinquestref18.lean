/- That the functions of a package do what their plain functions say. -/
import Derived.Test.YtdeepljikmgjjaaSh
import Derived.Test.YtdeepljikmgjjaaWkSFacts
import Derived.Test.YtdeepljikmgjjaaWkSinquestref08
open Go Go.Av Go.Proofs
set_option linter.unusedVariables false
set_option maxHeartbeats 8000000
set_option maxRecDepth 20000
namespace Wk
theorem inquestref18_Back_ok0 {W0 : World} (hT : Tab W0) {c_0 : G.api_Choice} {r : G.api_Choice} (h : G.inquestref18_Back c_0 = some r) : Fun2 Try.prog W0 35 [G.api_Choice.av c_0] (G.api_Choice.av r) .empty := by
 refine fun2_of_awp Try.func35 rfl (by kernel_rfl) Try.ntmps35 (by simp) ?_
 unfold G.inquestref18_Back at h
 show AWP _ _ _ _ ⟨[(0, G.api_Choice.av c_0)], .empty⟩ _
 refine awp_seqK fun K1 hK1 => awp_reg rfl <| AR.op (r := .ref 0 0 0) rfl (aop_box 3 [G.api_Choice.av c_0] rfl rfl rfl (.inl ⟨rfl, rfl⟩)) <| AR.op (r := .ref 1 0 0) rfl (aop_alloc 3 [.agg [i64 0, i64 0, i64 0]] rfl zr35 (by kernel_rfl) (.inl ⟨rfl, rfl⟩)) <| AR.nil <| hK1 _ (AWP.weak (Weak.re (fr' := [(1, .pp [i64 c_0.Key, i64 c_0.A, i64 c_0.B] 0), (2, .ref 0 0 0)]) (H' := ⟨1, [(0, (3, [.agg [i64 0, i64 0, i64 0]]))], []⟩) [(0, 1)] [] rfl rfl rfl (.cons rfl rfl (.one (.sm) rfl) dt trivial) ⟨⟨_, rfl, .frzA rfl rfl rfl rfl (by simp)⟩, ⟨_, rfl, .ref rfl⟩, trivial⟩) ?_)
 refine awp_seqK fun K2 hK2 => awp_reg rfl <| AR.op rfl (aop_field_pp rfl rfl fd35_0 (by decide)) <| AR.op (r := i64 c_0.Key) rfl (aop_load_pp rfl rfl sz3 rfl) <| AR.op rfl (aop_field_pp rfl rfl fd35_2 (by decide)) <| AR.keep [1, 2, 4, 5] rfl <| AR.op (r := i64 c_0.B) rfl (aop_load_pp rfl rfl sz3 rfl) <| AR.op rfl (aop_field_pp rfl rfl fd35_1 (by decide)) ?_
 refine AR.op (r := i64 c_0.A) rfl (aop_load_pp rfl rfl sz3 rfl) <| AR.keep [2, 4, 6, 8] rfl <| AR.op (r := .agg [i64 c_0.Key, i64 c_0.B, i64 c_0.A]) rfl (aop_build rfl bd35 rfl rfl rfl) <| AR.op rfl (aop_store (e' := .agg [i64 c_0.Key, i64 c_0.B, i64 c_0.A]) rfl rfl rfl rfl rfl rfl sz35 rfl dt rfl) <| AR.nil <| hK2 _ (AWP.weak (Weak.kt [2] rfl) ?_)
 refine awp_ret ?_
 obtain rfl := Option.some.inj h
 refine ⟨.inr rfl, .agg [i64 c_0.Key, i64 c_0.B, i64 c_0.A], rfl, ?_⟩
 exact Weak.e ⟨⟨.agg [i64 c_0.Key, i64 c_0.B, i64 c_0.A], rfl, .sm⟩, trivial⟩
theorem inquestref18_Back_ok {W0 : World} (hT : Tab W0) {c_0 : G.api_Choice} {r : G.api_Choice} (h : G.inquestref18_Back c_0 = some r) : Fun1 Try.prog W0 35 [G.api_Choice.av c_0] (G.api_Choice.av r) := Fun1.two (inquestref18_Back_ok0 hT h) (by simp)


theorem inquestref18_One_ok0 {W0 : World} (hT : Tab W0) {h_0 : G.api_Hist} {c_1 : G.api_Choice} {r : Bool} (h : G.inquestref18_One h_0 c_1 = some r) : Fun2 Try.prog W0 43 [G.api_Hist.av h_0, G.api_Choice.av c_1] (bl r) .empty := by
 refine fun2_of_awp Try.func43 rfl (by kernel_rfl) Try.ntmps43 (by simp) ?_
 unfold G.inquestref18_One at h
 show AWP _ _ _ _ ⟨[(0, G.api_Hist.av h_0), (1, G.api_Choice.av c_1)], .empty⟩ _
 refine awp_seqK fun K1 hK1 => awp_reg rfl <| AR.op (r := .ref 0 0 0) rfl (aop_box 1 [G.api_Hist.av h_0] rfl rfl rfl (.inl ⟨rfl, rfl⟩)) <| AR.op (r := .ref 1 0 0) rfl (aop_box 3 [G.api_Choice.av c_1] rfl rfl rfl (.inl ⟨rfl, rfl⟩)) <| AR.op rfl (aop_move (.inr rfl) rfl) <| AR.nil <| hK1 _ (AWP.weak (Weak.e (fr' := [(2, .pp [.sl (List.map G.api_Txn.av h_0.Txns)] 0), (3, .pp [i64 c_1.Key, i64 c_1.A, i64 c_1.B] 0)]) (H' := .empty) ⟨⟨_, rfl, .frzA rfl rfl rfl rfl (by simp)⟩, ⟨_, rfl, .frzA rfl rfl rfl rfl (by simp)⟩, trivial⟩) ?_)
 refine awp_seqK fun K2 hK2 => awp_reg rfl <| AR.op rfl (aop_field_pp rfl rfl fd24_0 (by decide)) <| AR.op (r := .sl (List.map G.api_Txn.av h_0.Txns)) rfl (aop_load_pp rfl rfl sz22 rfl) <| AR.op rfl (t_len_sl G.api_Txn.av h_0.Txns rfl rfl el22) <| AR.keep [2, 3, 10] rfl <| AR.op rfl (aop_move (.inr rfl) rfl) <| AR.nil ?_
 refine hK2 _ (AWP.weak (Weak.kt [2, 3, 5] rfl) ?_)
 refine awp_seqK fun K3 hK3 => awp_seqJ (fun (p : Bool) => (⟨[(2, .pp [.sl (List.map G.api_Txn.av h_0.Txns)] 0), (3, .pp [i64 c_1.Key, i64 c_1.A, i64 c_1.B] 0), (37, bl p)], .empty⟩ : St)) (fun (p : Bool) => G.inquestref18_One_j1 h_0 c_1 p = some r) ?_ ?_
 ·rintro v23 h
  replace h : G.inquestref18_One_j1 h_0 c_1 v23 = some r := h
  unfold G.inquestref18_One_j1 at h
  refine awp_cond rfl (fun hb24 => ?_) (fun hb24 => ?_)
  ·replace h := Sh.if_t h hb24
   refine awp_seqK fun K4 hK4 => awp_reg rfl <| AR.op rfl (aop_move (.inr rfl) rfl) <| AR.nil <| hK4 _ (AWP.weak (Weak.kt [4] rfl) ?_)
   refine awp_ret ?_
   obtain rfl := Option.some.inj h
   refine ⟨.inr rfl, bl false, rfl, ?_⟩
   exact Weak.e ⟨.k, trivial⟩
  ·replace h := Sh.if_f h hb24
   refine awp_skip <| hK3 _ (AWP.weak (Weak.kt [2, 3] rfl) ?_)
   refine awp_seqK fun K5 hK5 => awp_any [(true, false), (true, false), (true, false), (true, false), (true, false), (true, false), (true, false), (true, false), (true, false), (true, false)] (by kernel_rfl) (by kernel_rfl) rfl ?_
   refine ARH.dry rfl (fun _ => aop_field_pp rfl rfl fd24_0 (by decide)) <| ARH.dry (r := .sl (List.map G.api_Txn.av h_0.Txns)) rfl (fun _ => aop_load_pp rfl rfl sz22 rfl) <| ARH.dry rfl (fun _ => aop_field_pp rfl rfl fd35_1 (by decide)) <| ARH.keep [2, 3, 39, 40] rfl <| ARH.dry (r := i64 c_1.A) rfl (fun _ => aop_load_pp rfl rfl sz3 rfl) ?_
   obtain ⟨x28, hx28, h⟩ := Sh.bind_some' h
   obtain ⟨k29, hi29, hl29⟩ := Sh.idx_some hx28
   refine ARH.dry rfl (fun _ => t_index_sl G.api_Txn.av h_0.Txns hi29 hl29 rfl rfl rfl el22 rfl) <| ARH.dry (r := G.api_Txn.av x28) rfl (fun _ => aop_load_pp rfl rfl sz58 rfl) <| ARH.keep [2, 3, 43] rfl <| ARH.dry rfl (fun _ => aop_field_pp rfl rfl fd35_0 (by decide)) <| ARH.dry (r := i64 c_1.Key) rfl (fun _ => aop_load_pp rfl rfl sz3 rfl) ?_
   obtain ⟨r30, hr30, h⟩ := Sh.bind_some' h
   refine ARH.dry (r := bl r30) rfl (fun _ => aop_call1 rfl rfl (by simp) (inquestref08_Writes_ok hT hr30)) <| ARH.keep [2, 3, 46] rfl <| ARH.dry rfl (fun _ => aop_move (.inr rfl) rfl) <| ARH.nil <| hK5 _ (AWP.weak (Weak.kt [2, 3, 6] rfl) ?_)
   refine awp_seqK fun K6 hK6 => awp_any [(true, false), (true, false), (true, false), (true, false), (true, false), (true, false), (true, false), (true, false), (true, false), (true, false)] (by kernel_rfl) (by kernel_rfl) rfl ?_
   refine ARH.dry rfl (fun _ => aop_field_pp rfl rfl fd24_0 (by decide)) <| ARH.dry (r := .sl (List.map G.api_Txn.av h_0.Txns)) rfl (fun _ => aop_load_pp rfl rfl sz22 rfl) <| ARH.dry rfl (fun _ => aop_field_pp rfl rfl fd35_2 (by decide)) <| ARH.keep [3, 6, 48, 49] rfl <| ARH.dry (r := i64 c_1.B) rfl (fun _ => aop_load_pp rfl rfl sz3 rfl) ?_
   obtain ⟨x34, hx34, h⟩ := Sh.bind_some' h
   obtain ⟨k35, hi35, hl35⟩ := Sh.idx_some hx34
   refine ARH.dry rfl (fun _ => t_index_sl G.api_Txn.av h_0.Txns hi35 hl35 rfl rfl rfl el22 rfl) <| ARH.dry (r := G.api_Txn.av x34) rfl (fun _ => aop_load_pp rfl rfl sz58 rfl) <| ARH.keep [3, 6, 52] rfl <| ARH.dry rfl (fun _ => aop_field_pp rfl rfl fd35_0 (by decide)) <| ARH.dry (r := i64 c_1.Key) rfl (fun _ => aop_load_pp rfl rfl sz3 rfl) ?_
   obtain ⟨r36, hr36, h⟩ := Sh.bind_some' h
   refine ARH.dry (r := bl r36) rfl (fun _ => aop_call1 rfl rfl (by simp) (inquestref08_Writes_ok hT hr36)) <| ARH.keep [6, 55] rfl <| ARH.dry rfl (fun _ => aop_move (.inr rfl) rfl) <| ARH.nil <| hK6 _ (AWP.weak (Weak.kt [6, 7] rfl) ?_)
   refine awp_seqK fun K7 hK7 => awp_reg rfl <| AR.op rfl (aop_move (.inl rfl) rfl) <| AR.op rfl (aop_move (.inl rfl) rfl) ?_
   rcases Bool.eq_false_or_eq_true (r30) with hb38 | hb38
   ·rw [hb38]
    replace h := Sh.if_t h hb38
    refine AR.op rfl (aop_move (.inl rfl) rfl) <| AR.keep [57, 58] rfl <| AR.op rfl (aop_pick rfl rfl rfl) <| AR.op rfl (aop_move (.inr rfl) rfl) <| AR.nil <| hK7 _ (AWP.weak (Weak.kt [4] rfl) ?_)
    refine awp_ret ?_
    obtain rfl := Option.some.inj h
    refine ⟨.inr rfl, bl r36, rfl, ?_⟩
    exact Weak.e ⟨.k, trivial⟩
   ·rw [hb38]
    replace h := Sh.if_f h hb38
    refine AR.skip rfl <| AR.keep [57, 58] rfl <| AR.op rfl (aop_pick rfl rfl rfl) <| AR.op rfl (aop_move (.inr rfl) rfl) <| AR.nil <| hK7 _ (AWP.weak (Weak.kt [4] rfl) ?_)
    refine awp_ret ?_
    obtain rfl := Option.some.inj h
    refine ⟨.inr rfl, bl false, rfl, ?_⟩
    exact Weak.e ⟨.k, trivial⟩
 ·intro K8 hK8
  refine awp_reg rfl <| AR.op rfl (aop_field_pp rfl rfl fd35_1 (by decide)) <| AR.op (r := i64 c_1.A) rfl (aop_load_pp rfl rfl sz3 rfl) <| AR.op rfl (aop_field_pp rfl rfl fd35_2 (by decide)) <| AR.keep [2, 3, 5, 12, 13] rfl <| AR.op (r := i64 c_1.B) rfl (aop_load_pp rfl rfl sz3 rfl) <| AR.op (r := bl (decide (c_1.A = c_1.B))) rfl (aop_eql rfl rfl rfl) <| AR.op rfl (aop_move (.inl rfl) rfl) ?_
  refine AR.keep [2, 3, 5, 16] rfl ?_
  rcases Bool.eq_false_or_eq_true (decide (c_1.A = c_1.B)) with hb39 | hb39
  ·rw [hb39]
   replace h := Sh.if_t h hb39
   refine AR.skip rfl <| AR.skip rfl <| AR.skip rfl <| AR.keep [2, 3, 5, 16, 19] rfl <| AR.op rfl (aop_pick rfl rfl rfl) <| AR.op rfl (aop_move (.inl rfl) rfl) <| AR.skip rfl <| AR.keep [2, 3, 5, 21, 22] rfl ?_
   refine AR.skip rfl <| AR.skip rfl <| AR.skip rfl <| AR.keep [2, 3, 5, 21, 25] rfl <| AR.op rfl (aop_pick rfl rfl rfl) <| AR.op rfl (aop_move (.inl rfl) rfl) <| AR.skip rfl <| AR.keep [2, 3, 5, 27, 28] rfl ?_
   refine AR.skip rfl <| AR.skip rfl <| AR.op rfl (aop_pick rfl rfl rfl) <| AR.keep [2, 3, 5, 31] rfl <| AR.op rfl (aop_move (.inl rfl) rfl) <| AR.skip rfl <| AR.skip rfl <| AR.keep [2, 3, 5, 32, 34] rfl ?_
   refine AR.skip rfl <| AR.skip rfl <| AR.op rfl (aop_pick rfl rfl rfl) <| AR.nil ?_
   exact hK8 true _ h (Weak.kt [2, 3, 37] rfl)
  ·rw [hb39]
   replace h := Sh.if_f h hb39
   refine AR.op rfl (aop_field_pp rfl rfl fd35_1 (by decide)) <| AR.op (r := i64 c_1.A) rfl (aop_load_pp rfl rfl sz3 rfl) <| AR.op rfl (aop_lss rfl rfl rfl) <| AR.keep [2, 3, 5, 16, 19] rfl <| AR.op rfl (aop_pick rfl rfl rfl) <| AR.op rfl (aop_move (.inl rfl) rfl) ?_
   rcases Bool.eq_false_or_eq_true (decide (c_1.A < 0)) with hb40 | hb40
   ·rw [hb40]
    replace h := Sh.if_t h hb40
    refine AR.skip rfl <| AR.keep [2, 3, 5, 21, 22] rfl <| AR.skip rfl <| AR.skip rfl <| AR.skip rfl <| AR.keep [2, 3, 5, 21, 25] rfl <| AR.op rfl (aop_pick rfl rfl rfl) <| AR.op rfl (aop_move (.inl rfl) rfl) ?_
    refine AR.skip rfl <| AR.keep [2, 3, 5, 27, 28] rfl <| AR.skip rfl <| AR.skip rfl <| AR.op rfl (aop_pick rfl rfl rfl) <| AR.keep [2, 3, 5, 31] rfl <| AR.op rfl (aop_move (.inl rfl) rfl) <| AR.skip rfl ?_
    refine AR.skip rfl <| AR.keep [2, 3, 5, 32, 34] rfl <| AR.skip rfl <| AR.skip rfl <| AR.op rfl (aop_pick rfl rfl rfl) <| AR.nil ?_
    exact hK8 true _ h (Weak.kt [2, 3, 37] rfl)
   ·rw [hb40]
    replace h := Sh.if_f h hb40
    refine AR.op rfl (aop_field_pp rfl rfl fd35_1 (by decide)) <| AR.keep [2, 3, 5, 21, 22] rfl <| AR.op (r := i64 c_1.A) rfl (aop_load_pp rfl rfl sz3 rfl) <| AR.op rfl (aop_move (.inl rfl) rfl) <| AR.op rfl (aop_geq rfl rfl rfl) <| AR.keep [2, 3, 5, 21, 25] rfl <| AR.op rfl (aop_pick rfl rfl rfl) <| AR.op rfl (aop_move (.inl rfl) rfl) ?_
    rcases Bool.eq_false_or_eq_true (decide ((Sh.len h_0.Txns) ≤ c_1.A)) with hb41 | hb41
    ·rw [hb41]
     replace h := Sh.if_t h hb41
     refine AR.skip rfl <| AR.keep [2, 3, 5, 27, 28] rfl <| AR.skip rfl <| AR.skip rfl <| AR.op rfl (aop_pick rfl rfl rfl) <| AR.keep [2, 3, 5, 31] rfl <| AR.op rfl (aop_move (.inl rfl) rfl) <| AR.skip rfl ?_
     refine AR.skip rfl <| AR.keep [2, 3, 5, 32, 34] rfl <| AR.skip rfl <| AR.skip rfl <| AR.op rfl (aop_pick rfl rfl rfl) <| AR.nil ?_
     exact hK8 true _ h (Weak.kt [2, 3, 37] rfl)
    ·rw [hb41]
     replace h := Sh.if_f h hb41
     refine AR.op rfl (aop_field_pp rfl rfl fd35_2 (by decide)) <| AR.keep [2, 3, 5, 27, 28] rfl <| AR.op (r := i64 c_1.B) rfl (aop_load_pp rfl rfl sz3 rfl) <| AR.op rfl (aop_lss rfl rfl rfl) <| AR.op rfl (aop_pick rfl rfl rfl) <| AR.keep [2, 3, 5, 31] rfl <| AR.op rfl (aop_move (.inl rfl) rfl) ?_
     rcases Bool.eq_false_or_eq_true (decide (c_1.B < 0)) with hb42 | hb42
     ·rw [hb42]
      replace h := Sh.if_t h hb42
      refine AR.skip rfl <| AR.skip rfl <| AR.keep [2, 3, 5, 32, 34] rfl <| AR.skip rfl <| AR.skip rfl <| AR.op rfl (aop_pick rfl rfl rfl) <| AR.nil ?_
      exact hK8 true _ h (Weak.kt [2, 3, 37] rfl)
     ·rw [hb42]
      replace h := Sh.if_f h hb42
      refine AR.op rfl (aop_field_pp rfl rfl fd35_2 (by decide)) <| AR.op (r := i64 c_1.B) rfl (aop_load_pp rfl rfl sz3 rfl) <| AR.keep [2, 3, 5, 32, 34] rfl <| AR.op rfl (aop_move (.inl rfl) rfl) <| AR.op rfl (aop_geq rfl rfl rfl) <| AR.op rfl (aop_pick rfl rfl rfl) <| AR.nil ?_
      exact hK8 (decide ((Sh.len h_0.Txns) ≤ c_1.B)) _ h (Weak.kt [2, 3, 37] rfl)
theorem inquestref18_One_ok {W0 : World} (hT : Tab W0) {h_0 : G.api_Hist} {c_1 : G.api_Choice} {r : Bool} (h : G.inquestref18_One h_0 c_1 = some r) : Fun1 Try.prog W0 43 [G.api_Hist.av h_0, G.api_Choice.av c_1] (bl r) := Fun1.two (inquestref18_One_ok0 hT h) (by simp)


theorem inquestref18_In_ok0 {W0 : World} (hT : Tab W0) {l_0 : List G.api_Choice} {c_1 : G.api_Choice} {r : Bool} (h : G.inquestref18_In l_0 c_1 = some r) : Fun2 Try.prog W0 33 [.sl (List.map G.api_Choice.av l_0), G.api_Choice.av c_1] (bl r) .empty := by
 refine fun2_of_awp Try.func33 rfl (by kernel_rfl) Try.ntmps33 (by simp) ?_
 unfold G.inquestref18_In at h
 show AWP _ _ _ _ ⟨[(0, .sl (List.map G.api_Choice.av l_0)), (1, G.api_Choice.av c_1)], .empty⟩ _
 refine awp_seqK fun K1 hK1 => awp_reg rfl <| AR.op (r := .ref 0 0 0) rfl (aop_box 3 [G.api_Choice.av c_1] rfl rfl rfl (.inl ⟨rfl, rfl⟩)) <| AR.op rfl (aop_move (.inr rfl) rfl) <| AR.nil <| hK1 _ (AWP.weak (Weak.e (fr' := [(0, .sl (List.map G.api_Choice.av l_0)), (3, .pp [i64 c_1.Key, i64 c_1.A, i64 c_1.B] 0)]) (H' := .empty) ⟨⟨.sl (List.map G.api_Choice.av l_0), rfl, .sm⟩, ⟨_, rfl, .frzA rfl rfl rfl rfl (by simp)⟩, trivial⟩) ?_)
 refine awp_seqJ (fun (p : Unit) => (⟨[], .empty⟩ : St)) (fun (p : Unit) => G.inquestref18_In_j1 = some r) ?_ ?_
 ·rintro ⟨⟩ h
  replace h : G.inquestref18_In_j1 = some r := h
  unfold G.inquestref18_In_j1 at h
  refine awp_seqK fun K2 hK2 => awp_reg rfl <| AR.op rfl (aop_move (.inr rfl) rfl) <| AR.nil <| hK2 _ ?_
  refine awp_ret ?_
  obtain rfl := Option.some.inj h
  refine ⟨.inr rfl, bl false, rfl, ?_⟩
  exact Weak.e ⟨.k, trivial⟩
 ·intro K3 hK3
  refine awp_seqK fun K4 hK4 => awp_reg rfl <| AR.op rfl (aop_move (.inr rfl) rfl) <| AR.nil <| hK4 _ ?_
  refine awp_block <| awp_iter (fun (p : Int) => G.inquestref18_In_b1 l_0 c_1 p) (fun (p : Int) => (⟨[(0, .sl (List.map G.api_Choice.av l_0)), (3, .pp [i64 c_1.Key, i64 c_1.A, i64 c_1.B] 0), (5, i64 p)], .empty⟩ : St)) h (Weak.kt [0, 3, 5] rfl) ?_
  ·skip
   rintro i22 o1 h hx1
   replace h : G.inquestref18_In_b1 l_0 c_1 i22 = some o1 := h
   unfold G.inquestref18_In_b1 at h
   refine awp_seqK fun K5 hK5 => awp_seqK fun K6 hK6 => awp_reg rfl <| AR.op rfl (aop_move (.inl rfl) rfl) <| AR.op rfl (aop_move (.inl rfl) rfl) <| AR.op rfl (t_len_sl G.api_Choice.av l_0 rfl rfl el53) <| AR.keep [0, 3, 5, 6, 8] rfl <| AR.op rfl (aop_lss rfl rfl rfl) ?_
   refine AR.nil <| hK6 _ (AWP.weak (Weak.kt [0, 3, 5, 9] rfl) ?_)
   refine awp_cond rfl (fun hb23 => ?_) (fun hb23 => ?_)
   ·replace h := Sh.if_t h hb23
    refine awp_skip <| hK5 _ (AWP.weak (Weak.kt [0, 3, 5] rfl) ?_)
    refine awp_seqK fun K7 hK7 => awp_block <| awp_seqK fun K8 hK8 => awp_any [(true, false), (true, false), (true, false), (true, false), (true, false), (true, false)] (by kernel_rfl) (by kernel_rfl) rfl ?_
    refine ARH.dry rfl (fun _ => aop_move (.inl rfl) rfl) <| ARH.dry rfl (fun _ => aop_move (.inl rfl) rfl) ?_
    obtain ⟨x28, hx28, h⟩ := Sh.bind_some' h
    obtain ⟨k29, hi29, hl29⟩ := Sh.idx_some hx28
    refine ARH.dry rfl (fun _ => t_index_sl G.api_Choice.av l_0 hi29 hl29 rfl rfl rfl el53 rfl) <| ARH.keep [0, 3, 5, 14] rfl <| ARH.dry (r := G.api_Choice.av x28) rfl (fun _ => aop_load_pp rfl rfl sz35 rfl) <| ARH.dry (r := G.api_Choice.av c_1) rfl (fun _ => aop_load_pp rfl rfl sz35 rfl) <| ARH.dry (r := bl (decide (x28 = c_1))) rfl (fun _ => t_eq_api_Choice (a := x28) (b := c_1) rfl rfl rfl) <| ARH.nil <| hK8 _ (AWP.weak (Weak.kt [0, 3, 5, 17] rfl) ?_)
    refine awp_cond rfl (fun hb30 => ?_) (fun hb30 => ?_)
    ·replace h := Sh.if_t h hb30
     refine awp_seqK fun K9 hK9 => awp_reg rfl <| AR.op rfl (aop_move (.inr rfl) rfl) <| AR.nil <| hK9 _ (AWP.weak (Weak.kt [4] rfl) ?_)
     refine awp_ret ?_
     replace h := Sh.exit_eq h hx1
     obtain rfl := Option.some.inj h
     refine ⟨.inr rfl, bl true, rfl, ?_⟩
     exact Weak.e ⟨.k, trivial⟩
    ·replace h := Sh.if_f h hb30
     refine awp_skip <| hK7 _ (AWP.weak (Weak.kt [0, 3, 5] rfl) ?_)
     refine awp_reg rfl <| AR.op rfl (aop_move (.inl rfl) rfl) <| AR.op rfl (aop_add rfl rfl rfl rfl) <| AR.op rfl (aop_move (.inr rfl) rfl) <| AR.nil ?_
     replace h := Sh.next_eq h
     exact ⟨_, h, Weak.kt [0, 3, 5] rfl⟩
   ·replace h := Sh.if_f h hb23
    refine awp_exit ?_
    replace h := Sh.exit_eq h hx1
    exact hK3 () _ h (Weak.kt [] rfl)
theorem inquestref18_In_ok {W0 : World} (hT : Tab W0) {l_0 : List G.api_Choice} {c_1 : G.api_Choice} {r : Bool} (h : G.inquestref18_In l_0 c_1 = some r) : Fun1 Try.prog W0 33 [.sl (List.map G.api_Choice.av l_0), G.api_Choice.av c_1] (bl r) := Fun1.two (inquestref18_In_ok0 hT h) (by simp)

end Wk
