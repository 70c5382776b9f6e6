/- That the functions of a package do what their plain functions say. -/
import Derived.Test.YtnbabpgakdefjaaSh
import Derived.Test.YtnbabpgakdefjaaWkFFacts
import Derived.Test.YtnbabpgakdefjaaWkFinquestref08
import Derived.Test.YtnbabpgakdefjaaWkFinquestref09
import Derived.Test.YtnbabpgakdefjaaWkFinquestref10
import Derived.Test.YtnbabpgakdefjaaWkFinquestref12
import Derived.Test.YtnbabpgakdefjaaWkFinquestref13
import Derived.Test.YtnbabpgakdefjaaWkFinquestref17
open Go Go.Av Go.Proofs
set_option linter.unusedVariables false
set_option maxHeartbeats 8000000
set_option maxRecDepth 20000
namespace Wk
theorem inquestref18_Back_ok0 {W0 : World} (hT : Tab W0) {c_0 : G.api_Choice} {r : G.api_Choice} (h : G.inquestref18_Back c_0 = some r) : Fun2 Try.prog W0 31 [G.api_Choice.av c_0] (G.api_Choice.av r) .empty := by
 refine fun2_of_awp Try.func31 rfl (by kernel_rfl) Try.ntmps31 (by simp) ?_
 unfold G.inquestref18_Back at h
 show AWP _ _ _ _ ⟨[(0, G.api_Choice.av c_0)], .empty⟩ _
 refine awp_seqK fun K1 hK1 => ?_
 refine awp_reg rfl ?_
 refine AR.op (r := .ref 0 0 0) rfl (aop_box 3 [G.api_Choice.av c_0] rfl rfl rfl (.inl ⟨rfl, rfl⟩)) ?_
 refine AR.op (r := .ref 1 0 0) rfl (aop_alloc 3 [.agg [i64 0, i64 0, i64 0]] rfl zr27 (by kernel_rfl) (.inl ⟨rfl, rfl⟩)) ?_
 refine AR.nil ?_
 refine hK1 _ (AWP.weak (Weak.re (fr' := [(1, .pp [i64 c_0.Key, i64 c_0.A, i64 c_0.B] 0), (2, .ref 0 0 0)]) (H' := ⟨1, [(0, (3, [.agg [i64 0, i64 0, i64 0]]))], []⟩) [(0, 1)] [] rfl rfl rfl (.cons rfl rfl (.one (.sm) rfl) (of_decide_eq_true rfl) (trivial)) ⟨⟨_, rfl, .frzA rfl rfl rfl rfl (by simp)⟩, ⟨_, rfl, .ref rfl⟩, trivial⟩) ?_)
 clear hK1 K1
 refine awp_seqK fun K2 hK2 => ?_
 refine awp_reg rfl ?_
 refine AR.op rfl (aop_field_pp rfl rfl fd27_0 (by decide)) ?_
 refine AR.op (r := i64 c_0.Key) rfl (aop_load_pp rfl rfl sz3 rfl) ?_
 refine AR.op rfl (aop_field_pp rfl rfl fd27_2 (by decide)) ?_
 refine AR.keep [1, 2, 4, 5] rfl ?_
 refine AR.op (r := i64 c_0.B) rfl (aop_load_pp rfl rfl sz3 rfl) ?_
 refine AR.op rfl (aop_field_pp rfl rfl fd27_1 (by decide)) ?_
 refine AR.op (r := i64 c_0.A) rfl (aop_load_pp rfl rfl sz3 rfl) ?_
 refine AR.keep [2, 4, 6, 8] rfl ?_
 refine AR.op (r := .agg [i64 c_0.Key, i64 c_0.B, i64 c_0.A]) rfl (aop_build rfl bd27 rfl rfl rfl) ?_
 refine AR.op rfl (aop_store (e' := .agg [i64 c_0.Key, i64 c_0.B, i64 c_0.A]) rfl rfl rfl rfl rfl rfl sz27 rfl (of_decide_eq_true rfl) rfl) ?_
 refine AR.nil ?_
 refine hK2 _ (AWP.weak (Weak.re (fr' := [(2, .ref 0 0 0)]) (H' := ⟨1, [(0, (3, [.agg [i64 c_0.Key, i64 c_0.B, i64 c_0.A]]))], []⟩) [(0, 0)] [] rfl rfl rfl (.cons rfl rfl (.one (.sm) rfl) (of_decide_eq_true rfl) (trivial)) ⟨⟨_, rfl, .ref rfl⟩, trivial⟩) ?_)
 clear hK2 K2
 refine awp_ret ?_
 obtain rfl := Option.some.inj h
 refine ⟨.inr rfl, .agg [i64 c_0.Key, i64 c_0.B, i64 c_0.A], rfl, ?_⟩
 exact Weak.re [] [] rfl rfl rfl (trivial) ⟨⟨.agg [i64 c_0.Key, i64 c_0.B, i64 c_0.A], rfl, .sm⟩, trivial⟩
theorem inquestref18_Back_ok {W0 : World} (hT : Tab W0) {c_0 : G.api_Choice} {r : G.api_Choice} (h : G.inquestref18_Back c_0 = some r) : Fun1 Try.prog W0 31 [G.api_Choice.av c_0] (G.api_Choice.av r) := Fun1.two (inquestref18_Back_ok0 hT h) (by simp)


theorem inquestref18_One_ok0 {W0 : World} (hT : Tab W0) {h_0 : G.api_Hist} {c_1 : G.api_Choice} {r : Bool} (h : G.inquestref18_One h_0 c_1 = some r) : Fun2 Try.prog W0 38 [G.api_Hist.av h_0, G.api_Choice.av c_1] (bl r) .empty := by
 refine fun2_of_awp Try.func38 rfl (by kernel_rfl) Try.ntmps38 (by simp) ?_
 unfold G.inquestref18_One at h
 show AWP _ _ _ _ ⟨[(0, G.api_Hist.av h_0), (1, G.api_Choice.av c_1)], .empty⟩ _
 refine awp_seqK fun K1 hK1 => ?_
 refine awp_reg rfl ?_
 refine AR.op (r := .ref 0 0 0) rfl (aop_box 1 [G.api_Hist.av h_0] rfl rfl rfl (.inl ⟨rfl, rfl⟩)) ?_
 refine AR.op (r := .ref 1 0 0) rfl (aop_box 3 [G.api_Choice.av c_1] rfl rfl rfl (.inl ⟨rfl, rfl⟩)) ?_
 refine AR.op (r := bl false) rfl (aop_move (.inr rfl) rfl) ?_
 refine AR.nil ?_
 refine hK1 _ (AWP.weak (Weak.re (fr' := [(2, .pp [.sl (List.map G.api_Txn.av h_0.Txns)] 0), (3, .pp [i64 c_1.Key, i64 c_1.A, i64 c_1.B] 0)]) (H' := .empty) [] [] rfl rfl rfl (trivial) ⟨⟨_, rfl, .frzA rfl rfl rfl rfl (by simp)⟩, ⟨_, rfl, .frzA rfl rfl rfl rfl (by simp)⟩, trivial⟩) ?_)
 clear hK1 K1
 refine awp_seqK fun K2 hK2 => ?_
 refine awp_reg rfl ?_
 refine AR.op rfl (aop_field_pp rfl rfl fd24_0 (by decide)) ?_
 refine AR.op (r := .sl (List.map G.api_Txn.av h_0.Txns)) rfl (aop_load_pp rfl rfl sz22 rfl) ?_
 refine AR.op (r := i64 (Sh.len h_0.Txns)) rfl (t_len_sl G.api_Txn.av h_0.Txns rfl rfl el22) ?_
 refine AR.keep [2, 3, 10] rfl ?_
 refine AR.op (r := i64 (Sh.len h_0.Txns)) rfl (aop_move (.inr rfl) rfl) ?_
 refine AR.nil ?_
 refine hK2 _ (AWP.weak (Weak.kt [2, 3, 5] rfl) ?_)
 clear hK2 K2
 refine awp_seqK fun K3 hK3 => ?_
 refine awp_seqJ (fun (p : Bool) => (⟨[(2, .pp [.sl (List.map G.api_Txn.av h_0.Txns)] 0), (3, .pp [i64 c_1.Key, i64 c_1.A, i64 c_1.B] 0), (37, bl p)], .empty⟩ : St)) (fun (p : Bool) => G.inquestref18_One_j1 h_0 c_1 p = some r) ?_ ?_
 ·rintro v23 h
  replace h : G.inquestref18_One_j1 h_0 c_1 v23 = some r := h
  unfold G.inquestref18_One_j1 at h
  show AWP _ _ _ _ ⟨[(2, .pp [.sl (List.map G.api_Txn.av h_0.Txns)] 0), (3, .pp [i64 c_1.Key, i64 c_1.A, i64 c_1.B] 0), (37, bl v23)], .empty⟩ _
  refine awp_cond rfl (fun hb24 => ?_) (fun hb24 => ?_)
  ·replace h := Sh.if_t h hb24
   refine awp_seqK fun K4 hK4 => ?_
   refine awp_reg rfl ?_
   refine AR.op (r := bl false) rfl (aop_move (.inr rfl) rfl) ?_
   refine AR.nil ?_
   refine hK4 _ (AWP.weak (Weak.kt [4] rfl) ?_)
   clear hK4 K4
   refine awp_ret ?_
   obtain rfl := Option.some.inj h
   refine ⟨.inr rfl, bl false, rfl, ?_⟩
   exact Weak.re [] [] rfl rfl rfl (trivial) ⟨⟨_, rfl, .sm⟩, trivial⟩
  ·replace h := Sh.if_f h hb24
   refine awp_skip ?_
   refine hK3 _ (AWP.weak (Weak.kt [2, 3] rfl) ?_)
   clear hK3 K3
   refine awp_seqK fun K5 hK5 => ?_
   refine awp_any [(true, false), (true, false), (true, false), (true, false), (true, false), (true, false), (true, false), (true, false), (true, false), (true, false)] (by kernel_rfl) (by kernel_rfl) rfl ?_
   refine ARH.dry rfl (fun _ => aop_field_pp rfl rfl fd24_0 (by decide)) ?_
   refine ARH.dry (r := .sl (List.map G.api_Txn.av h_0.Txns)) rfl (fun _ => aop_load_pp rfl rfl sz22 rfl) ?_
   refine ARH.dry rfl (fun _ => aop_field_pp rfl rfl fd27_1 (by decide)) ?_
   refine ARH.keep [2, 3, 39, 40] rfl ?_
   refine ARH.dry (r := i64 c_1.A) rfl (fun _ => aop_load_pp rfl rfl sz3 rfl) ?_
   obtain ⟨x28, hx28, h⟩ := Sh.bind_some' h
   obtain ⟨k29, hi29, hl29⟩ := Sh.idx_some hx28
   refine ARH.dry rfl (fun _ => t_index_sl G.api_Txn.av h_0.Txns hi29 hl29 rfl rfl rfl el22 rfl) ?_
   refine ARH.dry (r := G.api_Txn.av x28) rfl (fun _ => aop_load_pp rfl rfl sz71 rfl) ?_
   refine ARH.keep [2, 3, 43] rfl ?_
   refine ARH.dry rfl (fun _ => aop_field_pp rfl rfl fd27_0 (by decide)) ?_
   refine ARH.dry (r := i64 c_1.Key) rfl (fun _ => aop_load_pp rfl rfl sz3 rfl) ?_
   obtain ⟨r30, hr30, h⟩ := Sh.bind_some' h
   refine ARH.dry (r := bl r30) rfl (fun _ => aop_call1 rfl rfl (by simp) (inquestref08_Writes_ok hT hr30)) ?_
   refine ARH.keep [2, 3, 46] rfl ?_
   refine ARH.dry (r := bl r30) rfl (fun _ => aop_move (.inr rfl) rfl) ?_
   refine ARH.nil ?_
   refine hK5 _ (AWP.weak (Weak.kt [2, 3, 6] rfl) ?_)
   clear hK5 K5
   refine awp_seqK fun K6 hK6 => ?_
   refine awp_any [(true, false), (true, false), (true, false), (true, false), (true, false), (true, false), (true, false), (true, false), (true, false), (true, false)] (by kernel_rfl) (by kernel_rfl) rfl ?_
   refine ARH.dry rfl (fun _ => aop_field_pp rfl rfl fd24_0 (by decide)) ?_
   refine ARH.dry (r := .sl (List.map G.api_Txn.av h_0.Txns)) rfl (fun _ => aop_load_pp rfl rfl sz22 rfl) ?_
   refine ARH.dry rfl (fun _ => aop_field_pp rfl rfl fd27_2 (by decide)) ?_
   refine ARH.keep [3, 6, 48, 49] rfl ?_
   refine ARH.dry (r := i64 c_1.B) rfl (fun _ => aop_load_pp rfl rfl sz3 rfl) ?_
   obtain ⟨x34, hx34, h⟩ := Sh.bind_some' h
   obtain ⟨k35, hi35, hl35⟩ := Sh.idx_some hx34
   refine ARH.dry rfl (fun _ => t_index_sl G.api_Txn.av h_0.Txns hi35 hl35 rfl rfl rfl el22 rfl) ?_
   refine ARH.dry (r := G.api_Txn.av x34) rfl (fun _ => aop_load_pp rfl rfl sz71 rfl) ?_
   refine ARH.keep [3, 6, 52] rfl ?_
   refine ARH.dry rfl (fun _ => aop_field_pp rfl rfl fd27_0 (by decide)) ?_
   refine ARH.dry (r := i64 c_1.Key) rfl (fun _ => aop_load_pp rfl rfl sz3 rfl) ?_
   obtain ⟨r36, hr36, h⟩ := Sh.bind_some' h
   refine ARH.dry (r := bl r36) rfl (fun _ => aop_call1 rfl rfl (by simp) (inquestref08_Writes_ok hT hr36)) ?_
   refine ARH.keep [6, 55] rfl ?_
   refine ARH.dry (r := bl r36) rfl (fun _ => aop_move (.inr rfl) rfl) ?_
   refine ARH.nil ?_
   refine hK6 _ (AWP.weak (Weak.kt [6, 7] rfl) ?_)
   clear hK6 K6
   refine awp_seqK fun K7 hK7 => ?_
   refine awp_reg rfl ?_
   refine AR.op (r := bl r30) rfl (aop_move (.inl rfl) rfl) ?_
   refine AR.op (r := bl r30) rfl (aop_move (.inl rfl) rfl) ?_
   rcases Bool.eq_false_or_eq_true (r30) with hb38 | hb38
   ·rw [hb38]
    replace h := Sh.if_t h hb38
    refine AR.op (r := bl r36) rfl (aop_move (.inl rfl) rfl) ?_
    refine AR.keep [57, 58] rfl ?_
    refine AR.op (r := bl r36) rfl (aop_pick rfl rfl rfl) ?_
    refine AR.op (r := bl r36) rfl (aop_move (.inr rfl) rfl) ?_
    refine AR.nil ?_
    refine hK7 _ (AWP.weak (Weak.kt [4] rfl) ?_)
    clear hK7 K7
    refine awp_ret ?_
    obtain rfl := Option.some.inj h
    refine ⟨.inr rfl, bl r36, rfl, ?_⟩
    exact Weak.re [] [] rfl rfl rfl (trivial) ⟨⟨_, rfl, .sm⟩, trivial⟩
   ·rw [hb38]
    replace h := Sh.if_f h hb38
    refine AR.skip rfl ?_
    refine AR.keep [57, 58] rfl ?_
    refine AR.op (r := bl false) rfl (aop_pick rfl rfl rfl) ?_
    refine AR.op (r := bl false) rfl (aop_move (.inr rfl) rfl) ?_
    refine AR.nil ?_
    refine hK7 _ (AWP.weak (Weak.kt [4] rfl) ?_)
    clear hK7 K7
    refine awp_ret ?_
    obtain rfl := Option.some.inj h
    refine ⟨.inr rfl, bl false, rfl, ?_⟩
    exact Weak.re [] [] rfl rfl rfl (trivial) ⟨⟨_, rfl, .sm⟩, trivial⟩
 ·intro K8 hK8
  refine awp_reg rfl ?_
  refine AR.op rfl (aop_field_pp rfl rfl fd27_1 (by decide)) ?_
  refine AR.op (r := i64 c_1.A) rfl (aop_load_pp rfl rfl sz3 rfl) ?_
  refine AR.op rfl (aop_field_pp rfl rfl fd27_2 (by decide)) ?_
  refine AR.keep [2, 3, 5, 12, 13] rfl ?_
  refine AR.op (r := i64 c_1.B) rfl (aop_load_pp rfl rfl sz3 rfl) ?_
  refine AR.op (r := bl (decide (c_1.A = c_1.B))) rfl (aop_eql rfl rfl rfl) ?_
  refine AR.op (r := bl (decide (c_1.A = c_1.B))) rfl (aop_move (.inl rfl) rfl) ?_
  refine AR.keep [2, 3, 5, 16] rfl ?_
  rcases Bool.eq_false_or_eq_true (decide (c_1.A = c_1.B)) with hb39 | hb39
  ·rw [hb39]
   replace h := Sh.if_t h hb39
   refine AR.skip rfl ?_
   refine AR.skip rfl ?_
   refine AR.skip rfl ?_
   refine AR.keep [2, 3, 5, 16, 19] rfl ?_
   refine AR.op (r := bl true) rfl (aop_pick rfl rfl rfl) ?_
   refine AR.op (r := bl true) rfl (aop_move (.inl rfl) rfl) ?_
   refine AR.skip rfl ?_
   refine AR.keep [2, 3, 5, 21, 22] rfl ?_
   refine AR.skip rfl ?_
   refine AR.skip rfl ?_
   refine AR.skip rfl ?_
   refine AR.keep [2, 3, 5, 21, 25] rfl ?_
   refine AR.op (r := bl true) rfl (aop_pick rfl rfl rfl) ?_
   refine AR.op (r := bl true) rfl (aop_move (.inl rfl) rfl) ?_
   refine AR.skip rfl ?_
   refine AR.keep [2, 3, 5, 27, 28] rfl ?_
   refine AR.skip rfl ?_
   refine AR.skip rfl ?_
   refine AR.op (r := bl true) rfl (aop_pick rfl rfl rfl) ?_
   refine AR.keep [2, 3, 5, 31] rfl ?_
   refine AR.op (r := bl true) rfl (aop_move (.inl rfl) rfl) ?_
   refine AR.skip rfl ?_
   refine AR.skip rfl ?_
   refine AR.keep [2, 3, 5, 32, 34] rfl ?_
   refine AR.skip rfl ?_
   refine AR.skip rfl ?_
   refine AR.op (r := bl true) rfl (aop_pick rfl rfl rfl) ?_
   refine AR.nil ?_
   exact hK8 true _ h (Weak.kt [2, 3, 37] rfl)
  ·rw [hb39]
   replace h := Sh.if_f h hb39
   refine AR.op rfl (aop_field_pp rfl rfl fd27_1 (by decide)) ?_
   refine AR.op (r := i64 c_1.A) rfl (aop_load_pp rfl rfl sz3 rfl) ?_
   refine AR.op (r := bl (decide (c_1.A < 0))) rfl (aop_lss rfl rfl rfl) ?_
   refine AR.keep [2, 3, 5, 16, 19] rfl ?_
   refine AR.op (r := bl (decide (c_1.A < 0))) rfl (aop_pick rfl rfl rfl) ?_
   refine AR.op (r := bl (decide (c_1.A < 0))) rfl (aop_move (.inl rfl) rfl) ?_
   rcases Bool.eq_false_or_eq_true (decide (c_1.A < 0)) with hb40 | hb40
   ·rw [hb40]
    replace h := Sh.if_t h hb40
    refine AR.skip rfl ?_
    refine AR.keep [2, 3, 5, 21, 22] rfl ?_
    refine AR.skip rfl ?_
    refine AR.skip rfl ?_
    refine AR.skip rfl ?_
    refine AR.keep [2, 3, 5, 21, 25] rfl ?_
    refine AR.op (r := bl true) rfl (aop_pick rfl rfl rfl) ?_
    refine AR.op (r := bl true) rfl (aop_move (.inl rfl) rfl) ?_
    refine AR.skip rfl ?_
    refine AR.keep [2, 3, 5, 27, 28] rfl ?_
    refine AR.skip rfl ?_
    refine AR.skip rfl ?_
    refine AR.op (r := bl true) rfl (aop_pick rfl rfl rfl) ?_
    refine AR.keep [2, 3, 5, 31] rfl ?_
    refine AR.op (r := bl true) rfl (aop_move (.inl rfl) rfl) ?_
    refine AR.skip rfl ?_
    refine AR.skip rfl ?_
    refine AR.keep [2, 3, 5, 32, 34] rfl ?_
    refine AR.skip rfl ?_
    refine AR.skip rfl ?_
    refine AR.op (r := bl true) rfl (aop_pick rfl rfl rfl) ?_
    refine AR.nil ?_
    exact hK8 true _ h (Weak.kt [2, 3, 37] rfl)
   ·rw [hb40]
    replace h := Sh.if_f h hb40
    refine AR.op rfl (aop_field_pp rfl rfl fd27_1 (by decide)) ?_
    refine AR.keep [2, 3, 5, 21, 22] rfl ?_
    refine AR.op (r := i64 c_1.A) rfl (aop_load_pp rfl rfl sz3 rfl) ?_
    refine AR.op (r := i64 (Sh.len h_0.Txns)) rfl (aop_move (.inl rfl) rfl) ?_
    refine AR.op (r := bl (decide ((Sh.len h_0.Txns) ≤ c_1.A))) rfl (aop_geq rfl rfl rfl) ?_
    refine AR.keep [2, 3, 5, 21, 25] rfl ?_
    refine AR.op (r := bl (decide ((Sh.len h_0.Txns) ≤ c_1.A))) rfl (aop_pick rfl rfl rfl) ?_
    refine AR.op (r := bl (decide ((Sh.len h_0.Txns) ≤ c_1.A))) rfl (aop_move (.inl rfl) rfl) ?_
    rcases Bool.eq_false_or_eq_true (decide ((Sh.len h_0.Txns) ≤ c_1.A)) with hb41 | hb41
    ·rw [hb41]
     replace h := Sh.if_t h hb41
     refine AR.skip rfl ?_
     refine AR.keep [2, 3, 5, 27, 28] rfl ?_
     refine AR.skip rfl ?_
     refine AR.skip rfl ?_
     refine AR.op (r := bl true) rfl (aop_pick rfl rfl rfl) ?_
     refine AR.keep [2, 3, 5, 31] rfl ?_
     refine AR.op (r := bl true) rfl (aop_move (.inl rfl) rfl) ?_
     refine AR.skip rfl ?_
     refine AR.skip rfl ?_
     refine AR.keep [2, 3, 5, 32, 34] rfl ?_
     refine AR.skip rfl ?_
     refine AR.skip rfl ?_
     refine AR.op (r := bl true) rfl (aop_pick rfl rfl rfl) ?_
     refine AR.nil ?_
     exact hK8 true _ h (Weak.kt [2, 3, 37] rfl)
    ·rw [hb41]
     replace h := Sh.if_f h hb41
     refine AR.op rfl (aop_field_pp rfl rfl fd27_2 (by decide)) ?_
     refine AR.keep [2, 3, 5, 27, 28] rfl ?_
     refine AR.op (r := i64 c_1.B) rfl (aop_load_pp rfl rfl sz3 rfl) ?_
     refine AR.op (r := bl (decide (c_1.B < 0))) rfl (aop_lss rfl rfl rfl) ?_
     refine AR.op (r := bl (decide (c_1.B < 0))) rfl (aop_pick rfl rfl rfl) ?_
     refine AR.keep [2, 3, 5, 31] rfl ?_
     refine AR.op (r := bl (decide (c_1.B < 0))) rfl (aop_move (.inl rfl) rfl) ?_
     rcases Bool.eq_false_or_eq_true (decide (c_1.B < 0)) with hb42 | hb42
     ·rw [hb42]
      replace h := Sh.if_t h hb42
      refine AR.skip rfl ?_
      refine AR.skip rfl ?_
      refine AR.keep [2, 3, 5, 32, 34] rfl ?_
      refine AR.skip rfl ?_
      refine AR.skip rfl ?_
      refine AR.op (r := bl true) rfl (aop_pick rfl rfl rfl) ?_
      refine AR.nil ?_
      exact hK8 true _ h (Weak.kt [2, 3, 37] rfl)
     ·rw [hb42]
      replace h := Sh.if_f h hb42
      refine AR.op rfl (aop_field_pp rfl rfl fd27_2 (by decide)) ?_
      refine AR.op (r := i64 c_1.B) rfl (aop_load_pp rfl rfl sz3 rfl) ?_
      refine AR.keep [2, 3, 5, 32, 34] rfl ?_
      refine AR.op (r := i64 (Sh.len h_0.Txns)) rfl (aop_move (.inl rfl) rfl) ?_
      refine AR.op (r := bl (decide ((Sh.len h_0.Txns) ≤ c_1.B))) rfl (aop_geq rfl rfl rfl) ?_
      refine AR.op (r := bl (decide ((Sh.len h_0.Txns) ≤ c_1.B))) rfl (aop_pick rfl rfl rfl) ?_
      refine AR.nil ?_
      exact hK8 (decide ((Sh.len h_0.Txns) ≤ c_1.B)) _ h (Weak.re (fr' := [(2, .pp [.sl (List.map G.api_Txn.av h_0.Txns)] 0), (3, .pp [i64 c_1.Key, i64 c_1.A, i64 c_1.B] 0), (37, bl (decide ((Sh.len h_0.Txns) ≤ c_1.B)))]) (H' := .empty) [] [] rfl rfl rfl (trivial) ⟨⟨_, rfl, .sm⟩, ⟨_, rfl, .sm⟩, ⟨_, rfl, .sm⟩, trivial⟩)
theorem inquestref18_One_ok {W0 : World} (hT : Tab W0) {h_0 : G.api_Hist} {c_1 : G.api_Choice} {r : Bool} (h : G.inquestref18_One h_0 c_1 = some r) : Fun1 Try.prog W0 38 [G.api_Hist.av h_0, G.api_Choice.av c_1] (bl r) := Fun1.two (inquestref18_One_ok0 hT h) (by simp)


theorem inquestref18_In_ok0 {W0 : World} (hT : Tab W0) {l_0 : List G.api_Choice} {c_1 : G.api_Choice} {r : Bool} (h : G.inquestref18_In l_0 c_1 = some r) : Fun2 Try.prog W0 67 [.sl (List.map G.api_Choice.av l_0), G.api_Choice.av c_1] (bl r) .empty := by
 refine fun2_of_awp Try.func67 rfl (by kernel_rfl) Try.ntmps67 (by simp) ?_
 unfold G.inquestref18_In at h
 show AWP _ _ _ _ ⟨[(0, .sl (List.map G.api_Choice.av l_0)), (1, G.api_Choice.av c_1)], .empty⟩ _
 refine awp_seqK fun K1 hK1 => ?_
 refine awp_reg rfl ?_
 refine AR.op (r := .ref 0 0 0) rfl (aop_box 3 [G.api_Choice.av c_1] rfl rfl rfl (.inl ⟨rfl, rfl⟩)) ?_
 refine AR.op (r := bl false) rfl (aop_move (.inr rfl) rfl) ?_
 refine AR.nil ?_
 refine hK1 _ (AWP.weak (Weak.re (fr' := [(0, .sl (List.map G.api_Choice.av l_0)), (3, .pp [i64 c_1.Key, i64 c_1.A, i64 c_1.B] 0)]) (H' := .empty) [] [] rfl rfl rfl (trivial) ⟨⟨.sl (List.map G.api_Choice.av l_0), rfl, .sm⟩, ⟨_, rfl, .frzA rfl rfl rfl rfl (by simp)⟩, trivial⟩) ?_)
 clear hK1 K1
 refine awp_seqJ (fun (p : Unit) => (⟨[], .empty⟩ : St)) (fun (p : Unit) => G.inquestref18_In_j1 = some r) ?_ ?_
 ·rintro ⟨⟩ h
  replace h : G.inquestref18_In_j1 = some r := h
  unfold G.inquestref18_In_j1 at h
  show AWP _ _ _ _ ⟨[], .empty⟩ _
  refine awp_seqK fun K2 hK2 => ?_
  refine awp_reg rfl ?_
  refine AR.op (r := bl false) rfl (aop_move (.inr rfl) rfl) ?_
  refine AR.nil ?_
  refine hK2 _ ?_
  clear hK2 K2
  refine awp_ret ?_
  obtain rfl := Option.some.inj h
  refine ⟨.inr rfl, bl false, rfl, ?_⟩
  exact Weak.re [] [] rfl rfl rfl (trivial) ⟨⟨_, rfl, .sm⟩, trivial⟩
 ·intro K3 hK3
  refine awp_seqK fun K4 hK4 => ?_
  refine awp_reg rfl ?_
  refine AR.op (r := i64 0) rfl (aop_move (.inr rfl) rfl) ?_
  refine AR.nil ?_
  refine hK4 _ ?_
  clear hK4 K4
  refine awp_block ?_
  refine awp_iter (fun (p : Int) => G.inquestref18_In_b1 l_0 c_1 p) (fun (p : Int) => (⟨[(0, .sl (List.map G.api_Choice.av l_0)), (3, .pp [i64 c_1.Key, i64 c_1.A, i64 c_1.B] 0), (5, i64 p)], .empty⟩ : St)) h (Weak.kt [0, 3, 5] rfl) ?_
  ·skip
   rintro i22 o1 h hx1
   replace h : G.inquestref18_In_b1 l_0 c_1 i22 = some o1 := h
   unfold G.inquestref18_In_b1 at h
   show AWP _ _ _ _ ⟨[(0, .sl (List.map G.api_Choice.av l_0)), (3, .pp [i64 c_1.Key, i64 c_1.A, i64 c_1.B] 0), (5, i64 i22)], .empty⟩ _
   refine awp_seqK fun K5 hK5 => ?_
   refine awp_seqK fun K6 hK6 => ?_
   refine awp_reg rfl ?_
   refine AR.op (r := i64 i22) rfl (aop_move (.inl rfl) rfl) ?_
   refine AR.op (r := .sl (List.map G.api_Choice.av l_0)) rfl (aop_move (.inl rfl) rfl) ?_
   refine AR.op (r := i64 (Sh.len l_0)) rfl (t_len_sl G.api_Choice.av l_0 rfl rfl el43) ?_
   refine AR.keep [0, 3, 5, 6, 8] rfl ?_
   refine AR.op (r := bl (decide (i22 < (Sh.len l_0)))) rfl (aop_lss rfl rfl rfl) ?_
   refine AR.nil ?_
   refine hK6 _ (AWP.weak (Weak.kt [0, 3, 5, 9] rfl) ?_)
   clear hK6 K6
   refine awp_cond rfl (fun hb23 => ?_) (fun hb23 => ?_)
   ·replace h := Sh.if_t h hb23
    refine awp_skip ?_
    refine hK5 _ (AWP.weak (Weak.kt [0, 3, 5] rfl) ?_)
    clear hK5 K5
    refine awp_seqK fun K7 hK7 => ?_
    refine awp_block ?_
    refine awp_seqK fun K8 hK8 => ?_
    refine awp_any [(true, false), (true, false), (true, false), (true, false), (true, false), (true, false)] (by kernel_rfl) (by kernel_rfl) rfl ?_
    refine ARH.dry (r := .sl (List.map G.api_Choice.av l_0)) rfl (fun _ => aop_move (.inl rfl) rfl) ?_
    refine ARH.dry (r := i64 i22) rfl (fun _ => aop_move (.inl rfl) rfl) ?_
    obtain ⟨x28, hx28, h⟩ := Sh.bind_some' h
    obtain ⟨k29, hi29, hl29⟩ := Sh.idx_some hx28
    refine ARH.dry rfl (fun _ => t_index_sl G.api_Choice.av l_0 hi29 hl29 rfl rfl rfl el43 rfl) ?_
    refine ARH.keep [0, 3, 5, 14] rfl ?_
    refine ARH.dry (r := G.api_Choice.av x28) rfl (fun _ => aop_load_pp rfl rfl sz27 rfl) ?_
    refine ARH.dry (r := G.api_Choice.av c_1) rfl (fun _ => aop_load_pp rfl rfl sz27 rfl) ?_
    refine ARH.dry (r := bl (decide (x28 = c_1))) rfl (fun _ => t_eq_api_Choice (a := x28) (b := c_1) rfl rfl rfl) ?_
    refine ARH.nil ?_
    refine hK8 _ (AWP.weak (Weak.kt [0, 3, 5, 17] rfl) ?_)
    clear hK8 K8
    refine awp_cond rfl (fun hb30 => ?_) (fun hb30 => ?_)
    ·replace h := Sh.if_t h hb30
     refine awp_seqK fun K9 hK9 => ?_
     refine awp_reg rfl ?_
     refine AR.op (r := bl true) rfl (aop_move (.inr rfl) rfl) ?_
     refine AR.nil ?_
     refine hK9 _ (AWP.weak (Weak.kt [4] rfl) ?_)
     clear hK9 K9
     refine awp_ret ?_
     replace h := Sh.exit_eq h hx1
     obtain rfl := Option.some.inj h
     refine ⟨.inr rfl, bl true, rfl, ?_⟩
     exact Weak.re [] [] rfl rfl rfl (trivial) ⟨⟨_, rfl, .sm⟩, trivial⟩
    ·replace h := Sh.if_f h hb30
     refine awp_skip ?_
     refine hK7 _ (AWP.weak (Weak.kt [0, 3, 5] rfl) ?_)
     clear hK7 K7
     refine awp_reg rfl ?_
     refine AR.op (r := i64 i22) rfl (aop_move (.inl rfl) rfl) ?_
     refine AR.op (r := i64 (w64 (i22 + 1))) rfl (aop_add rfl rfl rfl rfl) ?_
     refine AR.op (r := i64 (w64 (i22 + 1))) rfl (aop_move (.inr rfl) rfl) ?_
     refine AR.nil ?_
     replace h := Sh.next_eq h
     exact ⟨_, h, Weak.re (fr' := [(0, .sl (List.map G.api_Choice.av l_0)), (3, .pp [i64 c_1.Key, i64 c_1.A, i64 c_1.B] 0), (5, i64 (w64 (i22 + 1)))]) (H' := .empty) [] [] rfl rfl rfl (trivial) ⟨⟨.sl (List.map G.api_Choice.av l_0), rfl, .sm⟩, ⟨_, rfl, .sm⟩, ⟨_, rfl, .sm⟩, trivial⟩⟩
   ·replace h := Sh.if_f h hb23
    refine awp_exit ?_
    replace h := Sh.exit_eq h hx1
    exact hK3 () _ h (Weak.kt [] rfl)
theorem inquestref18_In_ok {W0 : World} (hT : Tab W0) {l_0 : List G.api_Choice} {c_1 : G.api_Choice} {r : Bool} (h : G.inquestref18_In l_0 c_1 = some r) : Fun1 Try.prog W0 67 [.sl (List.map G.api_Choice.av l_0), G.api_Choice.av c_1] (bl r) := Fun1.two (inquestref18_In_ok0 hT h) (by simp)


end Wk
