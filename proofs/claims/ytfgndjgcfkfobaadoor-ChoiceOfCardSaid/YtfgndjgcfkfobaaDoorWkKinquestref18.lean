/- That the functions of a package do what their plain functions say. -/
import Derived.Test.YtfgndjgcfkfobaaDoorSh
import Derived.Test.YtfgndjgcfkfobaaDoorWkKFacts
import Derived.Test.YtfgndjgcfkfobaaDoorWkKinquestref08
import Derived.Test.YtfgndjgcfkfobaaDoorWkKinquestref09
open Go Go.Av Go.Proofs
set_option linter.unusedVariables false
set_option maxHeartbeats 8000000
set_option maxRecDepth 20000
namespace Wk
theorem inquestref18_Back_ok0 {W0 : World} (hT : Tab W0) {c_0 : G.api_Choice} {r : G.api_Choice} (h : G.inquestref18_Back c_0 = some r) : Fun2 Tryd.prog W0 32 [G.api_Choice.av c_0] (G.api_Choice.av r) .empty := by
 refine fun2_of_awp Tryd.func32 rfl (by kernel_rfl) Tryd.ntmps32 (by simp) ?_
 unfold G.inquestref18_Back at h
 show AWP _ _ _ _ ⟨[(0, G.api_Choice.av c_0)], .empty⟩ _
 refine awp_seqK fun K1 hK1 => awp_reg rfl <| AR.op (r := .ref 0 0 0) rfl (aop_box 3 [G.api_Choice.av c_0] rfl rfl rfl (.inl ⟨rfl, rfl⟩)) <| AR.op (r := .ref 1 0 0) rfl (aop_alloc 3 [.agg [i64 0, i64 0, i64 0]] rfl zr54 (by kernel_rfl) (.inl ⟨rfl, rfl⟩)) <| AR.nil <| hK1 _ (AWP.weak (Weak.re (fr' := [(1, .pp [i64 c_0.Key, i64 c_0.A, i64 c_0.B] 0), (2, .ref 0 0 0)]) (H' := ⟨1, [(0, (3, [.agg [i64 0, i64 0, i64 0]]))], []⟩) [(0, 1)] [] rfl rfl rfl (.cons rfl rfl (.one (.sm) rfl) dt trivial) ⟨⟨_, rfl, .frzA rfl rfl rfl rfl (by simp)⟩, ⟨_, rfl, .ref rfl⟩, trivial⟩) ?_)
 refine awp_seqK fun K2 hK2 => awp_reg rfl <| AR.op rfl (aop_field_pp rfl rfl fd54_0 (by decide)) <| AR.op (r := i64 c_0.Key) rfl (aop_load_pp rfl rfl sz3 rfl) <| AR.op rfl (aop_field_pp rfl rfl fd54_2 (by decide)) <| AR.keep [1, 2, 4, 5] rfl <| AR.op (r := i64 c_0.B) rfl (aop_load_pp rfl rfl sz3 rfl) <| AR.op rfl (aop_field_pp rfl rfl fd54_1 (by decide)) ?_
 refine AR.op (r := i64 c_0.A) rfl (aop_load_pp rfl rfl sz3 rfl) <| AR.keep [2, 4, 6, 8] rfl <| AR.op (r := .agg [i64 c_0.Key, i64 c_0.B, i64 c_0.A]) rfl (aop_build rfl bd54 rfl rfl rfl) <| AR.op rfl (aop_store (e' := .agg [i64 c_0.Key, i64 c_0.B, i64 c_0.A]) rfl rfl rfl rfl rfl rfl sz54 rfl dt rfl) <| AR.nil <| hK2 _ (AWP.weak (Weak.re (fr' := [(2, .ref 0 0 0)]) (H' := ⟨1, [(0, (3, [.agg [i64 c_0.Key, i64 c_0.B, i64 c_0.A]]))], []⟩) [(0, 0)] [] rfl rfl rfl (.cons rfl rfl (.one (.sm) rfl) dt trivial) ⟨⟨_, rfl, .ref rfl⟩, trivial⟩) ?_)
 refine awp_ret ?_
 obtain rfl := Option.some.inj h
 refine ⟨.inr rfl, .agg [i64 c_0.Key, i64 c_0.B, i64 c_0.A], rfl, ?_⟩
 exact Weak.e ⟨⟨.agg [i64 c_0.Key, i64 c_0.B, i64 c_0.A], rfl, .sm⟩, trivial⟩
theorem inquestref18_Back_ok {W0 : World} (hT : Tab W0) {c_0 : G.api_Choice} {r : G.api_Choice} (h : G.inquestref18_Back c_0 = some r) : Fun1 Tryd.prog W0 32 [G.api_Choice.av c_0] (G.api_Choice.av r) := Fun1.two (inquestref18_Back_ok0 hT h) (by simp)


theorem inquestref18_place_ok0 {W0 : World} (hT : Tab W0) {l_0 : List Int} {n_1 : Int} {r : Int} (h : G.inquestref18_place l_0 n_1 = some r) : Fun2 Tryd.prog W0 75 [.sl (List.map i64 l_0), i64 n_1] (i64 r) .empty := by
 refine fun2_of_awp Tryd.func75 rfl (by kernel_rfl) Tryd.ntmps75 (by simp) ?_
 unfold G.inquestref18_place at h
 show AWP _ _ _ _ ⟨[(0, .sl (List.map i64 l_0)), (1, i64 n_1)], .empty⟩ _
 refine awp_seqK fun K1 hK1 => awp_reg rfl <| AR.op rfl (aop_move (.inr rfl) rfl) <| AR.nil <| hK1 _ (AWP.weak (Weak.kt [0, 1] rfl) ?_)
 refine awp_seqJ (fun (p : Unit) => (⟨[], .empty⟩ : St)) (fun (p : Unit) => G.inquestref18_place_j1 = some r) ?_ ?_
 ·rintro ⟨⟩ h
  replace h : G.inquestref18_place_j1 = some r := h
  unfold G.inquestref18_place_j1 at h
  show AWP _ _ _ _ ⟨[], .empty⟩ _
  refine awp_seqK fun K2 hK2 => awp_reg rfl <| AR.op rfl (aop_move (.inr rfl) rfl) <| AR.nil <| hK2 _ ?_
  refine awp_ret ?_
  obtain rfl := Option.some.inj h
  refine ⟨.inr rfl, i64 (-1), rfl, ?_⟩
  exact Weak.e ⟨.k, trivial⟩
 ·intro K3 hK3
  refine awp_seqK fun K4 hK4 => awp_reg rfl <| AR.op rfl (aop_move (.inr rfl) rfl) <| AR.nil <| hK4 _ ?_
  refine awp_block <| awp_iter (fun (p : Int) => G.inquestref18_place_b1 l_0 n_1 p) (fun (p : Int) => (⟨[(0, .sl (List.map i64 l_0)), (1, i64 n_1), (5, i64 p)], .empty⟩ : St)) h (Weak.kt [0, 1, 5] rfl) ?_
  ·skip
   rintro i22 o1 h hx1
   replace h : G.inquestref18_place_b1 l_0 n_1 i22 = some o1 := h
   unfold G.inquestref18_place_b1 at h
   show AWP _ _ _ _ ⟨[(0, .sl (List.map i64 l_0)), (1, i64 n_1), (5, i64 i22)], .empty⟩ _
   refine awp_seqK fun K5 hK5 => awp_seqK fun K6 hK6 => awp_reg rfl <| AR.op rfl (aop_move (.inl rfl) rfl) <| AR.op rfl (aop_move (.inl rfl) rfl) <| AR.op rfl (t_len_sl i64 l_0 rfl rfl el37) <| AR.keep [0, 1, 5, 6, 8] rfl <| AR.op rfl (aop_lss rfl rfl rfl) ?_
   refine AR.nil <| hK6 _ (AWP.weak (Weak.kt [0, 1, 5, 9] rfl) ?_)
   refine awp_cond rfl (fun hb23 => ?_) (fun hb23 => ?_)
   ·replace h := Sh.if_t h hb23
    refine awp_skip <| hK5 _ (AWP.weak (Weak.kt [0, 1, 5] rfl) ?_)
    refine awp_seqK fun K7 hK7 => awp_block <| awp_seqK fun K8 hK8 => awp_reg rfl <| AR.op rfl (aop_move (.inl rfl) rfl) <| AR.op rfl (aop_move (.inl rfl) rfl) ?_
    obtain ⟨x28, hx28, h⟩ := Sh.bind_some' h
    obtain ⟨k29, hi29, hl29⟩ := Sh.idx_some hx28
    refine AR.op rfl (t_index_sl i64 l_0 hi29 hl29 rfl rfl rfl el37 rfl) <| AR.keep [0, 1, 5, 14] rfl <| AR.op (r := i64 x28) rfl (aop_load_pp rfl rfl sz3 rfl) <| AR.op rfl (aop_move (.inl rfl) rfl) <| AR.op (r := bl (decide (x28 = n_1))) rfl (aop_eql rfl rfl rfl) <| AR.nil <| hK8 _ (AWP.weak (Weak.kt [0, 1, 5, 17] rfl) ?_)
    refine awp_cond rfl (fun hb30 => ?_) (fun hb30 => ?_)
    ·replace h := Sh.if_t h hb30
     refine awp_seqK fun K9 hK9 => awp_reg rfl <| AR.op rfl (aop_move (.inl rfl) rfl) <| AR.op rfl (aop_move (.inr rfl) rfl) <| AR.nil <| hK9 _ (AWP.weak (Weak.kt [4] rfl) ?_)
     refine awp_ret ?_
     replace h := Sh.exit_eq h hx1
     obtain rfl := Option.some.inj h
     refine ⟨.inr rfl, i64 i22, rfl, ?_⟩
     exact Weak.e ⟨.k, trivial⟩
    ·replace h := Sh.if_f h hb30
     refine awp_skip <| hK7 _ (AWP.weak (Weak.kt [0, 1, 5] rfl) ?_)
     refine awp_reg rfl <| AR.op rfl (aop_move (.inl rfl) rfl) <| AR.op rfl (aop_add rfl rfl rfl rfl) <| AR.op rfl (aop_move (.inr rfl) rfl) <| AR.nil ?_
     replace h := Sh.next_eq h
     exact ⟨_, h, Weak.e (fr' := [(0, .sl (List.map i64 l_0)), (1, i64 n_1), (5, i64 (w64 (i22 + 1)))]) (H' := .empty) ⟨⟨.sl (List.map i64 l_0), rfl, .sm⟩, .k, .k, trivial⟩⟩
   ·replace h := Sh.if_f h hb23
    refine awp_exit ?_
    replace h := Sh.exit_eq h hx1
    exact hK3 () _ h (Weak.kt [] rfl)
theorem inquestref18_place_ok {W0 : World} (hT : Tab W0) {l_0 : List Int} {n_1 : Int} {r : Int} (h : G.inquestref18_place l_0 n_1 = some r) : Fun1 Tryd.prog W0 75 [.sl (List.map i64 l_0), i64 n_1] (i64 r) := Fun1.two (inquestref18_place_ok0 hT h) (by simp)


theorem inquestref18_Perm_ok0 {W0 : World} (hT : Tab W0) {l_0 : List Int} {n_1 : Int} {r : Bool} (h : G.inquestref18_Perm l_0 n_1 = some r) : Fun2 Tryd.prog W0 41 [.sl (List.map i64 l_0), i64 n_1] (bl r) .empty := by
 refine fun2_of_awp Tryd.func41 rfl (by kernel_rfl) Tryd.ntmps41 (by simp) ?_
 unfold G.inquestref18_Perm at h
 show AWP _ _ _ _ ⟨[(0, .sl (List.map i64 l_0)), (1, i64 n_1)], .empty⟩ _
 refine awp_seqK fun K1 hK1 => awp_reg rfl <| AR.op rfl (aop_move (.inr rfl) rfl) <| AR.nil <| hK1 _ (AWP.weak (Weak.kt [0, 1] rfl) ?_)
 refine awp_seqK fun K2 hK2 => awp_seqK fun K3 hK3 => awp_reg rfl <| AR.op rfl (aop_move (.inl rfl) rfl) <| AR.op rfl (t_len_sl i64 l_0 rfl rfl el37) <| AR.op rfl (aop_move (.inl rfl) rfl) <| AR.keep [0, 1, 8, 9] rfl <| AR.op (r := bl (decide ((Sh.len l_0) ≠ n_1))) rfl (aop_neq rfl rfl rfl) ?_
 refine AR.nil <| hK3 _ (AWP.weak (Weak.kt [0, 1, 10] rfl) ?_)
 refine awp_cond rfl (fun hb6 => ?_) (fun hb6 => ?_)
 ·replace h := Sh.if_t h hb6
  refine awp_seqK fun K4 hK4 => awp_reg rfl <| AR.op rfl (aop_move (.inr rfl) rfl) <| AR.nil <| hK4 _ (AWP.weak (Weak.kt [4] rfl) ?_)
  refine awp_ret ?_
  obtain rfl := Option.some.inj h
  refine ⟨.inr rfl, bl false, rfl, ?_⟩
  exact Weak.e ⟨.k, trivial⟩
 ·replace h := Sh.if_f h hb6
  refine awp_skip <| hK2 _ (AWP.weak (Weak.kt [0, 1] rfl) ?_)
  refine awp_seqJ (fun (p : Unit) => (⟨[], .empty⟩ : St)) (fun (p : Unit) => G.inquestref18_Perm_j1 = some r) ?_ ?_
  ·rintro ⟨⟩ h
   replace h : G.inquestref18_Perm_j1 = some r := h
   unfold G.inquestref18_Perm_j1 at h
   show AWP _ _ _ _ ⟨[], .empty⟩ _
   refine awp_seqK fun K5 hK5 => awp_reg rfl <| AR.op rfl (aop_move (.inr rfl) rfl) <| AR.nil <| hK5 _ ?_
   refine awp_ret ?_
   obtain rfl := Option.some.inj h
   refine ⟨.inr rfl, bl true, rfl, ?_⟩
   exact Weak.e ⟨.k, trivial⟩
  ·intro K6 hK6
   refine awp_seqK fun K7 hK7 => awp_reg rfl <| AR.op rfl (aop_move (.inr rfl) rfl) <| AR.nil <| hK7 _ ?_
   refine awp_block <| awp_iter (fun (p : Int) => G.inquestref18_Perm_b1 l_0 n_1 p) (fun (p : Int) => (⟨[(0, .sl (List.map i64 l_0)), (1, i64 n_1), (5, i64 p)], .empty⟩ : St)) h (Weak.kt [0, 1, 5] rfl) ?_
   ·skip
    rintro i15 o1 h hx1
    replace h : G.inquestref18_Perm_b1 l_0 n_1 i15 = some o1 := h
    unfold G.inquestref18_Perm_b1 at h
    show AWP _ _ _ _ ⟨[(0, .sl (List.map i64 l_0)), (1, i64 n_1), (5, i64 i15)], .empty⟩ _
    refine awp_seqK fun K8 hK8 => awp_seqK fun K9 hK9 => awp_reg rfl <| AR.op rfl (aop_move (.inl rfl) rfl) <| AR.op rfl (aop_move (.inl rfl) rfl) <| AR.op rfl (aop_lss rfl rfl rfl) <| AR.nil <| hK9 _ (AWP.weak (Weak.kt [0, 1, 5, 13] rfl) ?_)
    refine awp_cond rfl (fun hb16 => ?_) (fun hb16 => ?_)
    ·replace h := Sh.if_t h hb16
     refine awp_skip <| hK8 _ (AWP.weak (Weak.kt [0, 1, 5] rfl) ?_)
     refine awp_seqK fun K10 hK10 => awp_block <| awp_seqK fun K11 hK11 => awp_reg rfl <| AR.op rfl (aop_move (.inl rfl) rfl) <| AR.op rfl (aop_move (.inl rfl) rfl) ?_
     obtain ⟨r19, hr19, h⟩ := Sh.bind_some' h
     refine AR.op (r := i64 r19) rfl (aop_call1 rfl rfl (by simp) (inquestref18_place_ok hT hr19)) <| AR.keep [0, 1, 5, 18] rfl <| AR.op rfl (aop_move (.inr rfl) rfl) <| AR.nil <| hK11 _ (AWP.weak (Weak.kt [0, 1, 5, 6] rfl) ?_)
     refine awp_seqK fun K12 hK12 => awp_reg rfl <| AR.op rfl (aop_move (.inl rfl) rfl) <| AR.op rfl (aop_lss rfl rfl rfl) <| AR.nil <| hK12 _ (AWP.weak (Weak.kt [0, 1, 5, 20] rfl) ?_)
     refine awp_cond rfl (fun hb20 => ?_) (fun hb20 => ?_)
     ·replace h := Sh.if_t h hb20
      refine awp_seqK fun K13 hK13 => awp_reg rfl <| AR.op rfl (aop_move (.inr rfl) rfl) <| AR.nil <| hK13 _ (AWP.weak (Weak.kt [4] rfl) ?_)
      refine awp_ret ?_
      replace h := Sh.exit_eq h hx1
      obtain rfl := Option.some.inj h
      refine ⟨.inr rfl, bl false, rfl, ?_⟩
      exact Weak.e ⟨.k, trivial⟩
     ·replace h := Sh.if_f h hb20
      refine awp_skip <| hK10 _ (AWP.weak (Weak.kt [0, 1, 5] rfl) ?_)
      refine awp_reg rfl <| AR.op rfl (aop_move (.inl rfl) rfl) <| AR.op rfl (aop_add rfl rfl rfl rfl) <| AR.op rfl (aop_move (.inr rfl) rfl) <| AR.nil ?_
      replace h := Sh.next_eq h
      exact ⟨_, h, Weak.e (fr' := [(0, .sl (List.map i64 l_0)), (1, i64 n_1), (5, i64 (w64 (i15 + 1)))]) (H' := .empty) ⟨⟨.sl (List.map i64 l_0), rfl, .sm⟩, .k, .k, trivial⟩⟩
    ·replace h := Sh.if_f h hb16
     refine awp_exit ?_
     replace h := Sh.exit_eq h hx1
     exact hK6 () _ h (Weak.kt [] rfl)
theorem inquestref18_Perm_ok {W0 : World} (hT : Tab W0) {l_0 : List Int} {n_1 : Int} {r : Bool} (h : G.inquestref18_Perm l_0 n_1 = some r) : Fun1 Tryd.prog W0 41 [.sl (List.map i64 l_0), i64 n_1] (bl r) := Fun1.two (inquestref18_Perm_ok0 hT h) (by simp)


theorem inquestref18_Of_own {W0 : World} (hT : Tab W0) {h_0 : G.api_Hist} {order_1 : List Int} {r : (List G.api_Choice)} (h : G.inquestref18_Of h_0 order_1 = some r) : Fun2 Tryd.prog W0 40 [G.api_Hist.av h_0, .sl (List.map i64 order_1)] (.view 0 0 (List.map G.api_Choice.av r).length) ⟨1, [(0, (3, List.map G.api_Choice.av r))], []⟩ := by
 refine fun2_of_awp Tryd.func40 rfl (by kernel_rfl) Tryd.ntmps40 (by simp) ?_
 unfold G.inquestref18_Of at h
 show AWP _ _ _ _ ⟨[(0, G.api_Hist.av h_0), (1, .sl (List.map i64 order_1))], .empty⟩ _
 refine awp_seqK fun K1 hK1 => awp_reg rfl <| AR.op (r := .ref 0 0 0) rfl (aop_box 1 [G.api_Hist.av h_0] rfl rfl rfl (.inl ⟨rfl, rfl⟩)) <| AR.op rfl (aop_move (.inr rfl) rfl) <| AR.nil <| hK1 _ (AWP.weak (Weak.e (fr' := [(1, .sl (List.map i64 order_1)), (2, .pp [.sl (List.map G.api_Txn.av h_0.Txns)] 0)]) (H' := .empty) ⟨⟨.sl (List.map i64 order_1), rfl, .sm⟩, ⟨_, rfl, .frzA rfl rfl rfl rfl (by simp)⟩, trivial⟩) ?_)
 refine awp_seqK fun K2 hK2 => awp_reg rfl <| AR.op (r := G.api_Hist.av h_0) rfl (aop_load_pp rfl rfl sz24 rfl) ?_
 obtain ⟨r32, hr32, h⟩ := Sh.bind_some' h
 refine AR.op (r := bl r32) rfl (aop_call1 rfl rfl (by simp) (inquestref08_Right_ok hT hr32)) <| AR.op rfl (aop_move (.inr rfl) rfl) <| AR.nil <| hK2 _ (AWP.weak (Weak.kt [1, 2, 5] rfl) ?_)
 refine awp_seqK fun K3 hK3 => awp_reg rfl <| AR.op rfl (aop_move (.inl rfl) rfl) <| AR.op rfl (aop_field_pp rfl rfl fd24_0 (by decide)) <| AR.op (r := .sl (List.map G.api_Txn.av h_0.Txns)) rfl (aop_load_pp rfl rfl sz22 rfl) <| AR.keep [1, 2, 5, 15, 17] rfl <| AR.op rfl (t_len_sl G.api_Txn.av h_0.Txns rfl rfl el22) ?_
 obtain ⟨r34, hr34, h⟩ := Sh.bind_some' h
 refine AR.op (r := bl r34) rfl (aop_call1 rfl rfl (by simp) (inquestref18_Perm_ok hT hr34)) <| AR.op rfl (aop_move (.inr rfl) rfl) <| AR.nil <| hK3 _ (AWP.weak (Weak.kt [1, 2, 5, 6] rfl) ?_)
 refine awp_seqK fun K4 hK4 => awp_seqJ (fun (p : Bool) => (⟨[(1, .sl (List.map i64 order_1)), (2, .pp [.sl (List.map G.api_Txn.av h_0.Txns)] 0), (25, bl p)], .empty⟩ : St)) (fun (p : Bool) => G.inquestref18_Of_j1 h_0 order_1 p = some r) ?_ ?_
 ·rintro v38 h
  replace h : G.inquestref18_Of_j1 h_0 order_1 v38 = some r := h
  unfold G.inquestref18_Of_j1 at h
  show AWP _ _ _ _ ⟨[(1, .sl (List.map i64 order_1)), (2, .pp [.sl (List.map G.api_Txn.av h_0.Txns)] 0), (25, bl v38)], .empty⟩ _
  refine awp_cond rfl (fun hb39 => ?_) (fun hb39 => ?_)
  ·replace h := Sh.if_t h hb39
   refine awp_seqK fun K5 hK5 => awp_reg rfl <| AR.op rfl (aop_move (.inr rfl) rfl) <| AR.nil <| hK5 _ (AWP.weak (Weak.kt [4] rfl) ?_)
   refine awp_ret ?_
   obtain rfl := Option.some.inj h
   refine ⟨.inr rfl, nilS, rfl, ?_⟩
   exact Weak.re [] [0] rfl rfl rfl (.fresh (by simp) dt trivial) ⟨⟨_, rfl, .nil (by simp)⟩, trivial⟩
  ·replace h := Sh.if_f h hb39
   refine awp_skip <| hK4 _ (AWP.weak (Weak.kt [1, 2] rfl) ?_)
   refine awp_seqK fun K6 hK6 => awp_reg rfl <| AR.op (r := G.api_Hist.av h_0) rfl (aop_load_pp rfl rfl sz24 rfl) ?_
   obtain ⟨r41, hr41, h⟩ := Sh.bind_some' h
   refine AR.op (r := .sl (List.map G.api_Choice.av r41)) rfl (aop_call1 rfl rfl (by simp) (inquestref09_Pairs_ok hT hr41)) <| AR.op rfl (aop_move (.inr rfl) rfl) <| AR.nil <| hK6 _ (AWP.weak (Weak.kt [1, 7] rfl) ?_)
   refine awp_seqK fun K7 hK7 => awp_reg rfl <| AR.op rfl (aop_move (.inr rfl) rfl) <| AR.nil <| hK7 _ ?_
   refine awp_seqJ (fun (p : (List G.api_Choice)) => (⟨[(8, .view 0 0 (List.map G.api_Choice.av p).length)], ⟨1, [(0, (3, List.map G.api_Choice.av p))], []⟩⟩ : St)) (fun (p : (List G.api_Choice)) => G.inquestref18_Of_j2 p = some r) ?_ ?_
   ·rintro out67 h
    replace h : G.inquestref18_Of_j2 out67 = some r := h
    unfold G.inquestref18_Of_j2 at h
    show AWP _ _ _ _ ⟨[(8, .view 0 0 (List.map G.api_Choice.av out67).length)], ⟨1, [(0, (3, List.map G.api_Choice.av out67))], []⟩⟩ _
    refine awp_seqK fun K8 hK8 => awp_reg rfl <| AR.op rfl (aop_move (.inl rfl) rfl) <| AR.op rfl (aop_move (.inr rfl) rfl) <| AR.nil <| hK8 _ (AWP.weak (Weak.re (fr' := [(4, .view 0 0 (List.map G.api_Choice.av out67).length)]) (H' := ⟨1, [(0, (3, List.map G.api_Choice.av out67))], []⟩) [(0, 0)] [] rfl rfl rfl (.cons rfl rfl (.same (by simp)) dt trivial) ⟨⟨_, rfl, .view rfl⟩, trivial⟩) ?_)
    refine awp_ret ?_
    obtain rfl := Option.some.inj h
    refine ⟨.inr rfl, .view 0 0 (List.map G.api_Choice.av out67).length, rfl, ?_⟩
    exact Weak.re [(0, 0)] [] rfl rfl rfl (.cons rfl rfl (.same (by simp)) dt trivial) ⟨⟨_, rfl, .view rfl⟩, trivial⟩
   ·intro K9 hK9
    refine awp_seqK fun K10 hK10 => awp_reg rfl <| AR.op rfl (aop_move (.inr rfl) rfl) <| AR.nil <| hK10 _ ?_
    refine awp_block <| awp_iter (fun (p : (List G.api_Choice) × Int) => G.inquestref18_Of_b1 order_1 r41 p.1 p.2) (fun (p : (List G.api_Choice) × Int) => (⟨[(1, .sl (List.map i64 order_1)), (7, .sl (List.map G.api_Choice.av r41)), (8, .view 0 0 (List.map G.api_Choice.av p.1).length), (9, i64 p.2)], ⟨1, [(0, (3, List.map G.api_Choice.av p.1))], []⟩⟩ : St)) h (Weak.re (fr' := [(1, .sl (List.map i64 order_1)), (7, .sl (List.map G.api_Choice.av r41)), (8, .view 0 0 (List.map G.api_Choice.av []).length), (9, i64 0)]) (H' := ⟨1, [(0, (3, List.map G.api_Choice.av []))], []⟩) [] [0] rfl rfl rfl (.fresh (by simp) dt trivial) ⟨⟨.sl (List.map i64 order_1), rfl, .sm⟩, ⟨.sl (List.map G.api_Choice.av r41), rfl, .sm⟩, ⟨_, rfl, .nil (by simp)⟩, .k, trivial⟩) ?_
    ·skip
     rintro ⟨out84, i85⟩ o1 h hx1
     replace h : G.inquestref18_Of_b1 order_1 r41 out84 i85 = some o1 := h
     unfold G.inquestref18_Of_b1 at h
     show AWP _ _ _ _ ⟨[(1, .sl (List.map i64 order_1)), (7, .sl (List.map G.api_Choice.av r41)), (8, .view 0 0 (List.map G.api_Choice.av out84).length), (9, i64 i85)], ⟨1, [(0, (3, List.map G.api_Choice.av out84))], []⟩⟩ _
     refine awp_seqK fun K11 hK11 => awp_seqK fun K12 hK12 => awp_reg rfl <| AR.op rfl (aop_move (.inl rfl) rfl) <| AR.op rfl (aop_move (.inl rfl) rfl) <| AR.op rfl (t_len_sl G.api_Choice.av r41 rfl rfl el51) <| AR.keep [1, 7, 8, 9, 28, 30] rfl <| AR.op rfl (aop_lss rfl rfl rfl) ?_
     refine AR.nil <| hK12 _ (AWP.weak (Weak.re (fr' := [(1, .sl (List.map i64 order_1)), (7, .sl (List.map G.api_Choice.av r41)), (8, .view 0 0 (List.map G.api_Choice.av out84).length), (9, i64 i85), (31, bl (decide (i85 < (Sh.len r41))))]) (H' := ⟨1, [(0, (3, List.map G.api_Choice.av out84))], []⟩) [(0, 0)] [] rfl rfl rfl (.cons rfl rfl (.same (by simp)) dt trivial) ⟨⟨.sl (List.map i64 order_1), rfl, .sm⟩, ⟨.sl (List.map G.api_Choice.av r41), rfl, .sm⟩, ⟨_, rfl, .view rfl⟩, .k, .k, trivial⟩) ?_)
     refine awp_cond rfl (fun hb86 => ?_) (fun hb86 => ?_)
     ·replace h := Sh.if_t h hb86
      refine awp_skip <| hK11 _ (AWP.weak (Weak.re (fr' := [(1, .sl (List.map i64 order_1)), (7, .sl (List.map G.api_Choice.av r41)), (8, .view 0 0 (List.map G.api_Choice.av out84).length), (9, i64 i85)]) (H' := ⟨1, [(0, (3, List.map G.api_Choice.av out84))], []⟩) [(0, 0)] [] rfl rfl rfl (.cons rfl rfl (.same (by simp)) dt trivial) ⟨⟨.sl (List.map i64 order_1), rfl, .sm⟩, ⟨.sl (List.map G.api_Choice.av r41), rfl, .sm⟩, ⟨_, rfl, .view rfl⟩, .k, trivial⟩) ?_)
      refine awp_seqK fun K13 hK13 => awp_block <| awp_seqK fun K14 hK14 => awp_reg rfl <| AR.op rfl (aop_move (.inl rfl) rfl) <| AR.op rfl (aop_move (.inl rfl) rfl) ?_
      obtain ⟨x96, hx96, h⟩ := Sh.bind_some' h
      obtain ⟨k97, hi97, hl97⟩ := Sh.idx_some hx96
      refine AR.op rfl (t_index_sl G.api_Choice.av r41 hi97 hl97 rfl rfl rfl el51 rfl) <| AR.keep [1, 7, 8, 9, 36] rfl <| AR.op (r := G.api_Choice.av x96) rfl (aop_load_pp rfl rfl sz54 rfl) <| AR.op (r := .ref 1 0 0) rfl (aop_alloc 3 [.agg [i64 0, i64 0, i64 0]] rfl zr54 (by kernel_rfl) (.inl ⟨rfl, rfl⟩)) <| AR.op rfl (aop_store (e' := G.api_Choice.av x96) rfl rfl rfl rfl rfl rfl sz54 rfl dt rfl) <| AR.nil <| hK14 _ (AWP.weak (Weak.re (fr' := [(1, .sl (List.map i64 order_1)), (7, .sl (List.map G.api_Choice.av r41)), (8, .view 0 0 (List.map G.api_Choice.av out84).length), (9, i64 i85), (10, .ref 1 0 0)]) (H' := ⟨2, [(0, (3, List.map G.api_Choice.av out84)), (1, (3, [G.api_Choice.av x96]))], []⟩) [(0, 0), (1, 1)] [] rfl rfl rfl (.cons rfl rfl (.same (by simp)) dt (.cons rfl rfl (.one (.sm) rfl) dt trivial)) ⟨⟨.sl (List.map i64 order_1), rfl, .sm⟩, ⟨.sl (List.map G.api_Choice.av r41), rfl, .sm⟩, ⟨_, rfl, .view rfl⟩, .k, ⟨_, rfl, .ref rfl⟩, trivial⟩) ?_)
      refine awp_seqK fun K15 hK15 => awp_reg rfl <| AR.op rfl (aop_move (.inl rfl) rfl) <| AR.op rfl (aop_field_ref rfl rfl rfl fd54_1 (by decide)) <| AR.op (r := i64 x96.A) rfl (aop_load_ref rfl rfl rfl rfl sz3 rfl) <| AR.keep [1, 7, 8, 9, 10, 38, 40] rfl ?_
      obtain ⟨r99, hr99, h⟩ := Sh.bind_some' h
      refine AR.op (r := i64 r99) rfl (aop_call1 rfl rfl (by simp) (inquestref18_place_ok hT hr99)) <| AR.op rfl (aop_move (.inr rfl) rfl) <| AR.nil <| hK15 _ (AWP.weak (Weak.re (fr' := [(1, .sl (List.map i64 order_1)), (7, .sl (List.map G.api_Choice.av r41)), (8, .view 0 0 (List.map G.api_Choice.av out84).length), (9, i64 i85), (10, .ref 1 0 0), (11, i64 r99)]) (H' := ⟨2, [(0, (3, List.map G.api_Choice.av out84)), (1, (3, [G.api_Choice.av x96]))], []⟩) [(0, 0), (1, 1)] [] rfl rfl rfl (.cons rfl rfl (.same (by simp)) dt (.cons rfl rfl (.one (.sm) rfl) dt trivial)) ⟨⟨.sl (List.map i64 order_1), rfl, .sm⟩, ⟨.sl (List.map G.api_Choice.av r41), rfl, .sm⟩, ⟨_, rfl, .view rfl⟩, .k, ⟨_, rfl, .ref rfl⟩, .k, trivial⟩) ?_)
      refine awp_seqK fun K16 hK16 => awp_reg rfl <| AR.op rfl (aop_move (.inl rfl) rfl) <| AR.op rfl (aop_field_ref rfl rfl rfl fd54_2 (by decide)) <| AR.op (r := i64 x96.B) rfl (aop_load_ref rfl rfl rfl rfl sz3 rfl) <| AR.keep [1, 7, 8, 9, 10, 11, 42, 44] rfl ?_
      obtain ⟨r101, hr101, h⟩ := Sh.bind_some' h
      refine AR.op (r := i64 r101) rfl (aop_call1 rfl rfl (by simp) (inquestref18_place_ok hT hr101)) <| AR.op rfl (aop_move (.inr rfl) rfl) <| AR.nil <| hK16 _ (AWP.weak (Weak.re (fr' := [(1, .sl (List.map i64 order_1)), (7, .sl (List.map G.api_Choice.av r41)), (8, .view 0 0 (List.map G.api_Choice.av out84).length), (9, i64 i85), (10, .ref 1 0 0), (11, i64 r99), (12, i64 r101)]) (H' := ⟨2, [(0, (3, List.map G.api_Choice.av out84)), (1, (3, [G.api_Choice.av x96]))], []⟩) [(0, 0), (1, 1)] [] rfl rfl rfl (.cons rfl rfl (.same (by simp)) dt (.cons rfl rfl (.one (.sm) rfl) dt trivial)) ⟨⟨.sl (List.map i64 order_1), rfl, .sm⟩, ⟨.sl (List.map G.api_Choice.av r41), rfl, .sm⟩, ⟨_, rfl, .view rfl⟩, .k, ⟨_, rfl, .ref rfl⟩, .k, .k, trivial⟩) ?_)
      refine awp_seqJ (fun (p : G.api_Choice) => (⟨[(1, .sl (List.map i64 order_1)), (7, .sl (List.map G.api_Choice.av r41)), (8, .view 0 0 (List.map G.api_Choice.av out84).length), (9, i64 i85), (10, .ref 1 0 0)], ⟨2, [(0, (3, List.map G.api_Choice.av out84)), (1, (3, [G.api_Choice.av p]))], []⟩⟩ : St)) (fun (p : G.api_Choice) => G.inquestref18_Of_j3 out84 i85 p = some o1) ?_ ?_
      ·rintro c103 h
       replace h : G.inquestref18_Of_j3 out84 i85 c103 = some o1 := h
       unfold G.inquestref18_Of_j3 at h
       show AWP _ _ _ _ ⟨[(1, .sl (List.map i64 order_1)), (7, .sl (List.map G.api_Choice.av r41)), (8, .view 0 0 (List.map G.api_Choice.av out84).length), (9, i64 i85), (10, .ref 1 0 0)], ⟨2, [(0, (3, List.map G.api_Choice.av out84)), (1, (3, [G.api_Choice.av c103]))], []⟩⟩ _
       refine awp_reg rfl <| AR.op rfl (aop_move (.inl rfl) rfl) <| AR.op (r := G.api_Choice.av c103) rfl (aop_load_ref rfl rfl rfl rfl sz54 rfl) <| AR.op (r := .clip (List.map G.api_Choice.av ([c103] : List G.api_Choice))) rfl (aop_buildSlice rfl (xo := [.tmp 52]) rfl rfl rfl (by simp) (by simp) el51 ze51 (by decide)) <| AR.keep [1, 7, 9, 51, 53] rfl ?_
       obtain ⟨out104, hout104, h⟩ := Sh.bind_some' h
       refine AR.op (r := .view 2 0 (List.map G.api_Choice.av out104).length) rfl (t_app_view G.api_Choice.av out84 ([c103] : List G.api_Choice) out104 hout104 rfl et51 (fun _ => rfl) rfl rfl rfl rfl rfl rfl rfl) <| AR.op rfl (aop_move (.inr rfl) rfl) <| AR.nil <| hK13 _ (AWP.weak (Weak.re (fr' := [(1, .sl (List.map i64 order_1)), (7, .sl (List.map G.api_Choice.av r41)), (9, i64 i85), (8, .view 0 0 (List.map G.api_Choice.av out104).length)]) (H' := ⟨1, [(0, (3, List.map G.api_Choice.av out104))], []⟩) [(0, 2)] [] rfl rfl rfl (.cons rfl rfl (.same (by simp)) dt trivial) ⟨⟨.sl (List.map i64 order_1), rfl, .sm⟩, ⟨.sl (List.map G.api_Choice.av r41), rfl, .sm⟩, .k, ⟨_, rfl, .view rfl⟩, trivial⟩) ?_)
       refine awp_reg rfl <| AR.op rfl (aop_move (.inl rfl) rfl) <| AR.op rfl (aop_add rfl rfl rfl rfl) <| AR.op rfl (aop_move (.inr rfl) rfl) <| AR.nil ?_
       replace h := Sh.next_eq h
       exact ⟨_, h, Weak.re (fr' := [(1, .sl (List.map i64 order_1)), (7, .sl (List.map G.api_Choice.av r41)), (8, .view 0 0 (List.map G.api_Choice.av out104).length), (9, i64 (w64 (i85 + 1)))]) (H' := ⟨1, [(0, (3, List.map G.api_Choice.av out104))], []⟩) [(0, 0)] [] rfl rfl rfl (.cons rfl rfl (.same (by simp)) dt trivial) ⟨⟨.sl (List.map i64 order_1), rfl, .sm⟩, ⟨.sl (List.map G.api_Choice.av r41), rfl, .sm⟩, ⟨_, rfl, .view rfl⟩, .k, trivial⟩⟩
      ·intro K17 hK17
       refine awp_seqK fun K18 hK18 => awp_reg rfl <| AR.op rfl (aop_move (.inl rfl) rfl) <| AR.op rfl (aop_move (.inl rfl) rfl) <| AR.op rfl (aop_gtr rfl rfl rfl) <| AR.nil <| hK18 _ (AWP.weak (Weak.re (fr' := [(1, .sl (List.map i64 order_1)), (7, .sl (List.map G.api_Choice.av r41)), (8, .view 0 0 (List.map G.api_Choice.av out84).length), (9, i64 i85), (10, .ref 1 0 0), (48, bl (decide (r101 < r99)))]) (H' := ⟨2, [(0, (3, List.map G.api_Choice.av out84)), (1, (3, [G.api_Choice.av x96]))], []⟩) [(0, 0), (1, 1)] [] rfl rfl rfl (.cons rfl rfl (.same (by simp)) dt (.cons rfl rfl (.one (.sm) rfl) dt trivial)) ⟨⟨.sl (List.map i64 order_1), rfl, .sm⟩, ⟨.sl (List.map G.api_Choice.av r41), rfl, .sm⟩, ⟨_, rfl, .view rfl⟩, .k, ⟨_, rfl, .ref rfl⟩, .k, trivial⟩) ?_)
       refine awp_cond rfl (fun hb105 => ?_) (fun hb105 => ?_)
       ·replace h := Sh.if_t h hb105
        refine awp_reg rfl <| AR.op (r := G.api_Choice.av x96) rfl (aop_load_ref rfl rfl rfl rfl sz54 rfl) ?_
        obtain ⟨r106, hr106, h⟩ := Sh.bind_some' h
        refine AR.op (r := G.api_Choice.av r106) rfl (aop_call1 rfl rfl (by simp) (inquestref18_Back_ok hT hr106)) <| AR.op rfl (aop_store (e' := G.api_Choice.av r106) rfl rfl rfl rfl rfl rfl sz54 rfl dt rfl) <| AR.nil ?_
        exact hK17 r106 _ h (Weak.re (fr' := [(1, .sl (List.map i64 order_1)), (7, .sl (List.map G.api_Choice.av r41)), (8, .view 0 0 (List.map G.api_Choice.av out84).length), (9, i64 i85), (10, .ref 1 0 0)]) (H' := ⟨2, [(0, (3, List.map G.api_Choice.av out84)), (1, (3, [G.api_Choice.av r106]))], []⟩) [(0, 0), (1, 1)] [] rfl rfl rfl (.cons rfl rfl (.same (by simp)) dt (.cons rfl rfl (.one (.sm) rfl) dt trivial)) ⟨⟨.sl (List.map i64 order_1), rfl, .sm⟩, ⟨.sl (List.map G.api_Choice.av r41), rfl, .sm⟩, ⟨_, rfl, .view rfl⟩, .k, ⟨_, rfl, .ref rfl⟩, trivial⟩)
       ·replace h := Sh.if_f h hb105
        refine awp_skip ?_
        exact hK17 x96 _ h (Weak.re (fr' := [(1, .sl (List.map i64 order_1)), (7, .sl (List.map G.api_Choice.av r41)), (8, .view 0 0 (List.map G.api_Choice.av out84).length), (9, i64 i85), (10, .ref 1 0 0)]) (H' := ⟨2, [(0, (3, List.map G.api_Choice.av out84)), (1, (3, [G.api_Choice.av x96]))], []⟩) [(0, 0), (1, 1)] [] rfl rfl rfl (.cons rfl rfl (.same (by simp)) dt (.cons rfl rfl (.one (.sm) rfl) dt trivial)) ⟨⟨.sl (List.map i64 order_1), rfl, .sm⟩, ⟨.sl (List.map G.api_Choice.av r41), rfl, .sm⟩, ⟨_, rfl, .view rfl⟩, .k, ⟨_, rfl, .ref rfl⟩, trivial⟩)
     ·replace h := Sh.if_f h hb86
      refine awp_exit ?_
      replace h := Sh.exit_eq h hx1
      exact hK9 out84 _ h (Weak.re (fr' := [(8, .view 0 0 (List.map G.api_Choice.av out84).length)]) (H' := ⟨1, [(0, (3, List.map G.api_Choice.av out84))], []⟩) [(0, 0)] [] rfl rfl rfl (.cons rfl rfl (.same (by simp)) dt trivial) ⟨⟨_, rfl, .view rfl⟩, trivial⟩)
 ·intro K19 hK19
  refine awp_reg rfl <| AR.op rfl (aop_move (.inl rfl) rfl) <| AR.op (r := bl (!r32)) rfl (aop_not rfl rfl) <| AR.op rfl (aop_move (.inl rfl) rfl) <| AR.keep [1, 2, 6, 22] rfl ?_
  rcases Bool.eq_false_or_eq_true (!r32) with hb107 | hb107
  ·rw [hb107]
   replace h := Sh.if_t h hb107
   refine AR.skip rfl <| AR.skip rfl <| AR.op rfl (aop_pick rfl rfl rfl) <| AR.nil ?_
   exact hK19 true _ h (Weak.kt [1, 2, 25] rfl)
  ·rw [hb107]
   replace h := Sh.if_f h hb107
   refine AR.op rfl (aop_move (.inl rfl) rfl) <| AR.op (r := bl (!r34)) rfl (aop_not rfl rfl) <| AR.op rfl (aop_pick rfl rfl rfl) <| AR.nil ?_
   exact hK19 (!r34) _ h (Weak.e (fr' := [(1, .sl (List.map i64 order_1)), (2, .pp [.sl (List.map G.api_Txn.av h_0.Txns)] 0), (25, bl (!r34))]) (H' := .empty) ⟨⟨.sl (List.map i64 order_1), rfl, .sm⟩, .k, .k, trivial⟩)
theorem inquestref18_Of_ok {W0 : World} (hT : Tab W0) {h_0 : G.api_Hist} {order_1 : List Int} {r : (List G.api_Choice)} (h : G.inquestref18_Of h_0 order_1 = some r) : Fun1 Tryd.prog W0 40 [G.api_Hist.av h_0, .sl (List.map i64 order_1)] (.sl (List.map G.api_Choice.av r)) :=
 (inquestref18_Of_own hT h).give (Weak.e ⟨⟨_, rfl, .lendAll rfl rfl (by simp)⟩, trivial⟩) (by simp)

end Wk
