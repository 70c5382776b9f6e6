/- That the functions of a package do what their plain functions say. -/
import Derived.Test.YtnbabpgakdefjaaSh
import Derived.Test.YtnbabpgakdefjaaWkFFacts
import Derived.Test.YtnbabpgakdefjaaWkFinquestref08
import Derived.Test.YtnbabpgakdefjaaWkFinquestref09
import Derived.Test.YtnbabpgakdefjaaWkFinquestref18
import Derived.Test.YtnbabpgakdefjaaWkFinquestref19
open Go Go.Av Go.Proofs
set_option linter.unusedVariables false
set_option maxHeartbeats 8000000
set_option maxRecDepth 20000
namespace Wk
theorem inquestref22_Choices_own {W0 : World} (hT : Tab W0) {l_0 : List G.inquestref22_F} {r : (List G.api_Choice)} (h : G.inquestref22_Choices l_0 = some r) : Fun2 Try.prog W0 20 [.sl (List.map G.inquestref22_F.av l_0)] (.view 0 0 (List.map G.api_Choice.av r).length) ⟨1, [(0, (3, List.map G.api_Choice.av r))], []⟩ := by
 refine fun2_of_awp Try.func20 rfl (by kernel_rfl) Try.ntmps20 (by simp) ?_
 unfold G.inquestref22_Choices at h
 show AWP _ _ _ _ ⟨[(0, .sl (List.map G.inquestref22_F.av l_0))], .empty⟩ _
 refine awp_seqK fun K1 hK1 => ?_
 refine awp_reg rfl ?_
 refine AR.op (r := nilS) rfl (aop_move (.inr rfl) rfl) ?_
 refine AR.nil ?_
 refine hK1 _ (AWP.weak (Weak.kt [0] rfl) ?_)
 clear hK1 K1
 refine awp_seqK fun K2 hK2 => ?_
 refine awp_reg rfl ?_
 refine AR.op (r := nilS) rfl (aop_move (.inr rfl) rfl) ?_
 refine AR.nil ?_
 refine hK2 _ ?_
 clear hK2 K2
 refine awp_seqJ (fun (p : (List G.api_Choice)) => (⟨[(3, .view 0 0 (List.map G.api_Choice.av p).length)], ⟨1, [(0, (3, List.map G.api_Choice.av p))], []⟩⟩ : St)) (fun (p : (List G.api_Choice)) => G.inquestref22_Choices_j1 p = some r) ?_ ?_
 ·rintro out27 h
  replace h : G.inquestref22_Choices_j1 out27 = some r := h
  unfold G.inquestref22_Choices_j1 at h
  show AWP _ _ _ _ ⟨[(3, .view 0 0 (List.map G.api_Choice.av out27).length)], ⟨1, [(0, (3, List.map G.api_Choice.av out27))], []⟩⟩ _
  refine awp_seqK fun K3 hK3 => ?_
  refine awp_reg rfl ?_
  refine AR.op (r := .view 0 0 (List.map G.api_Choice.av out27).length) rfl (aop_move (.inl rfl) rfl) ?_
  refine AR.op (r := .view 0 0 (List.map G.api_Choice.av out27).length) rfl (aop_move (.inr rfl) rfl) ?_
  refine AR.nil ?_
  refine hK3 _ (AWP.weak (Weak.re (fr' := [(2, .view 0 0 (List.map G.api_Choice.av out27).length)]) (H' := ⟨1, [(0, (3, List.map G.api_Choice.av out27))], []⟩) [(0, 0)] [] rfl rfl rfl (.cons rfl rfl (.same (by simp)) (of_decide_eq_true rfl) (trivial)) ⟨⟨_, rfl, .view rfl⟩, trivial⟩) ?_)
  clear hK3 K3
  refine awp_ret ?_
  obtain rfl := Option.some.inj h
  refine ⟨.inr rfl, .view 0 0 (List.map G.api_Choice.av out27).length, rfl, ?_⟩
  exact Weak.re [(0, 0)] [] rfl rfl rfl (.cons rfl rfl (.same (by simp)) (of_decide_eq_true rfl) (trivial)) ⟨⟨_, rfl, .view rfl⟩, trivial⟩
 ·intro K4 hK4
  refine awp_seqK fun K5 hK5 => ?_
  refine awp_reg rfl ?_
  refine AR.op (r := i64 0) rfl (aop_move (.inr rfl) rfl) ?_
  refine AR.nil ?_
  refine hK5 _ ?_
  clear hK5 K5
  refine awp_block ?_
  refine awp_iter (fun (p : (List G.api_Choice) × Int) => G.inquestref22_Choices_b1 l_0 p.1 p.2) (fun (p : (List G.api_Choice) × Int) => (⟨[(0, .sl (List.map G.inquestref22_F.av l_0)), (3, .view 0 0 (List.map G.api_Choice.av p.1).length), (4, i64 p.2)], ⟨1, [(0, (3, List.map G.api_Choice.av p.1))], []⟩⟩ : St)) h (Weak.re (fr' := [(0, .sl (List.map G.inquestref22_F.av l_0)), (3, .view 0 0 (List.map G.api_Choice.av []).length), (4, i64 0)]) (H' := ⟨1, [(0, (3, List.map G.api_Choice.av []))], []⟩) [] [0] rfl rfl rfl (.fresh (by simp) (of_decide_eq_true rfl) (trivial)) ⟨⟨.sl (List.map G.inquestref22_F.av l_0), rfl, .sm⟩, ⟨_, rfl, .nil (by simp)⟩, ⟨_, rfl, .sm⟩, trivial⟩) ?_
  ·skip
   rintro ⟨out36, i37⟩ o1 h hx1
   replace h : G.inquestref22_Choices_b1 l_0 out36 i37 = some o1 := h
   unfold G.inquestref22_Choices_b1 at h
   show AWP _ _ _ _ ⟨[(0, .sl (List.map G.inquestref22_F.av l_0)), (3, .view 0 0 (List.map G.api_Choice.av out36).length), (4, i64 i37)], ⟨1, [(0, (3, List.map G.api_Choice.av out36))], []⟩⟩ _
   refine awp_seqK fun K6 hK6 => ?_
   refine awp_seqK fun K7 hK7 => ?_
   refine awp_reg rfl ?_
   refine AR.op (r := i64 i37) rfl (aop_move (.inl rfl) rfl) ?_
   refine AR.op (r := .sl (List.map G.inquestref22_F.av l_0)) rfl (aop_move (.inl rfl) rfl) ?_
   refine AR.op (r := i64 (Sh.len l_0)) rfl (t_len_sl G.inquestref22_F.av l_0 rfl rfl el35) ?_
   refine AR.keep [0, 3, 4, 5, 7] rfl ?_
   refine AR.op (r := bl (decide (i37 < (Sh.len l_0)))) rfl (aop_lss rfl rfl rfl) ?_
   refine AR.nil ?_
   refine hK7 _ (AWP.weak (Weak.re (fr' := [(0, .sl (List.map G.inquestref22_F.av l_0)), (3, .view 0 0 (List.map G.api_Choice.av out36).length), (4, i64 i37), (8, bl (decide (i37 < (Sh.len l_0))))]) (H' := ⟨1, [(0, (3, List.map G.api_Choice.av out36))], []⟩) [(0, 0)] [] rfl rfl rfl (.cons rfl rfl (.same (by simp)) (of_decide_eq_true rfl) (trivial)) ⟨⟨.sl (List.map G.inquestref22_F.av l_0), rfl, .sm⟩, ⟨_, rfl, .view rfl⟩, ⟨_, rfl, .sm⟩, ⟨_, rfl, .sm⟩, trivial⟩) ?_)
   clear hK7 K7
   refine awp_cond rfl (fun hb38 => ?_) (fun hb38 => ?_)
   ·replace h := Sh.if_t h hb38
    refine awp_skip ?_
    refine hK6 _ (AWP.weak (Weak.re (fr' := [(0, .sl (List.map G.inquestref22_F.av l_0)), (3, .view 0 0 (List.map G.api_Choice.av out36).length), (4, i64 i37)]) (H' := ⟨1, [(0, (3, List.map G.api_Choice.av out36))], []⟩) [(0, 0)] [] rfl rfl rfl (.cons rfl rfl (.same (by simp)) (of_decide_eq_true rfl) (trivial)) ⟨⟨.sl (List.map G.inquestref22_F.av l_0), rfl, .sm⟩, ⟨_, rfl, .view rfl⟩, ⟨_, rfl, .sm⟩, trivial⟩) ?_)
    clear hK6 K6
    refine awp_seqK fun K8 hK8 => ?_
    refine awp_block ?_
    refine awp_reg rfl ?_
    refine AR.op (r := .view 0 0 (List.map G.api_Choice.av out36).length) rfl (aop_move (.inl rfl) rfl) ?_
    refine AR.op (r := .sl (List.map G.inquestref22_F.av l_0)) rfl (aop_move (.inl rfl) rfl) ?_
    refine AR.op (r := i64 i37) rfl (aop_move (.inl rfl) rfl) ?_
    refine AR.keep [0, 4, 11, 12, 13] rfl ?_
    obtain ⟨x42, hx42, h⟩ := Sh.bind_some' h
    obtain ⟨k43, hi43, hl43⟩ := Sh.idx_some hx42
    refine AR.op rfl (t_index_sl G.inquestref22_F.av l_0 hi43 hl43 rfl rfl rfl el35 rfl) ?_
    refine AR.op rfl (aop_field_pp rfl rfl fd37_0 (by decide)) ?_
    refine AR.op (r := G.api_Choice.av x42.C) rfl (aop_load_pp rfl rfl sz27 rfl) ?_
    refine AR.keep [0, 4, 11, 16] rfl ?_
    refine AR.op (r := .clip (List.map G.api_Choice.av ([x42.C] : List G.api_Choice))) rfl (aop_buildSlice rfl (xo := [.tmp 16]) rfl rfl rfl (by simp) (by simp) el43 ze43 (by decide)) ?_
    obtain ⟨out44, hout44, h⟩ := Sh.bind_some' h
    refine AR.op (r := .view 1 0 (List.map G.api_Choice.av out44).length) rfl (t_app_view G.api_Choice.av out36 ([x42.C] : List G.api_Choice) out44 hout44 rfl et43 (fun _ => rfl) rfl rfl rfl rfl rfl rfl rfl) ?_
    refine AR.op (r := .view 1 0 (List.map G.api_Choice.av out44).length) rfl (aop_move (.inr rfl) rfl) ?_
    refine AR.nil ?_
    refine hK8 _ (AWP.weak (Weak.re (fr' := [(0, .sl (List.map G.inquestref22_F.av l_0)), (4, i64 i37), (3, .view 0 0 (List.map G.api_Choice.av out44).length)]) (H' := ⟨1, [(0, (3, List.map G.api_Choice.av out44))], []⟩) [(0, 1)] [] rfl rfl rfl (.cons rfl rfl (.same (by simp)) (of_decide_eq_true rfl) (trivial)) ⟨⟨.sl (List.map G.inquestref22_F.av l_0), rfl, .sm⟩, ⟨_, rfl, .sm⟩, ⟨_, rfl, .view rfl⟩, trivial⟩) ?_)
    clear hK8 K8
    refine awp_reg rfl ?_
    refine AR.op (r := i64 i37) rfl (aop_move (.inl rfl) rfl) ?_
    refine AR.op (r := i64 (w64 (i37 + 1))) rfl (aop_add rfl rfl rfl rfl) ?_
    refine AR.op (r := i64 (w64 (i37 + 1))) rfl (aop_move (.inr rfl) rfl) ?_
    refine AR.nil ?_
    replace h := Sh.next_eq h
    exact ⟨_, h, Weak.re (fr' := [(0, .sl (List.map G.inquestref22_F.av l_0)), (3, .view 0 0 (List.map G.api_Choice.av out44).length), (4, i64 (w64 (i37 + 1)))]) (H' := ⟨1, [(0, (3, List.map G.api_Choice.av out44))], []⟩) [(0, 0)] [] rfl rfl rfl (.cons rfl rfl (.same (by simp)) (of_decide_eq_true rfl) (trivial)) ⟨⟨.sl (List.map G.inquestref22_F.av l_0), rfl, .sm⟩, ⟨_, rfl, .view rfl⟩, ⟨_, rfl, .sm⟩, trivial⟩⟩
   ·replace h := Sh.if_f h hb38
    refine awp_exit ?_
    replace h := Sh.exit_eq h hx1
    exact hK4 out36 _ h (Weak.re (fr' := [(3, .view 0 0 (List.map G.api_Choice.av out36).length)]) (H' := ⟨1, [(0, (3, List.map G.api_Choice.av out36))], []⟩) [(0, 0)] [] rfl rfl rfl (.cons rfl rfl (.same (by simp)) (of_decide_eq_true rfl) (trivial)) ⟨⟨_, rfl, .view rfl⟩, trivial⟩)
theorem inquestref22_Choices_ok {W0 : World} (hT : Tab W0) {l_0 : List G.inquestref22_F} {r : (List G.api_Choice)} (h : G.inquestref22_Choices l_0 = some r) : Fun1 Try.prog W0 20 [.sl (List.map G.inquestref22_F.av l_0)] (.sl (List.map G.api_Choice.av r)) :=
 (inquestref22_Choices_own hT h).give (Weak.re [] [] rfl rfl rfl trivial ⟨⟨_, rfl, .lendAll rfl rfl (by simp)⟩, trivial⟩) (by simp)


theorem inquestref22_past_ok0 {W0 : World} (hT : Tab W0) {h_0 : G.api_Hist} {x_1 : Int} {y_2 : Int} {r : Bool} (h : G.inquestref22_past h_0 x_1 y_2 = some r) : Fun2 Try.prog W0 39 [G.api_Hist.av h_0, i64 x_1, i64 y_2] (bl r) .empty := by
 refine fun2_of_awp Try.func39 rfl (by kernel_rfl) Try.ntmps39 (by simp) ?_
 unfold G.inquestref22_past at h
 show AWP _ _ _ _ ⟨[(0, G.api_Hist.av h_0), (1, i64 x_1), (2, i64 y_2)], .empty⟩ _
 refine awp_seqK fun K1 hK1 => ?_
 refine awp_reg rfl ?_
 refine AR.op (r := .ref 0 0 0) rfl (aop_box 1 [G.api_Hist.av h_0] rfl rfl rfl (.inl ⟨rfl, rfl⟩)) ?_
 refine AR.op (r := bl false) rfl (aop_move (.inr rfl) rfl) ?_
 refine AR.nil ?_
 refine hK1 _ (AWP.weak (Weak.re (fr' := [(1, i64 x_1), (2, i64 y_2), (3, .pp [.sl (List.map G.api_Txn.av h_0.Txns)] 0)]) (H' := .empty) [] [] rfl rfl rfl (trivial) ⟨⟨_, rfl, .sm⟩, ⟨_, rfl, .sm⟩, ⟨_, rfl, .frzA rfl rfl rfl rfl (by simp)⟩, trivial⟩) ?_)
 clear hK1 K1
 refine awp_seqK fun K2 hK2 => ?_
 refine awp_reg rfl ?_
 refine AR.op (r := G.api_Hist.av h_0) rfl (aop_load_pp rfl rfl sz24 rfl) ?_
 refine AR.op (r := i64 x_1) rfl (aop_move (.inl rfl) rfl) ?_
 refine AR.op (r := i64 y_2) rfl (aop_move (.inl rfl) rfl) ?_
 refine AR.keep [8, 9, 10] rfl ?_
 obtain ⟨r3, hr3, h⟩ := Sh.bind_some' h
 refine AR.op (r := bl r3) rfl (aop_callN rfl (ys := [G.api_Hist.av h_0, nilS, i64 x_1, i64 y_2]) (xs := [G.api_Hist.av h_0, .sl (List.map G.api_Choice.av []), i64 x_1, i64 y_2]) rfl (Weak.re (fr' := argsFr 0 [G.api_Hist.av h_0, .sl (List.map G.api_Choice.av []), i64 x_1, i64 y_2]) (H' := .empty) [] [] rfl rfl rfl trivial ⟨⟨G.api_Hist.av h_0, rfl, .sm⟩, ⟨_, rfl, .nilsl⟩, ⟨_, rfl, .sm⟩, ⟨_, rfl, .sm⟩, trivial⟩) rfl (by simp) (inquestref19_Direct_ok hT hr3)) ?_
 refine AR.op (r := bl r3) rfl (aop_move (.inr rfl) rfl) ?_
 refine AR.nil ?_
 refine hK2 _ (AWP.weak (Weak.kt [7] rfl) ?_)
 clear hK2 K2
 refine awp_seqK fun K3 hK3 => ?_
 refine awp_reg rfl ?_
 refine AR.op (r := bl r3) rfl (aop_move (.inl rfl) rfl) ?_
 refine AR.op (r := bl r3) rfl (aop_move (.inr rfl) rfl) ?_
 refine AR.nil ?_
 refine hK3 _ (AWP.weak (Weak.kt [6] rfl) ?_)
 clear hK3 K3
 refine awp_ret ?_
 obtain rfl := Option.some.inj h
 refine ⟨.inr rfl, bl r3, rfl, ?_⟩
 exact Weak.re [] [] rfl rfl rfl (trivial) ⟨⟨_, rfl, .sm⟩, trivial⟩
theorem inquestref22_past_ok {W0 : World} (hT : Tab W0) {h_0 : G.api_Hist} {x_1 : Int} {y_2 : Int} {r : Bool} (h : G.inquestref22_past h_0 x_1 y_2 = some r) : Fun1 Try.prog W0 39 [G.api_Hist.av h_0, i64 x_1, i64 y_2] (bl r) := Fun1.two (inquestref22_past_ok0 hT h) (by simp)


theorem inquestref22_joined_ok0 {W0 : World} (hT : Tab W0) {l_0 : List G.inquestref22_F} {f_1 : G.inquestref22_F} {r : Bool} (h : G.inquestref22_joined l_0 f_1 = some r) : Fun2 Try.prog W0 40 [.sl (List.map G.inquestref22_F.av l_0), G.inquestref22_F.av f_1] (bl r) .empty := by
 refine fun2_of_awp Try.func40 rfl (by kernel_rfl) Try.ntmps40 (by simp) ?_
 unfold G.inquestref22_joined at h
 show AWP _ _ _ _ ⟨[(0, .sl (List.map G.inquestref22_F.av l_0)), (1, G.inquestref22_F.av f_1)], .empty⟩ _
 refine awp_seqK fun K1 hK1 => ?_
 refine awp_reg rfl ?_
 refine AR.op (r := .ref 0 0 0) rfl (aop_box 7 [G.inquestref22_F.av f_1] rfl rfl rfl (.inl ⟨rfl, rfl⟩)) ?_
 refine AR.op (r := bl false) rfl (aop_move (.inr rfl) rfl) ?_
 refine AR.nil ?_
 refine hK1 _ (AWP.weak (Weak.re (fr' := [(0, .sl (List.map G.inquestref22_F.av l_0)), (3, .pp [i64 f_1.C.Key, i64 f_1.C.A, i64 f_1.C.B, i64 f_1.Kind, i64 f_1.I, i64 f_1.J, .sl (List.map i64 f_1.Cycle)] 0)]) (H' := .empty) [] [] rfl rfl rfl (trivial) ⟨⟨.sl (List.map G.inquestref22_F.av l_0), rfl, .sm⟩, ⟨_, rfl, .frzA rfl rfl rfl rfl (by simp)⟩, trivial⟩) ?_)
 clear hK1 K1
 refine awp_seqK fun K2 hK2 => ?_
 refine awp_seqJ (fun (p : Bool) => (⟨[(0, .sl (List.map G.inquestref22_F.av l_0)), (3, .pp [i64 f_1.C.Key, i64 f_1.C.A, i64 f_1.C.B, i64 f_1.Kind, i64 f_1.I, i64 f_1.J, .sl (List.map i64 f_1.Cycle)] 0), (28, bl p)], .empty⟩ : St)) (fun (p : Bool) => G.inquestref22_joined_j1 l_0 f_1 p = some r) ?_ ?_
 ·rintro v21 h
  replace h : G.inquestref22_joined_j1 l_0 f_1 v21 = some r := h
  unfold G.inquestref22_joined_j1 at h
  show AWP _ _ _ _ ⟨[(0, .sl (List.map G.inquestref22_F.av l_0)), (3, .pp [i64 f_1.C.Key, i64 f_1.C.A, i64 f_1.C.B, i64 f_1.Kind, i64 f_1.I, i64 f_1.J, .sl (List.map i64 f_1.Cycle)] 0), (28, bl v21)], .empty⟩ _
  refine awp_cond rfl (fun hb22 => ?_) (fun hb22 => ?_)
  ·replace h := Sh.if_t h hb22
   refine awp_seqK fun K3 hK3 => ?_
   refine awp_reg rfl ?_
   refine AR.op (r := bl false) rfl (aop_move (.inr rfl) rfl) ?_
   refine AR.nil ?_
   refine hK3 _ (AWP.weak (Weak.kt [4] rfl) ?_)
   clear hK3 K3
   refine awp_ret ?_
   obtain rfl := Option.some.inj h
   refine ⟨.inr rfl, bl false, rfl, ?_⟩
   exact Weak.re [] [] rfl rfl rfl (trivial) ⟨⟨_, rfl, .sm⟩, trivial⟩
  ·replace h := Sh.if_f h hb22
   refine awp_skip ?_
   refine hK2 _ (AWP.weak (Weak.kt [0, 3] rfl) ?_)
   clear hK2 K2
   refine awp_seqK fun K4 hK4 => ?_
   refine awp_reg rfl ?_
   refine AR.op (r := .sl (List.map G.inquestref22_F.av l_0)) rfl (aop_move (.inl rfl) rfl) ?_
   refine AR.op rfl (aop_field_pp rfl rfl fd37_2 (by decide)) ?_
   refine AR.op (r := i64 f_1.I) rfl (aop_load_pp rfl rfl sz3 rfl) ?_
   refine AR.keep [0, 3, 29, 31] rfl ?_
   obtain ⟨x25, hx25, h⟩ := Sh.bind_some' h
   obtain ⟨k26, hi26, hl26⟩ := Sh.idx_some hx25
   refine AR.op rfl (t_index_sl G.inquestref22_F.av l_0 hi26 hl26 rfl rfl rfl el35 rfl) ?_
   refine AR.op rfl (aop_field_pp rfl rfl fd37_0 (by decide)) ?_
   refine AR.op (r := G.api_Choice.av x25.C) rfl (aop_load_pp rfl rfl sz27 rfl) ?_
   refine AR.keep [0, 3, 34] rfl ?_
   refine AR.op (r := .ref 0 0 0) rfl (aop_alloc 3 [.agg [i64 0, i64 0, i64 0]] rfl zr27 (by kernel_rfl) (.inl ⟨rfl, rfl⟩)) ?_
   refine AR.op rfl (aop_store (e' := G.api_Choice.av x25.C) rfl rfl rfl rfl rfl rfl sz27 rfl (of_decide_eq_true rfl) rfl) ?_
   refine AR.nil ?_
   refine hK4 _ (AWP.weak (Weak.re (fr' := [(0, .sl (List.map G.inquestref22_F.av l_0)), (3, .pp [i64 f_1.C.Key, i64 f_1.C.A, i64 f_1.C.B, i64 f_1.Kind, i64 f_1.I, i64 f_1.J, .sl (List.map i64 f_1.Cycle)] 0), (5, .pp [i64 x25.C.Key, i64 x25.C.A, i64 x25.C.B] 0)]) (H' := .empty) [] [] rfl rfl rfl (trivial) ⟨⟨.sl (List.map G.inquestref22_F.av l_0), rfl, .sm⟩, ⟨_, rfl, .sm⟩, ⟨_, rfl, .frzA rfl rfl rfl rfl (by simp)⟩, trivial⟩) ?_)
   clear hK4 K4
   refine awp_seqK fun K5 hK5 => ?_
   refine awp_reg rfl ?_
   refine AR.op (r := .sl (List.map G.inquestref22_F.av l_0)) rfl (aop_move (.inl rfl) rfl) ?_
   refine AR.op rfl (aop_field_pp rfl rfl fd37_3 (by decide)) ?_
   refine AR.op (r := i64 f_1.J) rfl (aop_load_pp rfl rfl sz3 rfl) ?_
   refine AR.keep [3, 5, 35, 37] rfl ?_
   obtain ⟨x29, hx29, h⟩ := Sh.bind_some' h
   obtain ⟨k30, hi30, hl30⟩ := Sh.idx_some hx29
   refine AR.op rfl (t_index_sl G.inquestref22_F.av l_0 hi30 hl30 rfl rfl rfl el35 rfl) ?_
   refine AR.op rfl (aop_field_pp rfl rfl fd37_0 (by decide)) ?_
   refine AR.op (r := G.api_Choice.av x29.C) rfl (aop_load_pp rfl rfl sz27 rfl) ?_
   refine AR.keep [3, 5, 40] rfl ?_
   refine AR.op (r := .ref 0 0 0) rfl (aop_alloc 3 [.agg [i64 0, i64 0, i64 0]] rfl zr27 (by kernel_rfl) (.inl ⟨rfl, rfl⟩)) ?_
   refine AR.op rfl (aop_store (e' := G.api_Choice.av x29.C) rfl rfl rfl rfl rfl rfl sz27 rfl (of_decide_eq_true rfl) rfl) ?_
   refine AR.nil ?_
   refine hK5 _ (AWP.weak (Weak.re (fr' := [(3, .pp [i64 f_1.C.Key, i64 f_1.C.A, i64 f_1.C.B, i64 f_1.Kind, i64 f_1.I, i64 f_1.J, .sl (List.map i64 f_1.Cycle)] 0), (5, .pp [i64 x25.C.Key, i64 x25.C.A, i64 x25.C.B] 0), (6, .pp [i64 x29.C.Key, i64 x29.C.A, i64 x29.C.B] 0)]) (H' := .empty) [] [] rfl rfl rfl (trivial) ⟨⟨_, rfl, .sm⟩, ⟨_, rfl, .sm⟩, ⟨_, rfl, .frzA rfl rfl rfl rfl (by simp)⟩, trivial⟩) ?_)
   clear hK5 K5
   refine awp_seqK fun K6 hK6 => ?_
   refine awp_reg rfl ?_
   refine AR.op rfl (aop_field_pp rfl rfl fd27_0 (by decide)) ?_
   refine AR.op (r := i64 x25.C.Key) rfl (aop_load_pp rfl rfl sz3 rfl) ?_
   refine AR.op rfl (aop_field_pp rfl rfl fd37_0 (by decide)) ?_
   refine AR.keep [3, 5, 6, 42, 43] rfl ?_
   refine AR.op rfl (aop_field_pp rfl rfl fd27_0 (by decide)) ?_
   refine AR.op (r := i64 f_1.C.Key) rfl (aop_load_pp rfl rfl sz3 rfl) ?_
   refine AR.op (r := bl (decide (x25.C.Key = f_1.C.Key))) rfl (aop_eql rfl rfl rfl) ?_
   refine AR.keep [3, 5, 6, 46] rfl ?_
   refine AR.op (r := bl (decide (x25.C.Key = f_1.C.Key))) rfl (aop_move (.inl rfl) rfl) ?_
   rcases Bool.eq_false_or_eq_true (decide (x25.C.Key = f_1.C.Key)) with hb35 | hb35
   ·rw [hb35]
    replace h := Sh.if_t h hb35
    refine AR.op rfl (aop_field_pp rfl rfl fd27_0 (by decide)) ?_
    refine AR.op (r := i64 x29.C.Key) rfl (aop_load_pp rfl rfl sz3 rfl) ?_
    refine AR.keep [3, 5, 6, 47, 49] rfl ?_
    refine AR.op rfl (aop_field_pp rfl rfl fd37_0 (by decide)) ?_
    refine AR.op rfl (aop_field_pp rfl rfl fd27_0 (by decide)) ?_
    refine AR.op (r := i64 f_1.C.Key) rfl (aop_load_pp rfl rfl sz3 rfl) ?_
    refine AR.keep [3, 5, 6, 47, 49, 52] rfl ?_
    refine AR.op (r := bl (decide (x29.C.Key = f_1.C.Key))) rfl (aop_eql rfl rfl rfl) ?_
    refine AR.op (r := bl (decide (x29.C.Key = f_1.C.Key))) rfl (aop_pick rfl rfl rfl) ?_
    refine AR.op (r := bl (decide (x29.C.Key = f_1.C.Key))) rfl (aop_move (.inl rfl) rfl) ?_
    refine AR.keep [3, 5, 6, 55] rfl ?_
    rcases Bool.eq_false_or_eq_true (decide (x29.C.Key = f_1.C.Key)) with hb36 | hb36
    ·rw [hb36]
     replace h := Sh.if_t h hb36
     refine AR.op rfl (aop_field_pp rfl rfl fd27_1 (by decide)) ?_
     refine AR.op (r := i64 x25.C.A) rfl (aop_load_pp rfl rfl sz3 rfl) ?_
     refine AR.op rfl (aop_field_pp rfl rfl fd37_0 (by decide)) ?_
     refine AR.keep [3, 5, 6, 55, 57, 58] rfl ?_
     refine AR.op rfl (aop_field_pp rfl rfl fd27_1 (by decide)) ?_
     refine AR.op (r := i64 f_1.C.A) rfl (aop_load_pp rfl rfl sz3 rfl) ?_
     refine AR.op (r := bl (decide (x25.C.A = f_1.C.A))) rfl (aop_eql rfl rfl rfl) ?_
     refine AR.keep [3, 5, 6, 55, 61] rfl ?_
     refine AR.op (r := bl (decide (x25.C.A = f_1.C.A))) rfl (aop_pick rfl rfl rfl) ?_
     refine AR.op (r := bl (decide (x25.C.A = f_1.C.A))) rfl (aop_move (.inl rfl) rfl) ?_
     rcases Bool.eq_false_or_eq_true (decide (x25.C.A = f_1.C.A)) with hb37 | hb37
     ·rw [hb37]
      replace h := Sh.if_t h hb37
      refine AR.op rfl (aop_field_pp rfl rfl fd27_2 (by decide)) ?_
      refine AR.keep [3, 5, 6, 63, 64] rfl ?_
      refine AR.op (r := i64 x29.C.B) rfl (aop_load_pp rfl rfl sz3 rfl) ?_
      refine AR.op rfl (aop_field_pp rfl rfl fd37_0 (by decide)) ?_
      refine AR.op rfl (aop_field_pp rfl rfl fd27_2 (by decide)) ?_
      refine AR.keep [5, 6, 63, 65, 67] rfl ?_
      refine AR.op (r := i64 f_1.C.B) rfl (aop_load_pp rfl rfl sz3 rfl) ?_
      refine AR.op (r := bl (decide (x29.C.B = f_1.C.B))) rfl (aop_eql rfl rfl rfl) ?_
      refine AR.op (r := bl (decide (x29.C.B = f_1.C.B))) rfl (aop_pick rfl rfl rfl) ?_
      refine AR.keep [5, 6, 70] rfl ?_
      refine AR.op (r := bl (decide (x29.C.B = f_1.C.B))) rfl (aop_move (.inl rfl) rfl) ?_
      rcases Bool.eq_false_or_eq_true (decide (x29.C.B = f_1.C.B)) with hb38 | hb38
      ·rw [hb38]
       replace h := Sh.if_t h hb38
       refine AR.op rfl (aop_field_pp rfl rfl fd27_2 (by decide)) ?_
       refine AR.op (r := i64 x25.C.B) rfl (aop_load_pp rfl rfl sz3 rfl) ?_
       refine AR.keep [6, 71, 73] rfl ?_
       refine AR.op rfl (aop_field_pp rfl rfl fd27_1 (by decide)) ?_
       refine AR.op (r := i64 x29.C.A) rfl (aop_load_pp rfl rfl sz3 rfl) ?_
       refine AR.op (r := bl (decide (x25.C.B = x29.C.A))) rfl (aop_eql rfl rfl rfl) ?_
       refine AR.keep [71, 76] rfl ?_
       refine AR.op (r := bl (decide (x25.C.B = x29.C.A))) rfl (aop_pick rfl rfl rfl) ?_
       refine AR.op (r := bl (decide (x25.C.B = x29.C.A))) rfl (aop_move (.inr rfl) rfl) ?_
       refine AR.nil ?_
       refine hK6 _ (AWP.weak (Weak.kt [4] rfl) ?_)
       clear hK6 K6
       refine awp_ret ?_
       obtain rfl := Option.some.inj h
       refine ⟨.inr rfl, bl (decide (x25.C.B = x29.C.A)), rfl, ?_⟩
       exact Weak.re [] [] rfl rfl rfl (trivial) ⟨⟨_, rfl, .sm⟩, trivial⟩
      ·rw [hb38]
       replace h := Sh.if_f h hb38
       refine AR.skip rfl ?_
       refine AR.skip rfl ?_
       refine AR.keep [6, 71, 73] rfl ?_
       refine AR.skip rfl ?_
       refine AR.skip rfl ?_
       refine AR.skip rfl ?_
       refine AR.keep [71, 76] rfl ?_
       refine AR.op (r := bl false) rfl (aop_pick rfl rfl rfl) ?_
       refine AR.op (r := bl false) rfl (aop_move (.inr rfl) rfl) ?_
       refine AR.nil ?_
       refine hK6 _ (AWP.weak (Weak.kt [4] rfl) ?_)
       clear hK6 K6
       refine awp_ret ?_
       obtain rfl := Option.some.inj h
       refine ⟨.inr rfl, bl false, rfl, ?_⟩
       exact Weak.re [] [] rfl rfl rfl (trivial) ⟨⟨_, rfl, .sm⟩, trivial⟩
     ·rw [hb37]
      replace h := Sh.if_f h hb37
      refine AR.skip rfl ?_
      refine AR.keep [3, 5, 6, 63, 64] rfl ?_
      refine AR.skip rfl ?_
      refine AR.skip rfl ?_
      refine AR.skip rfl ?_
      refine AR.keep [5, 6, 63, 65, 67] rfl ?_
      refine AR.skip rfl ?_
      refine AR.skip rfl ?_
      refine AR.op (r := bl false) rfl (aop_pick rfl rfl rfl) ?_
      refine AR.keep [5, 6, 70] rfl ?_
      refine AR.op (r := bl false) rfl (aop_move (.inl rfl) rfl) ?_
      refine AR.skip rfl ?_
      refine AR.skip rfl ?_
      refine AR.keep [6, 71, 73] rfl ?_
      refine AR.skip rfl ?_
      refine AR.skip rfl ?_
      refine AR.skip rfl ?_
      refine AR.keep [71, 76] rfl ?_
      refine AR.op (r := bl false) rfl (aop_pick rfl rfl rfl) ?_
      refine AR.op (r := bl false) rfl (aop_move (.inr rfl) rfl) ?_
      refine AR.nil ?_
      refine hK6 _ (AWP.weak (Weak.kt [4] rfl) ?_)
      clear hK6 K6
      refine awp_ret ?_
      obtain rfl := Option.some.inj h
      refine ⟨.inr rfl, bl false, rfl, ?_⟩
      exact Weak.re [] [] rfl rfl rfl (trivial) ⟨⟨_, rfl, .sm⟩, trivial⟩
    ·rw [hb36]
     replace h := Sh.if_f h hb36
     refine AR.skip rfl ?_
     refine AR.skip rfl ?_
     refine AR.skip rfl ?_
     refine AR.keep [3, 5, 6, 55, 57, 58] rfl ?_
     refine AR.skip rfl ?_
     refine AR.skip rfl ?_
     refine AR.skip rfl ?_
     refine AR.keep [3, 5, 6, 55, 61] rfl ?_
     refine AR.op (r := bl false) rfl (aop_pick rfl rfl rfl) ?_
     refine AR.op (r := bl false) rfl (aop_move (.inl rfl) rfl) ?_
     refine AR.skip rfl ?_
     refine AR.keep [3, 5, 6, 63, 64] rfl ?_
     refine AR.skip rfl ?_
     refine AR.skip rfl ?_
     refine AR.skip rfl ?_
     refine AR.keep [5, 6, 63, 65, 67] rfl ?_
     refine AR.skip rfl ?_
     refine AR.skip rfl ?_
     refine AR.op (r := bl false) rfl (aop_pick rfl rfl rfl) ?_
     refine AR.keep [5, 6, 70] rfl ?_
     refine AR.op (r := bl false) rfl (aop_move (.inl rfl) rfl) ?_
     refine AR.skip rfl ?_
     refine AR.skip rfl ?_
     refine AR.keep [6, 71, 73] rfl ?_
     refine AR.skip rfl ?_
     refine AR.skip rfl ?_
     refine AR.skip rfl ?_
     refine AR.keep [71, 76] rfl ?_
     refine AR.op (r := bl false) rfl (aop_pick rfl rfl rfl) ?_
     refine AR.op (r := bl false) rfl (aop_move (.inr rfl) rfl) ?_
     refine AR.nil ?_
     refine hK6 _ (AWP.weak (Weak.kt [4] rfl) ?_)
     clear hK6 K6
     refine awp_ret ?_
     obtain rfl := Option.some.inj h
     refine ⟨.inr rfl, bl false, rfl, ?_⟩
     exact Weak.re [] [] rfl rfl rfl (trivial) ⟨⟨_, rfl, .sm⟩, trivial⟩
   ·rw [hb35]
    replace h := Sh.if_f h hb35
    refine AR.skip rfl ?_
    refine AR.skip rfl ?_
    refine AR.keep [3, 5, 6, 47, 49] rfl ?_
    refine AR.skip rfl ?_
    refine AR.skip rfl ?_
    refine AR.skip rfl ?_
    refine AR.keep [3, 5, 6, 47, 49, 52] rfl ?_
    refine AR.skip rfl ?_
    refine AR.op (r := bl false) rfl (aop_pick rfl rfl rfl) ?_
    refine AR.op (r := bl false) rfl (aop_move (.inl rfl) rfl) ?_
    refine AR.keep [3, 5, 6, 55] rfl ?_
    refine AR.skip rfl ?_
    refine AR.skip rfl ?_
    refine AR.skip rfl ?_
    refine AR.keep [3, 5, 6, 55, 57, 58] rfl ?_
    refine AR.skip rfl ?_
    refine AR.skip rfl ?_
    refine AR.skip rfl ?_
    refine AR.keep [3, 5, 6, 55, 61] rfl ?_
    refine AR.op (r := bl false) rfl (aop_pick rfl rfl rfl) ?_
    refine AR.op (r := bl false) rfl (aop_move (.inl rfl) rfl) ?_
    refine AR.skip rfl ?_
    refine AR.keep [3, 5, 6, 63, 64] rfl ?_
    refine AR.skip rfl ?_
    refine AR.skip rfl ?_
    refine AR.skip rfl ?_
    refine AR.keep [5, 6, 63, 65, 67] rfl ?_
    refine AR.skip rfl ?_
    refine AR.skip rfl ?_
    refine AR.op (r := bl false) rfl (aop_pick rfl rfl rfl) ?_
    refine AR.keep [5, 6, 70] rfl ?_
    refine AR.op (r := bl false) rfl (aop_move (.inl rfl) rfl) ?_
    refine AR.skip rfl ?_
    refine AR.skip rfl ?_
    refine AR.keep [6, 71, 73] rfl ?_
    refine AR.skip rfl ?_
    refine AR.skip rfl ?_
    refine AR.skip rfl ?_
    refine AR.keep [71, 76] rfl ?_
    refine AR.op (r := bl false) rfl (aop_pick rfl rfl rfl) ?_
    refine AR.op (r := bl false) rfl (aop_move (.inr rfl) rfl) ?_
    refine AR.nil ?_
    refine hK6 _ (AWP.weak (Weak.kt [4] rfl) ?_)
    clear hK6 K6
    refine awp_ret ?_
    obtain rfl := Option.some.inj h
    refine ⟨.inr rfl, bl false, rfl, ?_⟩
    exact Weak.re [] [] rfl rfl rfl (trivial) ⟨⟨_, rfl, .sm⟩, trivial⟩
 ·intro K7 hK7
  refine awp_reg rfl ?_
  refine AR.op rfl (aop_field_pp rfl rfl fd37_2 (by decide)) ?_
  refine AR.op (r := i64 f_1.I) rfl (aop_load_pp rfl rfl sz3 rfl) ?_
  refine AR.op (r := bl (decide (f_1.I < 0))) rfl (aop_lss rfl rfl rfl) ?_
  refine AR.keep [0, 3, 9] rfl ?_
  refine AR.op (r := bl (decide (f_1.I < 0))) rfl (aop_move (.inl rfl) rfl) ?_
  rcases Bool.eq_false_or_eq_true (decide (f_1.I < 0)) with hb39 | hb39
  ·rw [hb39]
   replace h := Sh.if_t h hb39
   refine AR.skip rfl ?_
   refine AR.skip rfl ?_
   refine AR.keep [0, 3, 10, 12] rfl ?_
   refine AR.skip rfl ?_
   refine AR.skip rfl ?_
   refine AR.skip rfl ?_
   refine AR.keep [0, 3, 10, 15] rfl ?_
   refine AR.op (r := bl true) rfl (aop_pick rfl rfl rfl) ?_
   refine AR.op (r := bl true) rfl (aop_move (.inl rfl) rfl) ?_
   refine AR.skip rfl ?_
   refine AR.keep [0, 3, 17, 18] rfl ?_
   refine AR.skip rfl ?_
   refine AR.skip rfl ?_
   refine AR.op (r := bl true) rfl (aop_pick rfl rfl rfl) ?_
   refine AR.keep [0, 3, 21] rfl ?_
   refine AR.op (r := bl true) rfl (aop_move (.inl rfl) rfl) ?_
   refine AR.skip rfl ?_
   refine AR.skip rfl ?_
   refine AR.keep [0, 3, 22, 24] rfl ?_
   refine AR.skip rfl ?_
   refine AR.skip rfl ?_
   refine AR.skip rfl ?_
   refine AR.keep [0, 3, 22, 27] rfl ?_
   refine AR.op (r := bl true) rfl (aop_pick rfl rfl rfl) ?_
   refine AR.nil ?_
   exact hK7 true _ h (Weak.kt [0, 3, 28] rfl)
  ·rw [hb39]
   replace h := Sh.if_f h hb39
   refine AR.op rfl (aop_field_pp rfl rfl fd37_2 (by decide)) ?_
   refine AR.op (r := i64 f_1.I) rfl (aop_load_pp rfl rfl sz3 rfl) ?_
   refine AR.keep [0, 3, 10, 12] rfl ?_
   refine AR.op (r := .sl (List.map G.inquestref22_F.av l_0)) rfl (aop_move (.inl rfl) rfl) ?_
   refine AR.op (r := i64 (Sh.len l_0)) rfl (t_len_sl G.inquestref22_F.av l_0 rfl rfl el35) ?_
   refine AR.op (r := bl (decide ((Sh.len l_0) ≤ f_1.I))) rfl (aop_geq rfl rfl rfl) ?_
   refine AR.keep [0, 3, 10, 15] rfl ?_
   refine AR.op (r := bl (decide ((Sh.len l_0) ≤ f_1.I))) rfl (aop_pick rfl rfl rfl) ?_
   refine AR.op (r := bl (decide ((Sh.len l_0) ≤ f_1.I))) rfl (aop_move (.inl rfl) rfl) ?_
   rcases Bool.eq_false_or_eq_true (decide ((Sh.len l_0) ≤ f_1.I)) with hb40 | hb40
   ·rw [hb40]
    replace h := Sh.if_t h hb40
    refine AR.skip rfl ?_
    refine AR.keep [0, 3, 17, 18] rfl ?_
    refine AR.skip rfl ?_
    refine AR.skip rfl ?_
    refine AR.op (r := bl true) rfl (aop_pick rfl rfl rfl) ?_
    refine AR.keep [0, 3, 21] rfl ?_
    refine AR.op (r := bl true) rfl (aop_move (.inl rfl) rfl) ?_
    refine AR.skip rfl ?_
    refine AR.skip rfl ?_
    refine AR.keep [0, 3, 22, 24] rfl ?_
    refine AR.skip rfl ?_
    refine AR.skip rfl ?_
    refine AR.skip rfl ?_
    refine AR.keep [0, 3, 22, 27] rfl ?_
    refine AR.op (r := bl true) rfl (aop_pick rfl rfl rfl) ?_
    refine AR.nil ?_
    exact hK7 true _ h (Weak.kt [0, 3, 28] rfl)
   ·rw [hb40]
    replace h := Sh.if_f h hb40
    refine AR.op rfl (aop_field_pp rfl rfl fd37_3 (by decide)) ?_
    refine AR.keep [0, 3, 17, 18] rfl ?_
    refine AR.op (r := i64 f_1.J) rfl (aop_load_pp rfl rfl sz3 rfl) ?_
    refine AR.op (r := bl (decide (f_1.J < 0))) rfl (aop_lss rfl rfl rfl) ?_
    refine AR.op (r := bl (decide (f_1.J < 0))) rfl (aop_pick rfl rfl rfl) ?_
    refine AR.keep [0, 3, 21] rfl ?_
    refine AR.op (r := bl (decide (f_1.J < 0))) rfl (aop_move (.inl rfl) rfl) ?_
    rcases Bool.eq_false_or_eq_true (decide (f_1.J < 0)) with hb41 | hb41
    ·rw [hb41]
     replace h := Sh.if_t h hb41
     refine AR.skip rfl ?_
     refine AR.skip rfl ?_
     refine AR.keep [0, 3, 22, 24] rfl ?_
     refine AR.skip rfl ?_
     refine AR.skip rfl ?_
     refine AR.skip rfl ?_
     refine AR.keep [0, 3, 22, 27] rfl ?_
     refine AR.op (r := bl true) rfl (aop_pick rfl rfl rfl) ?_
     refine AR.nil ?_
     exact hK7 true _ h (Weak.kt [0, 3, 28] rfl)
    ·rw [hb41]
     replace h := Sh.if_f h hb41
     refine AR.op rfl (aop_field_pp rfl rfl fd37_3 (by decide)) ?_
     refine AR.op (r := i64 f_1.J) rfl (aop_load_pp rfl rfl sz3 rfl) ?_
     refine AR.keep [0, 3, 22, 24] rfl ?_
     refine AR.op (r := .sl (List.map G.inquestref22_F.av l_0)) rfl (aop_move (.inl rfl) rfl) ?_
     refine AR.op (r := i64 (Sh.len l_0)) rfl (t_len_sl G.inquestref22_F.av l_0 rfl rfl el35) ?_
     refine AR.op (r := bl (decide ((Sh.len l_0) ≤ f_1.J))) rfl (aop_geq rfl rfl rfl) ?_
     refine AR.keep [0, 3, 22, 27] rfl ?_
     refine AR.op (r := bl (decide ((Sh.len l_0) ≤ f_1.J))) rfl (aop_pick rfl rfl rfl) ?_
     refine AR.nil ?_
     exact hK7 (decide ((Sh.len l_0) ≤ f_1.J)) _ h (Weak.re (fr' := [(0, .sl (List.map G.inquestref22_F.av l_0)), (3, .pp [i64 f_1.C.Key, i64 f_1.C.A, i64 f_1.C.B, i64 f_1.Kind, i64 f_1.I, i64 f_1.J, .sl (List.map i64 f_1.Cycle)] 0), (28, bl (decide ((Sh.len l_0) ≤ f_1.J)))]) (H' := .empty) [] [] rfl rfl rfl (trivial) ⟨⟨.sl (List.map G.inquestref22_F.av l_0), rfl, .sm⟩, ⟨_, rfl, .sm⟩, ⟨_, rfl, .sm⟩, trivial⟩)
theorem inquestref22_joined_ok {W0 : World} (hT : Tab W0) {l_0 : List G.inquestref22_F} {f_1 : G.inquestref22_F} {r : Bool} (h : G.inquestref22_joined l_0 f_1 = some r) : Fun1 Try.prog W0 40 [.sl (List.map G.inquestref22_F.av l_0), G.inquestref22_F.av f_1] (bl r) := Fun1.two (inquestref22_joined_ok0 hT h) (by simp)


theorem inquestref22_seen_ok0 {W0 : World} (hT : Tab W0) {h_0 : G.api_Hist} {f_1 : G.inquestref22_F} {r : Bool} (h : G.inquestref22_seen h_0 f_1 = some r) : Fun2 Try.prog W0 41 [G.api_Hist.av h_0, G.inquestref22_F.av f_1] (bl r) .empty := by
 refine fun2_of_awp Try.func41 rfl (by kernel_rfl) Try.ntmps41 (by simp) ?_
 unfold G.inquestref22_seen at h
 show AWP _ _ _ _ ⟨[(0, G.api_Hist.av h_0), (1, G.inquestref22_F.av f_1)], .empty⟩ _
 refine awp_seqK fun K1 hK1 => ?_
 refine awp_reg rfl ?_
 refine AR.op (r := .ref 0 0 0) rfl (aop_box 1 [G.api_Hist.av h_0] rfl rfl rfl (.inl ⟨rfl, rfl⟩)) ?_
 refine AR.op (r := .ref 1 0 0) rfl (aop_box 7 [G.inquestref22_F.av f_1] rfl rfl rfl (.inl ⟨rfl, rfl⟩)) ?_
 refine AR.op (r := bl false) rfl (aop_move (.inr rfl) rfl) ?_
 refine AR.nil ?_
 refine hK1 _ (AWP.weak (Weak.re (fr' := [(2, .pp [.sl (List.map G.api_Txn.av h_0.Txns)] 0), (3, .pp [i64 f_1.C.Key, i64 f_1.C.A, i64 f_1.C.B, i64 f_1.Kind, i64 f_1.I, i64 f_1.J, .sl (List.map i64 f_1.Cycle)] 0)]) (H' := .empty) [] [] rfl rfl rfl (trivial) ⟨⟨_, rfl, .frzA rfl rfl rfl rfl (by simp)⟩, ⟨_, rfl, .frzA rfl rfl rfl rfl (by simp)⟩, trivial⟩) ?_)
 clear hK1 K1
 refine awp_seqK fun K2 hK2 => ?_
 refine awp_seqJ (fun (p : Bool) => (⟨[(2, .pp [.sl (List.map G.api_Txn.av h_0.Txns)] 0), (3, .pp [i64 f_1.C.Key, i64 f_1.C.A, i64 f_1.C.B, i64 f_1.Kind, i64 f_1.I, i64 f_1.J, .sl (List.map i64 f_1.Cycle)] 0), (31, bl p)], .empty⟩ : St)) (fun (p : Bool) => G.inquestref22_seen_j1 h_0 f_1 p = some r) ?_ ?_
 ·rintro v16 h
  replace h : G.inquestref22_seen_j1 h_0 f_1 v16 = some r := h
  unfold G.inquestref22_seen_j1 at h
  show AWP _ _ _ _ ⟨[(2, .pp [.sl (List.map G.api_Txn.av h_0.Txns)] 0), (3, .pp [i64 f_1.C.Key, i64 f_1.C.A, i64 f_1.C.B, i64 f_1.Kind, i64 f_1.I, i64 f_1.J, .sl (List.map i64 f_1.Cycle)] 0), (31, bl v16)], .empty⟩ _
  refine awp_cond rfl (fun hb17 => ?_) (fun hb17 => ?_)
  ·replace h := Sh.if_t h hb17
   refine awp_seqK fun K3 hK3 => ?_
   refine awp_reg rfl ?_
   refine AR.op (r := bl false) rfl (aop_move (.inr rfl) rfl) ?_
   refine AR.nil ?_
   refine hK3 _ (AWP.weak (Weak.kt [4] rfl) ?_)
   clear hK3 K3
   refine awp_ret ?_
   obtain rfl := Option.some.inj h
   refine ⟨.inr rfl, bl false, rfl, ?_⟩
   exact Weak.re [] [] rfl rfl rfl (trivial) ⟨⟨_, rfl, .sm⟩, trivial⟩
  ·replace h := Sh.if_f h hb17
   refine awp_skip ?_
   refine hK2 _ (AWP.weak (Weak.kt [2, 3] rfl) ?_)
   clear hK2 K2
   refine awp_seqK fun K4 hK4 => ?_
   refine awp_reg rfl ?_
   refine AR.op (r := G.api_Hist.av h_0) rfl (aop_load_pp rfl rfl sz24 rfl) ?_
   refine AR.op rfl (aop_field_pp rfl rfl fd37_2 (by decide)) ?_
   refine AR.op (r := i64 f_1.I) rfl (aop_load_pp rfl rfl sz3 rfl) ?_
   refine AR.keep [2, 3, 33, 35] rfl ?_
   refine AR.op rfl (aop_field_pp rfl rfl fd37_0 (by decide)) ?_
   refine AR.op rfl (aop_field_pp rfl rfl fd27_0 (by decide)) ?_
   refine AR.op (r := i64 f_1.C.Key) rfl (aop_load_pp rfl rfl sz3 rfl) ?_
   refine AR.keep [2, 3, 33, 35, 38] rfl ?_
   obtain ⟨r19, hr19, h⟩ := Sh.bind_some' h
   refine AR.op (r := .tuple [i64 r19.1, bl r19.2]) rfl (aop_call1 rfl rfl (by simp) (inquestref09_From_ok hT hr19)) ?_
   refine AR.op (r := .tuple [i64 r19.1, bl r19.2]) rfl (aop_move (.inl rfl) rfl) ?_
   refine AR.op (r := i64 r19.1) rfl (aop_extract rfl rfl rfl) ?_
   refine AR.keep [2, 3, 32, 40] rfl ?_
   refine AR.op (r := bl r19.2) rfl (aop_extract rfl rfl rfl) ?_
   refine AR.op (r := i64 r19.1) rfl (aop_move (.inr rfl) rfl) ?_
   refine AR.op (r := bl r19.2) rfl (aop_move (.inr rfl) rfl) ?_
   refine AR.nil ?_
   refine hK4 _ (AWP.weak (Weak.kt [2, 3, 5, 6] rfl) ?_)
   clear hK4 K4
   refine awp_seqK fun K5 hK5 => ?_
   refine awp_seqJ (fun (p : Bool) => (⟨[(2, .pp [.sl (List.map G.api_Txn.av h_0.Txns)] 0), (3, .pp [i64 f_1.C.Key, i64 f_1.C.A, i64 f_1.C.B, i64 f_1.Kind, i64 f_1.I, i64 f_1.J, .sl (List.map i64 f_1.Cycle)] 0), (50, bl p)], .empty⟩ : St)) (fun (p : Bool) => G.inquestref22_seen_j2 h_0 f_1 p = some r) ?_ ?_
   ·rintro v23 h
    replace h : G.inquestref22_seen_j2 h_0 f_1 v23 = some r := h
    unfold G.inquestref22_seen_j2 at h
    show AWP _ _ _ _ ⟨[(2, .pp [.sl (List.map G.api_Txn.av h_0.Txns)] 0), (3, .pp [i64 f_1.C.Key, i64 f_1.C.A, i64 f_1.C.B, i64 f_1.Kind, i64 f_1.I, i64 f_1.J, .sl (List.map i64 f_1.Cycle)] 0), (50, bl v23)], .empty⟩ _
    refine awp_cond rfl (fun hb24 => ?_) (fun hb24 => ?_)
    ·replace h := Sh.if_t h hb24
     refine awp_seqK fun K6 hK6 => ?_
     refine awp_reg rfl ?_
     refine AR.op (r := bl false) rfl (aop_move (.inr rfl) rfl) ?_
     refine AR.nil ?_
     refine hK6 _ (AWP.weak (Weak.kt [4] rfl) ?_)
     clear hK6 K6
     refine awp_ret ?_
     obtain rfl := Option.some.inj h
     refine ⟨.inr rfl, bl false, rfl, ?_⟩
     exact Weak.re [] [] rfl rfl rfl (trivial) ⟨⟨_, rfl, .sm⟩, trivial⟩
    ·replace h := Sh.if_f h hb24
     refine awp_skip ?_
     refine hK5 _ (AWP.weak (Weak.kt [2, 3] rfl) ?_)
     clear hK5 K5
     refine awp_seqK fun K7 hK7 => ?_
     refine awp_reg rfl ?_
     refine AR.op (r := G.api_Hist.av h_0) rfl (aop_load_pp rfl rfl sz24 rfl) ?_
     refine AR.op rfl (aop_field_pp rfl rfl fd37_0 (by decide)) ?_
     refine AR.op rfl (aop_field_pp rfl rfl fd27_1 (by decide)) ?_
     refine AR.keep [3, 51, 53] rfl ?_
     refine AR.op (r := i64 f_1.C.A) rfl (aop_load_pp rfl rfl sz3 rfl) ?_
     refine AR.op rfl (aop_field_pp rfl rfl fd37_2 (by decide)) ?_
     refine AR.op (r := i64 f_1.I) rfl (aop_load_pp rfl rfl sz3 rfl) ?_
     refine AR.keep [51, 54, 56] rfl ?_
     obtain ⟨r26, hr26, h⟩ := Sh.bind_some' h
     refine AR.op (r := bl r26) rfl (aop_call1 rfl rfl (by simp) (inquestref22_past_ok hT hr26)) ?_
     refine AR.op (r := bl r26) rfl (aop_move (.inr rfl) rfl) ?_
     refine AR.nil ?_
     refine hK7 _ (AWP.weak (Weak.kt [7] rfl) ?_)
     clear hK7 K7
     refine awp_seqK fun K8 hK8 => ?_
     refine awp_reg rfl ?_
     refine AR.op (r := bl r26) rfl (aop_move (.inl rfl) rfl) ?_
     refine AR.op (r := bl r26) rfl (aop_move (.inr rfl) rfl) ?_
     refine AR.nil ?_
     refine hK8 _ (AWP.weak (Weak.kt [4] rfl) ?_)
     clear hK8 K8
     refine awp_ret ?_
     obtain rfl := Option.some.inj h
     refine ⟨.inr rfl, bl r26, rfl, ?_⟩
     exact Weak.re [] [] rfl rfl rfl (trivial) ⟨⟨_, rfl, .sm⟩, trivial⟩
   ·intro K9 hK9
    refine awp_reg rfl ?_
    refine AR.op (r := bl r19.2) rfl (aop_move (.inl rfl) rfl) ?_
    refine AR.op (r := bl (!r19.2)) rfl (aop_not rfl rfl) ?_
    refine AR.op (r := bl (!r19.2)) rfl (aop_move (.inl rfl) rfl) ?_
    refine AR.keep [2, 3, 5, 44] rfl ?_
    rcases Bool.eq_false_or_eq_true (!r19.2) with hb27 | hb27
    ·rw [hb27]
     replace h := Sh.if_t h hb27
     refine AR.skip rfl ?_
     refine AR.skip rfl ?_
     refine AR.skip rfl ?_
     refine AR.keep [2, 3, 44, 45, 47] rfl ?_
     refine AR.skip rfl ?_
     refine AR.skip rfl ?_
     refine AR.op (r := bl true) rfl (aop_pick rfl rfl rfl) ?_
     refine AR.nil ?_
     exact hK9 true _ h (Weak.kt [2, 3, 50] rfl)
    ·rw [hb27]
     replace h := Sh.if_f h hb27
     refine AR.op (r := i64 r19.1) rfl (aop_move (.inl rfl) rfl) ?_
     refine AR.op rfl (aop_field_pp rfl rfl fd37_0 (by decide)) ?_
     refine AR.op rfl (aop_field_pp rfl rfl fd27_2 (by decide)) ?_
     refine AR.keep [2, 3, 44, 45, 47] rfl ?_
     refine AR.op (r := i64 f_1.C.B) rfl (aop_load_pp rfl rfl sz3 rfl) ?_
     refine AR.op (r := bl (decide (r19.1 ≠ f_1.C.B))) rfl (aop_neq rfl rfl rfl) ?_
     refine AR.op (r := bl (decide (r19.1 ≠ f_1.C.B))) rfl (aop_pick rfl rfl rfl) ?_
     refine AR.nil ?_
     exact hK9 (decide (r19.1 ≠ f_1.C.B)) _ h (Weak.re (fr' := [(2, .pp [.sl (List.map G.api_Txn.av h_0.Txns)] 0), (3, .pp [i64 f_1.C.Key, i64 f_1.C.A, i64 f_1.C.B, i64 f_1.Kind, i64 f_1.I, i64 f_1.J, .sl (List.map i64 f_1.Cycle)] 0), (50, bl (decide (r19.1 ≠ f_1.C.B)))]) (H' := .empty) [] [] rfl rfl rfl (trivial) ⟨⟨_, rfl, .sm⟩, ⟨_, rfl, .sm⟩, ⟨_, rfl, .sm⟩, trivial⟩)
 ·intro K10 hK10
  refine awp_reg rfl ?_
  refine AR.op rfl (aop_field_pp rfl rfl fd37_2 (by decide)) ?_
  refine AR.op (r := i64 f_1.I) rfl (aop_load_pp rfl rfl sz3 rfl) ?_
  refine AR.op (r := bl (decide (f_1.I < 0))) rfl (aop_lss rfl rfl rfl) ?_
  refine AR.keep [2, 3, 10] rfl ?_
  refine AR.op (r := bl (decide (f_1.I < 0))) rfl (aop_move (.inl rfl) rfl) ?_
  rcases Bool.eq_false_or_eq_true (decide (f_1.I < 0)) with hb28 | hb28
  ·rw [hb28]
   replace h := Sh.if_t h hb28
   refine AR.skip rfl ?_
   refine AR.skip rfl ?_
   refine AR.keep [2, 3, 11, 13] rfl ?_
   refine AR.skip rfl ?_
   refine AR.skip rfl ?_
   refine AR.skip rfl ?_
   refine AR.keep [2, 3, 11, 13, 16] rfl ?_
   refine AR.skip rfl ?_
   refine AR.op (r := bl true) rfl (aop_pick rfl rfl rfl) ?_
   refine AR.op (r := bl true) rfl (aop_move (.inl rfl) rfl) ?_
   refine AR.keep [2, 3, 19] rfl ?_
   refine AR.skip rfl ?_
   refine AR.skip rfl ?_
   refine AR.skip rfl ?_
   refine AR.keep [2, 3, 19, 21, 22] rfl ?_
   refine AR.skip rfl ?_
   refine AR.skip rfl ?_
   refine AR.skip rfl ?_
   refine AR.keep [2, 3, 19, 25] rfl ?_
   refine AR.op (r := bl true) rfl (aop_pick rfl rfl rfl) ?_
   refine AR.op (r := bl true) rfl (aop_move (.inl rfl) rfl) ?_
   refine AR.skip rfl ?_
   refine AR.keep [2, 3, 27, 28] rfl ?_
   refine AR.skip rfl ?_
   refine AR.skip rfl ?_
   refine AR.op (r := bl true) rfl (aop_pick rfl rfl rfl) ?_
   refine AR.nil ?_
   exact hK10 true _ h (Weak.kt [2, 3, 31] rfl)
  ·rw [hb28]
   replace h := Sh.if_f h hb28
   refine AR.op rfl (aop_field_pp rfl rfl fd37_2 (by decide)) ?_
   refine AR.op (r := i64 f_1.I) rfl (aop_load_pp rfl rfl sz3 rfl) ?_
   refine AR.keep [2, 3, 11, 13] rfl ?_
   refine AR.op rfl (aop_field_pp rfl rfl fd24_0 (by decide)) ?_
   refine AR.op (r := .sl (List.map G.api_Txn.av h_0.Txns)) rfl (aop_load_pp rfl rfl sz22 rfl) ?_
   refine AR.op (r := i64 (Sh.len h_0.Txns)) rfl (t_len_sl G.api_Txn.av h_0.Txns rfl rfl el22) ?_
   refine AR.keep [2, 3, 11, 13, 16] rfl ?_
   refine AR.op (r := bl (decide ((Sh.len h_0.Txns) ≤ f_1.I))) rfl (aop_geq rfl rfl rfl) ?_
   refine AR.op (r := bl (decide ((Sh.len h_0.Txns) ≤ f_1.I))) rfl (aop_pick rfl rfl rfl) ?_
   refine AR.op (r := bl (decide ((Sh.len h_0.Txns) ≤ f_1.I))) rfl (aop_move (.inl rfl) rfl) ?_
   refine AR.keep [2, 3, 19] rfl ?_
   rcases Bool.eq_false_or_eq_true (decide ((Sh.len h_0.Txns) ≤ f_1.I)) with hb29 | hb29
   ·rw [hb29]
    replace h := Sh.if_t h hb29
    refine AR.skip rfl ?_
    refine AR.skip rfl ?_
    refine AR.skip rfl ?_
    refine AR.keep [2, 3, 19, 21, 22] rfl ?_
    refine AR.skip rfl ?_
    refine AR.skip rfl ?_
    refine AR.skip rfl ?_
    refine AR.keep [2, 3, 19, 25] rfl ?_
    refine AR.op (r := bl true) rfl (aop_pick rfl rfl rfl) ?_
    refine AR.op (r := bl true) rfl (aop_move (.inl rfl) rfl) ?_
    refine AR.skip rfl ?_
    refine AR.keep [2, 3, 27, 28] rfl ?_
    refine AR.skip rfl ?_
    refine AR.skip rfl ?_
    refine AR.op (r := bl true) rfl (aop_pick rfl rfl rfl) ?_
    refine AR.nil ?_
    exact hK10 true _ h (Weak.kt [2, 3, 31] rfl)
   ·rw [hb29]
    replace h := Sh.if_f h hb29
    refine AR.op rfl (aop_field_pp rfl rfl fd37_2 (by decide)) ?_
    refine AR.op (r := i64 f_1.I) rfl (aop_load_pp rfl rfl sz3 rfl) ?_
    refine AR.op rfl (aop_field_pp rfl rfl fd37_0 (by decide)) ?_
    refine AR.keep [2, 3, 19, 21, 22] rfl ?_
    refine AR.op rfl (aop_field_pp rfl rfl fd27_1 (by decide)) ?_
    refine AR.op (r := i64 f_1.C.A) rfl (aop_load_pp rfl rfl sz3 rfl) ?_
    refine AR.op (r := bl (decide (f_1.I = f_1.C.A))) rfl (aop_eql rfl rfl rfl) ?_
    refine AR.keep [2, 3, 19, 25] rfl ?_
    refine AR.op (r := bl (decide (f_1.I = f_1.C.A))) rfl (aop_pick rfl rfl rfl) ?_
    refine AR.op (r := bl (decide (f_1.I = f_1.C.A))) rfl (aop_move (.inl rfl) rfl) ?_
    rcases Bool.eq_false_or_eq_true (decide (f_1.I = f_1.C.A)) with hb30 | hb30
    ·rw [hb30]
     replace h := Sh.if_t h hb30
     refine AR.skip rfl ?_
     refine AR.keep [2, 3, 27, 28] rfl ?_
     refine AR.skip rfl ?_
     refine AR.skip rfl ?_
     refine AR.op (r := bl true) rfl (aop_pick rfl rfl rfl) ?_
     refine AR.nil ?_
     exact hK10 true _ h (Weak.kt [2, 3, 31] rfl)
    ·rw [hb30]
     replace h := Sh.if_f h hb30
     refine AR.op rfl (aop_field_pp rfl rfl fd37_3 (by decide)) ?_
     refine AR.keep [2, 3, 27, 28] rfl ?_
     refine AR.op (r := i64 f_1.J) rfl (aop_load_pp rfl rfl sz3 rfl) ?_
     refine AR.op (r := bl (decide (f_1.J ≠ 0))) rfl (aop_neq rfl rfl rfl) ?_
     refine AR.op (r := bl (decide (f_1.J ≠ 0))) rfl (aop_pick rfl rfl rfl) ?_
     refine AR.nil ?_
     exact hK10 (decide (f_1.J ≠ 0)) _ h (Weak.re (fr' := [(2, .pp [.sl (List.map G.api_Txn.av h_0.Txns)] 0), (3, .pp [i64 f_1.C.Key, i64 f_1.C.A, i64 f_1.C.B, i64 f_1.Kind, i64 f_1.I, i64 f_1.J, .sl (List.map i64 f_1.Cycle)] 0), (31, bl (decide (f_1.J ≠ 0)))]) (H' := .empty) [] [] rfl rfl rfl (trivial) ⟨⟨_, rfl, .sm⟩, ⟨_, rfl, .sm⟩, ⟨_, rfl, .sm⟩, trivial⟩)
theorem inquestref22_seen_ok {W0 : World} (hT : Tab W0) {h_0 : G.api_Hist} {f_1 : G.inquestref22_F} {r : Bool} (h : G.inquestref22_seen h_0 f_1 = some r) : Fun1 Try.prog W0 41 [G.api_Hist.av h_0, G.inquestref22_F.av f_1] (bl r) := Fun1.two (inquestref22_seen_ok0 hT h) (by simp)


theorem inquestref22_Holds_ok0 {W0 : World} (hT : Tab W0) {h_0 : G.api_Hist} {level_1 : Int} {l_2 : List G.inquestref22_F} {f_3 : G.inquestref22_F} {r : Bool} (h : G.inquestref22_Holds h_0 level_1 l_2 f_3 = some r) : Fun2 Try.prog W0 15 [G.api_Hist.av h_0, i64 level_1, .sl (List.map G.inquestref22_F.av l_2), G.inquestref22_F.av f_3] (bl r) .empty := by
 refine fun2_of_awp Try.func15 rfl (by kernel_rfl) Try.ntmps15 (by simp) ?_
 unfold G.inquestref22_Holds at h
 show AWP _ _ _ _ ⟨[(0, G.api_Hist.av h_0), (1, i64 level_1), (2, .sl (List.map G.inquestref22_F.av l_2)), (3, G.inquestref22_F.av f_3)], .empty⟩ _
 refine awp_seqK fun K1 hK1 => ?_
 refine awp_reg rfl ?_
 refine AR.op (r := .ref 0 0 0) rfl (aop_box 1 [G.api_Hist.av h_0] rfl rfl rfl (.inl ⟨rfl, rfl⟩)) ?_
 refine AR.op (r := .ref 1 0 0) rfl (aop_box 7 [G.inquestref22_F.av f_3] rfl rfl rfl (.inl ⟨rfl, rfl⟩)) ?_
 refine AR.op (r := bl false) rfl (aop_move (.inr rfl) rfl) ?_
 refine AR.nil ?_
 refine hK1 _ (AWP.weak (Weak.re (fr' := [(1, i64 level_1), (2, .sl (List.map G.inquestref22_F.av l_2)), (4, .pp [.sl (List.map G.api_Txn.av h_0.Txns)] 0), (7, .pp [i64 f_3.C.Key, i64 f_3.C.A, i64 f_3.C.B, i64 f_3.Kind, i64 f_3.I, i64 f_3.J, .sl (List.map i64 f_3.Cycle)] 0)]) (H' := .empty) [] [] rfl rfl rfl (trivial) ⟨⟨_, rfl, .sm⟩, ⟨.sl (List.map G.inquestref22_F.av l_2), rfl, .sm⟩, ⟨_, rfl, .frzA rfl rfl rfl rfl (by simp)⟩, ⟨_, rfl, .frzA rfl rfl rfl rfl (by simp)⟩, trivial⟩) ?_)
 clear hK1 K1
 refine awp_seqK fun K2 hK2 => ?_
 refine awp_reg rfl ?_
 refine AR.op (r := G.api_Hist.av h_0) rfl (aop_load_pp rfl rfl sz24 rfl) ?_
 obtain ⟨r23, hr23, h⟩ := Sh.bind_some' h
 refine AR.op (r := bl r23) rfl (aop_call1 rfl rfl (by simp) (inquestref08_Right_ok hT hr23)) ?_
 refine AR.op (r := bl r23) rfl (aop_move (.inr rfl) rfl) ?_
 refine AR.nil ?_
 refine hK2 _ (AWP.weak (Weak.kt [1, 2, 4, 7, 9] rfl) ?_)
 clear hK2 K2
 refine awp_seqK fun K3 hK3 => ?_
 refine awp_seqJ (fun (p : Bool) => (⟨[(1, i64 level_1), (2, .sl (List.map G.inquestref22_F.av l_2)), (4, .pp [.sl (List.map G.api_Txn.av h_0.Txns)] 0), (7, .pp [i64 f_3.C.Key, i64 f_3.C.A, i64 f_3.C.B, i64 f_3.Kind, i64 f_3.I, i64 f_3.J, .sl (List.map i64 f_3.Cycle)] 0), (27, bl p)], .empty⟩ : St)) (fun (p : Bool) => G.inquestref22_Holds_j1 h_0 level_1 l_2 f_3 p = some r) ?_ ?_
 ·rintro v29 h
  replace h : G.inquestref22_Holds_j1 h_0 level_1 l_2 f_3 v29 = some r := h
  unfold G.inquestref22_Holds_j1 at h
  show AWP _ _ _ _ ⟨[(1, i64 level_1), (2, .sl (List.map G.inquestref22_F.av l_2)), (4, .pp [.sl (List.map G.api_Txn.av h_0.Txns)] 0), (7, .pp [i64 f_3.C.Key, i64 f_3.C.A, i64 f_3.C.B, i64 f_3.Kind, i64 f_3.I, i64 f_3.J, .sl (List.map i64 f_3.Cycle)] 0), (27, bl v29)], .empty⟩ _
  refine awp_cond rfl (fun hb30 => ?_) (fun hb30 => ?_)
  ·replace h := Sh.if_t h hb30
   refine awp_seqK fun K4 hK4 => ?_
   refine awp_reg rfl ?_
   refine AR.op (r := bl false) rfl (aop_move (.inr rfl) rfl) ?_
   refine AR.nil ?_
   refine hK4 _ (AWP.weak (Weak.kt [8] rfl) ?_)
   clear hK4 K4
   refine awp_ret ?_
   obtain rfl := Option.some.inj h
   refine ⟨.inr rfl, bl false, rfl, ?_⟩
   exact Weak.re [] [] rfl rfl rfl (trivial) ⟨⟨_, rfl, .sm⟩, trivial⟩
  ·replace h := Sh.if_f h hb30
   refine awp_skip ?_
   refine hK3 _ (AWP.weak (Weak.kt [1, 2, 4, 7] rfl) ?_)
   clear hK3 K3
   refine awp_seqK fun K5 hK5 => ?_
   refine awp_reg rfl ?_
   refine AR.op (r := G.api_Hist.av h_0) rfl (aop_load_pp rfl rfl sz24 rfl) ?_
   refine AR.op rfl (aop_field_pp rfl rfl fd37_0 (by decide)) ?_
   refine AR.op (r := G.api_Choice.av f_3.C) rfl (aop_load_pp rfl rfl sz27 rfl) ?_
   refine AR.keep [1, 2, 4, 7, 28, 30] rfl ?_
   obtain ⟨r32, hr32, h⟩ := Sh.bind_some' h
   refine AR.op (r := bl r32) rfl (aop_call1 rfl rfl (by simp) (inquestref18_One_ok hT hr32)) ?_
   refine AR.op (r := bl r32) rfl (aop_move (.inr rfl) rfl) ?_
   refine AR.nil ?_
   refine hK5 _ (AWP.weak (Weak.kt [1, 2, 4, 7, 10] rfl) ?_)
   clear hK5 K5
   refine awp_seqK fun K6 hK6 => ?_
   refine awp_seqJ (fun (p : Bool) => (⟨[(1, i64 level_1), (2, .sl (List.map G.inquestref22_F.av l_2)), (4, .pp [.sl (List.map G.api_Txn.av h_0.Txns)] 0), (7, .pp [i64 f_3.C.Key, i64 f_3.C.A, i64 f_3.C.B, i64 f_3.Kind, i64 f_3.I, i64 f_3.J, .sl (List.map i64 f_3.Cycle)] 0), (44, bl p)], .empty⟩ : St)) (fun (p : Bool) => G.inquestref22_Holds_j2 h_0 level_1 l_2 f_3 p = some r) ?_ ?_
   ·rintro v38 h
    replace h : G.inquestref22_Holds_j2 h_0 level_1 l_2 f_3 v38 = some r := h
    unfold G.inquestref22_Holds_j2 at h
    show AWP _ _ _ _ ⟨[(1, i64 level_1), (2, .sl (List.map G.inquestref22_F.av l_2)), (4, .pp [.sl (List.map G.api_Txn.av h_0.Txns)] 0), (7, .pp [i64 f_3.C.Key, i64 f_3.C.A, i64 f_3.C.B, i64 f_3.Kind, i64 f_3.I, i64 f_3.J, .sl (List.map i64 f_3.Cycle)] 0), (44, bl v38)], .empty⟩ _
    refine awp_cond rfl (fun hb39 => ?_) (fun hb39 => ?_)
    ·replace h := Sh.if_t h hb39
     refine awp_seqK fun K7 hK7 => ?_
     refine awp_reg rfl ?_
     refine AR.op (r := bl false) rfl (aop_move (.inr rfl) rfl) ?_
     refine AR.nil ?_
     refine hK7 _ (AWP.weak (Weak.kt [8] rfl) ?_)
     clear hK7 K7
     refine awp_ret ?_
     obtain rfl := Option.some.inj h
     refine ⟨.inr rfl, bl false, rfl, ?_⟩
     exact Weak.re [] [] rfl rfl rfl (trivial) ⟨⟨_, rfl, .sm⟩, trivial⟩
    ·replace h := Sh.if_f h hb39
     refine awp_skip ?_
     refine hK6 _ (AWP.weak (Weak.kt [1, 2, 4, 7] rfl) ?_)
     clear hK6 K6
     refine awp_seqK fun K8 hK8 => ?_
     refine awp_seqK fun K9 hK9 => ?_
     refine awp_reg rfl ?_
     refine AR.op rfl (aop_field_pp rfl rfl fd37_1 (by decide)) ?_
     refine AR.op (r := i64 f_3.Kind) rfl (aop_load_pp rfl rfl sz3 rfl) ?_
     refine AR.nil ?_
     refine hK9 _ (AWP.weak (Weak.kt [1, 2, 4, 7, 46] rfl) ?_)
     clear hK9 K9
     refine awp_block ?_
     refine awp_seqK fun K10 hK10 => ?_
     refine awp_reg rfl ?_
     refine AR.op (r := bl (decide (f_3.Kind = 1))) rfl (aop_eql rfl rfl rfl) ?_
     refine AR.op (r := bl (decide (f_3.Kind = 1))) rfl (aop_move (.inr rfl) rfl) ?_
     refine AR.nil ?_
     refine hK10 _ (AWP.weak (Weak.kt [1, 2, 4, 7, 46, 47] rfl) ?_)
     clear hK10 K10
     refine awp_cond rfl (fun hb53 => ?_) (fun hb53 => ?_)
     ·replace h := Sh.if_t h hb53
      refine awp_seqK fun K11 hK11 => ?_
      refine awp_reg rfl ?_
      refine AR.op (r := G.api_Hist.av h_0) rfl (aop_load_pp rfl rfl sz24 rfl) ?_
      refine AR.op rfl (aop_field_pp rfl rfl fd37_0 (by decide)) ?_
      refine AR.op rfl (aop_field_pp rfl rfl fd27_1 (by decide)) ?_
      refine AR.keep [7, 49, 51] rfl ?_
      refine AR.op (r := i64 f_3.C.A) rfl (aop_load_pp rfl rfl sz3 rfl) ?_
      refine AR.op rfl (aop_field_pp rfl rfl fd37_0 (by decide)) ?_
      refine AR.op rfl (aop_field_pp rfl rfl fd27_2 (by decide)) ?_
      refine AR.keep [7, 49, 52, 54] rfl ?_
      refine AR.op (r := i64 f_3.C.B) rfl (aop_load_pp rfl rfl sz3 rfl) ?_
      obtain ⟨r55, hr55, h⟩ := Sh.bind_some' h
      refine AR.op (r := bl r55) rfl (aop_call1 rfl rfl (by simp) (inquestref22_past_ok hT hr55)) ?_
      refine AR.op (r := bl r55) rfl (aop_move (.inr rfl) rfl) ?_
      refine AR.nil ?_
      refine hK11 _ (AWP.weak (Weak.kt [7, 11] rfl) ?_)
      clear hK11 K11
      refine awp_seqK fun K12 hK12 => ?_
      refine awp_reg rfl ?_
      refine AR.op (r := bl r55) rfl (aop_move (.inl rfl) rfl) ?_
      refine AR.op (r := bl r55) rfl (aop_move (.inl rfl) rfl) ?_
      rcases Bool.eq_false_or_eq_true (r55) with hb58 | hb58
      ·rw [hb58]
       replace h := Sh.if_t h hb58
       refine AR.op rfl (aop_field_pp rfl rfl fd37_2 (by decide)) ?_
       refine AR.keep [7, 58, 59] rfl ?_
       refine AR.op (r := i64 f_3.I) rfl (aop_load_pp rfl rfl sz3 rfl) ?_
       refine AR.op (r := bl (decide (f_3.I = 0))) rfl (aop_eql rfl rfl rfl) ?_
       refine AR.op (r := bl (decide (f_3.I = 0))) rfl (aop_pick rfl rfl rfl) ?_
       refine AR.keep [7, 62] rfl ?_
       refine AR.op (r := bl (decide (f_3.I = 0))) rfl (aop_move (.inl rfl) rfl) ?_
       rcases Bool.eq_false_or_eq_true (decide (f_3.I = 0)) with hb59 | hb59
       ·rw [hb59]
        replace h := Sh.if_t h hb59
        refine AR.op rfl (aop_field_pp rfl rfl fd37_3 (by decide)) ?_
        refine AR.op (r := i64 f_3.J) rfl (aop_load_pp rfl rfl sz3 rfl) ?_
        refine AR.keep [63, 65] rfl ?_
        refine AR.op (r := bl (decide (f_3.J = 0))) rfl (aop_eql rfl rfl rfl) ?_
        refine AR.op (r := bl (decide (f_3.J = 0))) rfl (aop_pick rfl rfl rfl) ?_
        refine AR.op (r := bl (decide (f_3.J = 0))) rfl (aop_move (.inr rfl) rfl) ?_
        refine AR.nil ?_
        refine hK12 _ (AWP.weak (Weak.kt [8] rfl) ?_)
        clear hK12 K12
        refine awp_ret ?_
        obtain rfl := Option.some.inj h
        refine ⟨.inr rfl, bl (decide (f_3.J = 0)), rfl, ?_⟩
        exact Weak.re [] [] rfl rfl rfl (trivial) ⟨⟨_, rfl, .sm⟩, trivial⟩
       ·rw [hb59]
        replace h := Sh.if_f h hb59
        refine AR.skip rfl ?_
        refine AR.skip rfl ?_
        refine AR.keep [63, 65] rfl ?_
        refine AR.skip rfl ?_
        refine AR.op (r := bl false) rfl (aop_pick rfl rfl rfl) ?_
        refine AR.op (r := bl false) rfl (aop_move (.inr rfl) rfl) ?_
        refine AR.nil ?_
        refine hK12 _ (AWP.weak (Weak.kt [8] rfl) ?_)
        clear hK12 K12
        refine awp_ret ?_
        obtain rfl := Option.some.inj h
        refine ⟨.inr rfl, bl false, rfl, ?_⟩
        exact Weak.re [] [] rfl rfl rfl (trivial) ⟨⟨_, rfl, .sm⟩, trivial⟩
      ·rw [hb58]
       replace h := Sh.if_f h hb58
       refine AR.skip rfl ?_
       refine AR.keep [7, 58, 59] rfl ?_
       refine AR.skip rfl ?_
       refine AR.skip rfl ?_
       refine AR.op (r := bl false) rfl (aop_pick rfl rfl rfl) ?_
       refine AR.keep [7, 62] rfl ?_
       refine AR.op (r := bl false) rfl (aop_move (.inl rfl) rfl) ?_
       refine AR.skip rfl ?_
       refine AR.skip rfl ?_
       refine AR.keep [63, 65] rfl ?_
       refine AR.skip rfl ?_
       refine AR.op (r := bl false) rfl (aop_pick rfl rfl rfl) ?_
       refine AR.op (r := bl false) rfl (aop_move (.inr rfl) rfl) ?_
       refine AR.nil ?_
       refine hK12 _ (AWP.weak (Weak.kt [8] rfl) ?_)
       clear hK12 K12
       refine awp_ret ?_
       obtain rfl := Option.some.inj h
       refine ⟨.inr rfl, bl false, rfl, ?_⟩
       exact Weak.re [] [] rfl rfl rfl (trivial) ⟨⟨_, rfl, .sm⟩, trivial⟩
     ·replace h := Sh.if_f h hb53
      refine awp_seqK fun K13 hK13 => ?_
      refine awp_reg rfl ?_
      refine AR.op (r := bl (decide (f_3.Kind = 2))) rfl (aop_eql rfl rfl rfl) ?_
      refine AR.op (r := bl (decide (f_3.Kind = 2))) rfl (aop_move (.inr rfl) rfl) ?_
      refine AR.nil ?_
      refine hK13 _ (AWP.weak (Weak.kt [1, 2, 4, 7, 46, 68] rfl) ?_)
      clear hK13 K13
      refine awp_cond rfl (fun hb60 => ?_) (fun hb60 => ?_)
      ·replace h := Sh.if_t h hb60
       refine awp_seqK fun K14 hK14 => ?_
       refine awp_reg rfl ?_
       refine AR.op (r := .sl (List.map G.inquestref22_F.av l_2)) rfl (aop_move (.inl rfl) rfl) ?_
       refine AR.op (r := G.inquestref22_F.av f_3) rfl (aop_load_pp rfl rfl sz37 rfl) ?_
       obtain ⟨r62, hr62, h⟩ := Sh.bind_some' h
       refine AR.op (r := bl r62) rfl (aop_call1 rfl rfl (by simp) (inquestref22_joined_ok hT hr62)) ?_
       refine AR.keep [72] rfl ?_
       refine AR.op (r := bl r62) rfl (aop_move (.inr rfl) rfl) ?_
       refine AR.nil ?_
       refine hK14 _ (AWP.weak (Weak.kt [12] rfl) ?_)
       clear hK14 K14
       refine awp_seqK fun K15 hK15 => ?_
       refine awp_reg rfl ?_
       refine AR.op (r := bl r62) rfl (aop_move (.inl rfl) rfl) ?_
       refine AR.op (r := bl r62) rfl (aop_move (.inr rfl) rfl) ?_
       refine AR.nil ?_
       refine hK15 _ (AWP.weak (Weak.kt [8] rfl) ?_)
       clear hK15 K15
       refine awp_ret ?_
       obtain rfl := Option.some.inj h
       refine ⟨.inr rfl, bl r62, rfl, ?_⟩
       exact Weak.re [] [] rfl rfl rfl (trivial) ⟨⟨_, rfl, .sm⟩, trivial⟩
      ·replace h := Sh.if_f h hb60
       refine awp_seqK fun K16 hK16 => ?_
       refine awp_reg rfl ?_
       refine AR.op (r := bl (decide (f_3.Kind = 3))) rfl (aop_eql rfl rfl rfl) ?_
       refine AR.op (r := bl (decide (f_3.Kind = 3))) rfl (aop_move (.inr rfl) rfl) ?_
       refine AR.nil ?_
       refine hK16 _ (AWP.weak (Weak.kt [1, 2, 4, 7, 46, 74] rfl) ?_)
       clear hK16 K16
       refine awp_cond rfl (fun hb63 => ?_) (fun hb63 => ?_)
       ·replace h := Sh.if_t h hb63
        refine awp_seqK fun K17 hK17 => ?_
        refine awp_reg rfl ?_
        refine AR.op (r := G.api_Hist.av h_0) rfl (aop_load_pp rfl rfl sz24 rfl) ?_
        refine AR.op (r := G.inquestref22_F.av f_3) rfl (aop_load_pp rfl rfl sz37 rfl) ?_
        obtain ⟨r65, hr65, h⟩ := Sh.bind_some' h
        refine AR.op (r := bl r65) rfl (aop_call1 rfl rfl (by simp) (inquestref22_seen_ok hT hr65)) ?_
        refine AR.keep [78] rfl ?_
        refine AR.op (r := bl r65) rfl (aop_move (.inr rfl) rfl) ?_
        refine AR.nil ?_
        refine hK17 _ (AWP.weak (Weak.kt [13] rfl) ?_)
        clear hK17 K17
        refine awp_seqK fun K18 hK18 => ?_
        refine awp_reg rfl ?_
        refine AR.op (r := bl r65) rfl (aop_move (.inl rfl) rfl) ?_
        refine AR.op (r := bl r65) rfl (aop_move (.inr rfl) rfl) ?_
        refine AR.nil ?_
        refine hK18 _ (AWP.weak (Weak.kt [8] rfl) ?_)
        clear hK18 K18
        refine awp_ret ?_
        obtain rfl := Option.some.inj h
        refine ⟨.inr rfl, bl r65, rfl, ?_⟩
        exact Weak.re [] [] rfl rfl rfl (trivial) ⟨⟨_, rfl, .sm⟩, trivial⟩
       ·replace h := Sh.if_f h hb63
        refine awp_seqK fun K19 hK19 => ?_
        refine awp_reg rfl ?_
        refine AR.op (r := bl (decide (f_3.Kind = 4))) rfl (aop_eql rfl rfl rfl) ?_
        refine AR.op (r := bl (decide (f_3.Kind = 4))) rfl (aop_move (.inr rfl) rfl) ?_
        refine AR.nil ?_
        refine hK19 _ (AWP.weak (Weak.kt [1, 2, 4, 7, 80] rfl) ?_)
        clear hK19 K19
        refine awp_cond rfl (fun hb66 => ?_) (fun hb66 => ?_)
        ·replace h := Sh.if_t h hb66
         refine awp_seqK fun K20 hK20 => ?_
         refine awp_reg rfl ?_
         refine AR.op (r := .sl (List.map G.inquestref22_F.av l_2)) rfl (aop_move (.inl rfl) rfl) ?_
         obtain ⟨r68, hr68, h⟩ := Sh.bind_some' h
         refine AR.op (r := .view 0 0 (List.map G.api_Choice.av r68).length) rfl (aop_call2N (.view 0 0 (List.map G.api_Choice.av r68).length) [(0, (3, List.map G.api_Choice.av r68))] rfl (ys := [.sl (List.map G.inquestref22_F.av l_2)]) (xs := [.sl (List.map G.inquestref22_F.av l_2)]) rfl (Weak.refl _) rfl (by simp) (inquestref22_Choices_own hT hr68) (.view _ _ _) ⟨rfl, rfl, .same (by simp [AV.flat, G.api_Choice.av]), trivial⟩) ?_
         refine AR.op (r := .view 0 0 (List.map G.api_Choice.av r68).length) rfl (aop_move (.inr rfl) rfl) ?_
         refine AR.nil ?_
         refine hK20 _ (AWP.weak (Weak.re (fr' := [(1, i64 level_1), (4, .pp [.sl (List.map G.api_Txn.av h_0.Txns)] 0), (7, .pp [i64 f_3.C.Key, i64 f_3.C.A, i64 f_3.C.B, i64 f_3.Kind, i64 f_3.I, i64 f_3.J, .sl (List.map i64 f_3.Cycle)] 0), (14, .view 0 0 (List.map G.api_Choice.av r68).length)]) (H' := ⟨1, [(0, (3, List.map G.api_Choice.av r68))], []⟩) [(0, 0)] [] rfl rfl rfl (.cons rfl rfl (.same (by simp)) (of_decide_eq_true rfl) (trivial)) ⟨⟨_, rfl, .sm⟩, ⟨_, rfl, .sm⟩, ⟨_, rfl, .sm⟩, ⟨_, rfl, .view rfl⟩, trivial⟩) ?_)
         clear hK20 K20
         refine awp_seqK fun K21 hK21 => ?_
         refine awp_reg rfl ?_
         refine AR.op (r := .view 0 0 (List.map G.api_Choice.av r68).length) rfl (aop_move (.inl rfl) rfl) ?_
         refine AR.op rfl (aop_field_pp rfl rfl fd37_0 (by decide)) ?_
         refine AR.op (r := G.api_Choice.av f_3.C) rfl (aop_load_pp rfl rfl sz27 rfl) ?_
         refine AR.keep [1, 4, 7, 84, 86] rfl ?_
         obtain ⟨r71, hr71, h⟩ := Sh.bind_some' h
         refine AR.op (r := G.api_Choice.av r71) rfl (aop_call1 rfl rfl (by simp) (inquestref18_Back_ok hT hr71)) ?_
         refine AR.op (r := .clip (List.map G.api_Choice.av ([r71] : List G.api_Choice))) rfl (aop_buildSlice rfl (xo := [.tmp 87]) rfl rfl rfl (by simp) (by simp) el43 ze43 (by decide)) ?_
         obtain ⟨c72, hc72, h⟩ := Sh.bind_some' h
         refine AR.op (r := .view 1 0 (List.map G.api_Choice.av c72).length) rfl (t_app_view G.api_Choice.av r68 ([r71] : List G.api_Choice) c72 hc72 rfl et43 (fun _ => rfl) rfl rfl rfl rfl rfl rfl rfl) ?_
         refine AR.keep [1, 4, 7, 89] rfl ?_
         refine AR.op (r := .view 1 0 (List.map G.api_Choice.av c72).length) rfl (aop_move (.inr rfl) rfl) ?_
         refine AR.nil ?_
         refine hK21 _ (AWP.weak (Weak.re (fr' := [(1, i64 level_1), (4, .pp [.sl (List.map G.api_Txn.av h_0.Txns)] 0), (7, .pp [i64 f_3.C.Key, i64 f_3.C.A, i64 f_3.C.B, i64 f_3.Kind, i64 f_3.I, i64 f_3.J, .sl (List.map i64 f_3.Cycle)] 0), (14, .sl (List.map G.api_Choice.av c72))]) (H' := .empty) [] [] rfl rfl rfl (trivial) ⟨⟨_, rfl, .sm⟩, ⟨_, rfl, .sm⟩, ⟨_, rfl, .sm⟩, ⟨_, rfl, .lendAll rfl rfl (by simp)⟩, trivial⟩) ?_)
         clear hK21 K21
         refine awp_seqK fun K22 hK22 => ?_
         refine awp_reg rfl ?_
         refine AR.op (r := G.api_Hist.av h_0) rfl (aop_load_pp rfl rfl sz24 rfl) ?_
         refine AR.op (r := i64 level_1) rfl (aop_move (.inl rfl) rfl) ?_
         refine AR.op (r := .sl (List.map G.api_Choice.av c72)) rfl (aop_move (.inl rfl) rfl) ?_
         refine AR.keep [7, 90, 91, 92] rfl ?_
         refine AR.op rfl (aop_field_pp rfl rfl fd37_4 (by decide)) ?_
         refine AR.op (r := .sl (List.map i64 f_3.Cycle)) rfl (aop_load_pp rfl rfl sz28 rfl) ?_
         obtain ⟨r74, hr74, h⟩ := Sh.bind_some' h
         refine AR.op (r := bl r74) rfl (aop_call1 rfl rfl (by simp) (inquestref19_Cycle_ok hT hr74)) ?_
         refine AR.keep [7, 95] rfl ?_
         refine AR.op (r := bl r74) rfl (aop_move (.inr rfl) rfl) ?_
         refine AR.nil ?_
         refine hK22 _ (AWP.weak (Weak.kt [7, 15] rfl) ?_)
         clear hK22 K22
         refine awp_seqK fun K23 hK23 => ?_
         refine awp_reg rfl ?_
         refine AR.op (r := bl r74) rfl (aop_move (.inl rfl) rfl) ?_
         refine AR.op (r := bl r74) rfl (aop_move (.inl rfl) rfl) ?_
         rcases Bool.eq_false_or_eq_true (r74) with hb77 | hb77
         ·rw [hb77]
          replace h := Sh.if_t h hb77
          refine AR.op rfl (aop_field_pp rfl rfl fd37_2 (by decide)) ?_
          refine AR.keep [7, 97, 98] rfl ?_
          refine AR.op (r := i64 f_3.I) rfl (aop_load_pp rfl rfl sz3 rfl) ?_
          refine AR.op (r := bl (decide (f_3.I = 0))) rfl (aop_eql rfl rfl rfl) ?_
          refine AR.op (r := bl (decide (f_3.I = 0))) rfl (aop_pick rfl rfl rfl) ?_
          refine AR.keep [7, 101] rfl ?_
          refine AR.op (r := bl (decide (f_3.I = 0))) rfl (aop_move (.inl rfl) rfl) ?_
          rcases Bool.eq_false_or_eq_true (decide (f_3.I = 0)) with hb78 | hb78
          ·rw [hb78]
           replace h := Sh.if_t h hb78
           refine AR.op rfl (aop_field_pp rfl rfl fd37_3 (by decide)) ?_
           refine AR.op (r := i64 f_3.J) rfl (aop_load_pp rfl rfl sz3 rfl) ?_
           refine AR.keep [102, 104] rfl ?_
           refine AR.op (r := bl (decide (f_3.J = 0))) rfl (aop_eql rfl rfl rfl) ?_
           refine AR.op (r := bl (decide (f_3.J = 0))) rfl (aop_pick rfl rfl rfl) ?_
           refine AR.op (r := bl (decide (f_3.J = 0))) rfl (aop_move (.inr rfl) rfl) ?_
           refine AR.nil ?_
           refine hK23 _ (AWP.weak (Weak.kt [8] rfl) ?_)
           clear hK23 K23
           refine awp_ret ?_
           obtain rfl := Option.some.inj h
           refine ⟨.inr rfl, bl (decide (f_3.J = 0)), rfl, ?_⟩
           exact Weak.re [] [] rfl rfl rfl (trivial) ⟨⟨_, rfl, .sm⟩, trivial⟩
          ·rw [hb78]
           replace h := Sh.if_f h hb78
           refine AR.skip rfl ?_
           refine AR.skip rfl ?_
           refine AR.keep [102, 104] rfl ?_
           refine AR.skip rfl ?_
           refine AR.op (r := bl false) rfl (aop_pick rfl rfl rfl) ?_
           refine AR.op (r := bl false) rfl (aop_move (.inr rfl) rfl) ?_
           refine AR.nil ?_
           refine hK23 _ (AWP.weak (Weak.kt [8] rfl) ?_)
           clear hK23 K23
           refine awp_ret ?_
           obtain rfl := Option.some.inj h
           refine ⟨.inr rfl, bl false, rfl, ?_⟩
           exact Weak.re [] [] rfl rfl rfl (trivial) ⟨⟨_, rfl, .sm⟩, trivial⟩
         ·rw [hb77]
          replace h := Sh.if_f h hb77
          refine AR.skip rfl ?_
          refine AR.keep [7, 97, 98] rfl ?_
          refine AR.skip rfl ?_
          refine AR.skip rfl ?_
          refine AR.op (r := bl false) rfl (aop_pick rfl rfl rfl) ?_
          refine AR.keep [7, 101] rfl ?_
          refine AR.op (r := bl false) rfl (aop_move (.inl rfl) rfl) ?_
          refine AR.skip rfl ?_
          refine AR.skip rfl ?_
          refine AR.keep [102, 104] rfl ?_
          refine AR.skip rfl ?_
          refine AR.op (r := bl false) rfl (aop_pick rfl rfl rfl) ?_
          refine AR.op (r := bl false) rfl (aop_move (.inr rfl) rfl) ?_
          refine AR.nil ?_
          refine hK23 _ (AWP.weak (Weak.kt [8] rfl) ?_)
          clear hK23 K23
          refine awp_ret ?_
          obtain rfl := Option.some.inj h
          refine ⟨.inr rfl, bl false, rfl, ?_⟩
          exact Weak.re [] [] rfl rfl rfl (trivial) ⟨⟨_, rfl, .sm⟩, trivial⟩
        ·replace h := Sh.if_f h hb66
         refine awp_skip ?_
         refine hK8 _ (AWP.weak (Weak.kt [] rfl) ?_)
         clear hK8 K8
         refine awp_seqK fun K24 hK24 => ?_
         refine awp_reg rfl ?_
         refine AR.op (r := bl false) rfl (aop_move (.inr rfl) rfl) ?_
         refine AR.nil ?_
         refine hK24 _ ?_
         clear hK24 K24
         refine awp_ret ?_
         obtain rfl := Option.some.inj h
         refine ⟨.inr rfl, bl false, rfl, ?_⟩
         exact Weak.re [] [] rfl rfl rfl (trivial) ⟨⟨_, rfl, .sm⟩, trivial⟩
   ·intro K25 hK25
    refine awp_reg rfl ?_
    refine AR.op (r := bl r32) rfl (aop_move (.inl rfl) rfl) ?_
    refine AR.op (r := bl (!r32)) rfl (aop_not rfl rfl) ?_
    refine AR.op (r := bl (!r32)) rfl (aop_move (.inl rfl) rfl) ?_
    refine AR.keep [1, 2, 4, 7, 34] rfl ?_
    rcases Bool.eq_false_or_eq_true (!r32) with hb79 | hb79
    ·rw [hb79]
     replace h := Sh.if_t h hb79
     refine AR.skip rfl ?_
     refine AR.skip rfl ?_
     refine AR.skip rfl ?_
     refine AR.keep [1, 2, 4, 7, 34, 37] rfl ?_
     refine AR.skip rfl ?_
     refine AR.skip rfl ?_
     refine AR.skip rfl ?_
     refine AR.keep [1, 2, 4, 7, 34, 38, 40] rfl ?_
     refine AR.skip rfl ?_
     refine AR.skip rfl ?_
     refine AR.skip rfl ?_
     refine AR.keep [1, 2, 4, 7, 34, 43] rfl ?_
     refine AR.op (r := bl true) rfl (aop_pick rfl rfl rfl) ?_
     refine AR.nil ?_
     exact hK25 true _ h (Weak.kt [1, 2, 4, 7, 44] rfl)
    ·rw [hb79]
     replace h := Sh.if_f h hb79
     refine AR.op rfl (aop_field_pp rfl rfl fd37_1 (by decide)) ?_
     refine AR.op (r := i64 f_3.Kind) rfl (aop_load_pp rfl rfl sz3 rfl) ?_
     refine AR.op (r := bl (decide (f_3.Kind ≠ 4))) rfl (aop_neq rfl rfl rfl) ?_
     refine AR.keep [1, 2, 4, 7, 34, 37] rfl ?_
     refine AR.op (r := bl (decide (f_3.Kind ≠ 4))) rfl (aop_move (.inl rfl) rfl) ?_
     rcases Bool.eq_false_or_eq_true (decide (f_3.Kind ≠ 4)) with hb80 | hb80
     ·rw [hb80]
      replace h := Sh.if_t h hb80
      refine AR.op rfl (aop_field_pp rfl rfl fd37_4 (by decide)) ?_
      refine AR.op (r := .sl (List.map i64 f_3.Cycle)) rfl (aop_load_pp rfl rfl sz28 rfl) ?_
      refine AR.keep [1, 2, 4, 7, 34, 38, 40] rfl ?_
      refine AR.op (r := i64 (Sh.len f_3.Cycle)) rfl (t_len_sl i64 f_3.Cycle rfl rfl el28) ?_
      refine AR.op (r := bl (decide ((0 : Int) < (Sh.len f_3.Cycle)))) rfl (aop_gtr rfl rfl rfl) ?_
      refine AR.op (r := bl (decide ((0 : Int) < (Sh.len f_3.Cycle)))) rfl (aop_pick rfl rfl rfl) ?_
      refine AR.keep [1, 2, 4, 7, 34, 43] rfl ?_
      refine AR.op (r := bl (decide ((0 : Int) < (Sh.len f_3.Cycle)))) rfl (aop_pick rfl rfl rfl) ?_
      refine AR.nil ?_
      exact hK25 (decide ((0 : Int) < (Sh.len f_3.Cycle))) _ h (Weak.re (fr' := [(1, i64 level_1), (2, .sl (List.map G.inquestref22_F.av l_2)), (4, .pp [.sl (List.map G.api_Txn.av h_0.Txns)] 0), (7, .pp [i64 f_3.C.Key, i64 f_3.C.A, i64 f_3.C.B, i64 f_3.Kind, i64 f_3.I, i64 f_3.J, .sl (List.map i64 f_3.Cycle)] 0), (44, bl (decide ((0 : Int) < (Sh.len f_3.Cycle))))]) (H' := .empty) [] [] rfl rfl rfl (trivial) ⟨⟨_, rfl, .sm⟩, ⟨.sl (List.map G.inquestref22_F.av l_2), rfl, .sm⟩, ⟨_, rfl, .sm⟩, ⟨_, rfl, .sm⟩, ⟨_, rfl, .sm⟩, trivial⟩)
     ·rw [hb80]
      replace h := Sh.if_f h hb80
      refine AR.skip rfl ?_
      refine AR.skip rfl ?_
      refine AR.keep [1, 2, 4, 7, 34, 38, 40] rfl ?_
      refine AR.skip rfl ?_
      refine AR.skip rfl ?_
      refine AR.op (r := bl false) rfl (aop_pick rfl rfl rfl) ?_
      refine AR.keep [1, 2, 4, 7, 34, 43] rfl ?_
      refine AR.op (r := bl false) rfl (aop_pick rfl rfl rfl) ?_
      refine AR.nil ?_
      exact hK25 false _ h (Weak.kt [1, 2, 4, 7, 44] rfl)
 ·intro K26 hK26
  refine awp_reg rfl ?_
  refine AR.op (r := bl r23) rfl (aop_move (.inl rfl) rfl) ?_
  refine AR.op (r := bl (!r23)) rfl (aop_not rfl rfl) ?_
  refine AR.op (r := bl (!r23)) rfl (aop_move (.inl rfl) rfl) ?_
  refine AR.keep [1, 2, 4, 7, 20] rfl ?_
  rcases Bool.eq_false_or_eq_true (!r23) with hb81 | hb81
  ·rw [hb81]
   replace h := Sh.if_t h hb81
   refine AR.skip rfl ?_
   refine AR.skip rfl ?_
   refine AR.skip rfl ?_
   refine AR.keep [1, 2, 4, 7, 20, 23] rfl ?_
   refine AR.skip rfl ?_
   refine AR.skip rfl ?_
   refine AR.skip rfl ?_
   refine AR.keep [1, 2, 4, 7, 20, 26] rfl ?_
   refine AR.op (r := bl true) rfl (aop_pick rfl rfl rfl) ?_
   refine AR.nil ?_
   exact hK26 true _ h (Weak.kt [1, 2, 4, 7, 27] rfl)
  ·rw [hb81]
   replace h := Sh.if_f h hb81
   refine AR.op (r := i64 level_1) rfl (aop_move (.inl rfl) rfl) ?_
   refine AR.op (r := bl (decide (level_1 ≠ 0))) rfl (aop_neq rfl rfl rfl) ?_
   refine AR.op (r := bl (decide (level_1 ≠ 0))) rfl (aop_move (.inl rfl) rfl) ?_
   refine AR.keep [1, 2, 4, 7, 20, 23] rfl ?_
   rcases Bool.eq_false_or_eq_true (decide (level_1 ≠ 0)) with hb82 | hb82
   ·rw [hb82]
    replace h := Sh.if_t h hb82
    refine AR.op (r := i64 level_1) rfl (aop_move (.inl rfl) rfl) ?_
    refine AR.op (r := bl (decide (level_1 ≠ 1))) rfl (aop_neq rfl rfl rfl) ?_
    refine AR.op (r := bl (decide (level_1 ≠ 1))) rfl (aop_pick rfl rfl rfl) ?_
    refine AR.keep [1, 2, 4, 7, 20, 26] rfl ?_
    refine AR.op (r := bl (decide (level_1 ≠ 1))) rfl (aop_pick rfl rfl rfl) ?_
    refine AR.nil ?_
    exact hK26 (decide (level_1 ≠ 1)) _ h (Weak.re (fr' := [(1, i64 level_1), (2, .sl (List.map G.inquestref22_F.av l_2)), (4, .pp [.sl (List.map G.api_Txn.av h_0.Txns)] 0), (7, .pp [i64 f_3.C.Key, i64 f_3.C.A, i64 f_3.C.B, i64 f_3.Kind, i64 f_3.I, i64 f_3.J, .sl (List.map i64 f_3.Cycle)] 0), (27, bl (decide (level_1 ≠ 1)))]) (H' := .empty) [] [] rfl rfl rfl (trivial) ⟨⟨_, rfl, .sm⟩, ⟨.sl (List.map G.inquestref22_F.av l_2), rfl, .sm⟩, ⟨_, rfl, .sm⟩, ⟨_, rfl, .sm⟩, ⟨_, rfl, .sm⟩, trivial⟩)
   ·rw [hb82]
    replace h := Sh.if_f h hb82
    refine AR.skip rfl ?_
    refine AR.skip rfl ?_
    refine AR.op (r := bl false) rfl (aop_pick rfl rfl rfl) ?_
    refine AR.keep [1, 2, 4, 7, 20, 26] rfl ?_
    refine AR.op (r := bl false) rfl (aop_pick rfl rfl rfl) ?_
    refine AR.nil ?_
    exact hK26 false _ h (Weak.kt [1, 2, 4, 7, 27] rfl)
theorem inquestref22_Holds_ok {W0 : World} (hT : Tab W0) {h_0 : G.api_Hist} {level_1 : Int} {l_2 : List G.inquestref22_F} {f_3 : G.inquestref22_F} {r : Bool} (h : G.inquestref22_Holds h_0 level_1 l_2 f_3 = some r) : Fun1 Try.prog W0 15 [G.api_Hist.av h_0, i64 level_1, .sl (List.map G.inquestref22_F.av l_2), G.inquestref22_F.av f_3] (bl r) := Fun1.two (inquestref22_Holds_ok0 hT h) (by simp)


theorem inquestref22_Replay_ok0 {W0 : World} (hT : Tab W0) {h_0 : G.api_Hist} {level_1 : Int} {l_2 : List G.inquestref22_F} {r : Bool} (h : G.inquestref22_Replay h_0 level_1 l_2 = some r) : Fun2 Try.prog W0 17 [G.api_Hist.av h_0, i64 level_1, .sl (List.map G.inquestref22_F.av l_2)] (bl r) .empty := by
 refine fun2_of_awp Try.func17 rfl (by kernel_rfl) Try.ntmps17 (by simp) ?_
 unfold G.inquestref22_Replay at h
 show AWP _ _ _ _ ⟨[(0, G.api_Hist.av h_0), (1, i64 level_1), (2, .sl (List.map G.inquestref22_F.av l_2))], .empty⟩ _
 refine awp_seqK fun K1 hK1 => ?_
 refine awp_reg rfl ?_
 refine AR.op (r := .ref 0 0 0) rfl (aop_box 1 [G.api_Hist.av h_0] rfl rfl rfl (.inl ⟨rfl, rfl⟩)) ?_
 refine AR.op (r := bl false) rfl (aop_move (.inr rfl) rfl) ?_
 refine AR.nil ?_
 refine hK1 _ (AWP.weak (Weak.re (fr' := [(1, i64 level_1), (2, .sl (List.map G.inquestref22_F.av l_2)), (3, .pp [.sl (List.map G.api_Txn.av h_0.Txns)] 0)]) (H' := .empty) [] [] rfl rfl rfl (trivial) ⟨⟨_, rfl, .sm⟩, ⟨.sl (List.map G.inquestref22_F.av l_2), rfl, .sm⟩, ⟨_, rfl, .frzA rfl rfl rfl rfl (by simp)⟩, trivial⟩) ?_)
 clear hK1 K1
 refine awp_seqK fun K2 hK2 => ?_
 refine awp_reg rfl ?_
 refine AR.op (r := G.api_Hist.av h_0) rfl (aop_load_pp rfl rfl sz24 rfl) ?_
 obtain ⟨r20, hr20, h⟩ := Sh.bind_some' h
 refine AR.op (r := bl r20) rfl (aop_call1 rfl rfl (by simp) (inquestref08_Right_ok hT hr20)) ?_
 refine AR.op (r := bl r20) rfl (aop_move (.inr rfl) rfl) ?_
 refine AR.nil ?_
 refine hK2 _ (AWP.weak (Weak.kt [1, 2, 3, 7] rfl) ?_)
 clear hK2 K2
 refine awp_seqK fun K3 hK3 => ?_
 refine awp_seqJ (fun (p : Bool) => (⟨[(1, i64 level_1), (2, .sl (List.map G.inquestref22_F.av l_2)), (3, .pp [.sl (List.map G.api_Txn.av h_0.Txns)] 0), (21, bl p)], .empty⟩ : St)) (fun (p : Bool) => G.inquestref22_Replay_j1 h_0 level_1 l_2 p = some r) ?_ ?_
 ·rintro v26 h
  replace h : G.inquestref22_Replay_j1 h_0 level_1 l_2 v26 = some r := h
  unfold G.inquestref22_Replay_j1 at h
  show AWP _ _ _ _ ⟨[(1, i64 level_1), (2, .sl (List.map G.inquestref22_F.av l_2)), (3, .pp [.sl (List.map G.api_Txn.av h_0.Txns)] 0), (21, bl v26)], .empty⟩ _
  refine awp_cond rfl (fun hb27 => ?_) (fun hb27 => ?_)
  ·replace h := Sh.if_t h hb27
   refine awp_seqK fun K4 hK4 => ?_
   refine awp_reg rfl ?_
   refine AR.op (r := bl false) rfl (aop_move (.inr rfl) rfl) ?_
   refine AR.nil ?_
   refine hK4 _ (AWP.weak (Weak.kt [6] rfl) ?_)
   clear hK4 K4
   refine awp_ret ?_
   obtain rfl := Option.some.inj h
   refine ⟨.inr rfl, bl false, rfl, ?_⟩
   exact Weak.re [] [] rfl rfl rfl (trivial) ⟨⟨_, rfl, .sm⟩, trivial⟩
  ·replace h := Sh.if_f h hb27
   refine awp_skip ?_
   refine hK3 _ (AWP.weak (Weak.kt [1, 2, 3] rfl) ?_)
   clear hK3 K3
   refine awp_seqJ (fun (p : Unit) => (⟨[], .empty⟩ : St)) (fun (p : Unit) => G.inquestref22_Replay_j2 = some r) ?_ ?_
   ·rintro ⟨⟩ h
    replace h : G.inquestref22_Replay_j2 = some r := h
    unfold G.inquestref22_Replay_j2 at h
    show AWP _ _ _ _ ⟨[], .empty⟩ _
    refine awp_seqK fun K5 hK5 => ?_
    refine awp_reg rfl ?_
    refine AR.op (r := bl true) rfl (aop_move (.inr rfl) rfl) ?_
    refine AR.nil ?_
    refine hK5 _ ?_
    clear hK5 K5
    refine awp_ret ?_
    obtain rfl := Option.some.inj h
    refine ⟨.inr rfl, bl true, rfl, ?_⟩
    exact Weak.re [] [] rfl rfl rfl (trivial) ⟨⟨_, rfl, .sm⟩, trivial⟩
   ·intro K6 hK6
    refine awp_seqK fun K7 hK7 => ?_
    refine awp_reg rfl ?_
    refine AR.op (r := i64 0) rfl (aop_move (.inr rfl) rfl) ?_
    refine AR.nil ?_
    refine hK7 _ ?_
    clear hK7 K7
    refine awp_block ?_
    refine awp_iter (fun (p : Int) => G.inquestref22_Replay_b1 h_0 level_1 l_2 p) (fun (p : Int) => (⟨[(1, i64 level_1), (2, .sl (List.map G.inquestref22_F.av l_2)), (3, .pp [.sl (List.map G.api_Txn.av h_0.Txns)] 0), (8, i64 p)], .empty⟩ : St)) h (Weak.kt [1, 2, 3, 8] rfl) ?_
    ·skip
     rintro i51 o1 h hx1
     replace h : G.inquestref22_Replay_b1 h_0 level_1 l_2 i51 = some o1 := h
     unfold G.inquestref22_Replay_b1 at h
     show AWP _ _ _ _ ⟨[(1, i64 level_1), (2, .sl (List.map G.inquestref22_F.av l_2)), (3, .pp [.sl (List.map G.api_Txn.av h_0.Txns)] 0), (8, i64 i51)], .empty⟩ _
     refine awp_seqK fun K8 hK8 => ?_
     refine awp_seqK fun K9 hK9 => ?_
     refine awp_reg rfl ?_
     refine AR.op (r := i64 i51) rfl (aop_move (.inl rfl) rfl) ?_
     refine AR.op (r := .sl (List.map G.inquestref22_F.av l_2)) rfl (aop_move (.inl rfl) rfl) ?_
     refine AR.op (r := i64 (Sh.len l_2)) rfl (t_len_sl G.inquestref22_F.av l_2 rfl rfl el35) ?_
     refine AR.keep [1, 2, 3, 8, 22, 24] rfl ?_
     refine AR.op (r := bl (decide (i51 < (Sh.len l_2)))) rfl (aop_lss rfl rfl rfl) ?_
     refine AR.nil ?_
     refine hK9 _ (AWP.weak (Weak.kt [1, 2, 3, 8, 25] rfl) ?_)
     clear hK9 K9
     refine awp_cond rfl (fun hb52 => ?_) (fun hb52 => ?_)
     ·replace h := Sh.if_t h hb52
      refine awp_skip ?_
      refine hK8 _ (AWP.weak (Weak.kt [1, 2, 3, 8] rfl) ?_)
      clear hK8 K8
      refine awp_seqK fun K10 hK10 => ?_
      refine awp_block ?_
      refine awp_seqK fun K11 hK11 => ?_
      refine awp_any [(true, false), (true, false), (true, false), (true, false), (true, false), (true, false), (true, false), (true, false), (true, false), (true, false), (true, false)] (by kernel_rfl) (by kernel_rfl) rfl ?_
      refine ARH.dry (r := G.api_Hist.av h_0) rfl (fun _ => aop_load_pp rfl rfl sz24 rfl) ?_
      refine ARH.dry (r := i64 level_1) rfl (fun _ => aop_move (.inl rfl) rfl) ?_
      refine ARH.dry (r := .sl (List.map G.inquestref22_F.av l_2)) rfl (fun _ => aop_move (.inl rfl) rfl) ?_
      refine ARH.keep [1, 2, 3, 8, 28, 29, 30] rfl ?_
      refine ARH.dry (r := i64 i51) rfl (fun _ => aop_move (.inl rfl) rfl) ?_
      obtain ⟨part61, hpart61, h⟩ := Sh.bind_some' h
      refine ARH.dry (r := .sl (List.map G.inquestref22_F.av part61)) rfl (fun _ => t_sub G.inquestref22_F.av l_2 part61 hpart61 (fun _ => rfl) rfl rfl (.inl rfl) (.inl ⟨rfl, rfl⟩) (.inr ⟨_, _, rfl, rfl⟩) el35) ?_
      refine ARH.dry (r := .sl (List.map G.inquestref22_F.av l_2)) rfl (fun _ => aop_move (.inl rfl) rfl) ?_
      refine ARH.keep [1, 2, 3, 8, 28, 29, 32, 33] rfl ?_
      refine ARH.dry (r := i64 i51) rfl (fun _ => aop_move (.inl rfl) rfl) ?_
      obtain ⟨x62, hx62, h⟩ := Sh.bind_some' h
      obtain ⟨k63, hi63, hl63⟩ := Sh.idx_some hx62
      refine ARH.dry rfl (fun _ => t_index_sl G.inquestref22_F.av l_2 hi63 hl63 rfl rfl rfl el35 rfl) ?_
      refine ARH.dry (r := G.inquestref22_F.av x62) rfl (fun _ => aop_load_pp rfl rfl sz37 rfl) ?_
      refine ARH.keep [1, 2, 3, 8, 28, 29, 32, 36] rfl ?_
      obtain ⟨r64, hr64, h⟩ := Sh.bind_some' h
      refine ARH.dry (r := bl r64) rfl (fun _ => aop_call1 rfl rfl (by simp) (inquestref22_Holds_ok hT hr64)) ?_
      refine ARH.dry (r := bl r64) rfl (fun _ => aop_move (.inr rfl) rfl) ?_
      refine ARH.nil ?_
      refine hK11 _ (AWP.weak (Weak.kt [1, 2, 3, 8, 9] rfl) ?_)
      clear hK11 K11
      refine awp_seqK fun K12 hK12 => ?_
      refine awp_reg rfl ?_
      refine AR.op (r := bl r64) rfl (aop_move (.inl rfl) rfl) ?_
      refine AR.op (r := bl (!r64)) rfl (aop_not rfl rfl) ?_
      refine AR.nil ?_
      refine hK12 _ (AWP.weak (Weak.kt [1, 2, 3, 8, 39] rfl) ?_)
      clear hK12 K12
      refine awp_cond rfl (fun hb65 => ?_) (fun hb65 => ?_)
      ·replace h := Sh.if_t h hb65
       refine awp_seqK fun K13 hK13 => ?_
       refine awp_reg rfl ?_
       refine AR.op (r := bl false) rfl (aop_move (.inr rfl) rfl) ?_
       refine AR.nil ?_
       refine hK13 _ (AWP.weak (Weak.kt [6] rfl) ?_)
       clear hK13 K13
       refine awp_ret ?_
       replace h := Sh.exit_eq h hx1
       obtain rfl := Option.some.inj h
       refine ⟨.inr rfl, bl false, rfl, ?_⟩
       exact Weak.re [] [] rfl rfl rfl (trivial) ⟨⟨_, rfl, .sm⟩, trivial⟩
      ·replace h := Sh.if_f h hb65
       refine awp_skip ?_
       refine hK10 _ (AWP.weak (Weak.kt [1, 2, 3, 8] rfl) ?_)
       clear hK10 K10
       refine awp_reg rfl ?_
       refine AR.op (r := i64 i51) rfl (aop_move (.inl rfl) rfl) ?_
       refine AR.op (r := i64 (w64 (i51 + 1))) rfl (aop_add rfl rfl rfl rfl) ?_
       refine AR.op (r := i64 (w64 (i51 + 1))) rfl (aop_move (.inr rfl) rfl) ?_
       refine AR.nil ?_
       replace h := Sh.next_eq h
       exact ⟨_, h, Weak.re (fr' := [(1, i64 level_1), (2, .sl (List.map G.inquestref22_F.av l_2)), (3, .pp [.sl (List.map G.api_Txn.av h_0.Txns)] 0), (8, i64 (w64 (i51 + 1)))]) (H' := .empty) [] [] rfl rfl rfl (trivial) ⟨⟨_, rfl, .sm⟩, ⟨.sl (List.map G.inquestref22_F.av l_2), rfl, .sm⟩, ⟨_, rfl, .sm⟩, ⟨_, rfl, .sm⟩, trivial⟩⟩
     ·replace h := Sh.if_f h hb52
      refine awp_exit ?_
      replace h := Sh.exit_eq h hx1
      exact hK6 () _ h (Weak.kt [] rfl)
 ·intro K14 hK14
  refine awp_reg rfl ?_
  refine AR.op (r := bl r20) rfl (aop_move (.inl rfl) rfl) ?_
  refine AR.op (r := bl (!r20)) rfl (aop_not rfl rfl) ?_
  refine AR.op (r := bl (!r20)) rfl (aop_move (.inl rfl) rfl) ?_
  refine AR.keep [1, 2, 3, 14] rfl ?_
  rcases Bool.eq_false_or_eq_true (!r20) with hb66 | hb66
  ·rw [hb66]
   replace h := Sh.if_t h hb66
   refine AR.skip rfl ?_
   refine AR.skip rfl ?_
   refine AR.skip rfl ?_
   refine AR.keep [1, 2, 3, 14, 17] rfl ?_
   refine AR.skip rfl ?_
   refine AR.skip rfl ?_
   refine AR.skip rfl ?_
   refine AR.keep [1, 2, 3, 14, 20] rfl ?_
   refine AR.op (r := bl true) rfl (aop_pick rfl rfl rfl) ?_
   refine AR.nil ?_
   exact hK14 true _ h (Weak.kt [1, 2, 3, 21] rfl)
  ·rw [hb66]
   replace h := Sh.if_f h hb66
   refine AR.op (r := i64 level_1) rfl (aop_move (.inl rfl) rfl) ?_
   refine AR.op (r := bl (decide (level_1 ≠ 0))) rfl (aop_neq rfl rfl rfl) ?_
   refine AR.op (r := bl (decide (level_1 ≠ 0))) rfl (aop_move (.inl rfl) rfl) ?_
   refine AR.keep [1, 2, 3, 14, 17] rfl ?_
   rcases Bool.eq_false_or_eq_true (decide (level_1 ≠ 0)) with hb67 | hb67
   ·rw [hb67]
    replace h := Sh.if_t h hb67
    refine AR.op (r := i64 level_1) rfl (aop_move (.inl rfl) rfl) ?_
    refine AR.op (r := bl (decide (level_1 ≠ 1))) rfl (aop_neq rfl rfl rfl) ?_
    refine AR.op (r := bl (decide (level_1 ≠ 1))) rfl (aop_pick rfl rfl rfl) ?_
    refine AR.keep [1, 2, 3, 14, 20] rfl ?_
    refine AR.op (r := bl (decide (level_1 ≠ 1))) rfl (aop_pick rfl rfl rfl) ?_
    refine AR.nil ?_
    exact hK14 (decide (level_1 ≠ 1)) _ h (Weak.re (fr' := [(1, i64 level_1), (2, .sl (List.map G.inquestref22_F.av l_2)), (3, .pp [.sl (List.map G.api_Txn.av h_0.Txns)] 0), (21, bl (decide (level_1 ≠ 1)))]) (H' := .empty) [] [] rfl rfl rfl (trivial) ⟨⟨_, rfl, .sm⟩, ⟨.sl (List.map G.inquestref22_F.av l_2), rfl, .sm⟩, ⟨_, rfl, .sm⟩, ⟨_, rfl, .sm⟩, trivial⟩)
   ·rw [hb67]
    replace h := Sh.if_f h hb67
    refine AR.skip rfl ?_
    refine AR.skip rfl ?_
    refine AR.op (r := bl false) rfl (aop_pick rfl rfl rfl) ?_
    refine AR.keep [1, 2, 3, 14, 20] rfl ?_
    refine AR.op (r := bl false) rfl (aop_pick rfl rfl rfl) ?_
    refine AR.nil ?_
    exact hK14 false _ h (Weak.kt [1, 2, 3, 21] rfl)
theorem inquestref22_Replay_ok {W0 : World} (hT : Tab W0) {h_0 : G.api_Hist} {level_1 : Int} {l_2 : List G.inquestref22_F} {r : Bool} (h : G.inquestref22_Replay h_0 level_1 l_2 = some r) : Fun1 Try.prog W0 17 [G.api_Hist.av h_0, i64 level_1, .sl (List.map G.inquestref22_F.av l_2)] (bl r) := Fun1.two (inquestref22_Replay_ok0 hT h) (by simp)


end Wk
