/- That the functions of a package do what their plain functions say. -/
import Derived.Test.YtdeepljikmgjjaaSh
import Derived.Test.YtdeepljikmgjjaaWkSFacts
import Derived.Test.YtdeepljikmgjjaaWkSinquestref08
import Derived.Test.YtdeepljikmgjjaaWkSinquestref09
import Derived.Test.YtdeepljikmgjjaaWkSinquestref18
import Derived.Test.YtdeepljikmgjjaaWkSinquestref19
open Go Go.Av Go.Proofs
set_option linter.unusedVariables false
set_option maxHeartbeats 8000000
set_option maxRecDepth 20000
namespace Wk
theorem inquestref22_Choices_own {W0 : World} (hT : Tab W0) {l_0 : List G.inquestref22_F} {r : (List G.api_Choice)} (h : G.inquestref22_Choices l_0 = some r) : Fun2 Try.prog W0 23 [.sl (List.map G.inquestref22_F.av l_0)] (.view 0 0 (List.map G.api_Choice.av r).length) ⟨1, [(0, (3, List.map G.api_Choice.av r))], []⟩ := by
 refine fun2_of_awp Try.func23 rfl (by kernel_rfl) Try.ntmps23 (by simp) ?_
 unfold G.inquestref22_Choices at h
 show AWP _ _ _ _ ⟨[(0, .sl (List.map G.inquestref22_F.av l_0))], .empty⟩ _
 refine awp_seqK fun K1 hK1 => awp_reg rfl <| AR.op rfl (aop_move (.inr rfl) rfl) <| AR.nil <| hK1 _ (AWP.weak (Weak.kt [0] rfl) ?_)
 refine awp_seqK fun K2 hK2 => awp_reg rfl <| AR.op rfl (aop_move (.inr rfl) rfl) <| AR.nil <| hK2 _ ?_
 refine awp_seqJ (fun (p : (List G.api_Choice)) => (⟨[(3, .view 0 0 (List.map G.api_Choice.av p).length)], ⟨1, [(0, (3, List.map G.api_Choice.av p))], []⟩⟩ : St)) (fun (p : (List G.api_Choice)) => G.inquestref22_Choices_j1 p = some r) ?_ ?_
 ·rintro out27 h
  replace h : G.inquestref22_Choices_j1 out27 = some r := h
  unfold G.inquestref22_Choices_j1 at h
  refine awp_seqK fun K3 hK3 => awp_reg rfl <| AR.op rfl (aop_move (.inl rfl) rfl) <| AR.op rfl (aop_move (.inr rfl) rfl) <| AR.nil <| hK3 _ (AWP.weak (Weak.kt [2] rfl) ?_)
  refine awp_ret ?_
  obtain rfl := Option.some.inj h
  refine ⟨.inr rfl, .view 0 0 (List.map G.api_Choice.av out27).length, rfl, ?_⟩
  exact Weak.re [(0, 0)] [] rfl rfl rfl (.cons rfl rfl (.same (by simp)) dt trivial) ⟨⟨_, rfl, .view rfl⟩, trivial⟩
 ·intro K4 hK4
  refine awp_seqK fun K5 hK5 => awp_reg rfl <| AR.op rfl (aop_move (.inr rfl) rfl) <| AR.nil <| hK5 _ ?_
  refine awp_block <| awp_iter (fun (p : (List G.api_Choice) × Int) => G.inquestref22_Choices_b1 l_0 p.1 p.2) (fun (p : (List G.api_Choice) × Int) => (⟨[(0, .sl (List.map G.inquestref22_F.av l_0)), (3, .view 0 0 (List.map G.api_Choice.av p.1).length), (4, i64 p.2)], ⟨1, [(0, (3, List.map G.api_Choice.av p.1))], []⟩⟩ : St)) h (Weak.re [] [0] rfl rfl rfl (.fresh (by simp) dt trivial) ⟨⟨.sl (List.map G.inquestref22_F.av l_0), rfl, .sm⟩, ⟨_, rfl, .nil (by simp)⟩, .k, trivial⟩) ?_
  ·skip
   rintro ⟨out36, i37⟩ o1 h hx1
   replace h : G.inquestref22_Choices_b1 l_0 out36 i37 = some o1 := h
   unfold G.inquestref22_Choices_b1 at h
   refine awp_seqK fun K6 hK6 => awp_seqK fun K7 hK7 => awp_reg rfl <| AR.op rfl (aop_move (.inl rfl) rfl) <| AR.op rfl (aop_move (.inl rfl) rfl) <| AR.op rfl (t_len_sl G.inquestref22_F.av l_0 rfl rfl el40) <| AR.keep [0, 3, 4, 5, 7] rfl <| AR.op rfl (aop_lss rfl rfl rfl) ?_
   refine AR.nil <| hK7 _ (AWP.weak (Weak.kt [0, 3, 4, 8] rfl) ?_)
   refine awp_cond rfl (fun hb38 => ?_) (fun hb38 => ?_)
   ·replace h := Sh.if_t h hb38
    refine awp_skip <| hK6 _ (AWP.weak (Weak.kt [0, 3, 4] rfl) ?_)
    refine awp_seqK fun K8 hK8 => awp_block <| awp_reg rfl <| AR.op rfl (aop_move (.inl rfl) rfl) <| AR.op rfl (aop_move (.inl rfl) rfl) <| AR.op rfl (aop_move (.inl rfl) rfl) <| AR.keep [0, 4, 11, 12, 13] rfl ?_
    obtain ⟨x42, hx42, h⟩ := Sh.bind_some' h
    obtain ⟨k43, hi43, hl43⟩ := Sh.idx_some hx42
    refine AR.op rfl (t_index_sl G.inquestref22_F.av l_0 hi43 hl43 rfl rfl rfl el40 rfl) <| AR.op rfl (aop_field_pp rfl rfl fd48_0 (by decide)) <| AR.op (r := G.api_Choice.av x42.C) rfl (aop_load_pp rfl rfl sz35 rfl) <| AR.keep [0, 4, 11, 16] rfl <| AR.op (r := .clip (List.map G.api_Choice.av ([x42.C] : List G.api_Choice))) rfl (aop_buildSlice rfl (xo := [.tmp 16]) rfl rfl rfl (by simp) (by simp) el53 ze53 (by decide)) ?_
    obtain ⟨out44, hout44, h⟩ := Sh.bind_some' h
    refine AR.op (r := .view 1 0 (List.map G.api_Choice.av out44).length) rfl (t_app_view G.api_Choice.av out36 ([x42.C] : List G.api_Choice) out44 hout44 rfl et53 (fun _ => rfl) rfl rfl rfl rfl rfl rfl rfl) <| AR.op rfl (aop_move (.inr rfl) rfl) <| AR.nil <| hK8 _ (AWP.weak (Weak.re (fr' := [(0, .sl (List.map G.inquestref22_F.av l_0)), (4, i64 i37), (3, .view 0 0 (List.map G.api_Choice.av out44).length)]) (H' := ⟨1, [(0, (3, List.map G.api_Choice.av out44))], []⟩) [(0, 1)] [] rfl rfl rfl (.cons rfl rfl (.same (by simp)) dt trivial) ⟨⟨.sl (List.map G.inquestref22_F.av l_0), rfl, .sm⟩, .k, ⟨_, rfl, .view rfl⟩, trivial⟩) ?_)
    refine awp_reg rfl <| AR.op rfl (aop_move (.inl rfl) rfl) <| AR.op rfl (aop_add rfl rfl rfl rfl) <| AR.op rfl (aop_move (.inr rfl) rfl) <| AR.nil ?_
    replace h := Sh.next_eq h
    exact ⟨_, h, Weak.kt [0, 3, 4] rfl⟩
   ·replace h := Sh.if_f h hb38
    refine awp_exit ?_
    replace h := Sh.exit_eq h hx1
    exact hK4 out36 _ h (Weak.kt [3] rfl)
theorem inquestref22_Choices_ok {W0 : World} (hT : Tab W0) {l_0 : List G.inquestref22_F} {r : (List G.api_Choice)} (h : G.inquestref22_Choices l_0 = some r) : Fun1 Try.prog W0 23 [.sl (List.map G.inquestref22_F.av l_0)] (.sl (List.map G.api_Choice.av r)) :=
 (inquestref22_Choices_own hT h).give (Weak.e ⟨⟨_, rfl, .lendAll rfl rfl (by simp)⟩, trivial⟩) (by simp)


theorem inquestref22_past_ok0 {W0 : World} (hT : Tab W0) {h_0 : G.api_Hist} {x_1 : Int} {y_2 : Int} {r : Bool} (h : G.inquestref22_past h_0 x_1 y_2 = some r) : Fun2 Try.prog W0 44 [G.api_Hist.av h_0, i64 x_1, i64 y_2] (bl r) .empty := by
 refine fun2_of_awp Try.func44 rfl (by kernel_rfl) Try.ntmps44 (by simp) ?_
 unfold G.inquestref22_past at h
 show AWP _ _ _ _ ⟨[(0, G.api_Hist.av h_0), (1, i64 x_1), (2, i64 y_2)], .empty⟩ _
 refine awp_seqK fun K1 hK1 => awp_reg rfl <| AR.op (r := .ref 0 0 0) rfl (aop_box 1 [G.api_Hist.av h_0] rfl rfl rfl (.inl ⟨rfl, rfl⟩)) <| AR.op rfl (aop_move (.inr rfl) rfl) <| AR.nil <| hK1 _ (AWP.weak (Weak.e (fr' := [(1, i64 x_1), (2, i64 y_2), (3, .pp [.sl (List.map G.api_Txn.av h_0.Txns)] 0)]) (H' := .empty) ⟨.k, .k, ⟨_, rfl, .frzA rfl rfl rfl rfl (by simp)⟩, trivial⟩) ?_)
 refine awp_seqK fun K2 hK2 => awp_reg rfl <| AR.op (r := G.api_Hist.av h_0) rfl (aop_load_pp rfl rfl sz24 rfl) <| AR.op rfl (aop_move (.inl rfl) rfl) <| AR.op rfl (aop_move (.inl rfl) rfl) <| AR.keep [8, 9, 10] rfl ?_
 obtain ⟨r3, hr3, h⟩ := Sh.bind_some' h
 refine AR.op (r := bl r3) rfl (aop_callN rfl (ys := [G.api_Hist.av h_0, nilS, i64 x_1, i64 y_2]) (xs := [G.api_Hist.av h_0, .sl (List.map G.api_Choice.av []), i64 x_1, i64 y_2]) rfl (Weak.e (fr' := argsFr 0 [G.api_Hist.av h_0, .sl (List.map G.api_Choice.av []), i64 x_1, i64 y_2]) (H' := .empty) ⟨⟨G.api_Hist.av h_0, rfl, .sm⟩, ⟨_, rfl, .nilsl⟩, .k, .k, trivial⟩) rfl (by simp) (inquestref19_Direct_ok hT hr3)) <| AR.op rfl (aop_move (.inr rfl) rfl) <| AR.nil <| hK2 _ (AWP.weak (Weak.kt [7] rfl) ?_)
 refine awp_seqK fun K3 hK3 => awp_reg rfl <| AR.op rfl (aop_move (.inl rfl) rfl) <| AR.op rfl (aop_move (.inr rfl) rfl) <| AR.nil <| hK3 _ (AWP.weak (Weak.kt [6] rfl) ?_)
 refine awp_ret ?_
 obtain rfl := Option.some.inj h
 refine ⟨.inr rfl, bl r3, rfl, ?_⟩
 exact Weak.e ⟨.k, trivial⟩
theorem inquestref22_past_ok {W0 : World} (hT : Tab W0) {h_0 : G.api_Hist} {x_1 : Int} {y_2 : Int} {r : Bool} (h : G.inquestref22_past h_0 x_1 y_2 = some r) : Fun1 Try.prog W0 44 [G.api_Hist.av h_0, i64 x_1, i64 y_2] (bl r) := Fun1.two (inquestref22_past_ok0 hT h) (by simp)


theorem inquestref22_joined_ok0 {W0 : World} (hT : Tab W0) {l_0 : List G.inquestref22_F} {f_1 : G.inquestref22_F} {r : Bool} (h : G.inquestref22_joined l_0 f_1 = some r) : Fun2 Try.prog W0 45 [.sl (List.map G.inquestref22_F.av l_0), G.inquestref22_F.av f_1] (bl r) .empty := by
 refine fun2_of_awp Try.func45 rfl (by kernel_rfl) Try.ntmps45 (by simp) ?_
 unfold G.inquestref22_joined at h
 show AWP _ _ _ _ ⟨[(0, .sl (List.map G.inquestref22_F.av l_0)), (1, G.inquestref22_F.av f_1)], .empty⟩ _
 refine awp_seqK fun K1 hK1 => awp_reg rfl <| AR.op (r := .ref 0 0 0) rfl (aop_box 7 [G.inquestref22_F.av f_1] rfl rfl rfl (.inl ⟨rfl, rfl⟩)) <| AR.op rfl (aop_move (.inr rfl) rfl) <| AR.nil <| hK1 _ (AWP.weak (Weak.e (fr' := [(0, .sl (List.map G.inquestref22_F.av l_0)), (3, .pp [i64 f_1.C.Key, i64 f_1.C.A, i64 f_1.C.B, i64 f_1.Kind, i64 f_1.I, i64 f_1.J, .sl (List.map i64 f_1.Cycle)] 0)]) (H' := .empty) ⟨⟨.sl (List.map G.inquestref22_F.av l_0), rfl, .sm⟩, ⟨_, rfl, .frzA rfl rfl rfl rfl (by simp)⟩, trivial⟩) ?_)
 refine awp_seqK fun K2 hK2 => awp_seqJ (fun (p : Bool) => (⟨[(0, .sl (List.map G.inquestref22_F.av l_0)), (3, .pp [i64 f_1.C.Key, i64 f_1.C.A, i64 f_1.C.B, i64 f_1.Kind, i64 f_1.I, i64 f_1.J, .sl (List.map i64 f_1.Cycle)] 0), (28, bl p)], .empty⟩ : St)) (fun (p : Bool) => G.inquestref22_joined_j1 l_0 f_1 p = some r) ?_ ?_
 ·rintro v21 h
  replace h : G.inquestref22_joined_j1 l_0 f_1 v21 = some r := h
  unfold G.inquestref22_joined_j1 at h
  refine awp_cond rfl (fun hb22 => ?_) (fun hb22 => ?_)
  ·replace h := Sh.if_t h hb22
   refine awp_seqK fun K3 hK3 => awp_reg rfl <| AR.op rfl (aop_move (.inr rfl) rfl) <| AR.nil <| hK3 _ (AWP.weak (Weak.kt [4] rfl) ?_)
   refine awp_ret ?_
   obtain rfl := Option.some.inj h
   refine ⟨.inr rfl, bl false, rfl, ?_⟩
   exact Weak.e ⟨.k, trivial⟩
  ·replace h := Sh.if_f h hb22
   refine awp_skip <| hK2 _ (AWP.weak (Weak.kt [0, 3] rfl) ?_)
   refine awp_seqK fun K4 hK4 => awp_reg rfl <| AR.op rfl (aop_move (.inl rfl) rfl) <| AR.op rfl (aop_field_pp rfl rfl fd48_2 (by decide)) <| AR.op (r := i64 f_1.I) rfl (aop_load_pp rfl rfl sz3 rfl) <| AR.keep [0, 3, 29, 31] rfl ?_
   obtain ⟨x25, hx25, h⟩ := Sh.bind_some' h
   obtain ⟨k26, hi26, hl26⟩ := Sh.idx_some hx25
   refine AR.op rfl (t_index_sl G.inquestref22_F.av l_0 hi26 hl26 rfl rfl rfl el40 rfl) <| AR.op rfl (aop_field_pp rfl rfl fd48_0 (by decide)) <| AR.op (r := G.api_Choice.av x25.C) rfl (aop_load_pp rfl rfl sz35 rfl) <| AR.keep [0, 3, 34] rfl <| AR.op (r := .ref 0 0 0) rfl (aop_alloc 3 [.agg [i64 0, i64 0, i64 0]] rfl zr35 (by kernel_rfl) (.inl ⟨rfl, rfl⟩)) <| AR.op rfl (aop_store (e' := G.api_Choice.av x25.C) rfl rfl rfl rfl rfl rfl sz35 rfl dt rfl) <| AR.nil <| hK4 _ (AWP.weak (Weak.e (fr' := [(0, .sl (List.map G.inquestref22_F.av l_0)), (3, .pp [i64 f_1.C.Key, i64 f_1.C.A, i64 f_1.C.B, i64 f_1.Kind, i64 f_1.I, i64 f_1.J, .sl (List.map i64 f_1.Cycle)] 0), (5, .pp [i64 x25.C.Key, i64 x25.C.A, i64 x25.C.B] 0)]) (H' := .empty) ⟨⟨.sl (List.map G.inquestref22_F.av l_0), rfl, .sm⟩, .k, ⟨_, rfl, .frzA rfl rfl rfl rfl (by simp)⟩, trivial⟩) ?_)
   refine awp_seqK fun K5 hK5 => awp_reg rfl <| AR.op rfl (aop_move (.inl rfl) rfl) <| AR.op rfl (aop_field_pp rfl rfl fd48_3 (by decide)) <| AR.op (r := i64 f_1.J) rfl (aop_load_pp rfl rfl sz3 rfl) <| AR.keep [3, 5, 35, 37] rfl ?_
   obtain ⟨x29, hx29, h⟩ := Sh.bind_some' h
   obtain ⟨k30, hi30, hl30⟩ := Sh.idx_some hx29
   refine AR.op rfl (t_index_sl G.inquestref22_F.av l_0 hi30 hl30 rfl rfl rfl el40 rfl) <| AR.op rfl (aop_field_pp rfl rfl fd48_0 (by decide)) <| AR.op (r := G.api_Choice.av x29.C) rfl (aop_load_pp rfl rfl sz35 rfl) <| AR.keep [3, 5, 40] rfl <| AR.op (r := .ref 0 0 0) rfl (aop_alloc 3 [.agg [i64 0, i64 0, i64 0]] rfl zr35 (by kernel_rfl) (.inl ⟨rfl, rfl⟩)) <| AR.op rfl (aop_store (e' := G.api_Choice.av x29.C) rfl rfl rfl rfl rfl rfl sz35 rfl dt rfl) <| AR.nil <| hK5 _ (AWP.weak (Weak.e (fr' := [(3, .pp [i64 f_1.C.Key, i64 f_1.C.A, i64 f_1.C.B, i64 f_1.Kind, i64 f_1.I, i64 f_1.J, .sl (List.map i64 f_1.Cycle)] 0), (5, .pp [i64 x25.C.Key, i64 x25.C.A, i64 x25.C.B] 0), (6, .pp [i64 x29.C.Key, i64 x29.C.A, i64 x29.C.B] 0)]) (H' := .empty) ⟨.k, .k, ⟨_, rfl, .frzA rfl rfl rfl rfl (by simp)⟩, trivial⟩) ?_)
   refine awp_seqK fun K6 hK6 => awp_reg rfl <| AR.op rfl (aop_field_pp rfl rfl fd35_0 (by decide)) <| AR.op (r := i64 x25.C.Key) rfl (aop_load_pp rfl rfl sz3 rfl) <| AR.op rfl (aop_field_pp rfl rfl fd48_0 (by decide)) <| AR.keep [3, 5, 6, 42, 43] rfl <| AR.op rfl (aop_field_pp rfl rfl fd35_0 (by decide)) <| AR.op (r := i64 f_1.C.Key) rfl (aop_load_pp rfl rfl sz3 rfl) ?_
   refine AR.op (r := bl (decide (x25.C.Key = f_1.C.Key))) rfl (aop_eql rfl rfl rfl) <| AR.keep [3, 5, 6, 46] rfl <| AR.op rfl (aop_move (.inl rfl) rfl) ?_
   rcases Bool.eq_false_or_eq_true (decide (x25.C.Key = f_1.C.Key)) with hb35 | hb35
   ·rw [hb35]
    replace h := Sh.if_t h hb35
    refine AR.op rfl (aop_field_pp rfl rfl fd35_0 (by decide)) <| AR.op (r := i64 x29.C.Key) rfl (aop_load_pp rfl rfl sz3 rfl) <| AR.keep [3, 5, 6, 47, 49] rfl <| AR.op rfl (aop_field_pp rfl rfl fd48_0 (by decide)) <| AR.op rfl (aop_field_pp rfl rfl fd35_0 (by decide)) <| AR.op (r := i64 f_1.C.Key) rfl (aop_load_pp rfl rfl sz3 rfl) <| AR.keep [3, 5, 6, 47, 49, 52] rfl <| AR.op (r := bl (decide (x29.C.Key = f_1.C.Key))) rfl (aop_eql rfl rfl rfl) ?_
    refine AR.op rfl (aop_pick rfl rfl rfl) <| AR.op rfl (aop_move (.inl rfl) rfl) <| AR.keep [3, 5, 6, 55] rfl ?_
    rcases Bool.eq_false_or_eq_true (decide (x29.C.Key = f_1.C.Key)) with hb36 | hb36
    ·rw [hb36]
     replace h := Sh.if_t h hb36
     refine AR.op rfl (aop_field_pp rfl rfl fd35_1 (by decide)) <| AR.op (r := i64 x25.C.A) rfl (aop_load_pp rfl rfl sz3 rfl) <| AR.op rfl (aop_field_pp rfl rfl fd48_0 (by decide)) <| AR.keep [3, 5, 6, 55, 57, 58] rfl <| AR.op rfl (aop_field_pp rfl rfl fd35_1 (by decide)) <| AR.op (r := i64 f_1.C.A) rfl (aop_load_pp rfl rfl sz3 rfl) <| AR.op (r := bl (decide (x25.C.A = f_1.C.A))) rfl (aop_eql rfl rfl rfl) <| AR.keep [3, 5, 6, 55, 61] rfl ?_
     refine AR.op rfl (aop_pick rfl rfl rfl) <| AR.op rfl (aop_move (.inl rfl) rfl) ?_
     rcases Bool.eq_false_or_eq_true (decide (x25.C.A = f_1.C.A)) with hb37 | hb37
     ·rw [hb37]
      replace h := Sh.if_t h hb37
      refine AR.op rfl (aop_field_pp rfl rfl fd35_2 (by decide)) <| AR.keep [3, 5, 6, 63, 64] rfl <| AR.op (r := i64 x29.C.B) rfl (aop_load_pp rfl rfl sz3 rfl) <| AR.op rfl (aop_field_pp rfl rfl fd48_0 (by decide)) <| AR.op rfl (aop_field_pp rfl rfl fd35_2 (by decide)) <| AR.keep [5, 6, 63, 65, 67] rfl <| AR.op (r := i64 f_1.C.B) rfl (aop_load_pp rfl rfl sz3 rfl) <| AR.op (r := bl (decide (x29.C.B = f_1.C.B))) rfl (aop_eql rfl rfl rfl) ?_
      refine AR.op rfl (aop_pick rfl rfl rfl) <| AR.keep [5, 6, 70] rfl <| AR.op rfl (aop_move (.inl rfl) rfl) ?_
      rcases Bool.eq_false_or_eq_true (decide (x29.C.B = f_1.C.B)) with hb38 | hb38
      ·rw [hb38]
       replace h := Sh.if_t h hb38
       refine AR.op rfl (aop_field_pp rfl rfl fd35_2 (by decide)) <| AR.op (r := i64 x25.C.B) rfl (aop_load_pp rfl rfl sz3 rfl) <| AR.keep [6, 71, 73] rfl <| AR.op rfl (aop_field_pp rfl rfl fd35_1 (by decide)) <| AR.op (r := i64 x29.C.A) rfl (aop_load_pp rfl rfl sz3 rfl) <| AR.op (r := bl (decide (x25.C.B = x29.C.A))) rfl (aop_eql rfl rfl rfl) <| AR.keep [71, 76] rfl <| AR.op rfl (aop_pick rfl rfl rfl) ?_
       refine AR.op rfl (aop_move (.inr rfl) rfl) <| AR.nil <| hK6 _ (AWP.weak (Weak.kt [4] rfl) ?_)
       refine awp_ret ?_
       obtain rfl := Option.some.inj h
       refine ⟨.inr rfl, bl (decide (x25.C.B = x29.C.A)), rfl, ?_⟩
       exact Weak.e ⟨.k, trivial⟩
      ·rw [hb38]
       replace h := Sh.if_f h hb38
       refine AR.skip rfl <| AR.skip rfl <| AR.keep [6, 71, 73] rfl <| AR.skip rfl <| AR.skip rfl <| AR.skip rfl <| AR.keep [71, 76] rfl <| AR.op rfl (aop_pick rfl rfl rfl) ?_
       refine AR.op rfl (aop_move (.inr rfl) rfl) <| AR.nil <| hK6 _ (AWP.weak (Weak.kt [4] rfl) ?_)
       refine awp_ret ?_
       obtain rfl := Option.some.inj h
       refine ⟨.inr rfl, bl false, rfl, ?_⟩
       exact Weak.e ⟨.k, trivial⟩
     ·rw [hb37]
      replace h := Sh.if_f h hb37
      refine AR.skip rfl <| AR.keep [3, 5, 6, 63, 64] rfl <| AR.skip rfl <| AR.skip rfl <| AR.skip rfl <| AR.keep [5, 6, 63, 65, 67] rfl <| AR.skip rfl <| AR.skip rfl ?_
      refine AR.op rfl (aop_pick rfl rfl rfl) <| AR.keep [5, 6, 70] rfl <| AR.op rfl (aop_move (.inl rfl) rfl) <| AR.skip rfl <| AR.skip rfl <| AR.keep [6, 71, 73] rfl <| AR.skip rfl <| AR.skip rfl ?_
      refine AR.skip rfl <| AR.keep [71, 76] rfl <| AR.op rfl (aop_pick rfl rfl rfl) <| AR.op rfl (aop_move (.inr rfl) rfl) <| AR.nil <| hK6 _ (AWP.weak (Weak.kt [4] rfl) ?_)
      refine awp_ret ?_
      obtain rfl := Option.some.inj h
      refine ⟨.inr rfl, bl false, rfl, ?_⟩
      exact Weak.e ⟨.k, trivial⟩
    ·rw [hb36]
     replace h := Sh.if_f h hb36
     refine AR.skip rfl <| AR.skip rfl <| AR.skip rfl <| AR.keep [3, 5, 6, 55, 57, 58] rfl <| AR.skip rfl <| AR.skip rfl <| AR.skip rfl <| AR.keep [3, 5, 6, 55, 61] rfl ?_
     refine AR.op rfl (aop_pick rfl rfl rfl) <| AR.op rfl (aop_move (.inl rfl) rfl) <| AR.skip rfl <| AR.keep [3, 5, 6, 63, 64] rfl <| AR.skip rfl <| AR.skip rfl <| AR.skip rfl <| AR.keep [5, 6, 63, 65, 67] rfl ?_
     refine AR.skip rfl <| AR.skip rfl <| AR.op rfl (aop_pick rfl rfl rfl) <| AR.keep [5, 6, 70] rfl <| AR.op rfl (aop_move (.inl rfl) rfl) <| AR.skip rfl <| AR.skip rfl <| AR.keep [6, 71, 73] rfl ?_
     refine AR.skip rfl <| AR.skip rfl <| AR.skip rfl <| AR.keep [71, 76] rfl <| AR.op rfl (aop_pick rfl rfl rfl) <| AR.op rfl (aop_move (.inr rfl) rfl) <| AR.nil <| hK6 _ (AWP.weak (Weak.kt [4] rfl) ?_)
     refine awp_ret ?_
     obtain rfl := Option.some.inj h
     refine ⟨.inr rfl, bl false, rfl, ?_⟩
     exact Weak.e ⟨.k, trivial⟩
   ·rw [hb35]
    replace h := Sh.if_f h hb35
    refine AR.skip rfl <| AR.skip rfl <| AR.keep [3, 5, 6, 47, 49] rfl <| AR.skip rfl <| AR.skip rfl <| AR.skip rfl <| AR.keep [3, 5, 6, 47, 49, 52] rfl <| AR.skip rfl ?_
    refine AR.op rfl (aop_pick rfl rfl rfl) <| AR.op rfl (aop_move (.inl rfl) rfl) <| AR.keep [3, 5, 6, 55] rfl <| AR.skip rfl <| AR.skip rfl <| AR.skip rfl <| AR.keep [3, 5, 6, 55, 57, 58] rfl <| AR.skip rfl ?_
    refine AR.skip rfl <| AR.skip rfl <| AR.keep [3, 5, 6, 55, 61] rfl <| AR.op rfl (aop_pick rfl rfl rfl) <| AR.op rfl (aop_move (.inl rfl) rfl) <| AR.skip rfl <| AR.keep [3, 5, 6, 63, 64] rfl <| AR.skip rfl ?_
    refine AR.skip rfl <| AR.skip rfl <| AR.keep [5, 6, 63, 65, 67] rfl <| AR.skip rfl <| AR.skip rfl <| AR.op rfl (aop_pick rfl rfl rfl) <| AR.keep [5, 6, 70] rfl <| AR.op rfl (aop_move (.inl rfl) rfl) ?_
    refine AR.skip rfl <| AR.skip rfl <| AR.keep [6, 71, 73] rfl <| AR.skip rfl <| AR.skip rfl <| AR.skip rfl <| AR.keep [71, 76] rfl <| AR.op rfl (aop_pick rfl rfl rfl) ?_
    refine AR.op rfl (aop_move (.inr rfl) rfl) <| AR.nil <| hK6 _ (AWP.weak (Weak.kt [4] rfl) ?_)
    refine awp_ret ?_
    obtain rfl := Option.some.inj h
    refine ⟨.inr rfl, bl false, rfl, ?_⟩
    exact Weak.e ⟨.k, trivial⟩
 ·intro K7 hK7
  refine awp_reg rfl <| AR.op rfl (aop_field_pp rfl rfl fd48_2 (by decide)) <| AR.op (r := i64 f_1.I) rfl (aop_load_pp rfl rfl sz3 rfl) <| AR.op rfl (aop_lss rfl rfl rfl) <| AR.keep [0, 3, 9] rfl <| AR.op rfl (aop_move (.inl rfl) rfl) ?_
  rcases Bool.eq_false_or_eq_true (decide (f_1.I < 0)) with hb39 | hb39
  ·rw [hb39]
   replace h := Sh.if_t h hb39
   refine AR.skip rfl <| AR.skip rfl <| AR.keep [0, 3, 10, 12] rfl <| AR.skip rfl <| AR.skip rfl <| AR.skip rfl <| AR.keep [0, 3, 10, 15] rfl <| AR.op rfl (aop_pick rfl rfl rfl) ?_
   refine AR.op rfl (aop_move (.inl rfl) rfl) <| AR.skip rfl <| AR.keep [0, 3, 17, 18] rfl <| AR.skip rfl <| AR.skip rfl <| AR.op rfl (aop_pick rfl rfl rfl) <| AR.keep [0, 3, 21] rfl <| AR.op rfl (aop_move (.inl rfl) rfl) ?_
   refine AR.skip rfl <| AR.skip rfl <| AR.keep [0, 3, 22, 24] rfl <| AR.skip rfl <| AR.skip rfl <| AR.skip rfl <| AR.keep [0, 3, 22, 27] rfl <| AR.op rfl (aop_pick rfl rfl rfl) ?_
   refine AR.nil ?_
   exact hK7 true _ h (Weak.kt [0, 3, 28] rfl)
  ·rw [hb39]
   replace h := Sh.if_f h hb39
   refine AR.op rfl (aop_field_pp rfl rfl fd48_2 (by decide)) <| AR.op (r := i64 f_1.I) rfl (aop_load_pp rfl rfl sz3 rfl) <| AR.keep [0, 3, 10, 12] rfl <| AR.op rfl (aop_move (.inl rfl) rfl) <| AR.op rfl (t_len_sl G.inquestref22_F.av l_0 rfl rfl el40) <| AR.op rfl (aop_geq rfl rfl rfl) <| AR.keep [0, 3, 10, 15] rfl <| AR.op rfl (aop_pick rfl rfl rfl) ?_
   refine AR.op rfl (aop_move (.inl rfl) rfl) ?_
   rcases Bool.eq_false_or_eq_true (decide ((Sh.len l_0) ≤ f_1.I)) with hb40 | hb40
   ·rw [hb40]
    replace h := Sh.if_t h hb40
    refine AR.skip rfl <| AR.keep [0, 3, 17, 18] rfl <| AR.skip rfl <| AR.skip rfl <| AR.op rfl (aop_pick rfl rfl rfl) <| AR.keep [0, 3, 21] rfl <| AR.op rfl (aop_move (.inl rfl) rfl) <| AR.skip rfl ?_
    refine AR.skip rfl <| AR.keep [0, 3, 22, 24] rfl <| AR.skip rfl <| AR.skip rfl <| AR.skip rfl <| AR.keep [0, 3, 22, 27] rfl <| AR.op rfl (aop_pick rfl rfl rfl) <| AR.nil ?_
    exact hK7 true _ h (Weak.kt [0, 3, 28] rfl)
   ·rw [hb40]
    replace h := Sh.if_f h hb40
    refine AR.op rfl (aop_field_pp rfl rfl fd48_3 (by decide)) <| AR.keep [0, 3, 17, 18] rfl <| AR.op (r := i64 f_1.J) rfl (aop_load_pp rfl rfl sz3 rfl) <| AR.op rfl (aop_lss rfl rfl rfl) <| AR.op rfl (aop_pick rfl rfl rfl) <| AR.keep [0, 3, 21] rfl <| AR.op rfl (aop_move (.inl rfl) rfl) ?_
    rcases Bool.eq_false_or_eq_true (decide (f_1.J < 0)) with hb41 | hb41
    ·rw [hb41]
     replace h := Sh.if_t h hb41
     refine AR.skip rfl <| AR.skip rfl <| AR.keep [0, 3, 22, 24] rfl <| AR.skip rfl <| AR.skip rfl <| AR.skip rfl <| AR.keep [0, 3, 22, 27] rfl <| AR.op rfl (aop_pick rfl rfl rfl) ?_
     refine AR.nil ?_
     exact hK7 true _ h (Weak.kt [0, 3, 28] rfl)
    ·rw [hb41]
     replace h := Sh.if_f h hb41
     refine AR.op rfl (aop_field_pp rfl rfl fd48_3 (by decide)) <| AR.op (r := i64 f_1.J) rfl (aop_load_pp rfl rfl sz3 rfl) <| AR.keep [0, 3, 22, 24] rfl <| AR.op rfl (aop_move (.inl rfl) rfl) <| AR.op rfl (t_len_sl G.inquestref22_F.av l_0 rfl rfl el40) <| AR.op rfl (aop_geq rfl rfl rfl) <| AR.keep [0, 3, 22, 27] rfl <| AR.op rfl (aop_pick rfl rfl rfl) ?_
     refine AR.nil ?_
     exact hK7 (decide ((Sh.len l_0) ≤ f_1.J)) _ h (Weak.kt [0, 3, 28] rfl)
theorem inquestref22_joined_ok {W0 : World} (hT : Tab W0) {l_0 : List G.inquestref22_F} {f_1 : G.inquestref22_F} {r : Bool} (h : G.inquestref22_joined l_0 f_1 = some r) : Fun1 Try.prog W0 45 [.sl (List.map G.inquestref22_F.av l_0), G.inquestref22_F.av f_1] (bl r) := Fun1.two (inquestref22_joined_ok0 hT h) (by simp)


theorem inquestref22_seen_ok0 {W0 : World} (hT : Tab W0) {h_0 : G.api_Hist} {f_1 : G.inquestref22_F} {r : Bool} (h : G.inquestref22_seen h_0 f_1 = some r) : Fun2 Try.prog W0 46 [G.api_Hist.av h_0, G.inquestref22_F.av f_1] (bl r) .empty := by
 refine fun2_of_awp Try.func46 rfl (by kernel_rfl) Try.ntmps46 (by simp) ?_
 unfold G.inquestref22_seen at h
 show AWP _ _ _ _ ⟨[(0, G.api_Hist.av h_0), (1, G.inquestref22_F.av f_1)], .empty⟩ _
 refine awp_seqK fun K1 hK1 => awp_reg rfl <| AR.op (r := .ref 0 0 0) rfl (aop_box 1 [G.api_Hist.av h_0] rfl rfl rfl (.inl ⟨rfl, rfl⟩)) <| AR.op (r := .ref 1 0 0) rfl (aop_box 7 [G.inquestref22_F.av f_1] rfl rfl rfl (.inl ⟨rfl, rfl⟩)) <| AR.op rfl (aop_move (.inr rfl) rfl) <| AR.nil <| hK1 _ (AWP.weak (Weak.e (fr' := [(2, .pp [.sl (List.map G.api_Txn.av h_0.Txns)] 0), (3, .pp [i64 f_1.C.Key, i64 f_1.C.A, i64 f_1.C.B, i64 f_1.Kind, i64 f_1.I, i64 f_1.J, .sl (List.map i64 f_1.Cycle)] 0)]) (H' := .empty) ⟨⟨_, rfl, .frzA rfl rfl rfl rfl (by simp)⟩, ⟨_, rfl, .frzA rfl rfl rfl rfl (by simp)⟩, trivial⟩) ?_)
 refine awp_seqK fun K2 hK2 => awp_seqJ (fun (p : Bool) => (⟨[(2, .pp [.sl (List.map G.api_Txn.av h_0.Txns)] 0), (3, .pp [i64 f_1.C.Key, i64 f_1.C.A, i64 f_1.C.B, i64 f_1.Kind, i64 f_1.I, i64 f_1.J, .sl (List.map i64 f_1.Cycle)] 0), (31, bl p)], .empty⟩ : St)) (fun (p : Bool) => G.inquestref22_seen_j1 h_0 f_1 p = some r) ?_ ?_
 ·rintro v16 h
  replace h : G.inquestref22_seen_j1 h_0 f_1 v16 = some r := h
  unfold G.inquestref22_seen_j1 at h
  refine awp_cond rfl (fun hb17 => ?_) (fun hb17 => ?_)
  ·replace h := Sh.if_t h hb17
   refine awp_seqK fun K3 hK3 => awp_reg rfl <| AR.op rfl (aop_move (.inr rfl) rfl) <| AR.nil <| hK3 _ (AWP.weak (Weak.kt [4] rfl) ?_)
   refine awp_ret ?_
   obtain rfl := Option.some.inj h
   refine ⟨.inr rfl, bl false, rfl, ?_⟩
   exact Weak.e ⟨.k, trivial⟩
  ·replace h := Sh.if_f h hb17
   refine awp_skip <| hK2 _ (AWP.weak (Weak.kt [2, 3] rfl) ?_)
   refine awp_seqK fun K4 hK4 => awp_reg rfl <| AR.op (r := G.api_Hist.av h_0) rfl (aop_load_pp rfl rfl sz24 rfl) <| AR.op rfl (aop_field_pp rfl rfl fd48_2 (by decide)) <| AR.op (r := i64 f_1.I) rfl (aop_load_pp rfl rfl sz3 rfl) <| AR.keep [2, 3, 33, 35] rfl <| AR.op rfl (aop_field_pp rfl rfl fd48_0 (by decide)) <| AR.op rfl (aop_field_pp rfl rfl fd35_0 (by decide)) ?_
   refine AR.op (r := i64 f_1.C.Key) rfl (aop_load_pp rfl rfl sz3 rfl) <| AR.keep [2, 3, 33, 35, 38] rfl ?_
   obtain ⟨r19, hr19, h⟩ := Sh.bind_some' h
   refine AR.op (r := .tuple [i64 r19.1, bl r19.2]) rfl (aop_call1 rfl rfl (by simp) (inquestref09_From_ok hT hr19)) <| AR.op rfl (aop_move (.inl rfl) rfl) <| AR.op (r := i64 r19.1) rfl (aop_extract rfl rfl rfl) <| AR.keep [2, 3, 32, 40] rfl <| AR.op (r := bl r19.2) rfl (aop_extract rfl rfl rfl) <| AR.op rfl (aop_move (.inr rfl) rfl) <| AR.op rfl (aop_move (.inr rfl) rfl) <| AR.nil ?_
   refine hK4 _ (AWP.weak (Weak.kt [2, 3, 5, 6] rfl) ?_)
   refine awp_seqK fun K5 hK5 => awp_seqJ (fun (p : Bool) => (⟨[(2, .pp [.sl (List.map G.api_Txn.av h_0.Txns)] 0), (3, .pp [i64 f_1.C.Key, i64 f_1.C.A, i64 f_1.C.B, i64 f_1.Kind, i64 f_1.I, i64 f_1.J, .sl (List.map i64 f_1.Cycle)] 0), (50, bl p)], .empty⟩ : St)) (fun (p : Bool) => G.inquestref22_seen_j2 h_0 f_1 p = some r) ?_ ?_
   ·rintro v23 h
    replace h : G.inquestref22_seen_j2 h_0 f_1 v23 = some r := h
    unfold G.inquestref22_seen_j2 at h
    refine awp_cond rfl (fun hb24 => ?_) (fun hb24 => ?_)
    ·replace h := Sh.if_t h hb24
     refine awp_seqK fun K6 hK6 => awp_reg rfl <| AR.op rfl (aop_move (.inr rfl) rfl) <| AR.nil <| hK6 _ (AWP.weak (Weak.kt [4] rfl) ?_)
     refine awp_ret ?_
     obtain rfl := Option.some.inj h
     refine ⟨.inr rfl, bl false, rfl, ?_⟩
     exact Weak.e ⟨.k, trivial⟩
    ·replace h := Sh.if_f h hb24
     refine awp_skip <| hK5 _ (AWP.weak (Weak.kt [2, 3] rfl) ?_)
     refine awp_seqK fun K7 hK7 => awp_reg rfl <| AR.op (r := G.api_Hist.av h_0) rfl (aop_load_pp rfl rfl sz24 rfl) <| AR.op rfl (aop_field_pp rfl rfl fd48_0 (by decide)) <| AR.op rfl (aop_field_pp rfl rfl fd35_1 (by decide)) <| AR.keep [3, 51, 53] rfl <| AR.op (r := i64 f_1.C.A) rfl (aop_load_pp rfl rfl sz3 rfl) <| AR.op rfl (aop_field_pp rfl rfl fd48_2 (by decide)) ?_
     refine AR.op (r := i64 f_1.I) rfl (aop_load_pp rfl rfl sz3 rfl) <| AR.keep [51, 54, 56] rfl ?_
     obtain ⟨r26, hr26, h⟩ := Sh.bind_some' h
     refine AR.op (r := bl r26) rfl (aop_call1 rfl rfl (by simp) (inquestref22_past_ok hT hr26)) <| AR.op rfl (aop_move (.inr rfl) rfl) <| AR.nil <| hK7 _ (AWP.weak (Weak.kt [7] rfl) ?_)
     refine awp_seqK fun K8 hK8 => awp_reg rfl <| AR.op rfl (aop_move (.inl rfl) rfl) <| AR.op rfl (aop_move (.inr rfl) rfl) <| AR.nil <| hK8 _ (AWP.weak (Weak.kt [4] rfl) ?_)
     refine awp_ret ?_
     obtain rfl := Option.some.inj h
     refine ⟨.inr rfl, bl r26, rfl, ?_⟩
     exact Weak.e ⟨.k, trivial⟩
   ·intro K9 hK9
    refine awp_reg rfl <| AR.op rfl (aop_move (.inl rfl) rfl) <| AR.op (r := bl (!r19.2)) rfl (aop_not rfl rfl) <| AR.op rfl (aop_move (.inl rfl) rfl) <| AR.keep [2, 3, 5, 44] rfl ?_
    rcases Bool.eq_false_or_eq_true (!r19.2) with hb27 | hb27
    ·rw [hb27]
     replace h := Sh.if_t h hb27
     refine AR.skip rfl <| AR.skip rfl <| AR.skip rfl <| AR.keep [2, 3, 44, 45, 47] rfl <| AR.skip rfl <| AR.skip rfl <| AR.op rfl (aop_pick rfl rfl rfl) <| AR.nil ?_
     exact hK9 true _ h (Weak.kt [2, 3, 50] rfl)
    ·rw [hb27]
     replace h := Sh.if_f h hb27
     refine AR.op rfl (aop_move (.inl rfl) rfl) <| AR.op rfl (aop_field_pp rfl rfl fd48_0 (by decide)) <| AR.op rfl (aop_field_pp rfl rfl fd35_2 (by decide)) <| AR.keep [2, 3, 44, 45, 47] rfl <| AR.op (r := i64 f_1.C.B) rfl (aop_load_pp rfl rfl sz3 rfl) <| AR.op (r := bl (decide (r19.1 ≠ f_1.C.B))) rfl (aop_neq rfl rfl rfl) <| AR.op rfl (aop_pick rfl rfl rfl) <| AR.nil ?_
     exact hK9 (decide (r19.1 ≠ f_1.C.B)) _ h (Weak.kt [2, 3, 50] rfl)
 ·intro K10 hK10
  refine awp_reg rfl <| AR.op rfl (aop_field_pp rfl rfl fd48_2 (by decide)) <| AR.op (r := i64 f_1.I) rfl (aop_load_pp rfl rfl sz3 rfl) <| AR.op rfl (aop_lss rfl rfl rfl) <| AR.keep [2, 3, 10] rfl <| AR.op rfl (aop_move (.inl rfl) rfl) ?_
  rcases Bool.eq_false_or_eq_true (decide (f_1.I < 0)) with hb28 | hb28
  ·rw [hb28]
   replace h := Sh.if_t h hb28
   refine AR.skip rfl <| AR.skip rfl <| AR.keep [2, 3, 11, 13] rfl <| AR.skip rfl <| AR.skip rfl <| AR.skip rfl <| AR.keep [2, 3, 11, 13, 16] rfl <| AR.skip rfl ?_
   refine AR.op rfl (aop_pick rfl rfl rfl) <| AR.op rfl (aop_move (.inl rfl) rfl) <| AR.keep [2, 3, 19] rfl <| AR.skip rfl <| AR.skip rfl <| AR.skip rfl <| AR.keep [2, 3, 19, 21, 22] rfl <| AR.skip rfl ?_
   refine AR.skip rfl <| AR.skip rfl <| AR.keep [2, 3, 19, 25] rfl <| AR.op rfl (aop_pick rfl rfl rfl) <| AR.op rfl (aop_move (.inl rfl) rfl) <| AR.skip rfl <| AR.keep [2, 3, 27, 28] rfl <| AR.skip rfl ?_
   refine AR.skip rfl <| AR.op rfl (aop_pick rfl rfl rfl) <| AR.nil ?_
   exact hK10 true _ h (Weak.kt [2, 3, 31] rfl)
  ·rw [hb28]
   replace h := Sh.if_f h hb28
   refine AR.op rfl (aop_field_pp rfl rfl fd48_2 (by decide)) <| AR.op (r := i64 f_1.I) rfl (aop_load_pp rfl rfl sz3 rfl) <| AR.keep [2, 3, 11, 13] rfl <| AR.op rfl (aop_field_pp rfl rfl fd24_0 (by decide)) <| AR.op (r := .sl (List.map G.api_Txn.av h_0.Txns)) rfl (aop_load_pp rfl rfl sz22 rfl) <| AR.op rfl (t_len_sl G.api_Txn.av h_0.Txns rfl rfl el22) <| AR.keep [2, 3, 11, 13, 16] rfl <| AR.op rfl (aop_geq rfl rfl rfl) ?_
   refine AR.op rfl (aop_pick rfl rfl rfl) <| AR.op rfl (aop_move (.inl rfl) rfl) <| AR.keep [2, 3, 19] rfl ?_
   rcases Bool.eq_false_or_eq_true (decide ((Sh.len h_0.Txns) ≤ f_1.I)) with hb29 | hb29
   ·rw [hb29]
    replace h := Sh.if_t h hb29
    refine AR.skip rfl <| AR.skip rfl <| AR.skip rfl <| AR.keep [2, 3, 19, 21, 22] rfl <| AR.skip rfl <| AR.skip rfl <| AR.skip rfl <| AR.keep [2, 3, 19, 25] rfl ?_
    refine AR.op rfl (aop_pick rfl rfl rfl) <| AR.op rfl (aop_move (.inl rfl) rfl) <| AR.skip rfl <| AR.keep [2, 3, 27, 28] rfl <| AR.skip rfl <| AR.skip rfl <| AR.op rfl (aop_pick rfl rfl rfl) <| AR.nil ?_
    exact hK10 true _ h (Weak.kt [2, 3, 31] rfl)
   ·rw [hb29]
    replace h := Sh.if_f h hb29
    refine AR.op rfl (aop_field_pp rfl rfl fd48_2 (by decide)) <| AR.op (r := i64 f_1.I) rfl (aop_load_pp rfl rfl sz3 rfl) <| AR.op rfl (aop_field_pp rfl rfl fd48_0 (by decide)) <| AR.keep [2, 3, 19, 21, 22] rfl <| AR.op rfl (aop_field_pp rfl rfl fd35_1 (by decide)) <| AR.op (r := i64 f_1.C.A) rfl (aop_load_pp rfl rfl sz3 rfl) <| AR.op (r := bl (decide (f_1.I = f_1.C.A))) rfl (aop_eql rfl rfl rfl) <| AR.keep [2, 3, 19, 25] rfl ?_
    refine AR.op rfl (aop_pick rfl rfl rfl) <| AR.op rfl (aop_move (.inl rfl) rfl) ?_
    rcases Bool.eq_false_or_eq_true (decide (f_1.I = f_1.C.A)) with hb30 | hb30
    ·rw [hb30]
     replace h := Sh.if_t h hb30
     refine AR.skip rfl <| AR.keep [2, 3, 27, 28] rfl <| AR.skip rfl <| AR.skip rfl <| AR.op rfl (aop_pick rfl rfl rfl) <| AR.nil ?_
     exact hK10 true _ h (Weak.kt [2, 3, 31] rfl)
    ·rw [hb30]
     replace h := Sh.if_f h hb30
     refine AR.op rfl (aop_field_pp rfl rfl fd48_3 (by decide)) <| AR.keep [2, 3, 27, 28] rfl <| AR.op (r := i64 f_1.J) rfl (aop_load_pp rfl rfl sz3 rfl) <| AR.op (r := bl (decide (f_1.J ≠ 0))) rfl (aop_neq rfl rfl rfl) <| AR.op rfl (aop_pick rfl rfl rfl) <| AR.nil ?_
     exact hK10 (decide (f_1.J ≠ 0)) _ h (Weak.kt [2, 3, 31] rfl)
theorem inquestref22_seen_ok {W0 : World} (hT : Tab W0) {h_0 : G.api_Hist} {f_1 : G.inquestref22_F} {r : Bool} (h : G.inquestref22_seen h_0 f_1 = some r) : Fun1 Try.prog W0 46 [G.api_Hist.av h_0, G.inquestref22_F.av f_1] (bl r) := Fun1.two (inquestref22_seen_ok0 hT h) (by simp)


theorem inquestref22_Holds_ok0 {W0 : World} (hT : Tab W0) {h_0 : G.api_Hist} {level_1 : Int} {l_2 : List G.inquestref22_F} {f_3 : G.inquestref22_F} {r : Bool} (h : G.inquestref22_Holds h_0 level_1 l_2 f_3 = some r) : Fun2 Try.prog W0 32 [G.api_Hist.av h_0, i64 level_1, .sl (List.map G.inquestref22_F.av l_2), G.inquestref22_F.av f_3] (bl r) .empty := by
 refine fun2_of_awp Try.func32 rfl (by kernel_rfl) Try.ntmps32 (by simp) ?_
 unfold G.inquestref22_Holds at h
 show AWP _ _ _ _ ⟨[(0, G.api_Hist.av h_0), (1, i64 level_1), (2, .sl (List.map G.inquestref22_F.av l_2)), (3, G.inquestref22_F.av f_3)], .empty⟩ _
 refine awp_seqK fun K1 hK1 => awp_reg rfl <| AR.op (r := .ref 0 0 0) rfl (aop_box 1 [G.api_Hist.av h_0] rfl rfl rfl (.inl ⟨rfl, rfl⟩)) <| AR.op (r := .ref 1 0 0) rfl (aop_box 7 [G.inquestref22_F.av f_3] rfl rfl rfl (.inl ⟨rfl, rfl⟩)) <| AR.op rfl (aop_move (.inr rfl) rfl) <| AR.nil <| hK1 _ (AWP.weak (Weak.e (fr' := [(1, i64 level_1), (2, .sl (List.map G.inquestref22_F.av l_2)), (4, .pp [.sl (List.map G.api_Txn.av h_0.Txns)] 0), (7, .pp [i64 f_3.C.Key, i64 f_3.C.A, i64 f_3.C.B, i64 f_3.Kind, i64 f_3.I, i64 f_3.J, .sl (List.map i64 f_3.Cycle)] 0)]) (H' := .empty) ⟨.k, ⟨.sl (List.map G.inquestref22_F.av l_2), rfl, .sm⟩, ⟨_, rfl, .frzA rfl rfl rfl rfl (by simp)⟩, ⟨_, rfl, .frzA rfl rfl rfl rfl (by simp)⟩, trivial⟩) ?_)
 refine awp_seqK fun K2 hK2 => awp_reg rfl <| AR.op (r := G.api_Hist.av h_0) rfl (aop_load_pp rfl rfl sz24 rfl) ?_
 obtain ⟨r23, hr23, h⟩ := Sh.bind_some' h
 refine AR.op (r := bl r23) rfl (aop_call1 rfl rfl (by simp) (inquestref08_Right_ok hT hr23)) <| AR.op rfl (aop_move (.inr rfl) rfl) <| AR.nil <| hK2 _ (AWP.weak (Weak.kt [1, 2, 4, 7, 9] rfl) ?_)
 refine awp_seqK fun K3 hK3 => awp_seqJ (fun (p : Bool) => (⟨[(1, i64 level_1), (2, .sl (List.map G.inquestref22_F.av l_2)), (4, .pp [.sl (List.map G.api_Txn.av h_0.Txns)] 0), (7, .pp [i64 f_3.C.Key, i64 f_3.C.A, i64 f_3.C.B, i64 f_3.Kind, i64 f_3.I, i64 f_3.J, .sl (List.map i64 f_3.Cycle)] 0), (27, bl p)], .empty⟩ : St)) (fun (p : Bool) => G.inquestref22_Holds_j1 h_0 level_1 l_2 f_3 p = some r) ?_ ?_
 ·rintro v29 h
  replace h : G.inquestref22_Holds_j1 h_0 level_1 l_2 f_3 v29 = some r := h
  unfold G.inquestref22_Holds_j1 at h
  refine awp_cond rfl (fun hb30 => ?_) (fun hb30 => ?_)
  ·replace h := Sh.if_t h hb30
   refine awp_seqK fun K4 hK4 => awp_reg rfl <| AR.op rfl (aop_move (.inr rfl) rfl) <| AR.nil <| hK4 _ (AWP.weak (Weak.kt [8] rfl) ?_)
   refine awp_ret ?_
   obtain rfl := Option.some.inj h
   refine ⟨.inr rfl, bl false, rfl, ?_⟩
   exact Weak.e ⟨.k, trivial⟩
  ·replace h := Sh.if_f h hb30
   refine awp_skip <| hK3 _ (AWP.weak (Weak.kt [1, 2, 4, 7] rfl) ?_)
   refine awp_seqK fun K5 hK5 => awp_reg rfl <| AR.op (r := G.api_Hist.av h_0) rfl (aop_load_pp rfl rfl sz24 rfl) <| AR.op rfl (aop_field_pp rfl rfl fd48_0 (by decide)) <| AR.op (r := G.api_Choice.av f_3.C) rfl (aop_load_pp rfl rfl sz35 rfl) <| AR.keep [1, 2, 4, 7, 28, 30] rfl ?_
   obtain ⟨r32, hr32, h⟩ := Sh.bind_some' h
   refine AR.op (r := bl r32) rfl (aop_call1 rfl rfl (by simp) (inquestref18_One_ok hT hr32)) <| AR.op rfl (aop_move (.inr rfl) rfl) <| AR.nil <| hK5 _ (AWP.weak (Weak.kt [1, 2, 4, 7, 10] rfl) ?_)
   refine awp_seqK fun K6 hK6 => awp_seqJ (fun (p : Bool) => (⟨[(1, i64 level_1), (2, .sl (List.map G.inquestref22_F.av l_2)), (4, .pp [.sl (List.map G.api_Txn.av h_0.Txns)] 0), (7, .pp [i64 f_3.C.Key, i64 f_3.C.A, i64 f_3.C.B, i64 f_3.Kind, i64 f_3.I, i64 f_3.J, .sl (List.map i64 f_3.Cycle)] 0), (44, bl p)], .empty⟩ : St)) (fun (p : Bool) => G.inquestref22_Holds_j2 h_0 level_1 l_2 f_3 p = some r) ?_ ?_
   ·rintro v38 h
    replace h : G.inquestref22_Holds_j2 h_0 level_1 l_2 f_3 v38 = some r := h
    unfold G.inquestref22_Holds_j2 at h
    refine awp_cond rfl (fun hb39 => ?_) (fun hb39 => ?_)
    ·replace h := Sh.if_t h hb39
     refine awp_seqK fun K7 hK7 => awp_reg rfl <| AR.op rfl (aop_move (.inr rfl) rfl) <| AR.nil <| hK7 _ (AWP.weak (Weak.kt [8] rfl) ?_)
     refine awp_ret ?_
     obtain rfl := Option.some.inj h
     refine ⟨.inr rfl, bl false, rfl, ?_⟩
     exact Weak.e ⟨.k, trivial⟩
    ·replace h := Sh.if_f h hb39
     refine awp_skip <| hK6 _ (AWP.weak (Weak.kt [1, 2, 4, 7] rfl) ?_)
     refine awp_seqK fun K8 hK8 => awp_seqK fun K9 hK9 => awp_reg rfl <| AR.op rfl (aop_field_pp rfl rfl fd48_1 (by decide)) <| AR.op (r := i64 f_3.Kind) rfl (aop_load_pp rfl rfl sz3 rfl) <| AR.nil <| hK9 _ (AWP.weak (Weak.kt [1, 2, 4, 7, 46] rfl) ?_)
     refine awp_block <| awp_seqK fun K10 hK10 => awp_reg rfl <| AR.op (r := bl (decide (f_3.Kind = 1))) rfl (aop_eql rfl rfl rfl) <| AR.op rfl (aop_move (.inr rfl) rfl) <| AR.nil <| hK10 _ (AWP.weak (Weak.kt [1, 2, 4, 7, 46, 47] rfl) ?_)
     refine awp_cond rfl (fun hb53 => ?_) (fun hb53 => ?_)
     ·replace h := Sh.if_t h hb53
      refine awp_seqK fun K11 hK11 => awp_reg rfl <| AR.op (r := G.api_Hist.av h_0) rfl (aop_load_pp rfl rfl sz24 rfl) <| AR.op rfl (aop_field_pp rfl rfl fd48_0 (by decide)) <| AR.op rfl (aop_field_pp rfl rfl fd35_1 (by decide)) <| AR.keep [7, 49, 51] rfl <| AR.op (r := i64 f_3.C.A) rfl (aop_load_pp rfl rfl sz3 rfl) <| AR.op rfl (aop_field_pp rfl rfl fd48_0 (by decide)) ?_
      refine AR.op rfl (aop_field_pp rfl rfl fd35_2 (by decide)) <| AR.keep [7, 49, 52, 54] rfl <| AR.op (r := i64 f_3.C.B) rfl (aop_load_pp rfl rfl sz3 rfl) ?_
      obtain ⟨r55, hr55, h⟩ := Sh.bind_some' h
      refine AR.op (r := bl r55) rfl (aop_call1 rfl rfl (by simp) (inquestref22_past_ok hT hr55)) <| AR.op rfl (aop_move (.inr rfl) rfl) <| AR.nil <| hK11 _ (AWP.weak (Weak.kt [7, 11] rfl) ?_)
      refine awp_seqK fun K12 hK12 => awp_reg rfl <| AR.op rfl (aop_move (.inl rfl) rfl) <| AR.op rfl (aop_move (.inl rfl) rfl) ?_
      rcases Bool.eq_false_or_eq_true (r55) with hb58 | hb58
      ·rw [hb58]
       replace h := Sh.if_t h hb58
       refine AR.op rfl (aop_field_pp rfl rfl fd48_2 (by decide)) <| AR.keep [7, 58, 59] rfl <| AR.op (r := i64 f_3.I) rfl (aop_load_pp rfl rfl sz3 rfl) <| AR.op (r := bl (decide (f_3.I = 0))) rfl (aop_eql rfl rfl rfl) <| AR.op rfl (aop_pick rfl rfl rfl) <| AR.keep [7, 62] rfl <| AR.op rfl (aop_move (.inl rfl) rfl) ?_
       rcases Bool.eq_false_or_eq_true (decide (f_3.I = 0)) with hb59 | hb59
       ·rw [hb59]
        replace h := Sh.if_t h hb59
        refine AR.op rfl (aop_field_pp rfl rfl fd48_3 (by decide)) <| AR.op (r := i64 f_3.J) rfl (aop_load_pp rfl rfl sz3 rfl) <| AR.keep [63, 65] rfl <| AR.op (r := bl (decide (f_3.J = 0))) rfl (aop_eql rfl rfl rfl) <| AR.op rfl (aop_pick rfl rfl rfl) <| AR.op rfl (aop_move (.inr rfl) rfl) <| AR.nil <| hK12 _ (AWP.weak (Weak.kt [8] rfl) ?_)
        refine awp_ret ?_
        obtain rfl := Option.some.inj h
        refine ⟨.inr rfl, bl (decide (f_3.J = 0)), rfl, ?_⟩
        exact Weak.e ⟨.k, trivial⟩
       ·rw [hb59]
        replace h := Sh.if_f h hb59
        refine AR.skip rfl <| AR.skip rfl <| AR.keep [63, 65] rfl <| AR.skip rfl <| AR.op rfl (aop_pick rfl rfl rfl) <| AR.op rfl (aop_move (.inr rfl) rfl) <| AR.nil <| hK12 _ (AWP.weak (Weak.kt [8] rfl) ?_)
        refine awp_ret ?_
        obtain rfl := Option.some.inj h
        refine ⟨.inr rfl, bl false, rfl, ?_⟩
        exact Weak.e ⟨.k, trivial⟩
      ·rw [hb58]
       replace h := Sh.if_f h hb58
       refine AR.skip rfl <| AR.keep [7, 58, 59] rfl <| AR.skip rfl <| AR.skip rfl <| AR.op rfl (aop_pick rfl rfl rfl) <| AR.keep [7, 62] rfl <| AR.op rfl (aop_move (.inl rfl) rfl) <| AR.skip rfl ?_
       refine AR.skip rfl <| AR.keep [63, 65] rfl <| AR.skip rfl <| AR.op rfl (aop_pick rfl rfl rfl) <| AR.op rfl (aop_move (.inr rfl) rfl) <| AR.nil <| hK12 _ (AWP.weak (Weak.kt [8] rfl) ?_)
       refine awp_ret ?_
       obtain rfl := Option.some.inj h
       refine ⟨.inr rfl, bl false, rfl, ?_⟩
       exact Weak.e ⟨.k, trivial⟩
     ·replace h := Sh.if_f h hb53
      refine awp_seqK fun K13 hK13 => awp_reg rfl <| AR.op (r := bl (decide (f_3.Kind = 2))) rfl (aop_eql rfl rfl rfl) <| AR.op rfl (aop_move (.inr rfl) rfl) <| AR.nil <| hK13 _ (AWP.weak (Weak.kt [1, 2, 4, 7, 46, 68] rfl) ?_)
      refine awp_cond rfl (fun hb60 => ?_) (fun hb60 => ?_)
      ·replace h := Sh.if_t h hb60
       refine awp_seqK fun K14 hK14 => awp_reg rfl <| AR.op rfl (aop_move (.inl rfl) rfl) <| AR.op (r := G.inquestref22_F.av f_3) rfl (aop_load_pp rfl rfl sz48 rfl) ?_
       obtain ⟨r62, hr62, h⟩ := Sh.bind_some' h
       refine AR.op (r := bl r62) rfl (aop_call1 rfl rfl (by simp) (inquestref22_joined_ok hT hr62)) <| AR.keep [72] rfl <| AR.op rfl (aop_move (.inr rfl) rfl) <| AR.nil <| hK14 _ (AWP.weak (Weak.kt [12] rfl) ?_)
       refine awp_seqK fun K15 hK15 => awp_reg rfl <| AR.op rfl (aop_move (.inl rfl) rfl) <| AR.op rfl (aop_move (.inr rfl) rfl) <| AR.nil <| hK15 _ (AWP.weak (Weak.kt [8] rfl) ?_)
       refine awp_ret ?_
       obtain rfl := Option.some.inj h
       refine ⟨.inr rfl, bl r62, rfl, ?_⟩
       exact Weak.e ⟨.k, trivial⟩
      ·replace h := Sh.if_f h hb60
       refine awp_seqK fun K16 hK16 => awp_reg rfl <| AR.op (r := bl (decide (f_3.Kind = 3))) rfl (aop_eql rfl rfl rfl) <| AR.op rfl (aop_move (.inr rfl) rfl) <| AR.nil <| hK16 _ (AWP.weak (Weak.kt [1, 2, 4, 7, 46, 74] rfl) ?_)
       refine awp_cond rfl (fun hb63 => ?_) (fun hb63 => ?_)
       ·replace h := Sh.if_t h hb63
        refine awp_seqK fun K17 hK17 => awp_reg rfl <| AR.op (r := G.api_Hist.av h_0) rfl (aop_load_pp rfl rfl sz24 rfl) <| AR.op (r := G.inquestref22_F.av f_3) rfl (aop_load_pp rfl rfl sz48 rfl) ?_
        obtain ⟨r65, hr65, h⟩ := Sh.bind_some' h
        refine AR.op (r := bl r65) rfl (aop_call1 rfl rfl (by simp) (inquestref22_seen_ok hT hr65)) <| AR.keep [78] rfl <| AR.op rfl (aop_move (.inr rfl) rfl) <| AR.nil <| hK17 _ (AWP.weak (Weak.kt [13] rfl) ?_)
        refine awp_seqK fun K18 hK18 => awp_reg rfl <| AR.op rfl (aop_move (.inl rfl) rfl) <| AR.op rfl (aop_move (.inr rfl) rfl) <| AR.nil <| hK18 _ (AWP.weak (Weak.kt [8] rfl) ?_)
        refine awp_ret ?_
        obtain rfl := Option.some.inj h
        refine ⟨.inr rfl, bl r65, rfl, ?_⟩
        exact Weak.e ⟨.k, trivial⟩
       ·replace h := Sh.if_f h hb63
        refine awp_seqK fun K19 hK19 => awp_reg rfl <| AR.op (r := bl (decide (f_3.Kind = 4))) rfl (aop_eql rfl rfl rfl) <| AR.op rfl (aop_move (.inr rfl) rfl) <| AR.nil <| hK19 _ (AWP.weak (Weak.kt [1, 2, 4, 7, 80] rfl) ?_)
        refine awp_cond rfl (fun hb66 => ?_) (fun hb66 => ?_)
        ·replace h := Sh.if_t h hb66
         refine awp_seqK fun K20 hK20 => awp_reg rfl <| AR.op rfl (aop_move (.inl rfl) rfl) ?_
         obtain ⟨r68, hr68, h⟩ := Sh.bind_some' h
         refine AR.op (r := .view 0 0 (List.map G.api_Choice.av r68).length) rfl (aop_call2N (.view 0 0 (List.map G.api_Choice.av r68).length) [(0, (3, List.map G.api_Choice.av r68))] rfl (ys := [.sl (List.map G.inquestref22_F.av l_2)]) (xs := [.sl (List.map G.inquestref22_F.av l_2)]) rfl (Weak.refl _) rfl (by simp) (inquestref22_Choices_own hT hr68) (.view _ _ _) ⟨rfl, rfl, .same (by simp [AV.flat, G.api_Choice.av]), trivial⟩) <| AR.op rfl (aop_move (.inr rfl) rfl) <| AR.nil <| hK20 _ (AWP.weak (Weak.kt [1, 4, 7, 14] rfl) ?_)
         refine awp_seqK fun K21 hK21 => awp_reg rfl <| AR.op rfl (aop_move (.inl rfl) rfl) <| AR.op rfl (aop_field_pp rfl rfl fd48_0 (by decide)) <| AR.op (r := G.api_Choice.av f_3.C) rfl (aop_load_pp rfl rfl sz35 rfl) <| AR.keep [1, 4, 7, 84, 86] rfl ?_
         obtain ⟨r71, hr71, h⟩ := Sh.bind_some' h
         refine AR.op (r := G.api_Choice.av r71) rfl (aop_call1 rfl rfl (by simp) (inquestref18_Back_ok hT hr71)) <| AR.op (r := .clip (List.map G.api_Choice.av ([r71] : List G.api_Choice))) rfl (aop_buildSlice rfl (xo := [.tmp 87]) rfl rfl rfl (by simp) (by simp) el53 ze53 (by decide)) ?_
         obtain ⟨c72, hc72, h⟩ := Sh.bind_some' h
         refine AR.op (r := .view 1 0 (List.map G.api_Choice.av c72).length) rfl (t_app_view G.api_Choice.av r68 ([r71] : List G.api_Choice) c72 hc72 rfl et53 (fun _ => rfl) rfl rfl rfl rfl rfl rfl rfl) <| AR.keep [1, 4, 7, 89] rfl <| AR.op rfl (aop_move (.inr rfl) rfl) <| AR.nil <| hK21 _ (AWP.weak (Weak.e (fr' := [(1, i64 level_1), (4, .pp [.sl (List.map G.api_Txn.av h_0.Txns)] 0), (7, .pp [i64 f_3.C.Key, i64 f_3.C.A, i64 f_3.C.B, i64 f_3.Kind, i64 f_3.I, i64 f_3.J, .sl (List.map i64 f_3.Cycle)] 0), (14, .sl (List.map G.api_Choice.av c72))]) (H' := .empty) ⟨.k, .k, .k, ⟨_, rfl, .lendAll rfl rfl (by simp)⟩, trivial⟩) ?_)
         refine awp_seqK fun K22 hK22 => awp_reg rfl <| AR.op (r := G.api_Hist.av h_0) rfl (aop_load_pp rfl rfl sz24 rfl) <| AR.op rfl (aop_move (.inl rfl) rfl) <| AR.op rfl (aop_move (.inl rfl) rfl) <| AR.keep [7, 90, 91, 92] rfl <| AR.op rfl (aop_field_pp rfl rfl fd48_4 (by decide)) <| AR.op (r := .sl (List.map i64 f_3.Cycle)) rfl (aop_load_pp rfl rfl sz36 rfl) ?_
         obtain ⟨r74, hr74, h⟩ := Sh.bind_some' h
         refine AR.op (r := bl r74) rfl (aop_call1 rfl rfl (by simp) (inquestref19_Cycle_ok hT hr74)) <| AR.keep [7, 95] rfl <| AR.op rfl (aop_move (.inr rfl) rfl) <| AR.nil <| hK22 _ (AWP.weak (Weak.kt [7, 15] rfl) ?_)
         refine awp_seqK fun K23 hK23 => awp_reg rfl <| AR.op rfl (aop_move (.inl rfl) rfl) <| AR.op rfl (aop_move (.inl rfl) rfl) ?_
         rcases Bool.eq_false_or_eq_true (r74) with hb77 | hb77
         ·rw [hb77]
          replace h := Sh.if_t h hb77
          refine AR.op rfl (aop_field_pp rfl rfl fd48_2 (by decide)) <| AR.keep [7, 97, 98] rfl <| AR.op (r := i64 f_3.I) rfl (aop_load_pp rfl rfl sz3 rfl) <| AR.op (r := bl (decide (f_3.I = 0))) rfl (aop_eql rfl rfl rfl) <| AR.op rfl (aop_pick rfl rfl rfl) <| AR.keep [7, 101] rfl <| AR.op rfl (aop_move (.inl rfl) rfl) ?_
          rcases Bool.eq_false_or_eq_true (decide (f_3.I = 0)) with hb78 | hb78
          ·rw [hb78]
           replace h := Sh.if_t h hb78
           refine AR.op rfl (aop_field_pp rfl rfl fd48_3 (by decide)) <| AR.op (r := i64 f_3.J) rfl (aop_load_pp rfl rfl sz3 rfl) <| AR.keep [102, 104] rfl <| AR.op (r := bl (decide (f_3.J = 0))) rfl (aop_eql rfl rfl rfl) <| AR.op rfl (aop_pick rfl rfl rfl) <| AR.op rfl (aop_move (.inr rfl) rfl) <| AR.nil <| hK23 _ (AWP.weak (Weak.kt [8] rfl) ?_)
           refine awp_ret ?_
           obtain rfl := Option.some.inj h
           refine ⟨.inr rfl, bl (decide (f_3.J = 0)), rfl, ?_⟩
           exact Weak.e ⟨.k, trivial⟩
          ·rw [hb78]
           replace h := Sh.if_f h hb78
           refine AR.skip rfl <| AR.skip rfl <| AR.keep [102, 104] rfl <| AR.skip rfl <| AR.op rfl (aop_pick rfl rfl rfl) <| AR.op rfl (aop_move (.inr rfl) rfl) <| AR.nil <| hK23 _ (AWP.weak (Weak.kt [8] rfl) ?_)
           refine awp_ret ?_
           obtain rfl := Option.some.inj h
           refine ⟨.inr rfl, bl false, rfl, ?_⟩
           exact Weak.e ⟨.k, trivial⟩
         ·rw [hb77]
          replace h := Sh.if_f h hb77
          refine AR.skip rfl <| AR.keep [7, 97, 98] rfl <| AR.skip rfl <| AR.skip rfl <| AR.op rfl (aop_pick rfl rfl rfl) <| AR.keep [7, 101] rfl <| AR.op rfl (aop_move (.inl rfl) rfl) <| AR.skip rfl ?_
          refine AR.skip rfl <| AR.keep [102, 104] rfl <| AR.skip rfl <| AR.op rfl (aop_pick rfl rfl rfl) <| AR.op rfl (aop_move (.inr rfl) rfl) <| AR.nil <| hK23 _ (AWP.weak (Weak.kt [8] rfl) ?_)
          refine awp_ret ?_
          obtain rfl := Option.some.inj h
          refine ⟨.inr rfl, bl false, rfl, ?_⟩
          exact Weak.e ⟨.k, trivial⟩
        ·replace h := Sh.if_f h hb66
         refine awp_skip <| hK8 _ (AWP.weak (Weak.kt [] rfl) ?_)
         refine awp_seqK fun K24 hK24 => awp_reg rfl <| AR.op rfl (aop_move (.inr rfl) rfl) <| AR.nil <| hK24 _ ?_
         refine awp_ret ?_
         obtain rfl := Option.some.inj h
         refine ⟨.inr rfl, bl false, rfl, ?_⟩
         exact Weak.e ⟨.k, trivial⟩
   ·intro K25 hK25
    refine awp_reg rfl <| AR.op rfl (aop_move (.inl rfl) rfl) <| AR.op (r := bl (!r32)) rfl (aop_not rfl rfl) <| AR.op rfl (aop_move (.inl rfl) rfl) <| AR.keep [1, 2, 4, 7, 34] rfl ?_
    rcases Bool.eq_false_or_eq_true (!r32) with hb79 | hb79
    ·rw [hb79]
     replace h := Sh.if_t h hb79
     refine AR.skip rfl <| AR.skip rfl <| AR.skip rfl <| AR.keep [1, 2, 4, 7, 34, 37] rfl <| AR.skip rfl <| AR.skip rfl <| AR.skip rfl <| AR.keep [1, 2, 4, 7, 34, 38, 40] rfl ?_
     refine AR.skip rfl <| AR.skip rfl <| AR.skip rfl <| AR.keep [1, 2, 4, 7, 34, 43] rfl <| AR.op rfl (aop_pick rfl rfl rfl) <| AR.nil ?_
     exact hK25 true _ h (Weak.kt [1, 2, 4, 7, 44] rfl)
    ·rw [hb79]
     replace h := Sh.if_f h hb79
     refine AR.op rfl (aop_field_pp rfl rfl fd48_1 (by decide)) <| AR.op (r := i64 f_3.Kind) rfl (aop_load_pp rfl rfl sz3 rfl) <| AR.op (r := bl (decide (f_3.Kind ≠ 4))) rfl (aop_neq rfl rfl rfl) <| AR.keep [1, 2, 4, 7, 34, 37] rfl <| AR.op rfl (aop_move (.inl rfl) rfl) ?_
     rcases Bool.eq_false_or_eq_true (decide (f_3.Kind ≠ 4)) with hb80 | hb80
     ·rw [hb80]
      replace h := Sh.if_t h hb80
      refine AR.op rfl (aop_field_pp rfl rfl fd48_4 (by decide)) <| AR.op (r := .sl (List.map i64 f_3.Cycle)) rfl (aop_load_pp rfl rfl sz36 rfl) <| AR.keep [1, 2, 4, 7, 34, 38, 40] rfl <| AR.op rfl (t_len_sl i64 f_3.Cycle rfl rfl el36) <| AR.op rfl (aop_gtr rfl rfl rfl) <| AR.op rfl (aop_pick rfl rfl rfl) <| AR.keep [1, 2, 4, 7, 34, 43] rfl <| AR.op rfl (aop_pick rfl rfl rfl) ?_
      refine AR.nil ?_
      exact hK25 (decide ((0 : Int) < (Sh.len f_3.Cycle))) _ h (Weak.kt [1, 2, 4, 7, 44] rfl)
     ·rw [hb80]
      replace h := Sh.if_f h hb80
      refine AR.skip rfl <| AR.skip rfl <| AR.keep [1, 2, 4, 7, 34, 38, 40] rfl <| AR.skip rfl <| AR.skip rfl <| AR.op rfl (aop_pick rfl rfl rfl) <| AR.keep [1, 2, 4, 7, 34, 43] rfl <| AR.op rfl (aop_pick rfl rfl rfl) ?_
      refine AR.nil ?_
      exact hK25 false _ h (Weak.kt [1, 2, 4, 7, 44] rfl)
 ·intro K26 hK26
  refine awp_reg rfl <| AR.op rfl (aop_move (.inl rfl) rfl) <| AR.op (r := bl (!r23)) rfl (aop_not rfl rfl) <| AR.op rfl (aop_move (.inl rfl) rfl) <| AR.keep [1, 2, 4, 7, 20] rfl ?_
  rcases Bool.eq_false_or_eq_true (!r23) with hb81 | hb81
  ·rw [hb81]
   replace h := Sh.if_t h hb81
   refine AR.skip rfl <| AR.skip rfl <| AR.skip rfl <| AR.keep [1, 2, 4, 7, 20, 23] rfl <| AR.skip rfl <| AR.skip rfl <| AR.skip rfl <| AR.keep [1, 2, 4, 7, 20, 26] rfl ?_
   refine AR.op rfl (aop_pick rfl rfl rfl) <| AR.nil ?_
   exact hK26 true _ h (Weak.kt [1, 2, 4, 7, 27] rfl)
  ·rw [hb81]
   replace h := Sh.if_f h hb81
   refine AR.op rfl (aop_move (.inl rfl) rfl) <| AR.op (r := bl (decide (level_1 ≠ 0))) rfl (aop_neq rfl rfl rfl) <| AR.op rfl (aop_move (.inl rfl) rfl) <| AR.keep [1, 2, 4, 7, 20, 23] rfl ?_
   rcases Bool.eq_false_or_eq_true (decide (level_1 ≠ 0)) with hb82 | hb82
   ·rw [hb82]
    replace h := Sh.if_t h hb82
    refine AR.op rfl (aop_move (.inl rfl) rfl) <| AR.op (r := bl (decide (level_1 ≠ 1))) rfl (aop_neq rfl rfl rfl) <| AR.op rfl (aop_pick rfl rfl rfl) <| AR.keep [1, 2, 4, 7, 20, 26] rfl <| AR.op rfl (aop_pick rfl rfl rfl) <| AR.nil ?_
    exact hK26 (decide (level_1 ≠ 1)) _ h (Weak.kt [1, 2, 4, 7, 27] rfl)
   ·rw [hb82]
    replace h := Sh.if_f h hb82
    refine AR.skip rfl <| AR.skip rfl <| AR.op rfl (aop_pick rfl rfl rfl) <| AR.keep [1, 2, 4, 7, 20, 26] rfl <| AR.op rfl (aop_pick rfl rfl rfl) <| AR.nil ?_
    exact hK26 false _ h (Weak.kt [1, 2, 4, 7, 27] rfl)
theorem inquestref22_Holds_ok {W0 : World} (hT : Tab W0) {h_0 : G.api_Hist} {level_1 : Int} {l_2 : List G.inquestref22_F} {f_3 : G.inquestref22_F} {r : Bool} (h : G.inquestref22_Holds h_0 level_1 l_2 f_3 = some r) : Fun1 Try.prog W0 32 [G.api_Hist.av h_0, i64 level_1, .sl (List.map G.inquestref22_F.av l_2), G.inquestref22_F.av f_3] (bl r) := Fun1.two (inquestref22_Holds_ok0 hT h) (by simp)

end Wk
