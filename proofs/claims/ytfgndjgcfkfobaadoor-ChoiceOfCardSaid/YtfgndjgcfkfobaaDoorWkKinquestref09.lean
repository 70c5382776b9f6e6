/- That the functions of a package do what their plain functions say. -/
import Derived.Test.YtfgndjgcfkfobaaDoorSh
import Derived.Test.YtfgndjgcfkfobaaDoorWkKFacts
import Derived.Test.YtfgndjgcfkfobaaDoorWkKinquestref08
open Go Go.Av Go.Proofs
set_option linter.unusedVariables false
set_option maxHeartbeats 8000000
set_option maxRecDepth 20000
namespace Wk
theorem inquestref09_Choices_ok0 {W0 : World} (hT : Tab W0) {a_0 : List G.api_Choice} {b_1 : List G.api_Choice} {r : Bool} (h : G.inquestref09_Choices a_0 b_1 = some r) : Fun2 Tryd.prog W0 39 [.sl (List.map G.api_Choice.av a_0), .sl (List.map G.api_Choice.av b_1)] (bl r) .empty := by
 refine fun2_of_awp Tryd.func39 rfl (by kernel_rfl) Tryd.ntmps39 (by simp) ?_
 unfold G.inquestref09_Choices at h
 show AWP _ _ _ _ ⟨[(0, .sl (List.map G.api_Choice.av a_0)), (1, .sl (List.map G.api_Choice.av b_1))], .empty⟩ _
 refine awp_seqK fun K1 hK1 => awp_reg rfl <| AR.op rfl (aop_move (.inr rfl) rfl) <| AR.nil <| hK1 _ (AWP.weak (Weak.kt [0, 1] rfl) ?_)
 refine awp_seqK fun K2 hK2 => awp_seqK fun K3 hK3 => awp_reg rfl <| AR.op rfl (aop_move (.inl rfl) rfl) <| AR.op rfl (t_len_sl G.api_Choice.av a_0 rfl rfl el51) <| AR.op rfl (aop_move (.inl rfl) rfl) <| AR.keep [0, 1, 7, 8] rfl <| AR.op rfl (t_len_sl G.api_Choice.av b_1 rfl rfl el51) ?_
 refine AR.op (r := bl (decide ((Sh.len a_0) ≠ (Sh.len b_1)))) rfl (aop_neq rfl rfl rfl) <| AR.nil <| hK3 _ (AWP.weak (Weak.kt [0, 1, 10] rfl) ?_)
 refine awp_cond rfl (fun hb15 => ?_) (fun hb15 => ?_)
 ·replace h := Sh.if_t h hb15
  refine awp_seqK fun K4 hK4 => awp_reg rfl <| AR.op rfl (aop_move (.inr rfl) rfl) <| AR.nil <| hK4 _ (AWP.weak (Weak.kt [4] rfl) ?_)
  refine awp_ret ?_
  obtain rfl := Option.some.inj h
  refine ⟨.inr rfl, bl false, rfl, ?_⟩
  exact Weak.e ⟨.k, trivial⟩
 ·replace h := Sh.if_f h hb15
  refine awp_skip <| hK2 _ (AWP.weak (Weak.kt [0, 1] rfl) ?_)
  refine awp_seqJ (fun (p : Unit) => (⟨[], .empty⟩ : St)) (fun (p : Unit) => G.inquestref09_Choices_j1 = some r) ?_ ?_
  ·rintro ⟨⟩ h
   replace h : G.inquestref09_Choices_j1 = some r := h
   unfold G.inquestref09_Choices_j1 at h
   show AWP _ _ _ _ ⟨[], .empty⟩ _
   refine awp_seqK fun K5 hK5 => awp_reg rfl <| AR.op rfl (aop_move (.inr rfl) rfl) <| AR.nil <| hK5 _ ?_
   refine awp_ret ?_
   obtain rfl := Option.some.inj h
   refine ⟨.inr rfl, bl true, rfl, ?_⟩
   exact Weak.e ⟨.k, trivial⟩
  ·intro K6 hK6
   refine awp_seqK fun K7 hK7 => awp_reg rfl <| AR.op rfl (aop_move (.inr rfl) rfl) <| AR.nil <| hK7 _ ?_
   refine awp_block <| awp_iter (fun (p : Int) => G.inquestref09_Choices_b1 a_0 b_1 p) (fun (p : Int) => (⟨[(0, .sl (List.map G.api_Choice.av a_0)), (1, .sl (List.map G.api_Choice.av b_1)), (5, i64 p)], .empty⟩ : St)) h (Weak.kt [0, 1, 5] rfl) ?_
   ·skip
    rintro i39 o1 h hx1
    replace h : G.inquestref09_Choices_b1 a_0 b_1 i39 = some o1 := h
    unfold G.inquestref09_Choices_b1 at h
    show AWP _ _ _ _ ⟨[(0, .sl (List.map G.api_Choice.av a_0)), (1, .sl (List.map G.api_Choice.av b_1)), (5, i64 i39)], .empty⟩ _
    refine awp_seqK fun K8 hK8 => awp_seqK fun K9 hK9 => awp_reg rfl <| AR.op rfl (aop_move (.inl rfl) rfl) <| AR.op rfl (aop_move (.inl rfl) rfl) <| AR.op rfl (t_len_sl G.api_Choice.av a_0 rfl rfl el51) <| AR.keep [0, 1, 5, 11, 13] rfl <| AR.op rfl (aop_lss rfl rfl rfl) ?_
    refine AR.nil <| hK9 _ (AWP.weak (Weak.kt [0, 1, 5, 14] rfl) ?_)
    refine awp_cond rfl (fun hb40 => ?_) (fun hb40 => ?_)
    ·replace h := Sh.if_t h hb40
     refine awp_skip <| hK8 _ (AWP.weak (Weak.kt [0, 1, 5] rfl) ?_)
     refine awp_seqK fun K10 hK10 => awp_block <| awp_seqK fun K11 hK11 => awp_any [(true, false), (true, false), (true, false), (true, false), (true, false), (true, false), (true, false), (true, false), (true, false)] (by kernel_rfl) (by kernel_rfl) rfl ?_
     refine ARH.dry rfl (fun _ => aop_move (.inl rfl) rfl) <| ARH.dry rfl (fun _ => aop_move (.inl rfl) rfl) ?_
     obtain ⟨x49, hx49, h⟩ := Sh.bind_some' h
     obtain ⟨k50, hi50, hl50⟩ := Sh.idx_some hx49
     refine ARH.dry rfl (fun _ => t_index_sl G.api_Choice.av a_0 hi50 hl50 rfl rfl rfl el51 rfl) <| ARH.keep [0, 1, 5, 19] rfl <| ARH.dry (r := G.api_Choice.av x49) rfl (fun _ => aop_load_pp rfl rfl sz54 rfl) <| ARH.dry rfl (fun _ => aop_move (.inl rfl) rfl) <| ARH.dry rfl (fun _ => aop_move (.inl rfl) rfl) <| ARH.keep [0, 1, 5, 20, 21, 22] rfl ?_
     obtain ⟨x51, hx51, h⟩ := Sh.bind_some' h
     obtain ⟨k52, hi52, hl52⟩ := Sh.idx_some hx51
     refine ARH.dry rfl (fun _ => t_index_sl G.api_Choice.av b_1 hi52 hl52 rfl rfl rfl el51 rfl) <| ARH.dry (r := G.api_Choice.av x51) rfl (fun _ => aop_load_pp rfl rfl sz54 rfl) <| ARH.dry (r := bl (!decide (x49 = x51))) rfl (fun _ => t_ne_api_Choice (a := x49) (b := x51) rfl rfl rfl) <| ARH.nil <| hK11 _ (AWP.weak (Weak.kt [0, 1, 5, 25] rfl) ?_)
     refine awp_cond rfl (fun hb53 => ?_) (fun hb53 => ?_)
     ·replace h := Sh.if_t h hb53
      refine awp_seqK fun K12 hK12 => awp_reg rfl <| AR.op rfl (aop_move (.inr rfl) rfl) <| AR.nil <| hK12 _ (AWP.weak (Weak.kt [4] rfl) ?_)
      refine awp_ret ?_
      replace h := Sh.exit_eq h hx1
      obtain rfl := Option.some.inj h
      refine ⟨.inr rfl, bl false, rfl, ?_⟩
      exact Weak.e ⟨.k, trivial⟩
     ·replace h := Sh.if_f h hb53
      refine awp_skip <| hK10 _ (AWP.weak (Weak.kt [0, 1, 5] rfl) ?_)
      refine awp_reg rfl <| AR.op rfl (aop_move (.inl rfl) rfl) <| AR.op rfl (aop_add rfl rfl rfl rfl) <| AR.op rfl (aop_move (.inr rfl) rfl) <| AR.nil ?_
      replace h := Sh.next_eq h
      exact ⟨_, h, Weak.e (fr' := [(0, .sl (List.map G.api_Choice.av a_0)), (1, .sl (List.map G.api_Choice.av b_1)), (5, i64 (w64 (i39 + 1)))]) (H' := .empty) ⟨⟨.sl (List.map G.api_Choice.av a_0), rfl, .sm⟩, ⟨.sl (List.map G.api_Choice.av b_1), rfl, .sm⟩, .k, trivial⟩⟩
    ·replace h := Sh.if_f h hb40
     refine awp_exit ?_
     replace h := Sh.exit_eq h hx1
     exact hK6 () _ h (Weak.kt [] rfl)
theorem inquestref09_Choices_ok {W0 : World} (hT : Tab W0) {a_0 : List G.api_Choice} {b_1 : List G.api_Choice} {r : Bool} (h : G.inquestref09_Choices a_0 b_1 = some r) : Fun1 Tryd.prog W0 39 [.sl (List.map G.api_Choice.av a_0), .sl (List.map G.api_Choice.av b_1)] (bl r) := Fun1.two (inquestref09_Choices_ok0 hT h) (by simp)


theorem inquestref09_Writers_own {W0 : World} (hT : Tab W0) {h_0 : G.api_Hist} {key_1 : Int} {r : (List Int)} (h : G.inquestref09_Writers h_0 key_1 = some r) : Fun2 Tryd.prog W0 95 [G.api_Hist.av h_0, i64 key_1] (.view 0 0 (List.map i64 r).length) ⟨1, [(0, (1, List.map i64 r))], []⟩ := by
 refine fun2_of_awp Tryd.func95 rfl (by kernel_rfl) Tryd.ntmps95 (by simp) ?_
 unfold G.inquestref09_Writers at h
 show AWP _ _ _ _ ⟨[(0, G.api_Hist.av h_0), (1, i64 key_1)], .empty⟩ _
 refine awp_seqK fun K1 hK1 => awp_reg rfl <| AR.op (r := .ref 0 0 0) rfl (aop_box 1 [G.api_Hist.av h_0] rfl rfl rfl (.inl ⟨rfl, rfl⟩)) <| AR.op rfl (aop_move (.inr rfl) rfl) <| AR.nil <| hK1 _ (AWP.weak (Weak.e (fr' := [(1, i64 key_1), (2, .pp [.sl (List.map G.api_Txn.av h_0.Txns)] 0)]) (H' := .empty) ⟨.k, ⟨_, rfl, .frzA rfl rfl rfl rfl (by simp)⟩, trivial⟩) ?_)
 refine awp_seqK fun K2 hK2 => awp_reg rfl <| AR.op rfl (aop_move (.inr rfl) rfl) <| AR.nil <| hK2 _ ?_
 refine awp_seqK fun K3 hK3 => awp_reg rfl <| AR.op (r := G.api_Hist.av h_0) rfl (aop_load_pp rfl rfl sz24 rfl) ?_
 obtain ⟨r33, hr33, h⟩ := Sh.bind_some' h
 refine AR.op (r := bl r33) rfl (aop_call1 rfl rfl (by simp) (inquestref08_Right_ok hT hr33)) <| AR.op rfl (aop_move (.inr rfl) rfl) <| AR.nil <| hK3 _ (AWP.weak (Weak.kt [1, 2, 5, 6] rfl) ?_)
 refine awp_seqJ (fun (p : (List Int)) => (⟨[(5, .view 0 0 (List.map i64 p).length)], ⟨1, [(0, (1, List.map i64 p))], []⟩⟩ : St)) (fun (p : (List Int)) => G.inquestref09_Writers_j1 p = some r) ?_ ?_
 ·rintro out64 h
  replace h : G.inquestref09_Writers_j1 out64 = some r := h
  unfold G.inquestref09_Writers_j1 at h
  show AWP _ _ _ _ ⟨[(5, .view 0 0 (List.map i64 out64).length)], ⟨1, [(0, (1, List.map i64 out64))], []⟩⟩ _
  refine awp_seqK fun K4 hK4 => awp_reg rfl <| AR.op rfl (aop_move (.inl rfl) rfl) <| AR.op rfl (aop_move (.inr rfl) rfl) <| AR.nil <| hK4 _ (AWP.weak (Weak.re (fr' := [(4, .view 0 0 (List.map i64 out64).length)]) (H' := ⟨1, [(0, (1, List.map i64 out64))], []⟩) [(0, 0)] [] rfl rfl rfl (.cons rfl rfl (.same (by simp)) dt trivial) ⟨⟨_, rfl, .view rfl⟩, trivial⟩) ?_)
  refine awp_ret ?_
  obtain rfl := Option.some.inj h
  refine ⟨.inr rfl, .view 0 0 (List.map i64 out64).length, rfl, ?_⟩
  exact Weak.re [(0, 0)] [] rfl rfl rfl (.cons rfl rfl (.same (by simp)) dt trivial) ⟨⟨_, rfl, .view rfl⟩, trivial⟩
 ·intro K5 hK5
  refine awp_seqK fun K6 hK6 => awp_reg rfl <| AR.op rfl (aop_move (.inr rfl) rfl) <| AR.nil <| hK6 _ ?_
  refine awp_block <| awp_iter (fun (p : (List Int) × Bool × Int) => G.inquestref09_Writers_b1 h_0 key_1 p.1 p.2.1 p.2.2) (fun (p : (List Int) × Bool × Int) => (⟨[(1, i64 key_1), (2, .pp [.sl (List.map G.api_Txn.av h_0.Txns)] 0), (5, .view 0 0 (List.map i64 p.1).length), (6, bl p.2.1), (7, i64 p.2.2)], ⟨1, [(0, (1, List.map i64 p.1))], []⟩⟩ : St)) h (Weak.re (fr' := [(1, i64 key_1), (2, .pp [.sl (List.map G.api_Txn.av h_0.Txns)] 0), (5, .view 0 0 (List.map i64 []).length), (6, bl r33), (7, i64 0)]) (H' := ⟨1, [(0, (1, List.map i64 []))], []⟩) [] [0] rfl rfl rfl (.fresh (by simp) dt trivial) ⟨.k, .k, ⟨_, rfl, .nil (by simp)⟩, .k, .k, trivial⟩) ?_
  ·skip
   rintro ⟨out84, may85, t86⟩ o1 h hx1
   replace h : G.inquestref09_Writers_b1 h_0 key_1 out84 may85 t86 = some o1 := h
   unfold G.inquestref09_Writers_b1 at h
   show AWP _ _ _ _ ⟨[(1, i64 key_1), (2, .pp [.sl (List.map G.api_Txn.av h_0.Txns)] 0), (5, .view 0 0 (List.map i64 out84).length), (6, bl may85), (7, i64 t86)], ⟨1, [(0, (1, List.map i64 out84))], []⟩⟩ _
   refine awp_seqK fun K7 hK7 => awp_seqJ (fun (p : Bool × Bool) => (⟨[(1, i64 key_1), (2, .pp [.sl (List.map G.api_Txn.av h_0.Txns)] 0), (5, .view 0 0 (List.map i64 out84).length), (6, bl p.1), (7, i64 t86), (18, bl p.2)], ⟨1, [(0, (1, List.map i64 out84))], []⟩⟩ : St)) (fun (p : Bool × Bool) => G.inquestref09_Writers_j2 h_0 key_1 out84 t86 p.1 p.2 = some o1) ?_ ?_
   ·rintro ⟨may91, v92⟩ h
    replace h : G.inquestref09_Writers_j2 h_0 key_1 out84 t86 may91 v92 = some o1 := h
    unfold G.inquestref09_Writers_j2 at h
    show AWP _ _ _ _ ⟨[(1, i64 key_1), (2, .pp [.sl (List.map G.api_Txn.av h_0.Txns)] 0), (5, .view 0 0 (List.map i64 out84).length), (6, bl may91), (7, i64 t86), (18, bl v92)], ⟨1, [(0, (1, List.map i64 out84))], []⟩⟩ _
    refine awp_cond rfl (fun hb93 => ?_) (fun hb93 => ?_)
    ·replace h := Sh.if_t h hb93
     refine awp_skip <| hK7 _ (AWP.weak (Weak.re (fr' := [(1, i64 key_1), (2, .pp [.sl (List.map G.api_Txn.av h_0.Txns)] 0), (5, .view 0 0 (List.map i64 out84).length), (6, bl may91), (7, i64 t86)]) (H' := ⟨1, [(0, (1, List.map i64 out84))], []⟩) [(0, 0)] [] rfl rfl rfl (.cons rfl rfl (.same (by simp)) dt trivial) ⟨.k, .k, ⟨_, rfl, .view rfl⟩, .k, .k, trivial⟩) ?_)
     refine awp_seqJ (fun (p : (List Int)) => (⟨[(1, i64 key_1), (2, .pp [.sl (List.map G.api_Txn.av h_0.Txns)] 0), (6, bl may91), (7, i64 t86), (5, .view 0 0 (List.map i64 p).length)], ⟨1, [(0, (1, List.map i64 p))], []⟩⟩ : St)) (fun (p : (List Int)) => G.inquestref09_Writers_j3 t86 may91 p = some o1) ?_ ?_
     ·rintro out98 h
      replace h : G.inquestref09_Writers_j3 t86 may91 out98 = some o1 := h
      unfold G.inquestref09_Writers_j3 at h
      show AWP _ _ _ _ ⟨[(1, i64 key_1), (2, .pp [.sl (List.map G.api_Txn.av h_0.Txns)] 0), (6, bl may91), (7, i64 t86), (5, .view 0 0 (List.map i64 out98).length)], ⟨1, [(0, (1, List.map i64 out98))], []⟩⟩ _
      refine awp_reg rfl <| AR.op rfl (aop_move (.inl rfl) rfl) <| AR.op rfl (aop_add rfl rfl rfl rfl) <| AR.op rfl (aop_move (.inr rfl) rfl) <| AR.nil ?_
      replace h := Sh.next_eq h
      exact ⟨_, h, Weak.re (fr' := [(1, i64 key_1), (2, .pp [.sl (List.map G.api_Txn.av h_0.Txns)] 0), (5, .view 0 0 (List.map i64 out98).length), (6, bl may91), (7, i64 (w64 (t86 + 1)))]) (H' := ⟨1, [(0, (1, List.map i64 out98))], []⟩) [(0, 0)] [] rfl rfl rfl (.cons rfl rfl (.same (by simp)) dt trivial) ⟨.k, .k, ⟨_, rfl, .view rfl⟩, .k, .k, trivial⟩⟩
     ·intro K8 hK8
      refine awp_block <| awp_seqK fun K9 hK9 => awp_reg rfl <| AR.op rfl (aop_field_pp rfl rfl fd24_0 (by decide)) <| AR.op (r := .sl (List.map G.api_Txn.av h_0.Txns)) rfl (aop_load_pp rfl rfl sz22 rfl) <| AR.op rfl (aop_move (.inl rfl) rfl) <| AR.keep [1, 2, 5, 6, 7, 22, 23] rfl ?_
      obtain ⟨x102, hx102, h⟩ := Sh.bind_some' h
      obtain ⟨k103, hi103, hl103⟩ := Sh.idx_some hx102
      refine AR.op rfl (t_index_sl G.api_Txn.av h_0.Txns hi103 hl103 rfl rfl rfl el22 rfl) <| AR.op (r := G.api_Txn.av x102) rfl (aop_load_pp rfl rfl sz40 rfl) <| AR.op rfl (aop_move (.inl rfl) rfl) <| AR.keep [1, 2, 5, 6, 7, 25, 26] rfl ?_
      obtain ⟨r104, hr104, h⟩ := Sh.bind_some' h
      refine AR.op (r := bl r104) rfl (aop_call1 rfl rfl (by simp) (inquestref08_Writes_ok hT hr104)) <| AR.op rfl (aop_move (.inr rfl) rfl) <| AR.nil <| hK9 _ (AWP.weak (Weak.re (fr' := [(1, i64 key_1), (2, .pp [.sl (List.map G.api_Txn.av h_0.Txns)] 0), (5, .view 0 0 (List.map i64 out84).length), (6, bl may91), (7, i64 t86), (8, bl r104)]) (H' := ⟨1, [(0, (1, List.map i64 out84))], []⟩) [(0, 0)] [] rfl rfl rfl (.cons rfl rfl (.same (by simp)) dt trivial) ⟨.k, .k, ⟨_, rfl, .view rfl⟩, .k, .k, .k, trivial⟩) ?_)
      refine awp_seqK fun K10 hK10 => awp_reg rfl <| AR.op rfl (aop_move (.inl rfl) rfl) <| AR.nil <| hK10 _ (AWP.weak (Weak.re (fr' := [(1, i64 key_1), (2, .pp [.sl (List.map G.api_Txn.av h_0.Txns)] 0), (5, .view 0 0 (List.map i64 out84).length), (6, bl may91), (7, i64 t86), (28, bl r104)]) (H' := ⟨1, [(0, (1, List.map i64 out84))], []⟩) [(0, 0)] [] rfl rfl rfl (.cons rfl rfl (.same (by simp)) dt trivial) ⟨.k, .k, ⟨_, rfl, .view rfl⟩, .k, .k, .k, trivial⟩) ?_)
      refine awp_cond rfl (fun hb105 => ?_) (fun hb105 => ?_)
      ·replace h := Sh.if_t h hb105
       refine awp_reg rfl <| AR.op rfl (aop_move (.inl rfl) rfl) <| AR.op rfl (aop_move (.inl rfl) rfl) <| AR.op (r := .clip (List.map i64 [t86])) rfl (aop_buildSlice rfl (xo := [.tmp 30]) rfl rfl rfl (by simp [AV.solid]) (by simp [AV.flat]) el37 ze37 (by decide)) <| AR.keep [1, 2, 6, 7, 29, 31] rfl ?_
       obtain ⟨out106, hout106, h⟩ := Sh.bind_some' h
       refine AR.op (r := .view 1 0 (List.map i64 out106).length) rfl (t_app_view i64 out84 [t86] out106 hout106 rfl et37 (fun _ => rfl) rfl rfl rfl rfl rfl rfl rfl) <| AR.op rfl (aop_move (.inr rfl) rfl) <| AR.nil ?_
       exact hK8 out106 _ h (Weak.re (fr' := [(1, i64 key_1), (2, .pp [.sl (List.map G.api_Txn.av h_0.Txns)] 0), (6, bl may91), (7, i64 t86), (5, .view 0 0 (List.map i64 out106).length)]) (H' := ⟨1, [(0, (1, List.map i64 out106))], []⟩) [(0, 1)] [] rfl rfl rfl (.cons rfl rfl (.same (by simp)) dt trivial) ⟨.k, .k, .k, .k, ⟨_, rfl, .view rfl⟩, trivial⟩)
      ·replace h := Sh.if_f h hb105
       refine awp_skip ?_
       exact hK8 out84 _ h (Weak.re (fr' := [(1, i64 key_1), (2, .pp [.sl (List.map G.api_Txn.av h_0.Txns)] 0), (6, bl may91), (7, i64 t86), (5, .view 0 0 (List.map i64 out84).length)]) (H' := ⟨1, [(0, (1, List.map i64 out84))], []⟩) [(0, 0)] [] rfl rfl rfl (.cons rfl rfl (.same (by simp)) dt trivial) ⟨.k, .k, .k, .k, ⟨_, rfl, .view rfl⟩, trivial⟩)
    ·replace h := Sh.if_f h hb93
     refine awp_exit ?_
     replace h := Sh.exit_eq h hx1
     exact hK5 out84 _ h (Weak.re (fr' := [(5, .view 0 0 (List.map i64 out84).length)]) (H' := ⟨1, [(0, (1, List.map i64 out84))], []⟩) [(0, 0)] [] rfl rfl rfl (.cons rfl rfl (.same (by simp)) dt trivial) ⟨⟨_, rfl, .view rfl⟩, trivial⟩)
   ·intro K11 hK11
    refine awp_reg rfl <| AR.op rfl (aop_move (.inl rfl) rfl) <| AR.op rfl (aop_move (.inl rfl) rfl) ?_
    rcases Bool.eq_false_or_eq_true (may85) with hb107 | hb107
    ·rw [hb107]
     replace h := Sh.if_t h hb107
     refine AR.op rfl (aop_move (.inl rfl) rfl) <| AR.keep [1, 2, 5, 6, 7, 12, 13] rfl <| AR.op rfl (aop_field_pp rfl rfl fd24_0 (by decide)) <| AR.op (r := .sl (List.map G.api_Txn.av h_0.Txns)) rfl (aop_load_pp rfl rfl sz22 rfl) <| AR.op rfl (t_len_sl G.api_Txn.av h_0.Txns rfl rfl el22) <| AR.keep [1, 2, 5, 6, 7, 12, 13, 14, 15, 16] rfl <| AR.op rfl (aop_lss rfl rfl rfl) <| AR.op rfl (aop_pick rfl rfl rfl) ?_
     refine AR.nil ?_
     exact hK11 (true, decide (t86 < (Sh.len h_0.Txns))) _ h (Weak.re (fr' := [(1, i64 key_1), (2, .pp [.sl (List.map G.api_Txn.av h_0.Txns)] 0), (5, .view 0 0 (List.map i64 out84).length), (6, bl true), (7, i64 t86), (18, bl (decide (t86 < (Sh.len h_0.Txns))))]) (H' := ⟨1, [(0, (1, List.map i64 out84))], []⟩) [(0, 0)] [] rfl rfl rfl (.cons rfl rfl (.same (by simp)) dt trivial) ⟨.k, .k, ⟨_, rfl, .view rfl⟩, .k, .k, .k, trivial⟩)
    ·rw [hb107]
     replace h := Sh.if_f h hb107
     refine AR.skip rfl <| AR.keep [1, 2, 5, 6, 7, 12, 13] rfl <| AR.skip rfl <| AR.skip rfl <| AR.skip rfl <| AR.keep [1, 2, 5, 6, 7, 12, 13, 14, 15, 16] rfl <| AR.skip rfl <| AR.op rfl (aop_pick rfl rfl rfl) ?_
     refine AR.nil ?_
     exact hK11 (false, false) _ h (Weak.re (fr' := [(1, i64 key_1), (2, .pp [.sl (List.map G.api_Txn.av h_0.Txns)] 0), (5, .view 0 0 (List.map i64 out84).length), (6, bl false), (7, i64 t86), (18, bl false)]) (H' := ⟨1, [(0, (1, List.map i64 out84))], []⟩) [(0, 0)] [] rfl rfl rfl (.cons rfl rfl (.same (by simp)) dt trivial) ⟨.k, .k, ⟨_, rfl, .view rfl⟩, .k, .k, .k, trivial⟩)
theorem inquestref09_Writers_ok {W0 : World} (hT : Tab W0) {h_0 : G.api_Hist} {key_1 : Int} {r : (List Int)} (h : G.inquestref09_Writers h_0 key_1 = some r) : Fun1 Tryd.prog W0 95 [G.api_Hist.av h_0, i64 key_1] (.sl (List.map i64 r)) :=
 (inquestref09_Writers_own hT h).give (Weak.e ⟨⟨_, rfl, .lendAll rfl rfl (by simp)⟩, trivial⟩) (by simp)


theorem inquestref09_Pairs_own {W0 : World} (hT : Tab W0) {h_0 : G.api_Hist} {r : (List G.api_Choice)} (h : G.inquestref09_Pairs h_0 = some r) : Fun2 Tryd.prog W0 74 [G.api_Hist.av h_0] (.view 0 0 (List.map G.api_Choice.av r).length) ⟨1, [(0, (3, List.map G.api_Choice.av r))], []⟩ := by
 refine fun2_of_awp Tryd.func74 rfl (by kernel_rfl) Tryd.ntmps74 (by simp) ?_
 unfold G.inquestref09_Pairs at h
 show AWP _ _ _ _ ⟨[(0, G.api_Hist.av h_0)], .empty⟩ _
 refine awp_seqK fun K1 hK1 => awp_reg rfl <| AR.op (r := .ref 0 0 0) rfl (aop_box 1 [G.api_Hist.av h_0] rfl rfl rfl (.inl ⟨rfl, rfl⟩)) <| AR.op rfl (aop_move (.inr rfl) rfl) <| AR.nil <| hK1 _ (AWP.weak (Weak.e (fr' := [(1, .pp [.sl (List.map G.api_Txn.av h_0.Txns)] 0)]) (H' := .empty) ⟨⟨_, rfl, .frzA rfl rfl rfl rfl (by simp)⟩, trivial⟩) ?_)
 refine awp_seqK fun K2 hK2 => awp_reg rfl <| AR.op rfl (aop_move (.inr rfl) rfl) <| AR.nil <| hK2 _ ?_
 refine awp_seqJ (fun (p : (List G.api_Choice)) => (⟨[(3, .view 0 0 (List.map G.api_Choice.av p).length)], ⟨1, [(0, (3, List.map G.api_Choice.av p))], []⟩⟩ : St)) (fun (p : (List G.api_Choice)) => G.inquestref09_Pairs_j1 p = some r) ?_ ?_
 ·rintro out381 h
  replace h : G.inquestref09_Pairs_j1 out381 = some r := h
  unfold G.inquestref09_Pairs_j1 at h
  show AWP _ _ _ _ ⟨[(3, .view 0 0 (List.map G.api_Choice.av out381).length)], ⟨1, [(0, (3, List.map G.api_Choice.av out381))], []⟩⟩ _
  refine awp_seqK fun K3 hK3 => awp_reg rfl <| AR.op rfl (aop_move (.inl rfl) rfl) <| AR.op rfl (aop_move (.inr rfl) rfl) <| AR.nil <| hK3 _ (AWP.weak (Weak.re (fr' := [(2, .view 0 0 (List.map G.api_Choice.av out381).length)]) (H' := ⟨1, [(0, (3, List.map G.api_Choice.av out381))], []⟩) [(0, 0)] [] rfl rfl rfl (.cons rfl rfl (.same (by simp)) dt trivial) ⟨⟨_, rfl, .view rfl⟩, trivial⟩) ?_)
  refine awp_ret ?_
  obtain rfl := Option.some.inj h
  refine ⟨.inr rfl, .view 0 0 (List.map G.api_Choice.av out381).length, rfl, ?_⟩
  exact Weak.re [(0, 0)] [] rfl rfl rfl (.cons rfl rfl (.same (by simp)) dt trivial) ⟨⟨_, rfl, .view rfl⟩, trivial⟩
 ·intro K4 hK4
  refine awp_seqK fun K5 hK5 => awp_reg rfl <| AR.op rfl (aop_move (.inr rfl) rfl) <| AR.nil <| hK5 _ ?_
  refine awp_block <| awp_iter (fun (p : (List G.api_Choice) × Int) => G.inquestref09_Pairs_b1 h_0 p.1 p.2) (fun (p : (List G.api_Choice) × Int) => (⟨[(1, .pp [.sl (List.map G.api_Txn.av h_0.Txns)] 0), (3, .view 0 0 (List.map G.api_Choice.av p.1).length), (4, i64 p.2)], ⟨1, [(0, (3, List.map G.api_Choice.av p.1))], []⟩⟩ : St)) h (Weak.re (fr' := [(1, .pp [.sl (List.map G.api_Txn.av h_0.Txns)] 0), (3, .view 0 0 (List.map G.api_Choice.av []).length), (4, i64 0)]) (H' := ⟨1, [(0, (3, List.map G.api_Choice.av []))], []⟩) [] [0] rfl rfl rfl (.fresh (by simp) dt trivial) ⟨.k, ⟨_, rfl, .nil (by simp)⟩, .k, trivial⟩) ?_
  ·skip
   rintro ⟨out508, key509⟩ o1 h hx1
   replace h : G.inquestref09_Pairs_b1 h_0 out508 key509 = some o1 := h
   unfold G.inquestref09_Pairs_b1 at h
   show AWP _ _ _ _ ⟨[(1, .pp [.sl (List.map G.api_Txn.av h_0.Txns)] 0), (3, .view 0 0 (List.map G.api_Choice.av out508).length), (4, i64 key509)], ⟨1, [(0, (3, List.map G.api_Choice.av out508))], []⟩⟩ _
   refine awp_seqK fun K6 hK6 => awp_seqK fun K7 hK7 => awp_reg rfl <| AR.op rfl (aop_move (.inl rfl) rfl) <| AR.op rfl (aop_lss rfl rfl rfl) <| AR.nil <| hK7 _ (AWP.weak (Weak.re (fr' := [(1, .pp [.sl (List.map G.api_Txn.av h_0.Txns)] 0), (3, .view 0 0 (List.map G.api_Choice.av out508).length), (4, i64 key509), (9, bl (decide (key509 < 16)))]) (H' := ⟨1, [(0, (3, List.map G.api_Choice.av out508))], []⟩) [(0, 0)] [] rfl rfl rfl (.cons rfl rfl (.same (by simp)) dt trivial) ⟨.k, ⟨_, rfl, .view rfl⟩, .k, .k, trivial⟩) ?_)
   refine awp_cond rfl (fun hb510 => ?_) (fun hb510 => ?_)
   ·replace h := Sh.if_t h hb510
    refine awp_skip <| hK6 _ (AWP.weak (Weak.re (fr' := [(1, .pp [.sl (List.map G.api_Txn.av h_0.Txns)] 0), (3, .view 0 0 (List.map G.api_Choice.av out508).length), (4, i64 key509)]) (H' := ⟨1, [(0, (3, List.map G.api_Choice.av out508))], []⟩) [(0, 0)] [] rfl rfl rfl (.cons rfl rfl (.same (by simp)) dt trivial) ⟨.k, ⟨_, rfl, .view rfl⟩, .k, trivial⟩) ?_)
    refine awp_seqJ (fun (p : (List G.api_Choice)) => (⟨[(1, .pp [.sl (List.map G.api_Txn.av h_0.Txns)] 0), (3, .view 0 0 (List.map G.api_Choice.av p).length), (4, i64 key509)], ⟨1, [(0, (3, List.map G.api_Choice.av p))], []⟩⟩ : St)) (fun (p : (List G.api_Choice)) => G.inquestref09_Pairs_j2 key509 p = some o1) ?_ ?_
    ·rintro out573 h
     replace h : G.inquestref09_Pairs_j2 key509 out573 = some o1 := h
     unfold G.inquestref09_Pairs_j2 at h
     show AWP _ _ _ _ ⟨[(1, .pp [.sl (List.map G.api_Txn.av h_0.Txns)] 0), (3, .view 0 0 (List.map G.api_Choice.av out573).length), (4, i64 key509)], ⟨1, [(0, (3, List.map G.api_Choice.av out573))], []⟩⟩ _
     refine awp_reg rfl <| AR.op rfl (aop_move (.inl rfl) rfl) <| AR.op rfl (aop_add rfl rfl rfl rfl) <| AR.op rfl (aop_move (.inr rfl) rfl) <| AR.nil ?_
     replace h := Sh.next_eq h
     exact ⟨_, h, Weak.re (fr' := [(1, .pp [.sl (List.map G.api_Txn.av h_0.Txns)] 0), (3, .view 0 0 (List.map G.api_Choice.av out573).length), (4, i64 (w64 (key509 + 1)))]) (H' := ⟨1, [(0, (3, List.map G.api_Choice.av out573))], []⟩) [(0, 0)] [] rfl rfl rfl (.cons rfl rfl (.same (by simp)) dt trivial) ⟨.k, ⟨_, rfl, .view rfl⟩, .k, trivial⟩⟩
    ·intro K8 hK8
     refine awp_block <| awp_seqK fun K9 hK9 => awp_reg rfl <| AR.op (r := G.api_Hist.av h_0) rfl (aop_load_pp rfl rfl sz24 rfl) <| AR.op rfl (aop_move (.inl rfl) rfl) ?_
     obtain ⟨r575, hr575, h⟩ := Sh.bind_some' h
     refine AR.op (r := .sl (List.map i64 r575)) rfl (aop_call1 rfl rfl (by simp) (inquestref09_Writers_ok hT hr575)) <| AR.keep [1, 3, 4, 14] rfl <| AR.op rfl (aop_move (.inr rfl) rfl) <| AR.nil <| hK9 _ (AWP.weak (Weak.re (fr' := [(1, .pp [.sl (List.map G.api_Txn.av h_0.Txns)] 0), (3, .view 0 0 (List.map G.api_Choice.av out508).length), (4, i64 key509), (5, .sl (List.map i64 r575))]) (H' := ⟨1, [(0, (3, List.map G.api_Choice.av out508))], []⟩) [(0, 0)] [] rfl rfl rfl (.cons rfl rfl (.same (by simp)) dt trivial) ⟨.k, ⟨_, rfl, .view rfl⟩, .k, ⟨.sl (List.map i64 r575), rfl, .sm⟩, trivial⟩) ?_)
     refine awp_seqK fun K10 hK10 => awp_reg rfl <| AR.op rfl (aop_move (.inr rfl) rfl) <| AR.nil <| hK10 _ ?_
     refine awp_block <| awp_iter (fun (p : (List G.api_Choice) × Int) => G.inquestref09_Pairs_b2 key509 r575 p.1 p.2) (fun (p : (List G.api_Choice) × Int) => (⟨[(1, .pp [.sl (List.map G.api_Txn.av h_0.Txns)] 0), (3, .view 0 0 (List.map G.api_Choice.av p.1).length), (4, i64 key509), (5, .sl (List.map i64 r575)), (6, i64 p.2)], ⟨1, [(0, (3, List.map G.api_Choice.av p.1))], []⟩⟩ : St)) h (Weak.re (fr' := [(1, .pp [.sl (List.map G.api_Txn.av h_0.Txns)] 0), (3, .view 0 0 (List.map G.api_Choice.av out508).length), (4, i64 key509), (5, .sl (List.map i64 r575)), (6, i64 0)]) (H' := ⟨1, [(0, (3, List.map G.api_Choice.av out508))], []⟩) [(0, 0)] [] rfl rfl rfl (.cons rfl rfl (.same (by simp)) dt trivial) ⟨.k, ⟨_, rfl, .view rfl⟩, .k, ⟨.sl (List.map i64 r575), rfl, .sm⟩, .k, trivial⟩) ?_
     ·skip
      rintro ⟨out616, i617⟩ o2 h hx2
      replace h : G.inquestref09_Pairs_b2 key509 r575 out616 i617 = some o2 := h
      unfold G.inquestref09_Pairs_b2 at h
      show AWP _ _ _ _ ⟨[(1, .pp [.sl (List.map G.api_Txn.av h_0.Txns)] 0), (3, .view 0 0 (List.map G.api_Choice.av out616).length), (4, i64 key509), (5, .sl (List.map i64 r575)), (6, i64 i617)], ⟨1, [(0, (3, List.map G.api_Choice.av out616))], []⟩⟩ _
      refine awp_seqK fun K11 hK11 => awp_seqK fun K12 hK12 => awp_reg rfl <| AR.op rfl (aop_move (.inl rfl) rfl) <| AR.op rfl (aop_move (.inl rfl) rfl) <| AR.op rfl (t_len_sl i64 r575 rfl rfl el37) <| AR.keep [1, 3, 4, 5, 6, 15, 17] rfl <| AR.op rfl (aop_lss rfl rfl rfl) ?_
      refine AR.nil <| hK12 _ (AWP.weak (Weak.re (fr' := [(1, .pp [.sl (List.map G.api_Txn.av h_0.Txns)] 0), (3, .view 0 0 (List.map G.api_Choice.av out616).length), (4, i64 key509), (5, .sl (List.map i64 r575)), (6, i64 i617), (18, bl (decide (i617 < (Sh.len r575))))]) (H' := ⟨1, [(0, (3, List.map G.api_Choice.av out616))], []⟩) [(0, 0)] [] rfl rfl rfl (.cons rfl rfl (.same (by simp)) dt trivial) ⟨.k, ⟨_, rfl, .view rfl⟩, .k, ⟨.sl (List.map i64 r575), rfl, .sm⟩, .k, .k, trivial⟩) ?_)
      refine awp_cond rfl (fun hb618 => ?_) (fun hb618 => ?_)
      ·replace h := Sh.if_t h hb618
       refine awp_skip <| hK11 _ (AWP.weak (Weak.re (fr' := [(1, .pp [.sl (List.map G.api_Txn.av h_0.Txns)] 0), (3, .view 0 0 (List.map G.api_Choice.av out616).length), (4, i64 key509), (5, .sl (List.map i64 r575)), (6, i64 i617)]) (H' := ⟨1, [(0, (3, List.map G.api_Choice.av out616))], []⟩) [(0, 0)] [] rfl rfl rfl (.cons rfl rfl (.same (by simp)) dt trivial) ⟨.k, ⟨_, rfl, .view rfl⟩, .k, ⟨.sl (List.map i64 r575), rfl, .sm⟩, .k, trivial⟩) ?_)
       refine awp_seqJ (fun (p : (List G.api_Choice)) => (⟨[(1, .pp [.sl (List.map G.api_Txn.av h_0.Txns)] 0), (3, .view 0 0 (List.map G.api_Choice.av p).length), (4, i64 key509), (5, .sl (List.map i64 r575)), (6, i64 i617)], ⟨1, [(0, (3, List.map G.api_Choice.av p))], []⟩⟩ : St)) (fun (p : (List G.api_Choice)) => G.inquestref09_Pairs_j3 i617 p = some o2) ?_ ?_
       ·rintro out638 h
        replace h : G.inquestref09_Pairs_j3 i617 out638 = some o2 := h
        unfold G.inquestref09_Pairs_j3 at h
        show AWP _ _ _ _ ⟨[(1, .pp [.sl (List.map G.api_Txn.av h_0.Txns)] 0), (3, .view 0 0 (List.map G.api_Choice.av out638).length), (4, i64 key509), (5, .sl (List.map i64 r575)), (6, i64 i617)], ⟨1, [(0, (3, List.map G.api_Choice.av out638))], []⟩⟩ _
        refine awp_reg rfl <| AR.op rfl (aop_move (.inl rfl) rfl) <| AR.op rfl (aop_add rfl rfl rfl rfl) <| AR.op rfl (aop_move (.inr rfl) rfl) <| AR.nil ?_
        replace h := Sh.next_eq h
        exact ⟨_, h, Weak.re (fr' := [(1, .pp [.sl (List.map G.api_Txn.av h_0.Txns)] 0), (3, .view 0 0 (List.map G.api_Choice.av out638).length), (4, i64 key509), (5, .sl (List.map i64 r575)), (6, i64 (w64 (i617 + 1)))]) (H' := ⟨1, [(0, (3, List.map G.api_Choice.av out638))], []⟩) [(0, 0)] [] rfl rfl rfl (.cons rfl rfl (.same (by simp)) dt trivial) ⟨.k, ⟨_, rfl, .view rfl⟩, .k, ⟨.sl (List.map i64 r575), rfl, .sm⟩, .k, trivial⟩⟩
       ·intro K13 hK13
        refine awp_block <| awp_seqK fun K14 hK14 => awp_reg rfl <| AR.op rfl (aop_move (.inl rfl) rfl) <| AR.op rfl (aop_add rfl rfl rfl rfl) <| AR.op rfl (aop_move (.inr rfl) rfl) <| AR.nil <| hK14 _ (AWP.weak (Weak.re (fr' := [(1, .pp [.sl (List.map G.api_Txn.av h_0.Txns)] 0), (3, .view 0 0 (List.map G.api_Choice.av out616).length), (4, i64 key509), (5, .sl (List.map i64 r575)), (6, i64 i617), (7, i64 (w64 (i617 + 1)))]) (H' := ⟨1, [(0, (3, List.map G.api_Choice.av out616))], []⟩) [(0, 0)] [] rfl rfl rfl (.cons rfl rfl (.same (by simp)) dt trivial) ⟨.k, ⟨_, rfl, .view rfl⟩, .k, ⟨.sl (List.map i64 r575), rfl, .sm⟩, .k, .k, trivial⟩) ?_)
        refine awp_block <| awp_iter (fun (p : (List G.api_Choice) × Int) => G.inquestref09_Pairs_b3 key509 r575 i617 p.1 p.2) (fun (p : (List G.api_Choice) × Int) => (⟨[(1, .pp [.sl (List.map G.api_Txn.av h_0.Txns)] 0), (3, .view 0 0 (List.map G.api_Choice.av p.1).length), (4, i64 key509), (5, .sl (List.map i64 r575)), (6, i64 i617), (7, i64 p.2)], ⟨1, [(0, (3, List.map G.api_Choice.av p.1))], []⟩⟩ : St)) h (Weak.re (fr' := [(1, .pp [.sl (List.map G.api_Txn.av h_0.Txns)] 0), (3, .view 0 0 (List.map G.api_Choice.av out616).length), (4, i64 key509), (5, .sl (List.map i64 r575)), (6, i64 i617), (7, i64 (w64 (i617 + 1)))]) (H' := ⟨1, [(0, (3, List.map G.api_Choice.av out616))], []⟩) [(0, 0)] [] rfl rfl rfl (.cons rfl rfl (.same (by simp)) dt trivial) ⟨.k, ⟨_, rfl, .view rfl⟩, .k, ⟨.sl (List.map i64 r575), rfl, .sm⟩, .k, .k, trivial⟩) ?_
        ·skip
         rintro ⟨out651, k652⟩ o3 h hx3
         replace h : G.inquestref09_Pairs_b3 key509 r575 i617 out651 k652 = some o3 := h
         unfold G.inquestref09_Pairs_b3 at h
         show AWP _ _ _ _ ⟨[(1, .pp [.sl (List.map G.api_Txn.av h_0.Txns)] 0), (3, .view 0 0 (List.map G.api_Choice.av out651).length), (4, i64 key509), (5, .sl (List.map i64 r575)), (6, i64 i617), (7, i64 k652)], ⟨1, [(0, (3, List.map G.api_Choice.av out651))], []⟩⟩ _
         refine awp_seqK fun K15 hK15 => awp_seqK fun K16 hK16 => awp_reg rfl <| AR.op rfl (aop_move (.inl rfl) rfl) <| AR.op rfl (aop_move (.inl rfl) rfl) <| AR.op rfl (t_len_sl i64 r575 rfl rfl el37) <| AR.keep [1, 3, 4, 5, 6, 7, 23, 25] rfl <| AR.op rfl (aop_lss rfl rfl rfl) ?_
         refine AR.nil <| hK16 _ (AWP.weak (Weak.re (fr' := [(1, .pp [.sl (List.map G.api_Txn.av h_0.Txns)] 0), (3, .view 0 0 (List.map G.api_Choice.av out651).length), (4, i64 key509), (5, .sl (List.map i64 r575)), (6, i64 i617), (7, i64 k652), (26, bl (decide (k652 < (Sh.len r575))))]) (H' := ⟨1, [(0, (3, List.map G.api_Choice.av out651))], []⟩) [(0, 0)] [] rfl rfl rfl (.cons rfl rfl (.same (by simp)) dt trivial) ⟨.k, ⟨_, rfl, .view rfl⟩, .k, ⟨.sl (List.map i64 r575), rfl, .sm⟩, .k, .k, .k, trivial⟩) ?_)
         refine awp_cond rfl (fun hb653 => ?_) (fun hb653 => ?_)
         ·replace h := Sh.if_t h hb653
          refine awp_skip <| hK15 _ (AWP.weak (Weak.re (fr' := [(1, .pp [.sl (List.map G.api_Txn.av h_0.Txns)] 0), (3, .view 0 0 (List.map G.api_Choice.av out651).length), (4, i64 key509), (5, .sl (List.map i64 r575)), (6, i64 i617), (7, i64 k652)]) (H' := ⟨1, [(0, (3, List.map G.api_Choice.av out651))], []⟩) [(0, 0)] [] rfl rfl rfl (.cons rfl rfl (.same (by simp)) dt trivial) ⟨.k, ⟨_, rfl, .view rfl⟩, .k, ⟨.sl (List.map i64 r575), rfl, .sm⟩, .k, .k, trivial⟩) ?_)
          refine awp_seqK fun K17 hK17 => awp_block <| awp_any [(true, false), (true, false), (true, false), (true, false), (true, false), (true, false), (true, false), (true, false), (true, false), (true, false), (true, false), (true, false), (false, true), (true, false)] (by kernel_rfl) (by kernel_rfl) rfl ?_
          refine ARH.dry rfl (fun _ => aop_move (.inl rfl) rfl) <| ARH.dry rfl (fun _ => aop_move (.inl rfl) rfl) <| ARH.dry rfl (fun _ => aop_move (.inl rfl) rfl) <| ARH.keep [1, 4, 5, 6, 7, 29, 30, 31] rfl <| ARH.dry rfl (fun _ => aop_move (.inl rfl) rfl) ?_
          obtain ⟨x659, hx659, h⟩ := Sh.bind_some' h
          obtain ⟨k660, hi660, hl660⟩ := Sh.idx_some hx659
          refine ARH.dry rfl (fun _ => t_index_sl i64 r575 hi660 hl660 rfl rfl rfl el37 rfl) <| ARH.dry (r := i64 x659) rfl (fun _ => aop_load_pp rfl rfl sz3 rfl) <| ARH.keep [1, 4, 5, 6, 7, 29, 30, 34] rfl <| ARH.dry rfl (fun _ => aop_move (.inl rfl) rfl) <| ARH.dry rfl (fun _ => aop_move (.inl rfl) rfl) ?_
          obtain ⟨x661, hx661, h⟩ := Sh.bind_some' h
          obtain ⟨k662, hi662, hl662⟩ := Sh.idx_some hx661
          refine ARH.dry rfl (fun _ => t_index_sl i64 r575 hi662 hl662 rfl rfl rfl el37 rfl) <| ARH.keep [1, 4, 5, 6, 7, 29, 30, 34, 37] rfl <| ARH.dry (r := i64 x661) rfl (fun _ => aop_load_pp rfl rfl sz3 rfl) <| ARH.dry (r := .agg [i64 key509, i64 x659, i64 x661]) rfl (fun _ => aop_build rfl bd54 rfl rfl rfl) <| ARH.dry (r := .clip (List.map G.api_Choice.av ([(G.api_Choice.mk key509 x659 x661)] : List G.api_Choice))) rfl (fun _ => aop_buildSlice rfl (xo := [.tmp 39]) rfl rfl rfl (by simp) (by simp) el51 ze51 (by decide)) <| ARH.keep [1, 4, 5, 6, 7, 29, 40] rfl ?_
          obtain ⟨out663, hout663, h⟩ := Sh.bind_some' h
          refine ARH.loud (r := .view 1 0 (List.map G.api_Choice.av out663).length) rfl rfl (t_app_view G.api_Choice.av out651 ([(G.api_Choice.mk key509 x659 x661)] : List G.api_Choice) out663 hout663 rfl et51 (fun _ => rfl) rfl rfl rfl rfl rfl rfl rfl) <| ARH.dry rfl (fun _ => aop_move (.inr rfl) rfl) <| ARH.nil <| hK17 _ (AWP.weak (Weak.re (fr' := [(1, .pp [.sl (List.map G.api_Txn.av h_0.Txns)] 0), (4, i64 key509), (5, .sl (List.map i64 r575)), (6, i64 i617), (7, i64 k652), (3, .view 0 0 (List.map G.api_Choice.av out663).length)]) (H' := ⟨1, [(0, (3, List.map G.api_Choice.av out663))], []⟩) [(0, 1)] [] rfl rfl rfl (.cons rfl rfl (.same (by simp)) dt trivial) ⟨.k, .k, ⟨.sl (List.map i64 r575), rfl, .sm⟩, .k, .k, ⟨_, rfl, .view rfl⟩, trivial⟩) ?_)
          refine awp_reg rfl <| AR.op rfl (aop_move (.inl rfl) rfl) <| AR.op rfl (aop_add rfl rfl rfl rfl) <| AR.op rfl (aop_move (.inr rfl) rfl) <| AR.nil ?_
          replace h := Sh.next_eq h
          exact ⟨_, h, Weak.re (fr' := [(1, .pp [.sl (List.map G.api_Txn.av h_0.Txns)] 0), (3, .view 0 0 (List.map G.api_Choice.av out663).length), (4, i64 key509), (5, .sl (List.map i64 r575)), (6, i64 i617), (7, i64 (w64 (k652 + 1)))]) (H' := ⟨1, [(0, (3, List.map G.api_Choice.av out663))], []⟩) [(0, 0)] [] rfl rfl rfl (.cons rfl rfl (.same (by simp)) dt trivial) ⟨.k, ⟨_, rfl, .view rfl⟩, .k, ⟨.sl (List.map i64 r575), rfl, .sm⟩, .k, .k, trivial⟩⟩
         ·replace h := Sh.if_f h hb653
          refine awp_exit ?_
          replace h := Sh.exit_eq h hx3
          exact hK13 out651 _ h (Weak.re (fr' := [(1, .pp [.sl (List.map G.api_Txn.av h_0.Txns)] 0), (3, .view 0 0 (List.map G.api_Choice.av out651).length), (4, i64 key509), (5, .sl (List.map i64 r575)), (6, i64 i617)]) (H' := ⟨1, [(0, (3, List.map G.api_Choice.av out651))], []⟩) [(0, 0)] [] rfl rfl rfl (.cons rfl rfl (.same (by simp)) dt trivial) ⟨.k, ⟨_, rfl, .view rfl⟩, .k, ⟨.sl (List.map i64 r575), rfl, .sm⟩, .k, trivial⟩)
      ·replace h := Sh.if_f h hb618
       refine awp_exit ?_
       replace h := Sh.exit_eq h hx2
       exact hK8 out616 _ h (Weak.re (fr' := [(1, .pp [.sl (List.map G.api_Txn.av h_0.Txns)] 0), (3, .view 0 0 (List.map G.api_Choice.av out616).length), (4, i64 key509)]) (H' := ⟨1, [(0, (3, List.map G.api_Choice.av out616))], []⟩) [(0, 0)] [] rfl rfl rfl (.cons rfl rfl (.same (by simp)) dt trivial) ⟨.k, ⟨_, rfl, .view rfl⟩, .k, trivial⟩)
   ·replace h := Sh.if_f h hb510
    refine awp_exit ?_
    replace h := Sh.exit_eq h hx1
    exact hK4 out508 _ h (Weak.re (fr' := [(3, .view 0 0 (List.map G.api_Choice.av out508).length)]) (H' := ⟨1, [(0, (3, List.map G.api_Choice.av out508))], []⟩) [(0, 0)] [] rfl rfl rfl (.cons rfl rfl (.same (by simp)) dt trivial) ⟨⟨_, rfl, .view rfl⟩, trivial⟩)
theorem inquestref09_Pairs_ok {W0 : World} (hT : Tab W0) {h_0 : G.api_Hist} {r : (List G.api_Choice)} (h : G.inquestref09_Pairs h_0 = some r) : Fun1 Tryd.prog W0 74 [G.api_Hist.av h_0] (.sl (List.map G.api_Choice.av r)) :=
 (inquestref09_Pairs_own hT h).give (Weak.e ⟨⟨_, rfl, .lendAll rfl rfl (by simp)⟩, trivial⟩) (by simp)

end Wk
