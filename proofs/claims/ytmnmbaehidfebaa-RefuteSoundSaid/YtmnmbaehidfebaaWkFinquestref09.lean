/- That the functions of a package do what their plain functions say. -/
import Derived.Test.YtmnmbaehidfebaaSh
import Derived.Test.YtmnmbaehidfebaaWkFFacts
import Derived.Test.YtmnmbaehidfebaaWkFinquestref08
open Go Go.Av Go.Proofs
set_option linter.unusedVariables false
set_option maxHeartbeats 8000000
set_option maxRecDepth 20000
namespace Wk
theorem inquestref09_Writers_own {W0 : World} (hT : Tab W0) {h_0 : G.api_Hist} {key_1 : Int} {r : (List Int)} (h : G.inquestref09_Writers h_0 key_1 = some r) : Fun2 Try.prog W0 62 [G.api_Hist.av h_0, i64 key_1] (.view 0 0 (List.map i64 r).length) ⟨1, [(0, (1, List.map i64 r))], []⟩ := by
 refine fun2_of_awp Try.func62 rfl (by kernel_rfl) Try.ntmps62 (by simp) ?_
 unfold G.inquestref09_Writers at h
 show AWP _ _ _ _ ⟨[(0, G.api_Hist.av h_0), (1, i64 key_1)], .empty⟩ _
 refine awp_seqK fun K1 hK1 => awp_reg rfl <| AR.op (r := .ref 0 0 0) rfl (aop_box 1 [G.api_Hist.av h_0] rfl rfl rfl (.inl ⟨rfl, rfl⟩)) <| AR.op rfl (aop_move (.inr rfl) rfl) <| AR.nil <| hK1 _ (AWP.weak (Weak.e (fr' := [(1, i64 key_1), (2, .pp [.sl (List.map G.api_Txn.av h_0.Txns)] 0)]) (H' := .empty) ⟨.k, ⟨_, rfl, .frzA rfl rfl rfl rfl (by simp)⟩, trivial⟩) ?_)
 refine awp_seqK fun K2 hK2 => awp_reg rfl <| AR.op rfl (aop_move (.inr rfl) rfl) <| AR.nil <| hK2 _ ?_
 refine awp_seqK fun K3 hK3 => awp_reg rfl <| AR.op (r := G.api_Hist.av h_0) rfl (aop_load_pp rfl rfl sz24 rfl) ?_
 obtain ⟨r33, hr33, h⟩ := Sh.bind_some' h
 refine AR.op (r := bl r33) rfl (aop_call1 rfl rfl (by simp) (inquestref08_Right_ok hT hr33)) <| AR.op rfl (aop_move (.inr rfl) rfl) <| AR.nil <| hK3 _ (AWP.weak (Weak.kt [1, 2, 5, 6] rfl) ?_)
 refine awp_seqJ (fun (p : (List Int)) => (⟨[(5, .view 0 0 (List.map i64 p).length)], ⟨1, [(0, (1, List.map i64 p))], []⟩⟩ : St)) (fun (p : (List Int)) => G.inquestref09_Writers_j1 p = some r) ?_ ?_
 ·rintro out64 h
  replace h : G.inquestref09_Writers_j1 out64 = some r := h
  unfold G.inquestref09_Writers_j1 at h
  refine awp_seqK fun K4 hK4 => awp_reg rfl <| AR.op rfl (aop_move (.inl rfl) rfl) <| AR.op rfl (aop_move (.inr rfl) rfl) <| AR.nil <| hK4 _ (AWP.weak (Weak.kt [4] rfl) ?_)
  refine awp_ret ?_
  obtain rfl := Option.some.inj h
  refine ⟨.inr rfl, .view 0 0 (List.map i64 out64).length, rfl, ?_⟩
  exact Weak.re [(0, 0)] [] rfl rfl rfl (.cons rfl rfl (.same (by simp)) dt trivial) ⟨⟨_, rfl, .view rfl⟩, trivial⟩
 ·intro K5 hK5
  refine awp_seqK fun K6 hK6 => awp_reg rfl <| AR.op rfl (aop_move (.inr rfl) rfl) <| AR.nil <| hK6 _ ?_
  refine awp_block <| awp_iter (fun (p : (List Int) × Bool × Int) => G.inquestref09_Writers_b1 h_0 key_1 p.1 p.2.1 p.2.2) (fun (p : (List Int) × Bool × Int) => (⟨[(1, i64 key_1), (2, .pp [.sl (List.map G.api_Txn.av h_0.Txns)] 0), (5, .view 0 0 (List.map i64 p.1).length), (6, bl p.2.1), (7, i64 p.2.2)], ⟨1, [(0, (1, List.map i64 p.1))], []⟩⟩ : St)) h (Weak.re [] [0] rfl rfl rfl (.fresh (by simp) dt trivial) ⟨.k, .k, ⟨_, rfl, .nil (by simp)⟩, .k, .k, trivial⟩) ?_
  ·skip
   rintro ⟨out84, may85, t86⟩ o1 h hx1
   replace h : G.inquestref09_Writers_b1 h_0 key_1 out84 may85 t86 = some o1 := h
   unfold G.inquestref09_Writers_b1 at h
   refine awp_seqK fun K7 hK7 => awp_seqJ (fun (p : Bool × Bool) => (⟨[(1, i64 key_1), (2, .pp [.sl (List.map G.api_Txn.av h_0.Txns)] 0), (5, .view 0 0 (List.map i64 out84).length), (6, bl p.1), (7, i64 t86), (18, bl p.2)], ⟨1, [(0, (1, List.map i64 out84))], []⟩⟩ : St)) (fun (p : Bool × Bool) => G.inquestref09_Writers_j2 h_0 key_1 out84 t86 p.1 p.2 = some o1) ?_ ?_
   ·rintro ⟨may91, v92⟩ h
    replace h : G.inquestref09_Writers_j2 h_0 key_1 out84 t86 may91 v92 = some o1 := h
    unfold G.inquestref09_Writers_j2 at h
    refine awp_cond rfl (fun hb93 => ?_) (fun hb93 => ?_)
    ·replace h := Sh.if_t h hb93
     refine awp_skip <| hK7 _ (AWP.weak (Weak.kt [1, 2, 5, 6, 7] rfl) ?_)
     refine awp_seqJ (fun (p : (List Int)) => (⟨[(1, i64 key_1), (2, .pp [.sl (List.map G.api_Txn.av h_0.Txns)] 0), (6, bl may91), (7, i64 t86), (5, .view 0 0 (List.map i64 p).length)], ⟨1, [(0, (1, List.map i64 p))], []⟩⟩ : St)) (fun (p : (List Int)) => G.inquestref09_Writers_j3 t86 may91 p = some o1) ?_ ?_
     ·rintro out98 h
      replace h : G.inquestref09_Writers_j3 t86 may91 out98 = some o1 := h
      unfold G.inquestref09_Writers_j3 at h
      refine awp_reg rfl <| AR.op rfl (aop_move (.inl rfl) rfl) <| AR.op rfl (aop_add rfl rfl rfl rfl) <| AR.op rfl (aop_move (.inr rfl) rfl) <| AR.nil ?_
      replace h := Sh.next_eq h
      exact ⟨_, h, Weak.kt [1, 2, 5, 6, 7] rfl⟩
     ·intro K8 hK8
      refine awp_block <| awp_seqK fun K9 hK9 => awp_reg rfl <| AR.op rfl (aop_field_pp rfl rfl fd24_0 (by decide)) <| AR.op (r := .sl (List.map G.api_Txn.av h_0.Txns)) rfl (aop_load_pp rfl rfl sz22 rfl) <| AR.op rfl (aop_move (.inl rfl) rfl) <| AR.keep [1, 2, 5, 6, 7, 22, 23] rfl ?_
      obtain ⟨x102, hx102, h⟩ := Sh.bind_some' h
      obtain ⟨k103, hi103, hl103⟩ := Sh.idx_some hx102
      refine AR.op rfl (t_index_sl G.api_Txn.av h_0.Txns hi103 hl103 rfl rfl rfl el22 rfl) <| AR.op (r := G.api_Txn.av x102) rfl (aop_load_pp rfl rfl sz73 rfl) <| AR.op rfl (aop_move (.inl rfl) rfl) <| AR.keep [1, 2, 5, 6, 7, 25, 26] rfl ?_
      obtain ⟨r104, hr104, h⟩ := Sh.bind_some' h
      refine AR.op (r := bl r104) rfl (aop_call1 rfl rfl (by simp) (inquestref08_Writes_ok hT hr104)) <| AR.op rfl (aop_move (.inr rfl) rfl) <| AR.nil <| hK9 _ (AWP.weak (Weak.kt [1, 2, 5, 6, 7, 8] rfl) ?_)
      refine awp_seqK fun K10 hK10 => awp_reg rfl <| AR.op rfl (aop_move (.inl rfl) rfl) <| AR.nil <| hK10 _ (AWP.weak (Weak.kt [1, 2, 5, 6, 7, 28] rfl) ?_)
      refine awp_cond rfl (fun hb105 => ?_) (fun hb105 => ?_)
      ·replace h := Sh.if_t h hb105
       refine awp_reg rfl <| AR.op rfl (aop_move (.inl rfl) rfl) <| AR.op rfl (aop_move (.inl rfl) rfl) <| AR.op (r := .clip (List.map i64 [t86])) rfl (aop_buildSlice rfl (xo := [.tmp 30]) rfl rfl rfl (by simp [AV.solid]) (by simp [AV.flat]) el44 ze44 (by decide)) <| AR.keep [1, 2, 6, 7, 29, 31] rfl ?_
       obtain ⟨out106, hout106, h⟩ := Sh.bind_some' h
       refine AR.op (r := .view 1 0 (List.map i64 out106).length) rfl (t_app_view i64 out84 [t86] out106 hout106 rfl et44 (fun _ => rfl) rfl rfl rfl rfl rfl rfl rfl) <| AR.op rfl (aop_move (.inr rfl) rfl) <| AR.nil ?_
       exact hK8 out106 _ h (Weak.re [(0, 1)] [] rfl rfl rfl (.cons rfl rfl (.same (by simp)) dt trivial) ⟨.k, .k, .k, .k, ⟨_, rfl, .view rfl⟩, trivial⟩)
      ·replace h := Sh.if_f h hb105
       refine awp_skip ?_
       exact hK8 out84 _ h (Weak.kt [1, 2, 6, 7, 5] rfl)
    ·replace h := Sh.if_f h hb93
     refine awp_exit ?_
     replace h := Sh.exit_eq h hx1
     exact hK5 out84 _ h (Weak.kt [5] rfl)
   ·intro K11 hK11
    refine awp_reg rfl <| AR.op rfl (aop_move (.inl rfl) rfl) <| AR.op rfl (aop_move (.inl rfl) rfl) ?_
    rcases Bool.eq_false_or_eq_true (may85) with hb107 | hb107
    ·rw [hb107]
     replace h := Sh.if_t h hb107
     refine AR.op rfl (aop_move (.inl rfl) rfl) <| AR.keep [1, 2, 5, 6, 7, 12, 13] rfl <| AR.op rfl (aop_field_pp rfl rfl fd24_0 (by decide)) <| AR.op (r := .sl (List.map G.api_Txn.av h_0.Txns)) rfl (aop_load_pp rfl rfl sz22 rfl) <| AR.op rfl (t_len_sl G.api_Txn.av h_0.Txns rfl rfl el22) <| AR.keep [1, 2, 5, 6, 7, 12, 13, 14, 15, 16] rfl <| AR.op rfl (aop_lss rfl rfl rfl) <| AR.op rfl (aop_pick rfl rfl rfl) ?_
     refine AR.nil ?_
     exact hK11 (true, decide (t86 < (Sh.len h_0.Txns))) _ h (Weak.kt [1, 2, 5, 6, 7, 18] rfl)
    ·rw [hb107]
     replace h := Sh.if_f h hb107
     refine AR.skip rfl <| AR.keep [1, 2, 5, 6, 7, 12, 13] rfl <| AR.skip rfl <| AR.skip rfl <| AR.skip rfl <| AR.keep [1, 2, 5, 6, 7, 12, 13, 14, 15, 16] rfl <| AR.skip rfl <| AR.op rfl (aop_pick rfl rfl rfl) ?_
     refine AR.nil ?_
     exact hK11 (false, false) _ h (Weak.kt [1, 2, 5, 6, 7, 18] rfl)
theorem inquestref09_Writers_ok {W0 : World} (hT : Tab W0) {h_0 : G.api_Hist} {key_1 : Int} {r : (List Int)} (h : G.inquestref09_Writers h_0 key_1 = some r) : Fun1 Try.prog W0 62 [G.api_Hist.av h_0, i64 key_1] (.sl (List.map i64 r)) :=
 (inquestref09_Writers_own hT h).give (Weak.e ⟨⟨_, rfl, .lendAll rfl rfl (by simp)⟩, trivial⟩) (by simp)


theorem inquestref09_Pairs_own {W0 : World} (hT : Tab W0) {h_0 : G.api_Hist} {r : (List G.api_Choice)} (h : G.inquestref09_Pairs h_0 = some r) : Fun2 Try.prog W0 43 [G.api_Hist.av h_0] (.view 0 0 (List.map G.api_Choice.av r).length) ⟨1, [(0, (3, List.map G.api_Choice.av r))], []⟩ := by
 refine fun2_of_awp Try.func43 rfl (by kernel_rfl) Try.ntmps43 (by simp) ?_
 unfold G.inquestref09_Pairs at h
 show AWP _ _ _ _ ⟨[(0, G.api_Hist.av h_0)], .empty⟩ _
 refine awp_seqK fun K1 hK1 => awp_reg rfl <| AR.op (r := .ref 0 0 0) rfl (aop_box 1 [G.api_Hist.av h_0] rfl rfl rfl (.inl ⟨rfl, rfl⟩)) <| AR.op rfl (aop_move (.inr rfl) rfl) <| AR.nil <| hK1 _ (AWP.weak (Weak.e (fr' := [(1, .pp [.sl (List.map G.api_Txn.av h_0.Txns)] 0)]) (H' := .empty) ⟨⟨_, rfl, .frzA rfl rfl rfl rfl (by simp)⟩, trivial⟩) ?_)
 refine awp_seqK fun K2 hK2 => awp_reg rfl <| AR.op rfl (aop_move (.inr rfl) rfl) <| AR.nil <| hK2 _ ?_
 refine awp_seqJ (fun (p : (List G.api_Choice)) => (⟨[(3, .view 0 0 (List.map G.api_Choice.av p).length)], ⟨1, [(0, (3, List.map G.api_Choice.av p))], []⟩⟩ : St)) (fun (p : (List G.api_Choice)) => G.inquestref09_Pairs_j1 p = some r) ?_ ?_
 ·rintro out381 h
  replace h : G.inquestref09_Pairs_j1 out381 = some r := h
  unfold G.inquestref09_Pairs_j1 at h
  refine awp_seqK fun K3 hK3 => awp_reg rfl <| AR.op rfl (aop_move (.inl rfl) rfl) <| AR.op rfl (aop_move (.inr rfl) rfl) <| AR.nil <| hK3 _ (AWP.weak (Weak.kt [2] rfl) ?_)
  refine awp_ret ?_
  obtain rfl := Option.some.inj h
  refine ⟨.inr rfl, .view 0 0 (List.map G.api_Choice.av out381).length, rfl, ?_⟩
  exact Weak.re [(0, 0)] [] rfl rfl rfl (.cons rfl rfl (.same (by simp)) dt trivial) ⟨⟨_, rfl, .view rfl⟩, trivial⟩
 ·intro K4 hK4
  refine awp_seqK fun K5 hK5 => awp_reg rfl <| AR.op rfl (aop_move (.inr rfl) rfl) <| AR.nil <| hK5 _ ?_
  refine awp_block <| awp_iter (fun (p : (List G.api_Choice) × Int) => G.inquestref09_Pairs_b1 h_0 p.1 p.2) (fun (p : (List G.api_Choice) × Int) => (⟨[(1, .pp [.sl (List.map G.api_Txn.av h_0.Txns)] 0), (3, .view 0 0 (List.map G.api_Choice.av p.1).length), (4, i64 p.2)], ⟨1, [(0, (3, List.map G.api_Choice.av p.1))], []⟩⟩ : St)) h (Weak.re [] [0] rfl rfl rfl (.fresh (by simp) dt trivial) ⟨.k, ⟨_, rfl, .nil (by simp)⟩, .k, trivial⟩) ?_
  ·skip
   rintro ⟨out508, key509⟩ o1 h hx1
   replace h : G.inquestref09_Pairs_b1 h_0 out508 key509 = some o1 := h
   unfold G.inquestref09_Pairs_b1 at h
   refine awp_seqK fun K6 hK6 => awp_seqK fun K7 hK7 => awp_reg rfl <| AR.op rfl (aop_move (.inl rfl) rfl) <| AR.op rfl (aop_lss rfl rfl rfl) <| AR.nil <| hK7 _ (AWP.weak (Weak.kt [1, 3, 4, 9] rfl) ?_)
   refine awp_cond rfl (fun hb510 => ?_) (fun hb510 => ?_)
   ·replace h := Sh.if_t h hb510
    refine awp_skip <| hK6 _ (AWP.weak (Weak.kt [1, 3, 4] rfl) ?_)
    refine awp_seqJ (fun (p : (List G.api_Choice)) => (⟨[(1, .pp [.sl (List.map G.api_Txn.av h_0.Txns)] 0), (3, .view 0 0 (List.map G.api_Choice.av p).length), (4, i64 key509)], ⟨1, [(0, (3, List.map G.api_Choice.av p))], []⟩⟩ : St)) (fun (p : (List G.api_Choice)) => G.inquestref09_Pairs_j2 key509 p = some o1) ?_ ?_
    ·rintro out573 h
     replace h : G.inquestref09_Pairs_j2 key509 out573 = some o1 := h
     unfold G.inquestref09_Pairs_j2 at h
     refine awp_reg rfl <| AR.op rfl (aop_move (.inl rfl) rfl) <| AR.op rfl (aop_add rfl rfl rfl rfl) <| AR.op rfl (aop_move (.inr rfl) rfl) <| AR.nil ?_
     replace h := Sh.next_eq h
     exact ⟨_, h, Weak.kt [1, 3, 4] rfl⟩
    ·intro K8 hK8
     refine awp_block <| awp_seqK fun K9 hK9 => awp_reg rfl <| AR.op (r := G.api_Hist.av h_0) rfl (aop_load_pp rfl rfl sz24 rfl) <| AR.op rfl (aop_move (.inl rfl) rfl) ?_
     obtain ⟨r575, hr575, h⟩ := Sh.bind_some' h
     refine AR.op (r := .sl (List.map i64 r575)) rfl (aop_call1 rfl rfl (by simp) (inquestref09_Writers_ok hT hr575)) <| AR.keep [1, 3, 4, 14] rfl <| AR.op rfl (aop_move (.inr rfl) rfl) <| AR.nil <| hK9 _ (AWP.weak (Weak.kt [1, 3, 4, 5] rfl) ?_)
     refine awp_seqK fun K10 hK10 => awp_reg rfl <| AR.op rfl (aop_move (.inr rfl) rfl) <| AR.nil <| hK10 _ ?_
     refine awp_block <| awp_iter (fun (p : (List G.api_Choice) × Int) => G.inquestref09_Pairs_b2 key509 r575 p.1 p.2) (fun (p : (List G.api_Choice) × Int) => (⟨[(1, .pp [.sl (List.map G.api_Txn.av h_0.Txns)] 0), (3, .view 0 0 (List.map G.api_Choice.av p.1).length), (4, i64 key509), (5, .sl (List.map i64 r575)), (6, i64 p.2)], ⟨1, [(0, (3, List.map G.api_Choice.av p.1))], []⟩⟩ : St)) h (Weak.kt [1, 3, 4, 5, 6] rfl) ?_
     ·skip
      rintro ⟨out616, i617⟩ o2 h hx2
      replace h : G.inquestref09_Pairs_b2 key509 r575 out616 i617 = some o2 := h
      unfold G.inquestref09_Pairs_b2 at h
      refine awp_seqK fun K11 hK11 => awp_seqK fun K12 hK12 => awp_reg rfl <| AR.op rfl (aop_move (.inl rfl) rfl) <| AR.op rfl (aop_move (.inl rfl) rfl) <| AR.op rfl (t_len_sl i64 r575 rfl rfl el44) <| AR.keep [1, 3, 4, 5, 6, 15, 17] rfl <| AR.op rfl (aop_lss rfl rfl rfl) ?_
      refine AR.nil <| hK12 _ (AWP.weak (Weak.kt [1, 3, 4, 5, 6, 18] rfl) ?_)
      refine awp_cond rfl (fun hb618 => ?_) (fun hb618 => ?_)
      ·replace h := Sh.if_t h hb618
       refine awp_skip <| hK11 _ (AWP.weak (Weak.kt [1, 3, 4, 5, 6] rfl) ?_)
       refine awp_seqJ (fun (p : (List G.api_Choice)) => (⟨[(1, .pp [.sl (List.map G.api_Txn.av h_0.Txns)] 0), (3, .view 0 0 (List.map G.api_Choice.av p).length), (4, i64 key509), (5, .sl (List.map i64 r575)), (6, i64 i617)], ⟨1, [(0, (3, List.map G.api_Choice.av p))], []⟩⟩ : St)) (fun (p : (List G.api_Choice)) => G.inquestref09_Pairs_j3 i617 p = some o2) ?_ ?_
       ·rintro out638 h
        replace h : G.inquestref09_Pairs_j3 i617 out638 = some o2 := h
        unfold G.inquestref09_Pairs_j3 at h
        refine awp_reg rfl <| AR.op rfl (aop_move (.inl rfl) rfl) <| AR.op rfl (aop_add rfl rfl rfl rfl) <| AR.op rfl (aop_move (.inr rfl) rfl) <| AR.nil ?_
        replace h := Sh.next_eq h
        exact ⟨_, h, Weak.kt [1, 3, 4, 5, 6] rfl⟩
       ·intro K13 hK13
        refine awp_block <| awp_seqK fun K14 hK14 => awp_reg rfl <| AR.op rfl (aop_move (.inl rfl) rfl) <| AR.op rfl (aop_add rfl rfl rfl rfl) <| AR.op rfl (aop_move (.inr rfl) rfl) <| AR.nil <| hK14 _ (AWP.weak (Weak.kt [1, 3, 4, 5, 6, 7] rfl) ?_)
        refine awp_block <| awp_iter (fun (p : (List G.api_Choice) × Int) => G.inquestref09_Pairs_b3 key509 r575 i617 p.1 p.2) (fun (p : (List G.api_Choice) × Int) => (⟨[(1, .pp [.sl (List.map G.api_Txn.av h_0.Txns)] 0), (3, .view 0 0 (List.map G.api_Choice.av p.1).length), (4, i64 key509), (5, .sl (List.map i64 r575)), (6, i64 i617), (7, i64 p.2)], ⟨1, [(0, (3, List.map G.api_Choice.av p.1))], []⟩⟩ : St)) h (Weak.kt [1, 3, 4, 5, 6, 7] rfl) ?_
        ·skip
         rintro ⟨out651, k652⟩ o3 h hx3
         replace h : G.inquestref09_Pairs_b3 key509 r575 i617 out651 k652 = some o3 := h
         unfold G.inquestref09_Pairs_b3 at h
         refine awp_seqK fun K15 hK15 => awp_seqK fun K16 hK16 => awp_reg rfl <| AR.op rfl (aop_move (.inl rfl) rfl) <| AR.op rfl (aop_move (.inl rfl) rfl) <| AR.op rfl (t_len_sl i64 r575 rfl rfl el44) <| AR.keep [1, 3, 4, 5, 6, 7, 23, 25] rfl <| AR.op rfl (aop_lss rfl rfl rfl) ?_
         refine AR.nil <| hK16 _ (AWP.weak (Weak.kt [1, 3, 4, 5, 6, 7, 26] rfl) ?_)
         refine awp_cond rfl (fun hb653 => ?_) (fun hb653 => ?_)
         ·replace h := Sh.if_t h hb653
          refine awp_skip <| hK15 _ (AWP.weak (Weak.kt [1, 3, 4, 5, 6, 7] rfl) ?_)
          refine awp_seqK fun K17 hK17 => awp_block <| awp_any [(true, false), (true, false), (true, false), (true, false), (true, false), (true, false), (true, false), (true, false), (true, false), (true, false), (true, false), (true, false), (false, true), (true, false)] (by kernel_rfl) (by kernel_rfl) rfl ?_
          refine ARH.dry rfl (fun _ => aop_move (.inl rfl) rfl) <| ARH.dry rfl (fun _ => aop_move (.inl rfl) rfl) <| ARH.dry rfl (fun _ => aop_move (.inl rfl) rfl) <| ARH.keep [1, 4, 5, 6, 7, 29, 30, 31] rfl <| ARH.dry rfl (fun _ => aop_move (.inl rfl) rfl) ?_
          obtain ⟨x659, hx659, h⟩ := Sh.bind_some' h
          obtain ⟨k660, hi660, hl660⟩ := Sh.idx_some hx659
          refine ARH.dry rfl (fun _ => t_index_sl i64 r575 hi660 hl660 rfl rfl rfl el44 rfl) <| ARH.dry (r := i64 x659) rfl (fun _ => aop_load_pp rfl rfl sz3 rfl) <| ARH.keep [1, 4, 5, 6, 7, 29, 30, 34] rfl <| ARH.dry rfl (fun _ => aop_move (.inl rfl) rfl) <| ARH.dry rfl (fun _ => aop_move (.inl rfl) rfl) ?_
          obtain ⟨x661, hx661, h⟩ := Sh.bind_some' h
          obtain ⟨k662, hi662, hl662⟩ := Sh.idx_some hx661
          refine ARH.dry rfl (fun _ => t_index_sl i64 r575 hi662 hl662 rfl rfl rfl el44 rfl) <| ARH.keep [1, 4, 5, 6, 7, 29, 30, 34, 37] rfl <| ARH.dry (r := i64 x661) rfl (fun _ => aop_load_pp rfl rfl sz3 rfl) <| ARH.dry (r := .agg [i64 key509, i64 x659, i64 x661]) rfl (fun _ => aop_build rfl bd42 rfl rfl rfl) <| ARH.dry (r := .clip (List.map G.api_Choice.av ([(G.api_Choice.mk key509 x659 x661)] : List G.api_Choice))) rfl (fun _ => aop_buildSlice rfl (xo := [.tmp 39]) rfl rfl rfl (by simp) (by simp) el25 ze25 (by decide)) <| ARH.keep [1, 4, 5, 6, 7, 29, 40] rfl ?_
          obtain ⟨out663, hout663, h⟩ := Sh.bind_some' h
          refine ARH.loud (r := .view 1 0 (List.map G.api_Choice.av out663).length) rfl rfl (t_app_view G.api_Choice.av out651 ([(G.api_Choice.mk key509 x659 x661)] : List G.api_Choice) out663 hout663 rfl et25 (fun _ => rfl) rfl rfl rfl rfl rfl rfl rfl) <| ARH.dry rfl (fun _ => aop_move (.inr rfl) rfl) <| ARH.nil <| hK17 _ (AWP.weak (Weak.re (fr' := [(1, .pp [.sl (List.map G.api_Txn.av h_0.Txns)] 0), (4, i64 key509), (5, .sl (List.map i64 r575)), (6, i64 i617), (7, i64 k652), (3, .view 0 0 (List.map G.api_Choice.av out663).length)]) (H' := ⟨1, [(0, (3, List.map G.api_Choice.av out663))], []⟩) [(0, 1)] [] rfl rfl rfl (.cons rfl rfl (.same (by simp)) dt trivial) ⟨.k, .k, ⟨.sl (List.map i64 r575), rfl, .sm⟩, .k, .k, ⟨_, rfl, .view rfl⟩, trivial⟩) ?_)
          refine awp_reg rfl <| AR.op rfl (aop_move (.inl rfl) rfl) <| AR.op rfl (aop_add rfl rfl rfl rfl) <| AR.op rfl (aop_move (.inr rfl) rfl) <| AR.nil ?_
          replace h := Sh.next_eq h
          exact ⟨_, h, Weak.kt [1, 3, 4, 5, 6, 7] rfl⟩
         ·replace h := Sh.if_f h hb653
          refine awp_exit ?_
          replace h := Sh.exit_eq h hx3
          exact hK13 out651 _ h (Weak.kt [1, 3, 4, 5, 6] rfl)
      ·replace h := Sh.if_f h hb618
       refine awp_exit ?_
       replace h := Sh.exit_eq h hx2
       exact hK8 out616 _ h (Weak.kt [1, 3, 4] rfl)
   ·replace h := Sh.if_f h hb510
    refine awp_exit ?_
    replace h := Sh.exit_eq h hx1
    exact hK4 out508 _ h (Weak.kt [3] rfl)
theorem inquestref09_Pairs_ok {W0 : World} (hT : Tab W0) {h_0 : G.api_Hist} {r : (List G.api_Choice)} (h : G.inquestref09_Pairs h_0 = some r) : Fun1 Try.prog W0 43 [G.api_Hist.av h_0] (.sl (List.map G.api_Choice.av r)) :=
 (inquestref09_Pairs_own hT h).give (Weak.e ⟨⟨_, rfl, .lendAll rfl rfl (by simp)⟩, trivial⟩) (by simp)


theorem inquestref09_From_ok0 {W0 : World} (hT : Tab W0) {h_0 : G.api_Hist} {t_1 : Int} {key_2 : Int} {r : Int × Bool} (h : G.inquestref09_From h_0 t_1 key_2 = some r) : Fun2 Try.prog W0 72 [G.api_Hist.av h_0, i64 t_1, i64 key_2] (.tuple [i64 r.1, bl r.2]) .empty := by
 refine fun2_of_awp Try.func72 rfl (by kernel_rfl) Try.ntmps72 (by simp) ?_
 unfold G.inquestref09_From at h
 show AWP _ _ _ _ ⟨[(0, G.api_Hist.av h_0), (1, i64 t_1), (2, i64 key_2)], .empty⟩ _
 refine awp_seqK fun K1 hK1 => awp_reg rfl <| AR.op (r := .ref 0 0 0) rfl (aop_box 1 [G.api_Hist.av h_0] rfl rfl rfl (.inl ⟨rfl, rfl⟩)) <| AR.op rfl (aop_move (.inr rfl) rfl) <| AR.op rfl (aop_move (.inr rfl) rfl) <| AR.nil <| hK1 _ (AWP.weak (Weak.e (fr' := [(1, i64 t_1), (2, i64 key_2), (3, .pp [.sl (List.map G.api_Txn.av h_0.Txns)] 0)]) (H' := .empty) ⟨.k, .k, ⟨_, rfl, .frzA rfl rfl rfl rfl (by simp)⟩, trivial⟩) ?_)
 refine awp_seqK fun K2 hK2 => awp_reg rfl <| AR.op (r := G.api_Hist.av h_0) rfl (aop_load_pp rfl rfl sz24 rfl) ?_
 obtain ⟨r22, hr22, h⟩ := Sh.bind_some' h
 refine AR.op (r := bl r22) rfl (aop_call1 rfl rfl (by simp) (inquestref08_Right_ok hT hr22)) <| AR.op rfl (aop_move (.inr rfl) rfl) <| AR.nil <| hK2 _ (AWP.weak (Weak.kt [1, 2, 3, 8] rfl) ?_)
 refine awp_seqK fun K3 hK3 => awp_seqJ (fun (p : Bool) => (⟨[(1, i64 t_1), (2, i64 key_2), (3, .pp [.sl (List.map G.api_Txn.av h_0.Txns)] 0), (25, bl p)], .empty⟩ : St)) (fun (p : Bool) => G.inquestref09_From_j1 h_0 t_1 key_2 p = some r) ?_ ?_
 ·rintro v28 h
  replace h : G.inquestref09_From_j1 h_0 t_1 key_2 v28 = some r := h
  unfold G.inquestref09_From_j1 at h
  refine awp_cond rfl (fun hb29 => ?_) (fun hb29 => ?_)
  ·replace h := Sh.if_t h hb29
   refine awp_seqK fun K4 hK4 => awp_reg rfl <| AR.op rfl (aop_move (.inr rfl) rfl) <| AR.op rfl (aop_move (.inr rfl) rfl) <| AR.nil <| hK4 _ (AWP.weak (Weak.kt [6, 7] rfl) ?_)
   refine awp_ret ?_
   obtain rfl := Option.some.inj h
   refine ⟨.inr rfl, .tuple [i64 0, bl false], rfl, ?_⟩
   exact Weak.e ⟨⟨.tuple [i64 0, bl false], rfl, .tp ⟨.sm, .sm, trivial⟩⟩, trivial⟩
  ·replace h := Sh.if_f h hb29
   refine awp_skip <| hK3 _ (AWP.weak (Weak.kt [1, 2, 3] rfl) ?_)
   refine awp_seqK fun K5 hK5 => awp_reg rfl <| AR.op rfl (aop_field_pp rfl rfl fd24_0 (by decide)) <| AR.op (r := .sl (List.map G.api_Txn.av h_0.Txns)) rfl (aop_load_pp rfl rfl sz22 rfl) <| AR.op rfl (aop_move (.inl rfl) rfl) <| AR.keep [2, 27, 28] rfl ?_
   obtain ⟨x32, hx32, h⟩ := Sh.bind_some' h
   obtain ⟨k33, hi33, hl33⟩ := Sh.idx_some hx32
   refine AR.op rfl (t_index_sl G.api_Txn.av h_0.Txns hi33 hl33 rfl rfl rfl el22 rfl) <| AR.op rfl (aop_field_pp rfl rfl fd73_2 (by decide)) <| AR.op (r := .sl (List.map G.api_Take.av x32.Reads)) rfl (aop_load_pp rfl rfl sz71 rfl) <| AR.keep [2, 31] rfl <| AR.op rfl (aop_move (.inr rfl) rfl) <| AR.nil <| hK5 _ (AWP.weak (Weak.kt [2, 9] rfl) ?_)
   refine awp_seqJ (fun (p : Unit) => (⟨[], .empty⟩ : St)) (fun (p : Unit) => G.inquestref09_From_j2 = some r) ?_ ?_
   ·rintro ⟨⟩ h
    replace h : G.inquestref09_From_j2 = some r := h
    unfold G.inquestref09_From_j2 at h
    refine awp_seqK fun K6 hK6 => awp_reg rfl <| AR.op rfl (aop_move (.inr rfl) rfl) <| AR.op rfl (aop_move (.inr rfl) rfl) <| AR.nil <| hK6 _ ?_
    refine awp_ret ?_
    obtain rfl := Option.some.inj h
    refine ⟨.inr rfl, .tuple [i64 0, bl false], rfl, ?_⟩
    exact Weak.e ⟨⟨.tuple [i64 0, bl false], rfl, .tp ⟨.sm, .sm, trivial⟩⟩, trivial⟩
   ·intro K7 hK7
    refine awp_seqK fun K8 hK8 => awp_reg rfl <| AR.op rfl (aop_move (.inr rfl) rfl) <| AR.nil <| hK8 _ ?_
    refine awp_block <| awp_iter (fun (p : Int) => G.inquestref09_From_b1 key_2 x32 p) (fun (p : Int) => (⟨[(2, i64 key_2), (9, .sl (List.map G.api_Take.av x32.Reads)), (10, i64 p)], .empty⟩ : St)) h (Weak.kt [2, 9, 10] rfl) ?_
    ·skip
     rintro i57 o1 h hx1
     replace h : G.inquestref09_From_b1 key_2 x32 i57 = some o1 := h
     unfold G.inquestref09_From_b1 at h
     refine awp_seqK fun K9 hK9 => awp_seqK fun K10 hK10 => awp_reg rfl <| AR.op rfl (aop_move (.inl rfl) rfl) <| AR.op rfl (aop_move (.inl rfl) rfl) <| AR.op rfl (t_len_sl G.api_Take.av x32.Reads rfl rfl el71) <| AR.keep [2, 9, 10, 32, 34] rfl <| AR.op rfl (aop_lss rfl rfl rfl) ?_
     refine AR.nil <| hK10 _ (AWP.weak (Weak.kt [2, 9, 10, 35] rfl) ?_)
     refine awp_cond rfl (fun hb58 => ?_) (fun hb58 => ?_)
     ·replace h := Sh.if_t h hb58
      refine awp_skip <| hK9 _ (AWP.weak (Weak.kt [2, 9, 10] rfl) ?_)
      refine awp_seqK fun K11 hK11 => awp_block <| awp_seqK fun K12 hK12 => awp_reg rfl <| AR.op rfl (aop_move (.inl rfl) rfl) <| AR.op rfl (aop_move (.inl rfl) rfl) ?_
      obtain ⟨x65, hx65, h⟩ := Sh.bind_some' h
      obtain ⟨k66, hi66, hl66⟩ := Sh.idx_some hx65
      refine AR.op rfl (t_index_sl G.api_Take.av x32.Reads hi66 hl66 rfl rfl rfl el71 rfl) <| AR.keep [2, 9, 10, 40] rfl <| AR.op rfl (aop_field_pp rfl rfl fd70_0 (by decide)) <| AR.op (r := i64 x65.Key) rfl (aop_load_pp rfl rfl sz3 rfl) <| AR.op rfl (aop_move (.inl rfl) rfl) <| AR.keep [2, 9, 10, 42, 43] rfl <| AR.op (r := bl (decide (x65.Key = key_2))) rfl (aop_eql rfl rfl rfl) <| AR.nil ?_
      refine hK12 _ (AWP.weak (Weak.kt [2, 9, 10, 44] rfl) ?_)
      refine awp_cond rfl (fun hb67 => ?_) (fun hb67 => ?_)
      ·replace h := Sh.if_t h hb67
       refine awp_seqK fun K13 hK13 => awp_reg rfl <| AR.op rfl (aop_move (.inl rfl) rfl) <| AR.op rfl (aop_move (.inl rfl) rfl) ?_
       obtain ⟨x70, hx70, h⟩ := Sh.bind_some' h
       obtain ⟨k71, hi71, hl71⟩ := Sh.idx_some hx70
       refine AR.op rfl (t_index_sl G.api_Take.av x32.Reads hi71 hl71 rfl rfl rfl el71 rfl) <| AR.keep [47] rfl <| AR.op rfl (aop_field_pp rfl rfl fd70_1 (by decide)) <| AR.op (r := i64 x70.From) rfl (aop_load_pp rfl rfl sz3 rfl) <| AR.op rfl (aop_move (.inr rfl) rfl) <| AR.keep [6] rfl <| AR.op rfl (aop_move (.inr rfl) rfl) <| AR.nil ?_
       refine hK13 _ ?_
       refine awp_ret ?_
       replace h := Sh.exit_eq h hx1
       obtain rfl := Option.some.inj h
       refine ⟨.inr rfl, .tuple [i64 x70.From, bl true], rfl, ?_⟩
       exact Weak.e ⟨⟨.tuple [i64 x70.From, bl true], rfl, .tp ⟨.sm, .sm, trivial⟩⟩, trivial⟩
      ·replace h := Sh.if_f h hb67
       refine awp_skip <| hK11 _ (AWP.weak (Weak.kt [2, 9, 10] rfl) ?_)
       refine awp_reg rfl <| AR.op rfl (aop_move (.inl rfl) rfl) <| AR.op rfl (aop_add rfl rfl rfl rfl) <| AR.op rfl (aop_move (.inr rfl) rfl) <| AR.nil ?_
       replace h := Sh.next_eq h
       exact ⟨_, h, Weak.kt [2, 9, 10] rfl⟩
     ·replace h := Sh.if_f h hb58
      refine awp_exit ?_
      replace h := Sh.exit_eq h hx1
      exact hK7 () _ h (Weak.kt [] rfl)
 ·intro K14 hK14
  refine awp_reg rfl <| AR.op rfl (aop_move (.inl rfl) rfl) <| AR.op (r := bl (!r22)) rfl (aop_not rfl rfl) <| AR.op rfl (aop_move (.inl rfl) rfl) <| AR.keep [1, 2, 3, 15] rfl ?_
  rcases Bool.eq_false_or_eq_true (!r22) with hb72 | hb72
  ·rw [hb72]
   replace h := Sh.if_t h hb72
   refine AR.skip rfl <| AR.skip rfl <| AR.op rfl (aop_pick rfl rfl rfl) <| AR.keep [1, 2, 3, 18] rfl <| AR.op rfl (aop_move (.inl rfl) rfl) <| AR.skip rfl <| AR.skip rfl <| AR.keep [1, 2, 3, 19, 20, 21] rfl ?_
   refine AR.skip rfl <| AR.skip rfl <| AR.skip rfl <| AR.keep [1, 2, 3, 19, 24] rfl <| AR.op rfl (aop_pick rfl rfl rfl) <| AR.nil ?_
   exact hK14 true _ h (Weak.kt [1, 2, 3, 25] rfl)
  ·rw [hb72]
   replace h := Sh.if_f h hb72
   refine AR.op rfl (aop_move (.inl rfl) rfl) <| AR.op rfl (aop_lss rfl rfl rfl) <| AR.op rfl (aop_pick rfl rfl rfl) <| AR.keep [1, 2, 3, 18] rfl <| AR.op rfl (aop_move (.inl rfl) rfl) ?_
   rcases Bool.eq_false_or_eq_true (decide (t_1 < 0)) with hb73 | hb73
   ·rw [hb73]
    replace h := Sh.if_t h hb73
    refine AR.skip rfl <| AR.skip rfl <| AR.keep [1, 2, 3, 19, 20, 21] rfl <| AR.skip rfl <| AR.skip rfl <| AR.skip rfl <| AR.keep [1, 2, 3, 19, 24] rfl <| AR.op rfl (aop_pick rfl rfl rfl) ?_
    refine AR.nil ?_
    exact hK14 true _ h (Weak.kt [1, 2, 3, 25] rfl)
   ·rw [hb73]
    replace h := Sh.if_f h hb73
    refine AR.op rfl (aop_move (.inl rfl) rfl) <| AR.op rfl (aop_field_pp rfl rfl fd24_0 (by decide)) <| AR.keep [1, 2, 3, 19, 20, 21] rfl <| AR.op (r := .sl (List.map G.api_Txn.av h_0.Txns)) rfl (aop_load_pp rfl rfl sz22 rfl) <| AR.op rfl (t_len_sl G.api_Txn.av h_0.Txns rfl rfl el22) <| AR.op rfl (aop_geq rfl rfl rfl) <| AR.keep [1, 2, 3, 19, 24] rfl <| AR.op rfl (aop_pick rfl rfl rfl) ?_
    refine AR.nil ?_
    exact hK14 (decide ((Sh.len h_0.Txns) ≤ t_1)) _ h (Weak.kt [1, 2, 3, 25] rfl)
theorem inquestref09_From_ok {W0 : World} (hT : Tab W0) {h_0 : G.api_Hist} {t_1 : Int} {key_2 : Int} {r : Int × Bool} (h : G.inquestref09_From h_0 t_1 key_2 = some r) : Fun1 Try.prog W0 72 [G.api_Hist.av h_0, i64 t_1, i64 key_2] (.tuple [i64 r.1, bl r.2]) := Fun1.two (inquestref09_From_ok0 hT h) (by simp)


theorem inquestref09_Readers_own {W0 : World} (hT : Tab W0) {h_0 : G.api_Hist} {key_1 : Int} {from_2 : Int} {r : (List Int)} (h : G.inquestref09_Readers h_0 key_1 from_2 = some r) : Fun2 Try.prog W0 102 [G.api_Hist.av h_0, i64 key_1, i64 from_2] (.view 0 0 (List.map i64 r).length) ⟨1, [(0, (1, List.map i64 r))], []⟩ := by
 refine fun2_of_awp Try.func102 rfl (by kernel_rfl) Try.ntmps102 (by simp) ?_
 unfold G.inquestref09_Readers at h
 show AWP _ _ _ _ ⟨[(0, G.api_Hist.av h_0), (1, i64 key_1), (2, i64 from_2)], .empty⟩ _
 refine awp_seqK fun K1 hK1 => awp_reg rfl <| AR.op (r := .ref 0 0 0) rfl (aop_box 1 [G.api_Hist.av h_0] rfl rfl rfl (.inl ⟨rfl, rfl⟩)) <| AR.op rfl (aop_move (.inr rfl) rfl) <| AR.nil <| hK1 _ (AWP.weak (Weak.e (fr' := [(1, i64 key_1), (2, i64 from_2), (3, .pp [.sl (List.map G.api_Txn.av h_0.Txns)] 0)]) (H' := .empty) ⟨.k, .k, ⟨_, rfl, .frzA rfl rfl rfl rfl (by simp)⟩, trivial⟩) ?_)
 refine awp_seqK fun K2 hK2 => awp_reg rfl <| AR.op rfl (aop_move (.inr rfl) rfl) <| AR.nil <| hK2 _ ?_
 refine awp_seqJ (fun (p : (List Int)) => (⟨[(7, .view 0 0 (List.map i64 p).length)], ⟨1, [(0, (1, List.map i64 p))], []⟩⟩ : St)) (fun (p : (List Int)) => G.inquestref09_Readers_j1 p = some r) ?_ ?_
 ·rintro out39 h
  replace h : G.inquestref09_Readers_j1 out39 = some r := h
  unfold G.inquestref09_Readers_j1 at h
  refine awp_seqK fun K3 hK3 => awp_reg rfl <| AR.op rfl (aop_move (.inl rfl) rfl) <| AR.op rfl (aop_move (.inr rfl) rfl) <| AR.nil <| hK3 _ (AWP.weak (Weak.kt [6] rfl) ?_)
  refine awp_ret ?_
  obtain rfl := Option.some.inj h
  refine ⟨.inr rfl, .view 0 0 (List.map i64 out39).length, rfl, ?_⟩
  exact Weak.re [(0, 0)] [] rfl rfl rfl (.cons rfl rfl (.same (by simp)) dt trivial) ⟨⟨_, rfl, .view rfl⟩, trivial⟩
 ·intro K4 hK4
  refine awp_seqK fun K5 hK5 => awp_reg rfl <| AR.op rfl (aop_move (.inr rfl) rfl) <| AR.nil <| hK5 _ ?_
  refine awp_block <| awp_iter (fun (p : (List Int) × Int) => G.inquestref09_Readers_b1 h_0 key_1 from_2 p.1 p.2) (fun (p : (List Int) × Int) => (⟨[(1, i64 key_1), (2, i64 from_2), (3, .pp [.sl (List.map G.api_Txn.av h_0.Txns)] 0), (7, .view 0 0 (List.map i64 p.1).length), (8, i64 p.2)], ⟨1, [(0, (1, List.map i64 p.1))], []⟩⟩ : St)) h (Weak.re [] [0] rfl rfl rfl (.fresh (by simp) dt trivial) ⟨.k, .k, .k, ⟨_, rfl, .nil (by simp)⟩, .k, trivial⟩) ?_
  ·skip
   rintro ⟨out52, t53⟩ o1 h hx1
   replace h : G.inquestref09_Readers_b1 h_0 key_1 from_2 out52 t53 = some o1 := h
   unfold G.inquestref09_Readers_b1 at h
   refine awp_seqK fun K6 hK6 => awp_seqK fun K7 hK7 => awp_reg rfl <| AR.op rfl (aop_move (.inl rfl) rfl) <| AR.op rfl (aop_field_pp rfl rfl fd24_0 (by decide)) <| AR.op (r := .sl (List.map G.api_Txn.av h_0.Txns)) rfl (aop_load_pp rfl rfl sz22 rfl) <| AR.keep [1, 2, 3, 7, 8, 11, 13] rfl <| AR.op rfl (t_len_sl G.api_Txn.av h_0.Txns rfl rfl el22) ?_
   refine AR.op rfl (aop_lss rfl rfl rfl) <| AR.nil <| hK7 _ (AWP.weak (Weak.kt [1, 2, 3, 7, 8, 15] rfl) ?_)
   refine awp_cond rfl (fun hb54 => ?_) (fun hb54 => ?_)
   ·replace h := Sh.if_t h hb54
    refine awp_skip <| hK6 _ (AWP.weak (Weak.kt [1, 2, 3, 7, 8] rfl) ?_)
    refine awp_seqJ (fun (p : (List Int)) => (⟨[(1, i64 key_1), (2, i64 from_2), (3, .pp [.sl (List.map G.api_Txn.av h_0.Txns)] 0), (8, i64 t53), (7, .view 0 0 (List.map i64 p).length)], ⟨1, [(0, (1, List.map i64 p))], []⟩⟩ : St)) (fun (p : (List Int)) => G.inquestref09_Readers_j2 t53 p = some o1) ?_ ?_
    ·rintro out59 h
     replace h : G.inquestref09_Readers_j2 t53 out59 = some o1 := h
     unfold G.inquestref09_Readers_j2 at h
     refine awp_reg rfl <| AR.op rfl (aop_move (.inl rfl) rfl) <| AR.op rfl (aop_add rfl rfl rfl rfl) <| AR.op rfl (aop_move (.inr rfl) rfl) <| AR.nil ?_
     replace h := Sh.next_eq h
     exact ⟨_, h, Weak.kt [1, 2, 3, 7, 8] rfl⟩
    ·intro K8 hK8
     refine awp_block <| awp_seqK fun K9 hK9 => awp_reg rfl <| AR.op (r := G.api_Hist.av h_0) rfl (aop_load_pp rfl rfl sz24 rfl) <| AR.op rfl (aop_move (.inl rfl) rfl) <| AR.op rfl (aop_move (.inl rfl) rfl) <| AR.keep [1, 2, 3, 7, 8, 19, 20, 21] rfl ?_
     obtain ⟨r61, hr61, h⟩ := Sh.bind_some' h
     refine AR.op (r := .tuple [i64 r61.1, bl r61.2]) rfl (aop_call1 rfl rfl (by simp) (inquestref09_From_ok hT hr61)) <| AR.op rfl (aop_move (.inl rfl) rfl) <| AR.op (r := i64 r61.1) rfl (aop_extract rfl rfl rfl) <| AR.keep [1, 2, 3, 7, 8, 18, 23] rfl <| AR.op (r := bl r61.2) rfl (aop_extract rfl rfl rfl) <| AR.op rfl (aop_move (.inr rfl) rfl) <| AR.op rfl (aop_move (.inr rfl) rfl) <| AR.nil ?_
     refine hK9 _ (AWP.weak (Weak.kt [1, 2, 3, 7, 8, 9, 10] rfl) ?_)
     refine awp_seqJ (fun (p : Bool) => (⟨[(1, i64 key_1), (2, i64 from_2), (3, .pp [.sl (List.map G.api_Txn.av h_0.Txns)] 0), (7, .view 0 0 (List.map i64 out52).length), (8, i64 t53), (30, bl p)], ⟨1, [(0, (1, List.map i64 out52))], []⟩⟩ : St)) (fun (p : Bool) => G.inquestref09_Readers_j3 out52 t53 p = some o1) ?_ ?_
     ·rintro v63 h
      replace h : G.inquestref09_Readers_j3 out52 t53 v63 = some o1 := h
      unfold G.inquestref09_Readers_j3 at h
      refine awp_cond rfl (fun hb64 => ?_) (fun hb64 => ?_)
      ·replace h := Sh.if_t h hb64
       refine awp_reg rfl <| AR.op rfl (aop_move (.inl rfl) rfl) <| AR.op rfl (aop_move (.inl rfl) rfl) <| AR.op (r := .clip (List.map i64 [t53])) rfl (aop_buildSlice rfl (xo := [.tmp 32]) rfl rfl rfl (by simp [AV.solid]) (by simp [AV.flat]) el44 ze44 (by decide)) <| AR.keep [1, 2, 3, 8, 31, 33] rfl ?_
       obtain ⟨out65, hout65, h⟩ := Sh.bind_some' h
       refine AR.op (r := .view 1 0 (List.map i64 out65).length) rfl (t_app_view i64 out52 [t53] out65 hout65 rfl et44 (fun _ => rfl) rfl rfl rfl rfl rfl rfl rfl) <| AR.op rfl (aop_move (.inr rfl) rfl) <| AR.nil ?_
       exact hK8 out65 _ h (Weak.re [(0, 1)] [] rfl rfl rfl (.cons rfl rfl (.same (by simp)) dt trivial) ⟨.k, .k, .k, .k, ⟨_, rfl, .view rfl⟩, trivial⟩)
      ·replace h := Sh.if_f h hb64
       refine awp_skip ?_
       exact hK8 out52 _ h (Weak.kt [1, 2, 3, 8, 7] rfl)
     ·intro K10 hK10
      refine awp_reg rfl <| AR.op rfl (aop_move (.inl rfl) rfl) <| AR.op rfl (aop_move (.inl rfl) rfl) ?_
      rcases Bool.eq_false_or_eq_true (r61.2) with hb66 | hb66
      ·rw [hb66]
       replace h := Sh.if_t h hb66
       refine AR.op rfl (aop_move (.inl rfl) rfl) <| AR.keep [1, 2, 3, 7, 8, 26, 27] rfl <| AR.op rfl (aop_move (.inl rfl) rfl) <| AR.op (r := bl (decide (r61.1 = from_2))) rfl (aop_eql rfl rfl rfl) <| AR.op rfl (aop_pick rfl rfl rfl) <| AR.nil ?_
       exact hK10 (decide (r61.1 = from_2)) _ h (Weak.kt [1, 2, 3, 7, 8, 30] rfl)
      ·rw [hb66]
       replace h := Sh.if_f h hb66
       refine AR.skip rfl <| AR.keep [1, 2, 3, 7, 8, 26, 27] rfl <| AR.skip rfl <| AR.skip rfl <| AR.op rfl (aop_pick rfl rfl rfl) <| AR.nil ?_
       exact hK10 false _ h (Weak.kt [1, 2, 3, 7, 8, 30] rfl)
   ·replace h := Sh.if_f h hb54
    refine awp_exit ?_
    replace h := Sh.exit_eq h hx1
    exact hK4 out52 _ h (Weak.kt [7] rfl)
theorem inquestref09_Readers_ok {W0 : World} (hT : Tab W0) {h_0 : G.api_Hist} {key_1 : Int} {from_2 : Int} {r : (List Int)} (h : G.inquestref09_Readers h_0 key_1 from_2 = some r) : Fun1 Try.prog W0 102 [G.api_Hist.av h_0, i64 key_1, i64 from_2] (.sl (List.map i64 r)) :=
 (inquestref09_Readers_own hT h).give (Weak.e ⟨⟨_, rfl, .lendAll rfl rfl (by simp)⟩, trivial⟩) (by simp)


end Wk
