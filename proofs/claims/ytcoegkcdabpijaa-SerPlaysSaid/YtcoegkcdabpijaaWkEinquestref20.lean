/- That the functions of a package do what their plain functions say. -/
import Derived.Test.YtcoegkcdabpijaaSh
import Derived.Test.YtcoegkcdabpijaaWkEFacts
import Derived.Test.YtcoegkcdabpijaaWkEinquestref08
import Derived.Test.YtcoegkcdabpijaaWkEinquestref18
open Go Go.Av Go.Proofs
set_option linter.unusedVariables false
set_option maxHeartbeats 8000000
set_option maxRecDepth 20000
namespace Wk
theorem inquestref20_Takes_ok0 {W0 : World} (hT : Tab W0) {a_0 : List G.api_Take} {b_1 : List G.api_Take} {r : Bool} (h : G.inquestref20_Takes a_0 b_1 = some r) : Fun2 Try.prog W0 14 [.sl (List.map G.api_Take.av a_0), .sl (List.map G.api_Take.av b_1)] (bl r) .empty := by
 refine fun2_of_awp Try.func14 rfl (by kernel_rfl) Try.ntmps14 (by simp) ?_
 unfold G.inquestref20_Takes at h
 show AWP _ _ _ _ ⟨[(0, .sl (List.map G.api_Take.av a_0)), (1, .sl (List.map G.api_Take.av b_1))], .empty⟩ _
 refine awp_seqK fun K1 hK1 => awp_reg rfl <| AR.op rfl (aop_move (.inr rfl) rfl) <| AR.nil <| hK1 _ (AWP.weak (Weak.kt [0, 1] rfl) ?_)
 refine awp_seqK fun K2 hK2 => awp_seqK fun K3 hK3 => awp_reg rfl <| AR.op rfl (aop_move (.inl rfl) rfl) <| AR.op rfl (t_len_sl G.api_Take.av a_0 rfl rfl el32) <| AR.op rfl (aop_move (.inl rfl) rfl) <| AR.keep [0, 1, 7, 8] rfl <| AR.op rfl (t_len_sl G.api_Take.av b_1 rfl rfl el32) ?_
 refine AR.op (r := bl (decide ((Sh.len a_0) ≠ (Sh.len b_1)))) rfl (aop_neq rfl rfl rfl) <| AR.nil <| hK3 _ (AWP.weak (Weak.kt [0, 1, 10] rfl) ?_)
 refine awp_cond rfl (fun hb15 => ?_) (fun hb15 => ?_)
 ·replace h := Sh.if_t h hb15
  refine awp_seqK fun K4 hK4 => awp_reg rfl <| AR.op rfl (aop_move (.inr rfl) rfl) <| AR.nil <| hK4 _ (AWP.weak (Weak.kt [4] rfl) ?_)
  refine awp_ret ?_
  obtain rfl := Option.some.inj h
  refine ⟨.inr rfl, bl false, rfl, ?_⟩
  exact Weak.e ⟨.k, trivial⟩
 ·replace h := Sh.if_f h hb15
  refine awp_skip <| hK2 _ (AWP.weak (Weak.kt [0, 1] rfl) ?_)
  refine awp_seqJ (fun (p : Unit) => (⟨[], .empty⟩ : St)) (fun (p : Unit) => G.inquestref20_Takes_j1 = some r) ?_ ?_
  ·rintro ⟨⟩ h
   replace h : G.inquestref20_Takes_j1 = some r := h
   unfold G.inquestref20_Takes_j1 at h
   refine awp_seqK fun K5 hK5 => awp_reg rfl <| AR.op rfl (aop_move (.inr rfl) rfl) <| AR.nil <| hK5 _ ?_
   refine awp_ret ?_
   obtain rfl := Option.some.inj h
   refine ⟨.inr rfl, bl true, rfl, ?_⟩
   exact Weak.e ⟨.k, trivial⟩
  ·intro K6 hK6
   refine awp_seqK fun K7 hK7 => awp_reg rfl <| AR.op rfl (aop_move (.inr rfl) rfl) <| AR.nil <| hK7 _ ?_
   refine awp_block <| awp_iter (fun (p : Int) => G.inquestref20_Takes_b1 a_0 b_1 p) (fun (p : Int) => (⟨[(0, .sl (List.map G.api_Take.av a_0)), (1, .sl (List.map G.api_Take.av b_1)), (5, i64 p)], .empty⟩ : St)) h (Weak.kt [0, 1, 5] rfl) ?_
   ·skip
    rintro i39 o1 h hx1
    replace h : G.inquestref20_Takes_b1 a_0 b_1 i39 = some o1 := h
    unfold G.inquestref20_Takes_b1 at h
    refine awp_seqK fun K8 hK8 => awp_seqK fun K9 hK9 => awp_reg rfl <| AR.op rfl (aop_move (.inl rfl) rfl) <| AR.op rfl (aop_move (.inl rfl) rfl) <| AR.op rfl (t_len_sl G.api_Take.av a_0 rfl rfl el32) <| AR.keep [0, 1, 5, 11, 13] rfl <| AR.op rfl (aop_lss rfl rfl rfl) ?_
    refine AR.nil <| hK9 _ (AWP.weak (Weak.kt [0, 1, 5, 14] rfl) ?_)
    refine awp_cond rfl (fun hb40 => ?_) (fun hb40 => ?_)
    ·replace h := Sh.if_t h hb40
     refine awp_skip <| hK8 _ (AWP.weak (Weak.kt [0, 1, 5] rfl) ?_)
     refine awp_seqK fun K10 hK10 => awp_block <| awp_seqK fun K11 hK11 => awp_any [(true, false), (true, false), (true, false), (true, false), (true, false), (true, false), (true, false), (true, false), (true, false)] (by kernel_rfl) (by kernel_rfl) rfl ?_
     refine ARH.dry rfl (fun _ => aop_move (.inl rfl) rfl) <| ARH.dry rfl (fun _ => aop_move (.inl rfl) rfl) ?_
     obtain ⟨x49, hx49, h⟩ := Sh.bind_some' h
     obtain ⟨k50, hi50, hl50⟩ := Sh.idx_some hx49
     refine ARH.dry rfl (fun _ => t_index_sl G.api_Take.av a_0 hi50 hl50 rfl rfl rfl el32 rfl) <| ARH.keep [0, 1, 5, 19] rfl <| ARH.dry (r := G.api_Take.av x49) rfl (fun _ => aop_load_pp rfl rfl sz39 rfl) <| ARH.dry rfl (fun _ => aop_move (.inl rfl) rfl) <| ARH.dry rfl (fun _ => aop_move (.inl rfl) rfl) <| ARH.keep [0, 1, 5, 20, 21, 22] rfl ?_
     obtain ⟨x51, hx51, h⟩ := Sh.bind_some' h
     obtain ⟨k52, hi52, hl52⟩ := Sh.idx_some hx51
     refine ARH.dry rfl (fun _ => t_index_sl G.api_Take.av b_1 hi52 hl52 rfl rfl rfl el32 rfl) <| ARH.dry (r := G.api_Take.av x51) rfl (fun _ => aop_load_pp rfl rfl sz39 rfl) <| ARH.dry (r := bl (!decide (x49 = x51))) rfl (fun _ => t_ne_api_Take (a := x49) (b := x51) rfl rfl rfl) <| ARH.nil <| hK11 _ (AWP.weak (Weak.kt [0, 1, 5, 25] rfl) ?_)
     refine awp_cond rfl (fun hb53 => ?_) (fun hb53 => ?_)
     ·replace h := Sh.if_t h hb53
      refine awp_seqK fun K12 hK12 => awp_reg rfl <| AR.op rfl (aop_move (.inr rfl) rfl) <| AR.nil <| hK12 _ (AWP.weak (Weak.kt [4] rfl) ?_)
      refine awp_ret ?_
      replace h := Sh.exit_eq h hx1
      obtain rfl := Option.some.inj h
      refine ⟨.inr rfl, bl false, rfl, ?_⟩
      exact Weak.e ⟨.k, trivial⟩
     ·replace h := Sh.if_f h hb53
      refine awp_skip <| hK10 _ (AWP.weak (Weak.kt [0, 1, 5] rfl) ?_)
      refine awp_reg rfl <| AR.op rfl (aop_move (.inl rfl) rfl) <| AR.op rfl (aop_add rfl rfl rfl rfl) <| AR.op rfl (aop_move (.inr rfl) rfl) <| AR.nil ?_
      replace h := Sh.next_eq h
      exact ⟨_, h, Weak.kt [0, 1, 5] rfl⟩
    ·replace h := Sh.if_f h hb40
     refine awp_exit ?_
     replace h := Sh.exit_eq h hx1
     exact hK6 () _ h (Weak.kt [] rfl)
theorem inquestref20_Takes_ok {W0 : World} (hT : Tab W0) {a_0 : List G.api_Take} {b_1 : List G.api_Take} {r : Bool} (h : G.inquestref20_Takes a_0 b_1 = some r) : Fun1 Try.prog W0 14 [.sl (List.map G.api_Take.av a_0), .sl (List.map G.api_Take.av b_1)] (bl r) := Fun1.two (inquestref20_Takes_ok0 hT h) (by simp)


theorem inquestref20_Sessions_ok0 {W0 : World} (hT : Tab W0) {h_0 : G.api_Hist} {order_1 : List Int} {r : Bool} (h : G.inquestref20_Sessions h_0 order_1 = some r) : Fun2 Try.prog W0 17 [G.api_Hist.av h_0, .sl (List.map i64 order_1)] (bl r) .empty := by
 refine fun2_of_awp Try.func17 rfl (by kernel_rfl) Try.ntmps17 (by simp) ?_
 unfold G.inquestref20_Sessions at h
 show AWP _ _ _ _ ⟨[(0, G.api_Hist.av h_0), (1, .sl (List.map i64 order_1))], .empty⟩ _
 refine awp_seqK fun K1 hK1 => awp_reg rfl <| AR.op (r := .ref 0 0 0) rfl (aop_box 1 [G.api_Hist.av h_0] rfl rfl rfl (.inl ⟨rfl, rfl⟩)) <| AR.op rfl (aop_move (.inr rfl) rfl) <| AR.nil <| hK1 _ (AWP.weak (Weak.e (fr' := [(1, .sl (List.map i64 order_1)), (2, .pp [.sl (List.map G.api_Txn.av h_0.Txns)] 0)]) (H' := .empty) ⟨⟨.sl (List.map i64 order_1), rfl, .sm⟩, ⟨_, rfl, .frzA rfl rfl rfl rfl (by simp)⟩, trivial⟩) ?_)
 refine awp_seqJ (fun (p : Unit) => (⟨[], .empty⟩ : St)) (fun (p : Unit) => G.inquestref20_Sessions_j1 = some r) ?_ ?_
 ·rintro ⟨⟩ h
  replace h : G.inquestref20_Sessions_j1 = some r := h
  unfold G.inquestref20_Sessions_j1 at h
  refine awp_seqK fun K2 hK2 => awp_reg rfl <| AR.op rfl (aop_move (.inr rfl) rfl) <| AR.nil <| hK2 _ ?_
  refine awp_ret ?_
  obtain rfl := Option.some.inj h
  refine ⟨.inr rfl, bl true, rfl, ?_⟩
  exact Weak.e ⟨.k, trivial⟩
 ·intro K3 hK3
  refine awp_seqK fun K4 hK4 => awp_reg rfl <| AR.op rfl (aop_move (.inr rfl) rfl) <| AR.nil <| hK4 _ ?_
  refine awp_block <| awp_iter (fun (p : Int) => G.inquestref20_Sessions_b1 h_0 order_1 p) (fun (p : Int) => (⟨[(1, .sl (List.map i64 order_1)), (2, .pp [.sl (List.map G.api_Txn.av h_0.Txns)] 0), (5, i64 p)], .empty⟩ : St)) h (Weak.kt [1, 2, 5] rfl) ?_
  ·skip
   rintro i226 o1 h hx1
   replace h : G.inquestref20_Sessions_b1 h_0 order_1 i226 = some o1 := h
   unfold G.inquestref20_Sessions_b1 at h
   refine awp_seqK fun K5 hK5 => awp_seqK fun K6 hK6 => awp_reg rfl <| AR.op rfl (aop_move (.inl rfl) rfl) <| AR.op rfl (aop_move (.inl rfl) rfl) <| AR.op rfl (t_len_sl i64 order_1 rfl rfl el25) <| AR.keep [1, 2, 5, 7, 9] rfl <| AR.op rfl (aop_lss rfl rfl rfl) ?_
   refine AR.nil <| hK6 _ (AWP.weak (Weak.kt [1, 2, 5, 10] rfl) ?_)
   refine awp_cond rfl (fun hb227 => ?_) (fun hb227 => ?_)
   ·replace h := Sh.if_t h hb227
    refine awp_skip <| hK5 _ (AWP.weak (Weak.kt [1, 2, 5] rfl) ?_)
    refine awp_seqJ (fun (p : Unit) => (⟨[(1, .sl (List.map i64 order_1)), (2, .pp [.sl (List.map G.api_Txn.av h_0.Txns)] 0), (5, i64 i226)], .empty⟩ : St)) (fun (p : Unit) => G.inquestref20_Sessions_j2 i226 = some o1) ?_ ?_
    ·rintro ⟨⟩ h
     replace h : G.inquestref20_Sessions_j2 i226 = some o1 := h
     unfold G.inquestref20_Sessions_j2 at h
     refine awp_reg rfl <| AR.op rfl (aop_move (.inl rfl) rfl) <| AR.op rfl (aop_add rfl rfl rfl rfl) <| AR.op rfl (aop_move (.inr rfl) rfl) <| AR.nil ?_
     replace h := Sh.next_eq h
     exact ⟨_, h, Weak.kt [1, 2, 5] rfl⟩
    ·intro K7 hK7
     refine awp_block <| awp_seqK fun K8 hK8 => awp_reg rfl <| AR.op rfl (aop_move (.inr rfl) rfl) <| AR.nil <| hK8 _ ?_
     refine awp_block <| awp_iter (fun (p : Int) => G.inquestref20_Sessions_b2 h_0 order_1 i226 p) (fun (p : Int) => (⟨[(1, .sl (List.map i64 order_1)), (2, .pp [.sl (List.map G.api_Txn.av h_0.Txns)] 0), (5, i64 i226), (6, i64 p)], .empty⟩ : St)) h (Weak.kt [1, 2, 5, 6] rfl) ?_
     ·skip
      rintro k301 o2 h hx2
      replace h : G.inquestref20_Sessions_b2 h_0 order_1 i226 k301 = some o2 := h
      unfold G.inquestref20_Sessions_b2 at h
      refine awp_seqK fun K9 hK9 => awp_seqK fun K10 hK10 => awp_reg rfl <| AR.op rfl (aop_move (.inl rfl) rfl) <| AR.op rfl (aop_move (.inl rfl) rfl) <| AR.op rfl (aop_lss rfl rfl rfl) <| AR.nil <| hK10 _ (AWP.weak (Weak.kt [1, 2, 5, 6, 15] rfl) ?_)
      refine awp_cond rfl (fun hb302 => ?_) (fun hb302 => ?_)
      ·replace h := Sh.if_t h hb302
       refine awp_skip <| hK9 _ (AWP.weak (Weak.kt [1, 2, 5, 6] rfl) ?_)
       refine awp_seqK fun K11 hK11 => awp_block <| awp_seqJ (fun (p : Bool) => (⟨[(1, .sl (List.map i64 order_1)), (2, .pp [.sl (List.map G.api_Txn.av h_0.Txns)] 0), (5, i64 i226), (6, i64 k301), (47, bl p)], .empty⟩ : St)) (fun (p : Bool) => G.inquestref20_Sessions_j3 k301 p = some o2) ?_ ?_
       ·rintro v330 h
        replace h : G.inquestref20_Sessions_j3 k301 v330 = some o2 := h
        unfold G.inquestref20_Sessions_j3 at h
        refine awp_cond rfl (fun hb331 => ?_) (fun hb331 => ?_)
        ·replace h := Sh.if_t h hb331
         refine awp_seqK fun K12 hK12 => awp_reg rfl <| AR.op rfl (aop_move (.inr rfl) rfl) <| AR.nil <| hK12 _ (AWP.weak (Weak.kt [4] rfl) ?_)
         refine awp_ret ?_
         replace h := Sh.exit_eq h hx2
         replace h := Sh.exit_eq h hx1
         obtain rfl := Option.some.inj h
         refine ⟨.inr rfl, bl false, rfl, ?_⟩
         exact Weak.e ⟨.k, trivial⟩
        ·replace h := Sh.if_f h hb331
         refine awp_skip <| hK11 _ (AWP.weak (Weak.kt [1, 2, 5, 6] rfl) ?_)
         refine awp_reg rfl <| AR.op rfl (aop_move (.inl rfl) rfl) <| AR.op rfl (aop_add rfl rfl rfl rfl) <| AR.op rfl (aop_move (.inr rfl) rfl) <| AR.nil ?_
         replace h := Sh.next_eq h
         exact ⟨_, h, Weak.kt [1, 2, 5, 6] rfl⟩
       ·intro K13 hK13
        refine awp_any [(true, false), (true, false), (true, false), (true, false), (true, false), (true, false), (true, false), (true, false), (true, false), (true, false), (true, false), (true, false), (true, false), (true, false), (true, false), (true, false), (true, false), (true, false), (true, false), (true, false), (true, false), (true, false), (true, false), (true, false), (true, false), (true, false), (true, false), (true, false), (true, false), (true, false)] (by kernel_rfl) (by kernel_rfl) rfl ?_
        refine ARH.dry rfl (fun _ => aop_move (.inl rfl) rfl) <| ARH.dry rfl (fun _ => aop_move (.inl rfl) rfl) ?_
        obtain ⟨x332, hx332, h⟩ := Sh.bind_some' h
        obtain ⟨k333, hi333, hl333⟩ := Sh.idx_some hx332
        refine ARH.dry rfl (fun _ => t_index_sl i64 order_1 hi333 hl333 rfl rfl rfl el25 rfl) <| ARH.keep [1, 2, 5, 6, 20] rfl <| ARH.dry (r := i64 x332) rfl (fun _ => aop_load_pp rfl rfl sz3 rfl) <| ARH.dry rfl (fun _ => aop_move (.inl rfl) rfl) <| ARH.dry rfl (fun _ => aop_move (.inl rfl) rfl) <| ARH.keep [1, 2, 5, 6, 21, 22, 23] rfl ?_
        obtain ⟨x334, hx334, h⟩ := Sh.bind_some' h
        obtain ⟨k335, hi335, hl335⟩ := Sh.idx_some hx334
        refine ARH.dry rfl (fun _ => t_index_sl i64 order_1 hi335 hl335 rfl rfl rfl el25 rfl) <| ARH.dry (r := i64 x334) rfl (fun _ => aop_load_pp rfl rfl sz3 rfl) <| ARH.dry rfl (fun _ => aop_gtr rfl rfl rfl) <| ARH.keep [1, 2, 5, 6, 26] rfl <| ARH.dry rfl (fun _ => aop_move (.inl rfl) rfl) ?_
        rcases Bool.eq_false_or_eq_true (decide (x334 < x332)) with hb336 | hb336
        ·rw [hb336]
         replace h := Sh.if_t h hb336
         refine ARH.dry rfl (fun _ => aop_field_pp rfl rfl fd24_0 (by decide)) <| ARH.dry (r := .sl (List.map G.api_Txn.av h_0.Txns)) rfl (fun _ => aop_load_pp rfl rfl sz22 rfl) <| ARH.keep [1, 2, 5, 6, 27, 28, 29] rfl <| ARH.dry rfl (fun _ => aop_move (.inl rfl) rfl) <| ARH.dry rfl (fun _ => aop_move (.inl rfl) rfl) ?_
         obtain ⟨x337, hx337, h⟩ := Sh.bind_some' h
         obtain ⟨k338, hi338, hl338⟩ := Sh.idx_some hx337
         refine ARH.dry rfl (fun _ => t_index_sl i64 order_1 hi338 hl338 rfl rfl rfl el25 rfl) <| ARH.keep [1, 2, 5, 6, 27, 28, 29, 30, 31, 32] rfl <| ARH.dry (r := i64 x337) rfl (fun _ => aop_load_pp rfl rfl sz3 rfl) ?_
         obtain ⟨x339, hx339, h⟩ := Sh.bind_some' h
         obtain ⟨k340, hi340, hl340⟩ := Sh.idx_some hx339
         refine ARH.dry rfl (fun _ => t_index_sl G.api_Txn.av h_0.Txns hi340 hl340 rfl rfl rfl el22 rfl) <| ARH.dry rfl (fun _ => aop_field_pp rfl rfl fd36_0 (by decide)) <| ARH.keep [1, 2, 5, 6, 27, 28, 29, 30, 31, 32, 33, 34, 35] rfl <| ARH.dry (r := i64 x339.Session) rfl (fun _ => aop_load_pp rfl rfl sz3 rfl) <| ARH.dry rfl (fun _ => aop_field_pp rfl rfl fd24_0 (by decide)) <| ARH.dry (r := .sl (List.map G.api_Txn.av h_0.Txns)) rfl (fun _ => aop_load_pp rfl rfl sz22 rfl) <| ARH.keep [1, 2, 5, 6, 27, 28, 29, 30, 31, 32, 33, 34, 35, 36, 37, 38] rfl <| ARH.dry rfl (fun _ => aop_move (.inl rfl) rfl) ?_
         refine ARH.dry rfl (fun _ => aop_move (.inl rfl) rfl) ?_
         obtain ⟨x341, hx341, h⟩ := Sh.bind_some' h
         obtain ⟨k342, hi342, hl342⟩ := Sh.idx_some hx341
         refine ARH.dry rfl (fun _ => t_index_sl i64 order_1 hi342 hl342 rfl rfl rfl el25 rfl) <| ARH.keep [1, 2, 5, 6, 27, 28, 29, 30, 31, 32, 33, 34, 35, 36, 37, 38, 39, 40, 41] rfl <| ARH.dry (r := i64 x341) rfl (fun _ => aop_load_pp rfl rfl sz3 rfl) ?_
         obtain ⟨x343, hx343, h⟩ := Sh.bind_some' h
         obtain ⟨k344, hi344, hl344⟩ := Sh.idx_some hx343
         refine ARH.dry rfl (fun _ => t_index_sl G.api_Txn.av h_0.Txns hi344 hl344 rfl rfl rfl el22 rfl) <| ARH.dry rfl (fun _ => aop_field_pp rfl rfl fd36_0 (by decide)) <| ARH.keep [1, 2, 5, 6, 27, 28, 29, 30, 31, 32, 33, 34, 35, 36, 37, 38, 39, 40, 41, 42, 43, 44] rfl <| ARH.dry (r := i64 x343.Session) rfl (fun _ => aop_load_pp rfl rfl sz3 rfl) <| ARH.dry (r := bl (decide (x339.Session = x343.Session))) rfl (fun _ => aop_eql rfl rfl rfl) <| ARH.dry rfl (fun _ => aop_pick rfl rfl rfl) <| ARH.nil ?_
         exact hK13 (decide (x339.Session = x343.Session)) _ h (Weak.kt [1, 2, 5, 6, 47] rfl)
        ·rw [hb336]
         replace h := Sh.if_f h hb336
         refine ARH.skip rfl <| ARH.skip rfl <| ARH.keep [1, 2, 5, 6, 27, 28, 29] rfl <| ARH.skip rfl <| ARH.skip rfl <| ARH.skip rfl <| ARH.keep [1, 2, 5, 6, 27, 28, 29, 30, 31, 32] rfl <| ARH.skip rfl ?_
         refine ARH.skip rfl <| ARH.skip rfl <| ARH.keep [1, 2, 5, 6, 27, 28, 29, 30, 31, 32, 33, 34, 35] rfl <| ARH.skip rfl <| ARH.skip rfl <| ARH.skip rfl <| ARH.keep [1, 2, 5, 6, 27, 28, 29, 30, 31, 32, 33, 34, 35, 36, 37, 38] rfl <| ARH.skip rfl ?_
         refine ARH.skip rfl <| ARH.skip rfl <| ARH.keep [1, 2, 5, 6, 27, 28, 29, 30, 31, 32, 33, 34, 35, 36, 37, 38, 39, 40, 41] rfl <| ARH.skip rfl <| ARH.skip rfl <| ARH.skip rfl <| ARH.keep [1, 2, 5, 6, 27, 28, 29, 30, 31, 32, 33, 34, 35, 36, 37, 38, 39, 40, 41, 42, 43, 44] rfl <| ARH.skip rfl ?_
         refine ARH.skip rfl <| ARH.dry rfl (fun _ => aop_pick rfl rfl rfl) <| ARH.nil ?_
         exact hK13 false _ h (Weak.kt [1, 2, 5, 6, 47] rfl)
      ·replace h := Sh.if_f h hb302
       refine awp_exit ?_
       replace h := Sh.exit_eq h hx2
       exact hK7 () _ h (Weak.kt [1, 2, 5] rfl)
   ·replace h := Sh.if_f h hb227
    refine awp_exit ?_
    replace h := Sh.exit_eq h hx1
    exact hK3 () _ h (Weak.kt [] rfl)
theorem inquestref20_Sessions_ok {W0 : World} (hT : Tab W0) {h_0 : G.api_Hist} {order_1 : List Int} {r : Bool} (h : G.inquestref20_Sessions h_0 order_1 = some r) : Fun1 Try.prog W0 17 [G.api_Hist.av h_0, .sl (List.map i64 order_1)] (bl r) := Fun1.two (inquestref20_Sessions_ok0 hT h) (by simp)


end Wk
