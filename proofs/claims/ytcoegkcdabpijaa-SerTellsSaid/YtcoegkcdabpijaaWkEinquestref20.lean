/- That the functions of a package do what their plain functions say. -/
import Derived.Test.YtcoegkcdabpijaaSh
import Derived.Test.YtcoegkcdabpijaaWkEFacts
import Derived.Test.YtcoegkcdabpijaaWkEinquestref08
import Derived.Test.YtcoegkcdabpijaaWkEinquestref18
open Go Go.Av Go.Proofs
set_option linter.unusedVariables false
set_option maxHeartbeats 8000000
set_option maxRecDepth 20000
namespace Wk
theorem inquestref20_Takes_ok0 {W0 : World} (hT : Tab W0) {a_0 : List G.api_Take} {b_1 : List G.api_Take} {r : Bool} (h : G.inquestref20_Takes a_0 b_1 = some r) : Fun2 Try.prog W0 14 [.sl (List.map G.api_Take.av a_0), .sl (List.map G.api_Take.av b_1)] (bl r) .empty := by
 refine fun2_of_awp Try.func14 rfl (by kernel_rfl) Try.ntmps14 (by simp) ?_
 unfold G.inquestref20_Takes at h
 show AWP _ _ _ _ ⟨[(0, .sl (List.map G.api_Take.av a_0)), (1, .sl (List.map G.api_Take.av b_1))], .empty⟩ _
 refine awp_seqK fun K1 hK1 => awp_reg rfl <| AR.op rfl (aop_move (.inr rfl) rfl) <| AR.nil <| hK1 _ (AWP.weak (Weak.kt [0, 1] rfl) ?_)
 refine awp_seqK fun K2 hK2 => awp_seqK fun K3 hK3 => awp_reg rfl <| AR.op rfl (aop_move (.inl rfl) rfl) <| AR.op rfl (t_len_sl G.api_Take.av a_0 rfl rfl el32) <| AR.op rfl (aop_move (.inl rfl) rfl) <| AR.keep [0, 1, 7, 8] rfl <| AR.op rfl (t_len_sl G.api_Take.av b_1 rfl rfl el32) ?_
 refine AR.op (r := bl (decide ((Sh.len a_0) ≠ (Sh.len b_1)))) rfl (aop_neq rfl rfl rfl) <| AR.nil <| hK3 _ (AWP.weak (Weak.kt [0, 1, 10] rfl) ?_)
 refine awp_cond rfl (fun hb15 => ?_) (fun hb15 => ?_)
 ·replace h := Sh.if_t h hb15
  refine awp_seqK fun K4 hK4 => awp_reg rfl <| AR.op rfl (aop_move (.inr rfl) rfl) <| AR.nil <| hK4 _ (AWP.weak (Weak.kt [4] rfl) ?_)
  refine awp_ret ?_
  obtain rfl := Option.some.inj h
  refine ⟨.inr rfl, bl false, rfl, ?_⟩
  exact Weak.e ⟨.k, trivial⟩
 ·replace h := Sh.if_f h hb15
  refine awp_skip <| hK2 _ (AWP.weak (Weak.kt [0, 1] rfl) ?_)
  refine awp_seqJ (fun (p : Unit) => (⟨[], .empty⟩ : St)) (fun (p : Unit) => G.inquestref20_Takes_j1 = some r) ?_ ?_
  ·rintro ⟨⟩ h
   replace h : G.inquestref20_Takes_j1 = some r := h
   unfold G.inquestref20_Takes_j1 at h
   refine awp_seqK fun K5 hK5 => awp_reg rfl <| AR.op rfl (aop_move (.inr rfl) rfl) <| AR.nil <| hK5 _ ?_
   refine awp_ret ?_
   obtain rfl := Option.some.inj h
   refine ⟨.inr rfl, bl true, rfl, ?_⟩
   exact Weak.e ⟨.k, trivial⟩
  ·intro K6 hK6
   refine awp_seqK fun K7 hK7 => awp_reg rfl <| AR.op rfl (aop_move (.inr rfl) rfl) <| AR.nil <| hK7 _ ?_
   refine awp_block <| awp_iter (fun (p : Int) => G.inquestref20_Takes_b1 a_0 b_1 p) (fun (p : Int) => (⟨[(0, .sl (List.map G.api_Take.av a_0)), (1, .sl (List.map G.api_Take.av b_1)), (5, i64 p)], .empty⟩ : St)) h (Weak.kt [0, 1, 5] rfl) ?_
   ·skip
    rintro i39 o1 h hx1
    replace h : G.inquestref20_Takes_b1 a_0 b_1 i39 = some o1 := h
    unfold G.inquestref20_Takes_b1 at h
    refine awp_seqK fun K8 hK8 => awp_seqK fun K9 hK9 => awp_reg rfl <| AR.op rfl (aop_move (.inl rfl) rfl) <| AR.op rfl (aop_move (.inl rfl) rfl) <| AR.op rfl (t_len_sl G.api_Take.av a_0 rfl rfl el32) <| AR.keep [0, 1, 5, 11, 13] rfl <| AR.op rfl (aop_lss rfl rfl rfl) ?_
    refine AR.nil <| hK9 _ (AWP.weak (Weak.kt [0, 1, 5, 14] rfl) ?_)
    refine awp_cond rfl (fun hb40 => ?_) (fun hb40 => ?_)
    ·replace h := Sh.if_t h hb40
     refine awp_skip <| hK8 _ (AWP.weak (Weak.kt [0, 1, 5] rfl) ?_)
     refine awp_seqK fun K10 hK10 => awp_block <| awp_seqK fun K11 hK11 => awp_any [(true, false), (true, false), (true, false), (true, false), (true, false), (true, false), (true, false), (true, false), (true, false)] (by kernel_rfl) (by kernel_rfl) rfl ?_
     refine ARH.dry rfl (fun _ => aop_move (.inl rfl) rfl) <| ARH.dry rfl (fun _ => aop_move (.inl rfl) rfl) ?_
     obtain ⟨x49, hx49, h⟩ := Sh.bind_some' h
     obtain ⟨k50, hi50, hl50⟩ := Sh.idx_some hx49
     refine ARH.dry rfl (fun _ => t_index_sl G.api_Take.av a_0 hi50 hl50 rfl rfl rfl el32 rfl) <| ARH.keep [0, 1, 5, 19] rfl <| ARH.dry (r := G.api_Take.av x49) rfl (fun _ => aop_load_pp rfl rfl sz39 rfl) <| ARH.dry rfl (fun _ => aop_move (.inl rfl) rfl) <| ARH.dry rfl (fun _ => aop_move (.inl rfl) rfl) <| ARH.keep [0, 1, 5, 20, 21, 22] rfl ?_
     obtain ⟨x51, hx51, h⟩ := Sh.bind_some' h
     obtain ⟨k52, hi52, hl52⟩ := Sh.idx_some hx51
     refine ARH.dry rfl (fun _ => t_index_sl G.api_Take.av b_1 hi52 hl52 rfl rfl rfl el32 rfl) <| ARH.dry (r := G.api_Take.av x51) rfl (fun _ => aop_load_pp rfl rfl sz39 rfl) <| ARH.dry (r := bl (!decide (x49 = x51))) rfl (fun _ => t_ne_api_Take (a := x49) (b := x51) rfl rfl rfl) <| ARH.nil <| hK11 _ (AWP.weak (Weak.kt [0, 1, 5, 25] rfl) ?_)
     refine awp_cond rfl (fun hb53 => ?_) (fun hb53 => ?_)
     ·replace h := Sh.if_t h hb53
      refine awp_seqK fun K12 hK12 => awp_reg rfl <| AR.op rfl (aop_move (.inr rfl) rfl) <| AR.nil <| hK12 _ (AWP.weak (Weak.kt [4] rfl) ?_)
      refine awp_ret ?_
      replace h := Sh.exit_eq h hx1
      obtain rfl := Option.some.inj h
      refine ⟨.inr rfl, bl false, rfl, ?_⟩
      exact Weak.e ⟨.k, trivial⟩
     ·replace h := Sh.if_f h hb53
      refine awp_skip <| hK10 _ (AWP.weak (Weak.kt [0, 1, 5] rfl) ?_)
      refine awp_reg rfl <| AR.op rfl (aop_move (.inl rfl) rfl) <| AR.op rfl (aop_add rfl rfl rfl rfl) <| AR.op rfl (aop_move (.inr rfl) rfl) <| AR.nil ?_
      replace h := Sh.next_eq h
      exact ⟨_, h, Weak.kt [0, 1, 5] rfl⟩
    ·replace h := Sh.if_f h hb40
     refine awp_exit ?_
     replace h := Sh.exit_eq h hx1
     exact hK6 () _ h (Weak.kt [] rfl)
theorem inquestref20_Takes_ok {W0 : World} (hT : Tab W0) {a_0 : List G.api_Take} {b_1 : List G.api_Take} {r : Bool} (h : G.inquestref20_Takes a_0 b_1 = some r) : Fun1 Try.prog W0 14 [.sl (List.map G.api_Take.av a_0), .sl (List.map G.api_Take.av b_1)] (bl r) := Fun1.two (inquestref20_Takes_ok0 hT h) (by simp)


theorem inquestref20_from_ok0 {W0 : World} (hT : Tab W0) {h_0 : G.api_Hist} {order_1 : List Int} {at_2 : Int} {key_3 : Int} {r : Int} (h : G.inquestref20_from h_0 order_1 at_2 key_3 = some r) : Fun2 Try.prog W0 32 [G.api_Hist.av h_0, .sl (List.map i64 order_1), i64 at_2, i64 key_3] (i64 r) .empty := by
 refine fun2_of_awp Try.func32 rfl (by kernel_rfl) Try.ntmps32 (by simp) ?_
 unfold G.inquestref20_from at h
 show AWP _ _ _ _ ⟨[(0, G.api_Hist.av h_0), (1, .sl (List.map i64 order_1)), (2, i64 at_2), (3, i64 key_3)], .empty⟩ _
 refine awp_seqK fun K1 hK1 => awp_reg rfl <| AR.op (r := .ref 0 0 0) rfl (aop_box 1 [G.api_Hist.av h_0] rfl rfl rfl (.inl ⟨rfl, rfl⟩)) <| AR.op rfl (aop_move (.inr rfl) rfl) <| AR.nil <| hK1 _ (AWP.weak (Weak.e (fr' := [(1, .sl (List.map i64 order_1)), (2, i64 at_2), (3, i64 key_3), (4, .pp [.sl (List.map G.api_Txn.av h_0.Txns)] 0)]) (H' := .empty) ⟨⟨.sl (List.map i64 order_1), rfl, .sm⟩, .k, .k, ⟨_, rfl, .frzA rfl rfl rfl rfl (by simp)⟩, trivial⟩) ?_)
 refine awp_seqJ (fun (p : Unit) => (⟨[], .empty⟩ : St)) (fun (p : Unit) => G.inquestref20_from_j1 = some r) ?_ ?_
 ·rintro ⟨⟩ h
  replace h : G.inquestref20_from_j1 = some r := h
  unfold G.inquestref20_from_j1 at h
  refine awp_seqK fun K2 hK2 => awp_reg rfl <| AR.op rfl (aop_move (.inr rfl) rfl) <| AR.nil <| hK2 _ ?_
  refine awp_ret ?_
  obtain rfl := Option.some.inj h
  refine ⟨.inr rfl, i64 (-1), rfl, ?_⟩
  exact Weak.e ⟨.k, trivial⟩
 ·intro K3 hK3
  refine awp_seqK fun K4 hK4 => awp_reg rfl <| AR.op rfl (aop_move (.inl rfl) rfl) <| AR.op rfl (aop_sub rfl rfl rfl rfl) <| AR.op rfl (aop_move (.inr rfl) rfl) <| AR.nil <| hK4 _ (AWP.weak (Weak.kt [1, 3, 4, 9] rfl) ?_)
  refine awp_block <| awp_iter (fun (p : Int) => G.inquestref20_from_b1 h_0 order_1 key_3 p) (fun (p : Int) => (⟨[(1, .sl (List.map i64 order_1)), (3, i64 key_3), (4, .pp [.sl (List.map G.api_Txn.av h_0.Txns)] 0), (9, i64 p)], .empty⟩ : St)) h (Weak.kt [1, 3, 4, 9] rfl) ?_
  ·skip
   rintro i62 o1 h hx1
   replace h : G.inquestref20_from_b1 h_0 order_1 key_3 i62 = some o1 := h
   unfold G.inquestref20_from_b1 at h
   refine awp_seqK fun K5 hK5 => awp_seqK fun K6 hK6 => awp_reg rfl <| AR.op rfl (aop_move (.inl rfl) rfl) <| AR.op rfl (aop_geq rfl rfl rfl) <| AR.nil <| hK6 _ (AWP.weak (Weak.kt [1, 3, 4, 9, 14] rfl) ?_)
   refine awp_cond rfl (fun hb63 => ?_) (fun hb63 => ?_)
   ·replace h := Sh.if_t h hb63
    refine awp_skip <| hK5 _ (AWP.weak (Weak.kt [1, 3, 4, 9] rfl) ?_)
    refine awp_seqK fun K7 hK7 => awp_block <| awp_seqK fun K8 hK8 => awp_any [(true, false), (true, false), (true, false), (true, false), (true, false), (true, false), (true, false), (true, false), (true, false), (true, false), (true, false)] (by kernel_rfl) (by kernel_rfl) rfl ?_
    refine ARH.dry rfl (fun _ => aop_field_pp rfl rfl fd24_0 (by decide)) <| ARH.dry (r := .sl (List.map G.api_Txn.av h_0.Txns)) rfl (fun _ => aop_load_pp rfl rfl sz22 rfl) <| ARH.dry rfl (fun _ => aop_move (.inl rfl) rfl) <| ARH.keep [1, 3, 4, 9, 18, 19] rfl <| ARH.dry rfl (fun _ => aop_move (.inl rfl) rfl) ?_
    obtain ⟨x76, hx76, h⟩ := Sh.bind_some' h
    obtain ⟨k77, hi77, hl77⟩ := Sh.idx_some hx76
    refine ARH.dry rfl (fun _ => t_index_sl i64 order_1 hi77 hl77 rfl rfl rfl el25 rfl) <| ARH.dry (r := i64 x76) rfl (fun _ => aop_load_pp rfl rfl sz3 rfl) <| ARH.keep [1, 3, 4, 9, 18, 22] rfl ?_
    obtain ⟨x78, hx78, h⟩ := Sh.bind_some' h
    obtain ⟨k79, hi79, hl79⟩ := Sh.idx_some hx78
    refine ARH.dry rfl (fun _ => t_index_sl G.api_Txn.av h_0.Txns hi79 hl79 rfl rfl rfl el22 rfl) <| ARH.dry (r := G.api_Txn.av x78) rfl (fun _ => aop_load_pp rfl rfl sz36 rfl) <| ARH.dry rfl (fun _ => aop_move (.inl rfl) rfl) <| ARH.keep [1, 3, 4, 9, 24, 25] rfl ?_
    obtain ⟨r80, hr80, h⟩ := Sh.bind_some' h
    refine ARH.dry (r := bl r80) rfl (fun _ => aop_call1 rfl rfl (by simp) (inquestref08_Writes_ok hT hr80)) <| ARH.dry rfl (fun _ => aop_move (.inr rfl) rfl) <| ARH.nil <| hK8 _ (AWP.weak (Weak.kt [1, 3, 4, 9, 10] rfl) ?_)
    refine awp_seqK fun K9 hK9 => awp_reg rfl <| AR.op rfl (aop_move (.inl rfl) rfl) <| AR.nil <| hK9 _ (AWP.weak (Weak.kt [1, 3, 4, 9, 27] rfl) ?_)
    refine awp_cond rfl (fun hb81 => ?_) (fun hb81 => ?_)
    ·replace h := Sh.if_t h hb81
     refine awp_seqK fun K10 hK10 => awp_reg rfl <| AR.op rfl (aop_move (.inl rfl) rfl) <| AR.op rfl (aop_move (.inl rfl) rfl) ?_
     obtain ⟨x84, hx84, h⟩ := Sh.bind_some' h
     obtain ⟨k85, hi85, hl85⟩ := Sh.idx_some hx84
     refine AR.op rfl (t_index_sl i64 order_1 hi85 hl85 rfl rfl rfl el25 rfl) <| AR.keep [30] rfl <| AR.op (r := i64 x84) rfl (aop_load_pp rfl rfl sz3 rfl) <| AR.op rfl (aop_move (.inr rfl) rfl) <| AR.nil <| hK10 _ (AWP.weak (Weak.kt [8] rfl) ?_)
     refine awp_ret ?_
     replace h := Sh.exit_eq h hx1
     obtain rfl := Option.some.inj h
     refine ⟨.inr rfl, i64 x84, rfl, ?_⟩
     exact Weak.e ⟨.k, trivial⟩
    ·replace h := Sh.if_f h hb81
     refine awp_skip <| hK7 _ (AWP.weak (Weak.kt [1, 3, 4, 9] rfl) ?_)
     refine awp_reg rfl <| AR.op rfl (aop_move (.inl rfl) rfl) <| AR.op rfl (aop_sub rfl rfl rfl rfl) <| AR.op rfl (aop_move (.inr rfl) rfl) <| AR.nil ?_
     replace h := Sh.next_eq h
     exact ⟨_, h, Weak.kt [1, 3, 4, 9] rfl⟩
   ·replace h := Sh.if_f h hb63
    refine awp_exit ?_
    replace h := Sh.exit_eq h hx1
    exact hK3 () _ h (Weak.kt [] rfl)
theorem inquestref20_from_ok {W0 : World} (hT : Tab W0) {h_0 : G.api_Hist} {order_1 : List Int} {at_2 : Int} {key_3 : Int} {r : Int} (h : G.inquestref20_from h_0 order_1 at_2 key_3 = some r) : Fun1 Try.prog W0 32 [G.api_Hist.av h_0, .sl (List.map i64 order_1), i64 at_2, i64 key_3] (i64 r) := Fun1.two (inquestref20_from_ok0 hT h) (by simp)


theorem inquestref20_Play_own {W0 : World} (hT : Tab W0) {h_0 : G.api_Hist} {order_1 : List Int} {r : (List (List G.api_Take))} (h : G.inquestref20_Play h_0 order_1 = some r) : Fun2 Try.prog W0 11 [G.api_Hist.av h_0, .sl (List.map i64 order_1)] (.view 0 0 (List.map (slA G.api_Take.av) r).length) ⟨1, [(0, (1, List.map (slA G.api_Take.av) r))], []⟩ := by
 refine fun2_of_awp Try.func11 rfl (by kernel_rfl) Try.ntmps11 (by simp) ?_
 unfold G.inquestref20_Play at h
 show AWP _ _ _ _ ⟨[(0, G.api_Hist.av h_0), (1, .sl (List.map i64 order_1))], .empty⟩ _
 refine awp_seqK fun K1 hK1 => awp_reg rfl <| AR.op (r := .ref 0 0 0) rfl (aop_box 1 [G.api_Hist.av h_0] rfl rfl rfl (.inl ⟨rfl, rfl⟩)) <| AR.op rfl (aop_move (.inr rfl) rfl) <| AR.nil <| hK1 _ (AWP.weak (Weak.e (fr' := [(1, .sl (List.map i64 order_1)), (2, .pp [.sl (List.map G.api_Txn.av h_0.Txns)] 0)]) (H' := .empty) ⟨⟨.sl (List.map i64 order_1), rfl, .sm⟩, ⟨_, rfl, .frzA rfl rfl rfl rfl (by simp)⟩, trivial⟩) ?_)
 refine awp_seqK fun K2 hK2 => awp_reg rfl <| AR.op (r := G.api_Hist.av h_0) rfl (aop_load_pp rfl rfl sz24 rfl) ?_
 obtain ⟨r121, hr121, h⟩ := Sh.bind_some' h
 refine AR.op (r := bl r121) rfl (aop_call1 rfl rfl (by simp) (inquestref08_Right_ok hT hr121)) <| AR.op rfl (aop_move (.inr rfl) rfl) <| AR.nil <| hK2 _ (AWP.weak (Weak.kt [1, 2, 5] rfl) ?_)
 refine awp_seqK fun K3 hK3 => awp_reg rfl <| AR.op rfl (aop_move (.inl rfl) rfl) <| AR.op rfl (aop_field_pp rfl rfl fd24_0 (by decide)) <| AR.op (r := .sl (List.map G.api_Txn.av h_0.Txns)) rfl (aop_load_pp rfl rfl sz22 rfl) <| AR.keep [1, 2, 5, 15, 17] rfl <| AR.op rfl (t_len_sl G.api_Txn.av h_0.Txns rfl rfl el22) ?_
 obtain ⟨r123, hr123, h⟩ := Sh.bind_some' h
 refine AR.op (r := bl r123) rfl (aop_call1 rfl rfl (by simp) (inquestref18_Perm_ok hT hr123)) <| AR.op rfl (aop_move (.inr rfl) rfl) <| AR.nil <| hK3 _ (AWP.weak (Weak.kt [1, 2, 5, 6] rfl) ?_)
 refine awp_seqK fun K4 hK4 => awp_seqJ (fun (p : Bool) => (⟨[(1, .sl (List.map i64 order_1)), (2, .pp [.sl (List.map G.api_Txn.av h_0.Txns)] 0), (25, bl p)], .empty⟩ : St)) (fun (p : Bool) => G.inquestref20_Play_j1 h_0 order_1 p = some r) ?_ ?_
 ·rintro v127 h
  replace h : G.inquestref20_Play_j1 h_0 order_1 v127 = some r := h
  unfold G.inquestref20_Play_j1 at h
  refine awp_cond rfl (fun hb128 => ?_) (fun hb128 => ?_)
  ·replace h := Sh.if_t h hb128
   refine awp_seqK fun K5 hK5 => awp_reg rfl <| AR.op rfl (aop_move (.inr rfl) rfl) <| AR.nil <| hK5 _ (AWP.weak (Weak.kt [4] rfl) ?_)
   refine awp_ret ?_
   obtain rfl := Option.some.inj h
   refine ⟨.inr rfl, nilS, rfl, ?_⟩
   exact Weak.re [] [0] rfl rfl rfl (.fresh (by simp) dt trivial) ⟨⟨_, rfl, .nil (by simp)⟩, trivial⟩
  ·replace h := Sh.if_f h hb128
   refine awp_skip <| hK4 _ (AWP.weak (Weak.kt [1, 2] rfl) ?_)
   refine awp_seqK fun K6 hK6 => awp_reg rfl <| AR.op rfl (aop_move (.inr rfl) rfl) <| AR.nil <| hK6 _ ?_
   refine awp_seqJ (fun (p : (List (List G.api_Take))) => (⟨[(7, .view 0 0 (List.map (slA G.api_Take.av) p).length)], ⟨1, [(0, (1, List.map (slA G.api_Take.av) p))], []⟩⟩ : St)) (fun (p : (List (List G.api_Take))) => G.inquestref20_Play_j2 p = some r) ?_ ?_
   ·rintro out244 h
    replace h : G.inquestref20_Play_j2 out244 = some r := h
    unfold G.inquestref20_Play_j2 at h
    refine awp_seqK fun K7 hK7 => awp_reg rfl <| AR.op rfl (aop_move (.inl rfl) rfl) <| AR.op rfl (aop_move (.inr rfl) rfl) <| AR.nil <| hK7 _ (AWP.weak (Weak.kt [4] rfl) ?_)
    refine awp_ret ?_
    obtain rfl := Option.some.inj h
    refine ⟨.inr rfl, .view 0 0 (List.map (slA G.api_Take.av) out244).length, rfl, ?_⟩
    exact Weak.re [(0, 0)] [] rfl rfl rfl (.cons rfl rfl (.same (by simp)) dt trivial) ⟨⟨_, rfl, .view rfl⟩, trivial⟩
   ·intro K8 hK8
    refine awp_seqK fun K9 hK9 => awp_reg rfl <| AR.op rfl (aop_move (.inr rfl) rfl) <| AR.nil <| hK9 _ ?_
    refine awp_block <| awp_iter (fun (p : (List (List G.api_Take)) × Int) => G.inquestref20_Play_b1 h_0 order_1 p.1 p.2) (fun (p : (List (List G.api_Take)) × Int) => (⟨[(1, .sl (List.map i64 order_1)), (2, .pp [.sl (List.map G.api_Txn.av h_0.Txns)] 0), (7, .view 0 0 (List.map (slA G.api_Take.av) p.1).length), (8, i64 p.2)], ⟨1, [(0, (1, List.map (slA G.api_Take.av) p.1))], []⟩⟩ : St)) h (Weak.re [] [0] rfl rfl rfl (.fresh (by simp) dt trivial) ⟨⟨.sl (List.map i64 order_1), rfl, .sm⟩, .k, ⟨_, rfl, .nil (by simp)⟩, .k, trivial⟩) ?_
    ·skip
     rintro ⟨out321, t322⟩ o1 h hx1
     replace h : G.inquestref20_Play_b1 h_0 order_1 out321 t322 = some o1 := h
     unfold G.inquestref20_Play_b1 at h
     refine awp_seqK fun K10 hK10 => awp_seqK fun K11 hK11 => awp_reg rfl <| AR.op rfl (aop_move (.inl rfl) rfl) <| AR.op rfl (aop_field_pp rfl rfl fd24_0 (by decide)) <| AR.op (r := .sl (List.map G.api_Txn.av h_0.Txns)) rfl (aop_load_pp rfl rfl sz22 rfl) <| AR.keep [1, 2, 7, 8, 26, 28] rfl <| AR.op rfl (t_len_sl G.api_Txn.av h_0.Txns rfl rfl el22) ?_
     refine AR.op rfl (aop_lss rfl rfl rfl) <| AR.nil <| hK11 _ (AWP.weak (Weak.kt [1, 2, 7, 8, 30] rfl) ?_)
     refine awp_cond rfl (fun hb323 => ?_) (fun hb323 => ?_)
     ·replace h := Sh.if_t h hb323
      refine awp_skip <| hK10 _ (AWP.weak (Weak.kt [1, 2, 7, 8] rfl) ?_)
      refine awp_seqJ (fun (p : (List (List G.api_Take))) => (⟨[(1, .sl (List.map i64 order_1)), (2, .pp [.sl (List.map G.api_Txn.av h_0.Txns)] 0), (8, i64 t322), (7, .view 0 0 (List.map (slA G.api_Take.av) p).length)], ⟨1, [(0, (1, List.map (slA G.api_Take.av) p))], []⟩⟩ : St)) (fun (p : (List (List G.api_Take))) => G.inquestref20_Play_j3 t322 p = some o1) ?_ ?_
      ·rintro out361 h
       replace h : G.inquestref20_Play_j3 t322 out361 = some o1 := h
       unfold G.inquestref20_Play_j3 at h
       refine awp_reg rfl <| AR.op rfl (aop_move (.inl rfl) rfl) <| AR.op rfl (aop_add rfl rfl rfl rfl) <| AR.op rfl (aop_move (.inr rfl) rfl) <| AR.nil ?_
       replace h := Sh.next_eq h
       exact ⟨_, h, Weak.kt [1, 2, 7, 8] rfl⟩
      ·intro K12 hK12
       refine awp_block <| awp_seqK fun K13 hK13 => awp_reg rfl <| AR.op rfl (aop_move (.inr rfl) rfl) <| AR.nil <| hK13 _ ?_
       refine awp_seqJ (fun (p : Int) => (⟨[(1, .sl (List.map i64 order_1)), (2, .pp [.sl (List.map G.api_Txn.av h_0.Txns)] 0), (7, .view 0 0 (List.map (slA G.api_Take.av) out321).length), (8, i64 t322), (9, i64 p)], ⟨1, [(0, (1, List.map (slA G.api_Take.av) out321))], []⟩⟩ : St)) (fun (p : Int) => G.inquestref20_Play_j4 h_0 order_1 out321 t322 p = some o1) ?_ ?_
       ·rintro at370 h
        replace h : G.inquestref20_Play_j4 h_0 order_1 out321 t322 at370 = some o1 := h
        unfold G.inquestref20_Play_j4 at h
        refine awp_seqK fun K14 hK14 => awp_reg rfl <| AR.op rfl (aop_move (.inr rfl) rfl) <| AR.nil <| hK14 _ ?_
        refine awp_seqJ (fun (p : (List G.api_Take)) => (⟨[(1, .sl (List.map i64 order_1)), (2, .pp [.sl (List.map G.api_Txn.av h_0.Txns)] 0), (7, .view 0 0 (List.map (slA G.api_Take.av) out321).length), (8, i64 t322), (10, .sl (List.map G.api_Take.av p))], ⟨1, [(0, (1, List.map (slA G.api_Take.av) out321))], []⟩⟩ : St)) (fun (p : (List G.api_Take)) => G.inquestref20_Play_j5 out321 t322 p = some o1) ?_ ?_
        ·rintro l399 h
         replace h : G.inquestref20_Play_j5 out321 t322 l399 = some o1 := h
         unfold G.inquestref20_Play_j5 at h
         refine awp_reg rfl <| AR.op rfl (aop_move (.inl rfl) rfl) <| AR.op rfl (aop_move (.inl rfl) rfl) <| AR.op (r := .clip (List.map (slA G.api_Take.av) ([l399] : List (List G.api_Take)))) rfl (aop_buildSlice rfl (xo := [.tmp 73]) rfl rfl rfl (by simp [AV.solid]) (by simp [AV.flat]) el28 ze28 (by decide)) <| AR.keep [1, 2, 8, 72, 74] rfl ?_
         obtain ⟨out400, hout400, h⟩ := Sh.bind_some' h
         refine AR.op (r := .view 1 0 (List.map (slA G.api_Take.av) out400).length) rfl (t_app_view (slA G.api_Take.av) out321 ([l399] : List (List G.api_Take)) out400 hout400 rfl et28 (fun _ => rfl) rfl rfl rfl rfl rfl rfl rfl) <| AR.op rfl (aop_move (.inr rfl) rfl) <| AR.nil ?_
         exact hK12 out400 _ h (Weak.re [(0, 1)] [] rfl rfl rfl (.cons rfl rfl (.same (by simp)) dt trivial) ⟨⟨.sl (List.map i64 order_1), rfl, .sm⟩, .k, .k, ⟨_, rfl, .view rfl⟩, trivial⟩)
        ·intro K15 hK15
         refine awp_seqK fun K16 hK16 => awp_reg rfl <| AR.op rfl (aop_move (.inr rfl) rfl) <| AR.nil <| hK16 _ ?_
         refine awp_block <| awp_iter (fun (p : (List G.api_Take) × Int) => G.inquestref20_Play_b2 h_0 order_1 out321 t322 at370 p.1 p.2) (fun (p : (List G.api_Take) × Int) => (⟨[(1, .sl (List.map i64 order_1)), (2, .pp [.sl (List.map G.api_Txn.av h_0.Txns)] 0), (7, .view 0 0 (List.map (slA G.api_Take.av) out321).length), (8, i64 t322), (9, i64 at370), (10, .view 1 0 (List.map G.api_Take.av p.1).length), (11, i64 p.2)], ⟨2, [(0, (1, List.map (slA G.api_Take.av) out321)), (1, (2, List.map G.api_Take.av p.1))], []⟩⟩ : St)) h (Weak.re [(0, 0)] [1] rfl rfl rfl (.cons rfl rfl (.same (by simp)) dt (.fresh (by simp) dt trivial)) ⟨⟨.sl (List.map i64 order_1), rfl, .sm⟩, .k, ⟨_, rfl, .view rfl⟩, .k, .k, ⟨_, rfl, .nil (by simp)⟩, .k, trivial⟩) ?_
         ·skip
          rintro ⟨l419, i420⟩ o2 h hx2
          replace h : G.inquestref20_Play_b2 h_0 order_1 out321 t322 at370 l419 i420 = some o2 := h
          unfold G.inquestref20_Play_b2 at h
          refine awp_seqK fun K17 hK17 => awp_seqK fun K18 hK18 => awp_reg rfl <| AR.op rfl (aop_move (.inl rfl) rfl) <| AR.op rfl (aop_field_pp rfl rfl fd24_0 (by decide)) <| AR.op (r := .sl (List.map G.api_Txn.av h_0.Txns)) rfl (aop_load_pp rfl rfl sz22 rfl) <| AR.keep [1, 2, 7, 8, 9, 10, 11, 41, 43] rfl <| AR.op rfl (aop_move (.inl rfl) rfl) ?_
          obtain ⟨x425, hx425, h⟩ := Sh.bind_some' h
          obtain ⟨k426, hi426, hl426⟩ := Sh.idx_some hx425
          refine AR.op rfl (t_index_sl G.api_Txn.av h_0.Txns hi426 hl426 rfl rfl rfl el22 rfl) <| AR.op rfl (aop_field_pp rfl rfl fd36_2 (by decide)) <| AR.keep [1, 2, 7, 8, 9, 10, 11, 41, 46] rfl <| AR.op (r := .sl (List.map G.api_Take.av x425.Reads)) rfl (aop_load_pp rfl rfl sz32 rfl) <| AR.op rfl (t_len_sl G.api_Take.av x425.Reads rfl rfl el32) <| AR.op rfl (aop_lss rfl rfl rfl) <| AR.nil <| hK18 _ (AWP.weak (Weak.kt [1, 2, 7, 8, 9, 10, 11, 49] rfl) ?_)
          refine awp_cond rfl (fun hb427 => ?_) (fun hb427 => ?_)
          ·replace h := Sh.if_t h hb427
           refine awp_skip <| hK17 _ (AWP.weak (Weak.kt [1, 2, 7, 8, 9, 10, 11] rfl) ?_)
           refine awp_seqK fun K19 hK19 => awp_block <| awp_seqK fun K20 hK20 => awp_reg rfl <| AR.op rfl (aop_field_pp rfl rfl fd24_0 (by decide)) <| AR.op (r := .sl (List.map G.api_Txn.av h_0.Txns)) rfl (aop_load_pp rfl rfl sz22 rfl) <| AR.op rfl (aop_move (.inl rfl) rfl) <| AR.keep [1, 2, 7, 8, 9, 10, 11, 53, 54] rfl ?_
           obtain ⟨x438, hx438, h⟩ := Sh.bind_some' h
           obtain ⟨k439, hi439, hl439⟩ := Sh.idx_some hx438
           refine AR.op rfl (t_index_sl G.api_Txn.av h_0.Txns hi439 hl439 rfl rfl rfl el22 rfl) <| AR.op rfl (aop_field_pp rfl rfl fd36_2 (by decide)) <| AR.op (r := .sl (List.map G.api_Take.av x438.Reads)) rfl (aop_load_pp rfl rfl sz32 rfl) <| AR.keep [1, 2, 7, 8, 9, 10, 11, 57] rfl <| AR.op rfl (aop_move (.inl rfl) rfl) ?_
           obtain ⟨x440, hx440, h⟩ := Sh.bind_some' h
           obtain ⟨k441, hi441, hl441⟩ := Sh.idx_some hx440
           refine AR.op rfl (t_index_sl G.api_Take.av x438.Reads hi441 hl441 rfl rfl rfl el32 rfl) <| AR.op rfl (aop_field_pp rfl rfl fd39_0 (by decide)) <| AR.keep [1, 2, 7, 8, 9, 10, 11, 60] rfl <| AR.op (r := i64 x440.Key) rfl (aop_load_pp rfl rfl sz3 rfl) <| AR.op rfl (aop_move (.inr rfl) rfl) <| AR.nil <| hK20 _ (AWP.weak (Weak.kt [1, 2, 7, 8, 9, 10, 11, 12] rfl) ?_)
           refine awp_reg rfl <| AR.op rfl (aop_move (.inl rfl) rfl) <| AR.op rfl (aop_move (.inl rfl) rfl) <| AR.op (r := G.api_Hist.av h_0) rfl (aop_load_pp rfl rfl sz24 rfl) <| AR.keep [1, 2, 7, 8, 9, 11, 12, 62, 63, 64] rfl <| AR.op rfl (aop_move (.inl rfl) rfl) <| AR.op rfl (aop_move (.inl rfl) rfl) <| AR.op rfl (aop_move (.inl rfl) rfl) ?_
           refine AR.keep [1, 2, 7, 8, 9, 11, 62, 63, 64, 65, 66, 67] rfl ?_
           obtain ⟨r442, hr442, h⟩ := Sh.bind_some' h
           refine AR.op (r := i64 r442) rfl (aop_call1 rfl rfl (by simp) (inquestref20_from_ok hT hr442)) <| AR.op (r := .agg [i64 x440.Key, i64 r442]) rfl (aop_build rfl bd39 rfl rfl rfl) <| AR.op (r := .clip (List.map G.api_Take.av ([(G.api_Take.mk x440.Key r442)] : List G.api_Take))) rfl (aop_buildSlice rfl (xo := [.tmp 69]) rfl rfl rfl (by simp) (by simp) el32 ze32 (by decide)) <| AR.keep [1, 2, 7, 8, 9, 11, 62, 70] rfl ?_
           obtain ⟨l443, hl443, h⟩ := Sh.bind_some' h
           refine AR.op (r := .view 2 0 (List.map G.api_Take.av l443).length) rfl (t_app_view G.api_Take.av l419 ([(G.api_Take.mk x440.Key r442)] : List G.api_Take) l443 hl443 rfl et32 (fun _ => rfl) rfl rfl rfl rfl rfl rfl rfl) <| AR.op rfl (aop_move (.inr rfl) rfl) <| AR.nil <| hK19 _ (AWP.weak (Weak.re (fr' := [(1, .sl (List.map i64 order_1)), (2, .pp [.sl (List.map G.api_Txn.av h_0.Txns)] 0), (7, .view 0 0 (List.map (slA G.api_Take.av) out321).length), (8, i64 t322), (9, i64 at370), (11, i64 i420), (10, .view 1 0 (List.map G.api_Take.av l443).length)]) (H' := ⟨2, [(0, (1, List.map (slA G.api_Take.av) out321)), (1, (2, List.map G.api_Take.av l443))], []⟩) [(0, 0), (1, 2)] [] rfl rfl rfl (.cons rfl rfl (.same (by simp)) dt (.cons rfl rfl (.same (by simp)) dt trivial)) ⟨⟨.sl (List.map i64 order_1), rfl, .sm⟩, .k, ⟨_, rfl, .view rfl⟩, .k, .k, .k, ⟨_, rfl, .view rfl⟩, trivial⟩) ?_)
           refine awp_reg rfl <| AR.op rfl (aop_move (.inl rfl) rfl) <| AR.op rfl (aop_add rfl rfl rfl rfl) <| AR.op rfl (aop_move (.inr rfl) rfl) <| AR.nil ?_
           replace h := Sh.next_eq h
           exact ⟨_, h, Weak.kt [1, 2, 7, 8, 9, 10, 11] rfl⟩
          ·replace h := Sh.if_f h hb427
           refine awp_exit ?_
           replace h := Sh.exit_eq h hx2
           exact hK15 l419 _ h (Weak.re [(0, 0)] [] rfl rfl rfl (.cons rfl rfl (.same (by simp)) dt trivial) ⟨⟨.sl (List.map i64 order_1), rfl, .sm⟩, .k, ⟨_, rfl, .view rfl⟩, .k, ⟨_, rfl, .lendAll rfl rfl (by simp)⟩, trivial⟩)
       ·intro K21 hK21
        refine awp_block <| awp_iter (fun (p : Int) => G.inquestref20_Play_b3 h_0 order_1 out321 t322 p) (fun (p : Int) => (⟨[(1, .sl (List.map i64 order_1)), (2, .pp [.sl (List.map G.api_Txn.av h_0.Txns)] 0), (7, .view 0 0 (List.map (slA G.api_Take.av) out321).length), (8, i64 t322), (9, i64 p)], ⟨1, [(0, (1, List.map (slA G.api_Take.av) out321))], []⟩⟩ : St)) h (Weak.kt [1, 2, 7, 8, 9] rfl) ?_
        ·skip
         rintro at449 o3 h hx3
         replace h : G.inquestref20_Play_b3 h_0 order_1 out321 t322 at449 = some o3 := h
         unfold G.inquestref20_Play_b3 at h
         refine awp_seqK fun K22 hK22 => awp_seqK fun K23 hK23 => awp_reg rfl <| AR.op rfl (aop_move (.inl rfl) rfl) <| AR.op rfl (aop_move (.inl rfl) rfl) ?_
         obtain ⟨x454, hx454, h⟩ := Sh.bind_some' h
         obtain ⟨k455, hi455, hl455⟩ := Sh.idx_some hx454
         refine AR.op rfl (t_index_sl i64 order_1 hi455 hl455 rfl rfl rfl el25 rfl) <| AR.keep [1, 2, 7, 8, 9, 35] rfl <| AR.op (r := i64 x454) rfl (aop_load_pp rfl rfl sz3 rfl) <| AR.op rfl (aop_move (.inl rfl) rfl) <| AR.op (r := bl (decide (x454 ≠ t322))) rfl (aop_neq rfl rfl rfl) <| AR.nil <| hK23 _ (AWP.weak (Weak.kt [1, 2, 7, 8, 9, 38] rfl) ?_)
         refine awp_cond rfl (fun hb456 => ?_) (fun hb456 => ?_)
         ·replace h := Sh.if_t h hb456
          refine awp_skip <| hK22 _ (AWP.weak (Weak.kt [1, 2, 7, 8, 9] rfl) ?_)
          refine awp_block <| awp_reg rfl <| AR.op rfl (aop_move (.inl rfl) rfl) <| AR.op rfl (aop_add rfl rfl rfl rfl) <| AR.op rfl (aop_move (.inr rfl) rfl) <| AR.nil ?_
          replace h := Sh.next_eq h
          exact ⟨_, h, Weak.kt [1, 2, 7, 8, 9] rfl⟩
         ·replace h := Sh.if_f h hb456
          refine awp_exit ?_
          replace h := Sh.exit_eq h hx3
          exact hK21 at449 _ h (Weak.kt [1, 2, 7, 8, 9] rfl)
     ·replace h := Sh.if_f h hb323
      refine awp_exit ?_
      replace h := Sh.exit_eq h hx1
      exact hK8 out321 _ h (Weak.kt [7] rfl)
 ·intro K24 hK24
  refine awp_reg rfl <| AR.op rfl (aop_move (.inl rfl) rfl) <| AR.op (r := bl (!r121)) rfl (aop_not rfl rfl) <| AR.op rfl (aop_move (.inl rfl) rfl) <| AR.keep [1, 2, 6, 22] rfl ?_
  rcases Bool.eq_false_or_eq_true (!r121) with hb457 | hb457
  ·rw [hb457]
   replace h := Sh.if_t h hb457
   refine AR.skip rfl <| AR.skip rfl <| AR.op rfl (aop_pick rfl rfl rfl) <| AR.nil ?_
   exact hK24 true _ h (Weak.kt [1, 2, 25] rfl)
  ·rw [hb457]
   replace h := Sh.if_f h hb457
   refine AR.op rfl (aop_move (.inl rfl) rfl) <| AR.op (r := bl (!r123)) rfl (aop_not rfl rfl) <| AR.op rfl (aop_pick rfl rfl rfl) <| AR.nil ?_
   exact hK24 (!r123) _ h (Weak.kt [1, 2, 25] rfl)
theorem inquestref20_Play_ok {W0 : World} (hT : Tab W0) {h_0 : G.api_Hist} {order_1 : List Int} {r : (List (List G.api_Take))} (h : G.inquestref20_Play h_0 order_1 = some r) : Fun1 Try.prog W0 11 [G.api_Hist.av h_0, .sl (List.map i64 order_1)] (.sl (List.map (slA G.api_Take.av) r)) :=
 (inquestref20_Play_own hT h).give (Weak.e ⟨⟨_, rfl, .lendAll rfl rfl (by simp)⟩, trivial⟩) (by simp)


theorem inquestref20_Sessions_ok0 {W0 : World} (hT : Tab W0) {h_0 : G.api_Hist} {order_1 : List Int} {r : Bool} (h : G.inquestref20_Sessions h_0 order_1 = some r) : Fun2 Try.prog W0 17 [G.api_Hist.av h_0, .sl (List.map i64 order_1)] (bl r) .empty := by
 refine fun2_of_awp Try.func17 rfl (by kernel_rfl) Try.ntmps17 (by simp) ?_
 unfold G.inquestref20_Sessions at h
 show AWP _ _ _ _ ⟨[(0, G.api_Hist.av h_0), (1, .sl (List.map i64 order_1))], .empty⟩ _
 refine awp_seqK fun K1 hK1 => awp_reg rfl <| AR.op (r := .ref 0 0 0) rfl (aop_box 1 [G.api_Hist.av h_0] rfl rfl rfl (.inl ⟨rfl, rfl⟩)) <| AR.op rfl (aop_move (.inr rfl) rfl) <| AR.nil <| hK1 _ (AWP.weak (Weak.e (fr' := [(1, .sl (List.map i64 order_1)), (2, .pp [.sl (List.map G.api_Txn.av h_0.Txns)] 0)]) (H' := .empty) ⟨⟨.sl (List.map i64 order_1), rfl, .sm⟩, ⟨_, rfl, .frzA rfl rfl rfl rfl (by simp)⟩, trivial⟩) ?_)
 refine awp_seqJ (fun (p : Unit) => (⟨[], .empty⟩ : St)) (fun (p : Unit) => G.inquestref20_Sessions_j1 = some r) ?_ ?_
 ·rintro ⟨⟩ h
  replace h : G.inquestref20_Sessions_j1 = some r := h
  unfold G.inquestref20_Sessions_j1 at h
  refine awp_seqK fun K2 hK2 => awp_reg rfl <| AR.op rfl (aop_move (.inr rfl) rfl) <| AR.nil <| hK2 _ ?_
  refine awp_ret ?_
  obtain rfl := Option.some.inj h
  refine ⟨.inr rfl, bl true, rfl, ?_⟩
  exact Weak.e ⟨.k, trivial⟩
 ·intro K3 hK3
  refine awp_seqK fun K4 hK4 => awp_reg rfl <| AR.op rfl (aop_move (.inr rfl) rfl) <| AR.nil <| hK4 _ ?_
  refine awp_block <| awp_iter (fun (p : Int) => G.inquestref20_Sessions_b1 h_0 order_1 p) (fun (p : Int) => (⟨[(1, .sl (List.map i64 order_1)), (2, .pp [.sl (List.map G.api_Txn.av h_0.Txns)] 0), (5, i64 p)], .empty⟩ : St)) h (Weak.kt [1, 2, 5] rfl) ?_
  ·skip
   rintro i226 o1 h hx1
   replace h : G.inquestref20_Sessions_b1 h_0 order_1 i226 = some o1 := h
   unfold G.inquestref20_Sessions_b1 at h
   refine awp_seqK fun K5 hK5 => awp_seqK fun K6 hK6 => awp_reg rfl <| AR.op rfl (aop_move (.inl rfl) rfl) <| AR.op rfl (aop_move (.inl rfl) rfl) <| AR.op rfl (t_len_sl i64 order_1 rfl rfl el25) <| AR.keep [1, 2, 5, 7, 9] rfl <| AR.op rfl (aop_lss rfl rfl rfl) ?_
   refine AR.nil <| hK6 _ (AWP.weak (Weak.kt [1, 2, 5, 10] rfl) ?_)
   refine awp_cond rfl (fun hb227 => ?_) (fun hb227 => ?_)
   ·replace h := Sh.if_t h hb227
    refine awp_skip <| hK5 _ (AWP.weak (Weak.kt [1, 2, 5] rfl) ?_)
    refine awp_seqJ (fun (p : Unit) => (⟨[(1, .sl (List.map i64 order_1)), (2, .pp [.sl (List.map G.api_Txn.av h_0.Txns)] 0), (5, i64 i226)], .empty⟩ : St)) (fun (p : Unit) => G.inquestref20_Sessions_j2 i226 = some o1) ?_ ?_
    ·rintro ⟨⟩ h
     replace h : G.inquestref20_Sessions_j2 i226 = some o1 := h
     unfold G.inquestref20_Sessions_j2 at h
     refine awp_reg rfl <| AR.op rfl (aop_move (.inl rfl) rfl) <| AR.op rfl (aop_add rfl rfl rfl rfl) <| AR.op rfl (aop_move (.inr rfl) rfl) <| AR.nil ?_
     replace h := Sh.next_eq h
     exact ⟨_, h, Weak.kt [1, 2, 5] rfl⟩
    ·intro K7 hK7
     refine awp_block <| awp_seqK fun K8 hK8 => awp_reg rfl <| AR.op rfl (aop_move (.inr rfl) rfl) <| AR.nil <| hK8 _ ?_
     refine awp_block <| awp_iter (fun (p : Int) => G.inquestref20_Sessions_b2 h_0 order_1 i226 p) (fun (p : Int) => (⟨[(1, .sl (List.map i64 order_1)), (2, .pp [.sl (List.map G.api_Txn.av h_0.Txns)] 0), (5, i64 i226), (6, i64 p)], .empty⟩ : St)) h (Weak.kt [1, 2, 5, 6] rfl) ?_
     ·skip
      rintro k301 o2 h hx2
      replace h : G.inquestref20_Sessions_b2 h_0 order_1 i226 k301 = some o2 := h
      unfold G.inquestref20_Sessions_b2 at h
      refine awp_seqK fun K9 hK9 => awp_seqK fun K10 hK10 => awp_reg rfl <| AR.op rfl (aop_move (.inl rfl) rfl) <| AR.op rfl (aop_move (.inl rfl) rfl) <| AR.op rfl (aop_lss rfl rfl rfl) <| AR.nil <| hK10 _ (AWP.weak (Weak.kt [1, 2, 5, 6, 15] rfl) ?_)
      refine awp_cond rfl (fun hb302 => ?_) (fun hb302 => ?_)
      ·replace h := Sh.if_t h hb302
       refine awp_skip <| hK9 _ (AWP.weak (Weak.kt [1, 2, 5, 6] rfl) ?_)
       refine awp_seqK fun K11 hK11 => awp_block <| awp_seqJ (fun (p : Bool) => (⟨[(1, .sl (List.map i64 order_1)), (2, .pp [.sl (List.map G.api_Txn.av h_0.Txns)] 0), (5, i64 i226), (6, i64 k301), (47, bl p)], .empty⟩ : St)) (fun (p : Bool) => G.inquestref20_Sessions_j3 k301 p = some o2) ?_ ?_
       ·rintro v330 h
        replace h : G.inquestref20_Sessions_j3 k301 v330 = some o2 := h
        unfold G.inquestref20_Sessions_j3 at h
        refine awp_cond rfl (fun hb331 => ?_) (fun hb331 => ?_)
        ·replace h := Sh.if_t h hb331
         refine awp_seqK fun K12 hK12 => awp_reg rfl <| AR.op rfl (aop_move (.inr rfl) rfl) <| AR.nil <| hK12 _ (AWP.weak (Weak.kt [4] rfl) ?_)
         refine awp_ret ?_
         replace h := Sh.exit_eq h hx2
         replace h := Sh.exit_eq h hx1
         obtain rfl := Option.some.inj h
         refine ⟨.inr rfl, bl false, rfl, ?_⟩
         exact Weak.e ⟨.k, trivial⟩
        ·replace h := Sh.if_f h hb331
         refine awp_skip <| hK11 _ (AWP.weak (Weak.kt [1, 2, 5, 6] rfl) ?_)
         refine awp_reg rfl <| AR.op rfl (aop_move (.inl rfl) rfl) <| AR.op rfl (aop_add rfl rfl rfl rfl) <| AR.op rfl (aop_move (.inr rfl) rfl) <| AR.nil ?_
         replace h := Sh.next_eq h
         exact ⟨_, h, Weak.kt [1, 2, 5, 6] rfl⟩
       ·intro K13 hK13
        refine awp_any [(true, false), (true, false), (true, false), (true, false), (true, false), (true, false), (true, false), (true, false), (true, false), (true, false), (true, false), (true, false), (true, false), (true, false), (true, false), (true, false), (true, false), (true, false), (true, false), (true, false), (true, false), (true, false), (true, false), (true, false), (true, false), (true, false), (true, false), (true, false), (true, false), (true, false)] (by kernel_rfl) (by kernel_rfl) rfl ?_
        refine ARH.dry rfl (fun _ => aop_move (.inl rfl) rfl) <| ARH.dry rfl (fun _ => aop_move (.inl rfl) rfl) ?_
        obtain ⟨x332, hx332, h⟩ := Sh.bind_some' h
        obtain ⟨k333, hi333, hl333⟩ := Sh.idx_some hx332
        refine ARH.dry rfl (fun _ => t_index_sl i64 order_1 hi333 hl333 rfl rfl rfl el25 rfl) <| ARH.keep [1, 2, 5, 6, 20] rfl <| ARH.dry (r := i64 x332) rfl (fun _ => aop_load_pp rfl rfl sz3 rfl) <| ARH.dry rfl (fun _ => aop_move (.inl rfl) rfl) <| ARH.dry rfl (fun _ => aop_move (.inl rfl) rfl) <| ARH.keep [1, 2, 5, 6, 21, 22, 23] rfl ?_
        obtain ⟨x334, hx334, h⟩ := Sh.bind_some' h
        obtain ⟨k335, hi335, hl335⟩ := Sh.idx_some hx334
        refine ARH.dry rfl (fun _ => t_index_sl i64 order_1 hi335 hl335 rfl rfl rfl el25 rfl) <| ARH.dry (r := i64 x334) rfl (fun _ => aop_load_pp rfl rfl sz3 rfl) <| ARH.dry rfl (fun _ => aop_gtr rfl rfl rfl) <| ARH.keep [1, 2, 5, 6, 26] rfl <| ARH.dry rfl (fun _ => aop_move (.inl rfl) rfl) ?_
        rcases Bool.eq_false_or_eq_true (decide (x334 < x332)) with hb336 | hb336
        ·rw [hb336]
         replace h := Sh.if_t h hb336
         refine ARH.dry rfl (fun _ => aop_field_pp rfl rfl fd24_0 (by decide)) <| ARH.dry (r := .sl (List.map G.api_Txn.av h_0.Txns)) rfl (fun _ => aop_load_pp rfl rfl sz22 rfl) <| ARH.keep [1, 2, 5, 6, 27, 28, 29] rfl <| ARH.dry rfl (fun _ => aop_move (.inl rfl) rfl) <| ARH.dry rfl (fun _ => aop_move (.inl rfl) rfl) ?_
         obtain ⟨x337, hx337, h⟩ := Sh.bind_some' h
         obtain ⟨k338, hi338, hl338⟩ := Sh.idx_some hx337
         refine ARH.dry rfl (fun _ => t_index_sl i64 order_1 hi338 hl338 rfl rfl rfl el25 rfl) <| ARH.keep [1, 2, 5, 6, 27, 28, 29, 30, 31, 32] rfl <| ARH.dry (r := i64 x337) rfl (fun _ => aop_load_pp rfl rfl sz3 rfl) ?_
         obtain ⟨x339, hx339, h⟩ := Sh.bind_some' h
         obtain ⟨k340, hi340, hl340⟩ := Sh.idx_some hx339
         refine ARH.dry rfl (fun _ => t_index_sl G.api_Txn.av h_0.Txns hi340 hl340 rfl rfl rfl el22 rfl) <| ARH.dry rfl (fun _ => aop_field_pp rfl rfl fd36_0 (by decide)) <| ARH.keep [1, 2, 5, 6, 27, 28, 29, 30, 31, 32, 33, 34, 35] rfl <| ARH.dry (r := i64 x339.Session) rfl (fun _ => aop_load_pp rfl rfl sz3 rfl) <| ARH.dry rfl (fun _ => aop_field_pp rfl rfl fd24_0 (by decide)) <| ARH.dry (r := .sl (List.map G.api_Txn.av h_0.Txns)) rfl (fun _ => aop_load_pp rfl rfl sz22 rfl) <| ARH.keep [1, 2, 5, 6, 27, 28, 29, 30, 31, 32, 33, 34, 35, 36, 37, 38] rfl <| ARH.dry rfl (fun _ => aop_move (.inl rfl) rfl) ?_
         refine ARH.dry rfl (fun _ => aop_move (.inl rfl) rfl) ?_
         obtain ⟨x341, hx341, h⟩ := Sh.bind_some' h
         obtain ⟨k342, hi342, hl342⟩ := Sh.idx_some hx341
         refine ARH.dry rfl (fun _ => t_index_sl i64 order_1 hi342 hl342 rfl rfl rfl el25 rfl) <| ARH.keep [1, 2, 5, 6, 27, 28, 29, 30, 31, 32, 33, 34, 35, 36, 37, 38, 39, 40, 41] rfl <| ARH.dry (r := i64 x341) rfl (fun _ => aop_load_pp rfl rfl sz3 rfl) ?_
         obtain ⟨x343, hx343, h⟩ := Sh.bind_some' h
         obtain ⟨k344, hi344, hl344⟩ := Sh.idx_some hx343
         refine ARH.dry rfl (fun _ => t_index_sl G.api_Txn.av h_0.Txns hi344 hl344 rfl rfl rfl el22 rfl) <| ARH.dry rfl (fun _ => aop_field_pp rfl rfl fd36_0 (by decide)) <| ARH.keep [1, 2, 5, 6, 27, 28, 29, 30, 31, 32, 33, 34, 35, 36, 37, 38, 39, 40, 41, 42, 43, 44] rfl <| ARH.dry (r := i64 x343.Session) rfl (fun _ => aop_load_pp rfl rfl sz3 rfl) <| ARH.dry (r := bl (decide (x339.Session = x343.Session))) rfl (fun _ => aop_eql rfl rfl rfl) <| ARH.dry rfl (fun _ => aop_pick rfl rfl rfl) <| ARH.nil ?_
         exact hK13 (decide (x339.Session = x343.Session)) _ h (Weak.kt [1, 2, 5, 6, 47] rfl)
        ·rw [hb336]
         replace h := Sh.if_f h hb336
         refine ARH.skip rfl <| ARH.skip rfl <| ARH.keep [1, 2, 5, 6, 27, 28, 29] rfl <| ARH.skip rfl <| ARH.skip rfl <| ARH.skip rfl <| ARH.keep [1, 2, 5, 6, 27, 28, 29, 30, 31, 32] rfl <| ARH.skip rfl ?_
         refine ARH.skip rfl <| ARH.skip rfl <| ARH.keep [1, 2, 5, 6, 27, 28, 29, 30, 31, 32, 33, 34, 35] rfl <| ARH.skip rfl <| ARH.skip rfl <| ARH.skip rfl <| ARH.keep [1, 2, 5, 6, 27, 28, 29, 30, 31, 32, 33, 34, 35, 36, 37, 38] rfl <| ARH.skip rfl ?_
         refine ARH.skip rfl <| ARH.skip rfl <| ARH.keep [1, 2, 5, 6, 27, 28, 29, 30, 31, 32, 33, 34, 35, 36, 37, 38, 39, 40, 41] rfl <| ARH.skip rfl <| ARH.skip rfl <| ARH.skip rfl <| ARH.keep [1, 2, 5, 6, 27, 28, 29, 30, 31, 32, 33, 34, 35, 36, 37, 38, 39, 40, 41, 42, 43, 44] rfl <| ARH.skip rfl ?_
         refine ARH.skip rfl <| ARH.dry rfl (fun _ => aop_pick rfl rfl rfl) <| ARH.nil ?_
         exact hK13 false _ h (Weak.kt [1, 2, 5, 6, 47] rfl)
      ·replace h := Sh.if_f h hb302
       refine awp_exit ?_
       replace h := Sh.exit_eq h hx2
       exact hK7 () _ h (Weak.kt [1, 2, 5] rfl)
   ·replace h := Sh.if_f h hb227
    refine awp_exit ?_
    replace h := Sh.exit_eq h hx1
    exact hK3 () _ h (Weak.kt [] rfl)
theorem inquestref20_Sessions_ok {W0 : World} (hT : Tab W0) {h_0 : G.api_Hist} {order_1 : List Int} {r : Bool} (h : G.inquestref20_Sessions h_0 order_1 = some r) : Fun1 Try.prog W0 17 [G.api_Hist.av h_0, .sl (List.map i64 order_1)] (bl r) := Fun1.two (inquestref20_Sessions_ok0 hT h) (by simp)


theorem inquestref20_Check_ok0 {W0 : World} (hT : Tab W0) {h_0 : G.api_Hist} {order_1 : List Int} {r : Bool} (h : G.inquestref20_Check h_0 order_1 = some r) : Fun2 Try.prog W0 13 [G.api_Hist.av h_0, .sl (List.map i64 order_1)] (bl r) .empty := by
 refine fun2_of_awp Try.func13 rfl (by kernel_rfl) Try.ntmps13 (by simp) ?_
 unfold G.inquestref20_Check at h
 show AWP _ _ _ _ ⟨[(0, G.api_Hist.av h_0), (1, .sl (List.map i64 order_1))], .empty⟩ _
 refine awp_seqK fun K1 hK1 => awp_reg rfl <| AR.op (r := .ref 0 0 0) rfl (aop_box 1 [G.api_Hist.av h_0] rfl rfl rfl (.inl ⟨rfl, rfl⟩)) <| AR.op rfl (aop_move (.inr rfl) rfl) <| AR.nil <| hK1 _ (AWP.weak (Weak.e (fr' := [(1, .sl (List.map i64 order_1)), (2, .pp [.sl (List.map G.api_Txn.av h_0.Txns)] 0)]) (H' := .empty) ⟨⟨.sl (List.map i64 order_1), rfl, .sm⟩, ⟨_, rfl, .frzA rfl rfl rfl rfl (by simp)⟩, trivial⟩) ?_)
 refine awp_seqK fun K2 hK2 => awp_reg rfl <| AR.op (r := G.api_Hist.av h_0) rfl (aop_load_pp rfl rfl sz24 rfl) ?_
 obtain ⟨r25, hr25, h⟩ := Sh.bind_some' h
 refine AR.op (r := bl r25) rfl (aop_call1 rfl rfl (by simp) (inquestref08_Right_ok hT hr25)) <| AR.op rfl (aop_move (.inr rfl) rfl) <| AR.nil <| hK2 _ (AWP.weak (Weak.kt [1, 2, 5] rfl) ?_)
 refine awp_seqK fun K3 hK3 => awp_reg rfl <| AR.op rfl (aop_move (.inl rfl) rfl) <| AR.op rfl (aop_field_pp rfl rfl fd24_0 (by decide)) <| AR.op (r := .sl (List.map G.api_Txn.av h_0.Txns)) rfl (aop_load_pp rfl rfl sz22 rfl) <| AR.keep [1, 2, 5, 12, 14] rfl <| AR.op rfl (t_len_sl G.api_Txn.av h_0.Txns rfl rfl el22) ?_
 obtain ⟨r27, hr27, h⟩ := Sh.bind_some' h
 refine AR.op (r := bl r27) rfl (aop_call1 rfl rfl (by simp) (inquestref18_Perm_ok hT hr27)) <| AR.op rfl (aop_move (.inr rfl) rfl) <| AR.nil <| hK3 _ (AWP.weak (Weak.kt [1, 2, 5, 6] rfl) ?_)
 refine awp_seqK fun K4 hK4 => awp_seqJ (fun (p : Bool) => (⟨[(1, .sl (List.map i64 order_1)), (2, .pp [.sl (List.map G.api_Txn.av h_0.Txns)] 0), (22, bl p)], .empty⟩ : St)) (fun (p : Bool) => G.inquestref20_Check_j1 h_0 order_1 p = some r) ?_ ?_
 ·rintro v31 h
  replace h : G.inquestref20_Check_j1 h_0 order_1 v31 = some r := h
  unfold G.inquestref20_Check_j1 at h
  refine awp_cond rfl (fun hb32 => ?_) (fun hb32 => ?_)
  ·replace h := Sh.if_t h hb32
   refine awp_seqK fun K5 hK5 => awp_reg rfl <| AR.op rfl (aop_move (.inr rfl) rfl) <| AR.nil <| hK5 _ (AWP.weak (Weak.kt [4] rfl) ?_)
   refine awp_ret ?_
   obtain rfl := Option.some.inj h
   refine ⟨.inr rfl, bl false, rfl, ?_⟩
   exact Weak.e ⟨.k, trivial⟩
  ·replace h := Sh.if_f h hb32
   refine awp_skip <| hK4 _ (AWP.weak (Weak.kt [1, 2] rfl) ?_)
   refine awp_seqK fun K6 hK6 => awp_reg rfl <| AR.op (r := G.api_Hist.av h_0) rfl (aop_load_pp rfl rfl sz24 rfl) <| AR.op rfl (aop_move (.inl rfl) rfl) ?_
   obtain ⟨r34, hr34, h⟩ := Sh.bind_some' h
   refine AR.op (r := .sl (List.map (slA G.api_Take.av) r34)) rfl (aop_call1 rfl rfl (by simp) (inquestref20_Play_ok hT hr34)) <| AR.keep [1, 2, 25] rfl <| AR.op rfl (aop_move (.inr rfl) rfl) <| AR.nil <| hK6 _ (AWP.weak (Weak.kt [1, 2, 7] rfl) ?_)
   refine awp_seqJ (fun (p : Unit) => (⟨[(1, .sl (List.map i64 order_1)), (2, .pp [.sl (List.map G.api_Txn.av h_0.Txns)] 0)], .empty⟩ : St)) (fun (p : Unit) => G.inquestref20_Check_j2 h_0 order_1 = some r) ?_ ?_
   ·rintro ⟨⟩ h
    replace h : G.inquestref20_Check_j2 h_0 order_1 = some r := h
    unfold G.inquestref20_Check_j2 at h
    refine awp_seqK fun K7 hK7 => awp_reg rfl <| AR.op (r := G.api_Hist.av h_0) rfl (aop_load_pp rfl rfl sz24 rfl) <| AR.op rfl (aop_move (.inl rfl) rfl) ?_
    obtain ⟨r53, hr53, h⟩ := Sh.bind_some' h
    refine AR.op (r := bl r53) rfl (aop_call1 rfl rfl (by simp) (inquestref20_Sessions_ok hT hr53)) <| AR.keep [48] rfl <| AR.op rfl (aop_move (.inr rfl) rfl) <| AR.nil <| hK7 _ (AWP.weak (Weak.kt [4] rfl) ?_)
    refine awp_ret ?_
    obtain rfl := Option.some.inj h
    refine ⟨.inr rfl, bl r53, rfl, ?_⟩
    exact Weak.e ⟨.k, trivial⟩
   ·intro K8 hK8
    refine awp_seqK fun K9 hK9 => awp_reg rfl <| AR.op rfl (aop_move (.inr rfl) rfl) <| AR.nil <| hK9 _ ?_
    refine awp_block <| awp_iter (fun (p : Int) => G.inquestref20_Check_b1 h_0 order_1 r34 p) (fun (p : Int) => (⟨[(1, .sl (List.map i64 order_1)), (2, .pp [.sl (List.map G.api_Txn.av h_0.Txns)] 0), (7, .sl (List.map (slA G.api_Take.av) r34)), (8, i64 p)], .empty⟩ : St)) h (Weak.kt [1, 2, 7, 8] rfl) ?_
    ·skip
     rintro t65 o1 h hx1
     replace h : G.inquestref20_Check_b1 h_0 order_1 r34 t65 = some o1 := h
     unfold G.inquestref20_Check_b1 at h
     refine awp_seqK fun K10 hK10 => awp_seqK fun K11 hK11 => awp_reg rfl <| AR.op rfl (aop_move (.inl rfl) rfl) <| AR.op rfl (aop_field_pp rfl rfl fd24_0 (by decide)) <| AR.op (r := .sl (List.map G.api_Txn.av h_0.Txns)) rfl (aop_load_pp rfl rfl sz22 rfl) <| AR.keep [1, 2, 7, 8, 26, 28] rfl <| AR.op rfl (t_len_sl G.api_Txn.av h_0.Txns rfl rfl el22) ?_
     refine AR.op rfl (aop_lss rfl rfl rfl) <| AR.nil <| hK11 _ (AWP.weak (Weak.kt [1, 2, 7, 8, 30] rfl) ?_)
     refine awp_cond rfl (fun hb66 => ?_) (fun hb66 => ?_)
     ·replace h := Sh.if_t h hb66
      refine awp_skip <| hK10 _ (AWP.weak (Weak.kt [1, 2, 7, 8] rfl) ?_)
      refine awp_seqK fun K12 hK12 => awp_block <| awp_seqK fun K13 hK13 => awp_any [(true, false), (true, false), (true, false), (true, false), (true, false), (true, false), (true, false), (true, false), (true, false), (true, false), (true, false), (true, false)] (by kernel_rfl) (by kernel_rfl) rfl ?_
      refine ARH.dry rfl (fun _ => aop_field_pp rfl rfl fd24_0 (by decide)) <| ARH.dry (r := .sl (List.map G.api_Txn.av h_0.Txns)) rfl (fun _ => aop_load_pp rfl rfl sz22 rfl) <| ARH.dry rfl (fun _ => aop_move (.inl rfl) rfl) <| ARH.keep [1, 2, 7, 8, 34, 35] rfl ?_
      obtain ⟨x77, hx77, h⟩ := Sh.bind_some' h
      obtain ⟨k78, hi78, hl78⟩ := Sh.idx_some hx77
      refine ARH.dry rfl (fun _ => t_index_sl G.api_Txn.av h_0.Txns hi78 hl78 rfl rfl rfl el22 rfl) <| ARH.dry rfl (fun _ => aop_field_pp rfl rfl fd36_2 (by decide)) <| ARH.dry (r := .sl (List.map G.api_Take.av x77.Reads)) rfl (fun _ => aop_load_pp rfl rfl sz32 rfl) <| ARH.keep [1, 2, 7, 8, 38] rfl <| ARH.dry rfl (fun _ => aop_move (.inl rfl) rfl) <| ARH.dry rfl (fun _ => aop_move (.inl rfl) rfl) ?_
      obtain ⟨x79, hx79, h⟩ := Sh.bind_some' h
      obtain ⟨k80, hi80, hl80⟩ := Sh.idx_some hx79
      refine ARH.dry rfl (fun _ => t_index_sl (slA G.api_Take.av) r34 hi80 hl80 rfl rfl rfl el28 rfl) <| ARH.keep [1, 2, 7, 8, 38, 41] rfl <| ARH.dry (r := .sl (List.map G.api_Take.av x79)) rfl (fun _ => aop_load_pp rfl rfl sz32 rfl) ?_
      obtain ⟨r81, hr81, h⟩ := Sh.bind_some' h
      refine ARH.dry (r := bl r81) rfl (fun _ => aop_call1 rfl rfl (by simp) (inquestref20_Takes_ok hT hr81)) <| ARH.dry rfl (fun _ => aop_move (.inr rfl) rfl) <| ARH.nil <| hK13 _ (AWP.weak (Weak.kt [1, 2, 7, 8, 9] rfl) ?_)
      refine awp_seqK fun K14 hK14 => awp_reg rfl <| AR.op rfl (aop_move (.inl rfl) rfl) <| AR.op (r := bl (!r81)) rfl (aop_not rfl rfl) <| AR.nil <| hK14 _ (AWP.weak (Weak.kt [1, 2, 7, 8, 45] rfl) ?_)
      refine awp_cond rfl (fun hb82 => ?_) (fun hb82 => ?_)
      ·replace h := Sh.if_t h hb82
       refine awp_seqK fun K15 hK15 => awp_reg rfl <| AR.op rfl (aop_move (.inr rfl) rfl) <| AR.nil <| hK15 _ (AWP.weak (Weak.kt [4] rfl) ?_)
       refine awp_ret ?_
       replace h := Sh.exit_eq h hx1
       obtain rfl := Option.some.inj h
       refine ⟨.inr rfl, bl false, rfl, ?_⟩
       exact Weak.e ⟨.k, trivial⟩
      ·replace h := Sh.if_f h hb82
       refine awp_skip <| hK12 _ (AWP.weak (Weak.kt [1, 2, 7, 8] rfl) ?_)
       refine awp_reg rfl <| AR.op rfl (aop_move (.inl rfl) rfl) <| AR.op rfl (aop_add rfl rfl rfl rfl) <| AR.op rfl (aop_move (.inr rfl) rfl) <| AR.nil ?_
       replace h := Sh.next_eq h
       exact ⟨_, h, Weak.kt [1, 2, 7, 8] rfl⟩
     ·replace h := Sh.if_f h hb66
      refine awp_exit ?_
      replace h := Sh.exit_eq h hx1
      exact hK8 () _ h (Weak.kt [1, 2] rfl)
 ·intro K16 hK16
  refine awp_reg rfl <| AR.op rfl (aop_move (.inl rfl) rfl) <| AR.op (r := bl (!r25)) rfl (aop_not rfl rfl) <| AR.op rfl (aop_move (.inl rfl) rfl) <| AR.keep [1, 2, 6, 19] rfl ?_
  rcases Bool.eq_false_or_eq_true (!r25) with hb83 | hb83
  ·rw [hb83]
   replace h := Sh.if_t h hb83
   refine AR.skip rfl <| AR.skip rfl <| AR.op rfl (aop_pick rfl rfl rfl) <| AR.nil ?_
   exact hK16 true _ h (Weak.kt [1, 2, 22] rfl)
  ·rw [hb83]
   replace h := Sh.if_f h hb83
   refine AR.op rfl (aop_move (.inl rfl) rfl) <| AR.op (r := bl (!r27)) rfl (aop_not rfl rfl) <| AR.op rfl (aop_pick rfl rfl rfl) <| AR.nil ?_
   exact hK16 (!r27) _ h (Weak.kt [1, 2, 22] rfl)
theorem inquestref20_Check_ok {W0 : World} (hT : Tab W0) {h_0 : G.api_Hist} {order_1 : List Int} {r : Bool} (h : G.inquestref20_Check h_0 order_1 = some r) : Fun1 Try.prog W0 13 [G.api_Hist.av h_0, .sl (List.map i64 order_1)] (bl r) := Fun1.two (inquestref20_Check_ok0 hT h) (by simp)

end Wk
