/- That the functions of a package do what their plain functions say. -/
import Derived.Test.YtleihjegenjacaaGreatSh
import Derived.Test.YtleihjegenjacaaGreatWkYFacts
import Derived.Test.YtleihjegenjacaaGreatWkYhist
import Derived.Test.YtleihjegenjacaaGreatWkYstdslices
open Go Go.Av Go.Proofs
set_option linter.unusedVariables false
set_option maxHeartbeats 8000000
set_option maxRecDepth 20000
namespace Wk
theorem ser_right_ok0 {W0 : World} (hT : Tab W0) {h_0 : G.api_Hist} {order_1 : List Int} {r : Bool} (h : G.ser_right h_0 order_1 = some r) : Fun2 Tryz.prog W0 50 [G.api_Hist.av h_0, .sl (List.map i64 order_1)] (bl r) .empty := by
 refine fun2_of_awp Tryz.func50 rfl (by kernel_rfl) Tryz.ntmps50 (by simp) ?_
 unfold G.ser_right at h
 show AWP _ _ _ _ ⟨[(0, G.api_Hist.av h_0), (1, .sl (List.map i64 order_1))], .empty⟩ _
 refine awp_seqK fun K1 hK1 => awp_reg rfl <| AR.op (r := .ref 0 0 0) rfl (aop_box 1 [G.api_Hist.av h_0] rfl rfl rfl (.inl ⟨rfl, rfl⟩)) <| AR.op rfl (aop_move (.inr rfl) rfl) <| AR.nil <| hK1 _ (AWP.weak (Weak.e (fr' := [(1, .sl (List.map i64 order_1)), (2, .pp [.sl (List.map G.api_Txn.av h_0.Txns)] 0)]) (H' := .empty) ⟨⟨.sl (List.map i64 order_1), rfl, .sm⟩, ⟨_, rfl, .frzA rfl rfl rfl rfl (by simp)⟩, trivial⟩) ?_)
 refine awp_seqK fun K2 hK2 => awp_seqJ (fun (p : Bool) => (⟨[(1, .sl (List.map i64 order_1)), (18, bl p)], .empty⟩ : St)) (fun (p : Bool) => G.ser_right_j1 order_1 p = some r) ?_ ?_
 ·rintro v40 h
  replace h : G.ser_right_j1 order_1 v40 = some r := h
  unfold G.ser_right_j1 at h
  refine awp_cond rfl (fun hb41 => ?_) (fun hb41 => ?_)
  ·replace h := Sh.if_t h hb41
   refine awp_seqK fun K3 hK3 => awp_reg rfl <| AR.op rfl (aop_move (.inr rfl) rfl) <| AR.nil <| hK3 _ (AWP.weak (Weak.kt [4] rfl) ?_)
   refine awp_ret ?_
   obtain rfl := Option.some.inj h
   refine ⟨.inr rfl, bl false, rfl, ?_⟩
   exact Weak.e ⟨.k, trivial⟩
  ·replace h := Sh.if_f h hb41
   refine awp_skip <| hK2 _ (AWP.weak (Weak.kt [1] rfl) ?_)
   refine awp_seqK fun K4 hK4 => awp_reg rfl <| AR.op (r := .ref 0 0 0) rfl (aop_alloc 32 [.agg (List.map bl (List.replicate 32 false))] rfl zr138 (by kernel_rfl) (.inl ⟨by kernel_rfl, by kernel_rfl⟩)) <| AR.nil <| hK4 _ ?_
   refine awp_seqJ (fun (p : Unit) => (⟨[], .empty⟩ : St)) (fun (p : Unit) => G.ser_right_j2 = some r) ?_ ?_
   ·rintro ⟨⟩ h
    replace h : G.ser_right_j2 = some r := h
    unfold G.ser_right_j2 at h
    refine awp_seqK fun K5 hK5 => awp_reg rfl <| AR.op rfl (aop_move (.inr rfl) rfl) <| AR.nil <| hK5 _ ?_
    refine awp_ret ?_
    obtain rfl := Option.some.inj h
    refine ⟨.inr rfl, bl true, rfl, ?_⟩
    exact Weak.e ⟨.k, trivial⟩
   ·intro K6 hK6
    refine awp_seqK fun K7 hK7 => awp_reg rfl <| AR.op rfl (aop_move (.inl rfl) rfl) <| AR.op rfl (t_len_sl i64 order_1 rfl rfl el25) <| AR.op rfl (aop_move (.inl rfl) rfl) <| AR.nil <| hK7 _ ?_
    refine awp_block <| awp_iter (fun (p : (List Bool) × Int) => G.ser_right_b1 order_1 p.1 p.2) (fun (p : (List Bool) × Int) => (⟨[(1, .sl (List.map i64 order_1)), (5, .ref 0 0 0), (19, .sl (List.map i64 order_1)), (20, i64 (Sh.len order_1)), (21, i64 p.2)], ⟨1, [(0, (32, [.agg (List.map bl p.1)]))], []⟩⟩ : St)) h (Weak.kt [1, 5, 19, 20, 21] rfl) ?_
    ·skip
     rintro ⟨seen93, v94⟩ o1 h hx1
     replace h : G.ser_right_b1 order_1 seen93 v94 = some o1 := h
     unfold G.ser_right_b1 at h
     refine awp_seqK fun K8 hK8 => awp_reg rfl <| AR.op rfl (aop_lss rfl rfl rfl) <| AR.nil <| hK8 _ ?_
     refine awp_seqK fun K9 hK9 => awp_cond rfl (fun hb95 => ?_) (fun hb95 => ?_)
     ·replace h := Sh.if_t h hb95
      refine awp_skip <| hK9 _ (AWP.weak (Weak.kt [1, 5, 19, 20, 21] rfl) ?_)
      refine awp_seqK fun K10 hK10 => awp_block <| awp_seqK fun K11 hK11 => awp_reg rfl ?_
      obtain ⟨x107, hx107, h⟩ := Sh.bind_some' h
      obtain ⟨k108, hi108, hl108⟩ := Sh.idx_some hx107
      refine AR.op rfl (t_index_sl i64 order_1 hi108 hl108 rfl rfl rfl el25 rfl) <| AR.op (r := i64 x107) rfl (aop_load_pp rfl rfl sz3 rfl) <| AR.op rfl (aop_move (.inr rfl) rfl) <| AR.nil <| hK11 _ (AWP.weak (Weak.kt [1, 5, 19, 20, 21, 7] rfl) ?_)
      refine awp_seqK fun K12 hK12 => awp_seqJ (fun (p : Bool) => (⟨[(1, .sl (List.map i64 order_1)), (5, .ref 0 0 0), (19, .sl (List.map i64 order_1)), (20, i64 (Sh.len order_1)), (21, i64 v94), (7, i64 x107), (37, bl p)], ⟨1, [(0, (32, [.agg (List.map bl seen93)]))], []⟩⟩ : St)) (fun (p : Bool) => G.ser_right_j3 seen93 v94 x107 p = some o1) ?_ ?_
      ·rintro v118 h
       replace h : G.ser_right_j3 seen93 v94 x107 v118 = some o1 := h
       unfold G.ser_right_j3 at h
       refine awp_cond rfl (fun hb119 => ?_) (fun hb119 => ?_)
       ·replace h := Sh.if_t h hb119
        refine awp_seqK fun K13 hK13 => awp_reg rfl <| AR.op rfl (aop_move (.inr rfl) rfl) <| AR.nil <| hK13 _ (AWP.weak (Weak.e (fr' := [(4, bl false)]) (H' := .empty) ⟨.k, trivial⟩) ?_)
        refine awp_ret ?_
        replace h := Sh.exit_eq h hx1
        obtain rfl := Option.some.inj h
        refine ⟨.inr rfl, bl false, rfl, ?_⟩
        exact Weak.e ⟨.k, trivial⟩
       ·replace h := Sh.if_f h hb119
        refine awp_skip <| hK12 _ (AWP.weak (Weak.kt [1, 5, 19, 20, 21, 7] rfl) ?_)
        refine awp_reg rfl <| AR.op rfl (aop_move (.inl rfl) rfl) ?_
        obtain ⟨x120, hx120, h⟩ := Sh.bind_some' h
        obtain ⟨hN121, k121, hi121, hl121⟩ := Sh.aidx_some hx120
        refine AR.op (r := .ref 0 0 k121) rfl (t_index_arr bl seen93 hi121 hl121 hN121 rfl rfl rfl rfl ar138) <| AR.op rfl (t_store_arr bl seen93 true hi121 hl121 rfl rfl rfl rfl rfl rfl sz4) <| AR.nil <| hK10 _ (AWP.weak (Weak.kt [1, 5, 19, 20, 21] rfl) ?_)
        refine awp_reg rfl <| AR.op rfl (aop_add rfl rfl rfl rfl) <| AR.op rfl (aop_move (.inl rfl) rfl) <| AR.nil ?_
        replace h := Sh.next_eq h
        exact ⟨_, h, Weak.kt [1, 5, 19, 20, 21] rfl⟩
      ·intro K14 hK14
       refine awp_reg rfl <| AR.op rfl (aop_move (.inl rfl) rfl) <| AR.op rfl (aop_lss rfl rfl rfl) <| AR.op rfl (aop_move (.inl rfl) rfl) <| AR.keep [1, 5, 19, 20, 21, 7, 27] rfl ?_
       rcases Bool.eq_false_or_eq_true (decide (x107 < 0)) with hb122 | hb122
       ·rw [hb122]
        replace h := Sh.if_t h hb122
        refine AR.skip rfl <| AR.skip rfl <| AR.skip rfl <| AR.keep [1, 5, 19, 20, 21, 7, 27, 28, 29, 30] rfl <| AR.skip rfl <| AR.op rfl (aop_pick rfl rfl rfl) <| AR.op rfl (aop_move (.inl rfl) rfl) <| AR.keep [1, 5, 19, 20, 21, 7, 28, 29, 30, 31, 33] rfl ?_
        refine AR.skip rfl <| AR.skip rfl <| AR.skip rfl <| AR.keep [1, 5, 19, 20, 21, 7, 28, 29, 30, 31, 33, 34, 35, 36] rfl <| AR.op rfl (aop_pick rfl rfl rfl) <| AR.nil ?_
        exact hK14 true _ h (Weak.kt [1, 5, 19, 20, 21, 7, 37] rfl)
       ·rw [hb122]
        replace h := Sh.if_f h hb122
        refine AR.op rfl (aop_move (.inl rfl) rfl) <| AR.op rfl (aop_move (.inl rfl) rfl) <| AR.op rfl (t_len_sl i64 order_1 rfl rfl el25) <| AR.keep [1, 5, 19, 20, 21, 7, 27, 28, 29, 30] rfl <| AR.op rfl (aop_geq rfl rfl rfl) <| AR.op rfl (aop_pick rfl rfl rfl) <| AR.op rfl (aop_move (.inl rfl) rfl) <| AR.keep [1, 5, 19, 20, 21, 7, 28, 29, 30, 31, 33] rfl ?_
        rcases Bool.eq_false_or_eq_true (decide ((Sh.len order_1) ≤ x107)) with hb123 | hb123
        ·rw [hb123]
         replace h := Sh.if_t h hb123
         refine AR.skip rfl <| AR.skip rfl <| AR.skip rfl <| AR.keep [1, 5, 19, 20, 21, 7, 28, 29, 30, 31, 33, 34, 35, 36] rfl <| AR.op rfl (aop_pick rfl rfl rfl) <| AR.nil ?_
         exact hK14 true _ h (Weak.kt [1, 5, 19, 20, 21, 7, 37] rfl)
        ·rw [hb123]
         replace h := Sh.if_f h hb123
         refine AR.op rfl (aop_move (.inl rfl) rfl) ?_
         obtain ⟨x124, hx124, h⟩ := Sh.bind_some' h
         obtain ⟨hN125, k125, hi125, hl125⟩ := Sh.aidx_some hx124
         refine AR.op (r := .ref 0 0 k125) rfl (t_index_arr bl seen93 hi125 hl125 hN125 rfl rfl rfl rfl ar138) <| AR.op (r := bl x124) rfl (t_load_arr bl seen93 hl125 rfl rfl rfl sz4) <| AR.keep [1, 5, 19, 20, 21, 7, 28, 29, 30, 31, 33, 34, 35, 36] rfl <| AR.op rfl (aop_pick rfl rfl rfl) <| AR.nil ?_
         exact hK14 x124 _ h (Weak.kt [1, 5, 19, 20, 21, 7, 37] rfl)
     ·replace h := Sh.if_f h hb95
      refine awp_exit ?_
      replace h := Sh.exit_eq h hx1
      exact hK6 () _ h (Weak.e trivial)
 ·intro K15 hK15
  refine awp_reg rfl <| AR.op (r := G.api_Hist.av h_0) rfl (aop_load_pp rfl rfl sz24 rfl) ?_
  obtain ⟨r126, hr126, h⟩ := Sh.bind_some' h
  refine AR.op (r := bl r126) rfl (aop_call1 rfl rfl (by simp) (hist_Right_ok hT hr126)) <| AR.op (r := bl (!r126)) rfl (aop_not rfl rfl) <| AR.keep [1, 2, 10] rfl <| AR.op rfl (aop_move (.inl rfl) rfl) ?_
  rcases Bool.eq_false_or_eq_true (!r126) with hb127 | hb127
  ·rw [hb127]
   replace h := Sh.if_t h hb127
   refine AR.skip rfl <| AR.skip rfl <| AR.keep [1, 2, 11, 13] rfl <| AR.skip rfl <| AR.skip rfl <| AR.skip rfl <| AR.keep [1, 11, 13, 16] rfl <| AR.skip rfl ?_
   refine AR.op rfl (aop_pick rfl rfl rfl) <| AR.nil ?_
   exact hK15 true _ h (Weak.kt [1, 18] rfl)
  ·rw [hb127]
   replace h := Sh.if_f h hb127
   refine AR.op rfl (aop_move (.inl rfl) rfl) <| AR.op rfl (t_len_sl i64 order_1 rfl rfl el25) <| AR.keep [1, 2, 11, 13] rfl <| AR.op rfl (aop_field_pp rfl rfl fd24_0 (by decide)) <| AR.op (r := .sl (List.map G.api_Txn.av h_0.Txns)) rfl (aop_load_pp rfl rfl sz22 rfl) <| AR.op rfl (t_len_sl G.api_Txn.av h_0.Txns rfl rfl el22) <| AR.keep [1, 11, 13, 16] rfl <| AR.op (r := bl (decide ((Sh.len order_1) ≠ (Sh.len h_0.Txns)))) rfl (aop_neq rfl rfl rfl) ?_
   refine AR.op rfl (aop_pick rfl rfl rfl) <| AR.nil ?_
   exact hK15 (decide ((Sh.len order_1) ≠ (Sh.len h_0.Txns))) _ h (Weak.kt [1, 18] rfl)
theorem ser_right_ok {W0 : World} (hT : Tab W0) {h_0 : G.api_Hist} {order_1 : List Int} {r : Bool} (h : G.ser_right h_0 order_1 = some r) : Fun1 Tryz.prog W0 50 [G.api_Hist.av h_0, .sl (List.map i64 order_1)] (bl r) := Fun1.two (ser_right_ok0 hT h) (by simp)


theorem ser_Play_own {W0 : World} (hT : Tab W0) {h_0 : G.api_Hist} {order_1 : List Int} {r : (List (List G.api_Take))} (h : G.ser_Play h_0 order_1 = some r) : Fun2 Tryz.prog W0 51 [G.api_Hist.av h_0, .sl (List.map i64 order_1)] (.view 0 0 (List.map (slA G.api_Take.av) r).length) ⟨1, [(0, (1, List.map (slA G.api_Take.av) r))], []⟩ := by
 refine fun2_of_awp Tryz.func51 rfl (by kernel_rfl) Tryz.ntmps51 (by simp) ?_
 unfold G.ser_Play at h
 show AWP _ _ _ _ ⟨[(0, G.api_Hist.av h_0), (1, .sl (List.map i64 order_1))], .empty⟩ _
 refine awp_seqK fun K1 hK1 => awp_reg rfl <| AR.op (r := .ref 0 0 0) rfl (aop_box 1 [G.api_Hist.av h_0] rfl rfl rfl (.inl ⟨rfl, rfl⟩)) <| AR.op rfl (aop_move (.inr rfl) rfl) <| AR.nil <| hK1 _ (AWP.weak (Weak.e (fr' := [(1, .sl (List.map i64 order_1)), (2, .pp [.sl (List.map G.api_Txn.av h_0.Txns)] 0)]) (H' := .empty) ⟨⟨.sl (List.map i64 order_1), rfl, .sm⟩, ⟨_, rfl, .frzA rfl rfl rfl rfl (by simp)⟩, trivial⟩) ?_)
 refine awp_seqK fun K2 hK2 => awp_seqK fun K3 hK3 => awp_reg rfl <| AR.op (r := G.api_Hist.av h_0) rfl (aop_load_pp rfl rfl sz24 rfl) <| AR.op rfl (aop_move (.inl rfl) rfl) ?_
 obtain ⟨r170, hr170, h⟩ := Sh.bind_some' h
 refine AR.op (r := bl r170) rfl (aop_call1 rfl rfl (by simp) (ser_right_ok hT hr170)) <| AR.keep [1, 2, 15] rfl <| AR.op (r := bl (!r170)) rfl (aop_not rfl rfl) <| AR.nil <| hK3 _ (AWP.weak (Weak.kt [1, 2, 16] rfl) ?_)
 refine awp_cond rfl (fun hb171 => ?_) (fun hb171 => ?_)
 ·replace h := Sh.if_t h hb171
  refine awp_seqK fun K4 hK4 => awp_reg rfl <| AR.op rfl (aop_move (.inr rfl) rfl) <| AR.nil <| hK4 _ (AWP.weak (Weak.kt [4] rfl) ?_)
  refine awp_ret ?_
  obtain rfl := Option.some.inj h
  refine ⟨.inr rfl, nilS, rfl, ?_⟩
  exact Weak.re [] [0] rfl rfl rfl (.fresh (by simp) dt trivial) ⟨⟨_, rfl, .nil (by simp)⟩, trivial⟩
 ·replace h := Sh.if_f h hb171
  refine awp_skip <| hK2 _ (AWP.weak (Weak.kt [1, 2] rfl) ?_)
  refine awp_seqK fun K5 hK5 => awp_reg rfl <| AR.op (r := .ref 0 0 0) rfl (aop_alloc 16 [.agg (List.map i64 (List.replicate 16 0))] rfl zr139 (by kernel_rfl) (.inl ⟨by kernel_rfl, by kernel_rfl⟩)) <| AR.nil <| hK5 _ ?_
  refine awp_seqK fun K6 hK6 => awp_reg rfl <| AR.op rfl (aop_move (.inl rfl) rfl) <| AR.op rfl (t_len_sl i64 order_1 rfl rfl el25) ?_
  obtain ⟨made173, hmade173, h⟩ := Sh.bind_some' h
  refine AR.op (r := .view 1 0 (List.map (slA G.api_Take.av) made173).length) rfl (t_makeN G.api_Take.av made173 hmade173 rfl rfl rfl el92 zv92 rfl) <| AR.keep [1, 2, 5, 19] rfl <| AR.op rfl (aop_move (.inr rfl) rfl) <| AR.nil <| hK6 _ (AWP.weak (Weak.kt [1, 2, 5, 6] rfl) ?_)
  refine awp_seqJ (fun (p : (List (List G.api_Take))) => (⟨[(6, .view 0 0 (List.map (slA G.api_Take.av) p).length)], ⟨1, [(0, (1, List.map (slA G.api_Take.av) p))], []⟩⟩ : St)) (fun (p : (List (List G.api_Take))) => G.ser_Play_j1 p = some r) ?_ ?_
  ·rintro out339 h
   replace h : G.ser_Play_j1 out339 = some r := h
   unfold G.ser_Play_j1 at h
   refine awp_seqK fun K7 hK7 => awp_reg rfl <| AR.op rfl (aop_move (.inl rfl) rfl) <| AR.op rfl (aop_move (.inr rfl) rfl) <| AR.nil <| hK7 _ (AWP.weak (Weak.kt [4] rfl) ?_)
   refine awp_ret ?_
   obtain rfl := Option.some.inj h
   refine ⟨.inr rfl, .view 0 0 (List.map (slA G.api_Take.av) out339).length, rfl, ?_⟩
   exact Weak.re [(0, 0)] [] rfl rfl rfl (.cons rfl rfl (.same (by simp)) dt trivial) ⟨⟨_, rfl, .view rfl⟩, trivial⟩
  ·intro K8 hK8
   refine awp_seqK fun K9 hK9 => awp_reg rfl <| AR.op rfl (aop_move (.inl rfl) rfl) <| AR.op rfl (t_len_sl i64 order_1 rfl rfl el25) <| AR.op rfl (aop_move (.inl rfl) rfl) <| AR.nil <| hK9 _ (AWP.weak (Weak.kt [2, 5, 6, 20, 21, 22] rfl) ?_)
   refine awp_block <| awp_iter (fun (p : (List Int) × (List (List G.api_Take)) × Int) => G.ser_Play_b1 h_0 order_1 p.1 p.2.1 p.2.2) (fun (p : (List Int) × (List (List G.api_Take)) × Int) => (⟨[(2, .pp [.sl (List.map G.api_Txn.av h_0.Txns)] 0), (5, .ref 0 0 0), (6, .view 1 0 (List.map (slA G.api_Take.av) p.2.1).length), (20, .sl (List.map i64 order_1)), (21, i64 (Sh.len order_1)), (22, i64 p.2.2)], famH [(0, (16, [.agg (List.map i64 p.1)])), (1, (1, famV G.api_Take.av 2 p.2.1))] G.api_Take.av 2 2 p.2.1⟩ : St)) h (Weak.newRows [(0, 0), (1, 1)] (made_nil hmade173) (by simp) (fun g nw hg hs => ⟨.cons (hg 0 (by decide)) rfl (.one .sm rfl) (by omega) (.cons (hg 1 (by decide)) rfl hs (by omega) trivial), ⟨.k, ⟨_, rfl, .ref (hg 0 (by decide))⟩, ⟨_, rfl, .viewL (hg 1 (by decide)) (by simp)⟩, .k, .k, .k, trivial⟩⟩)) ?_
   ·skip
    rintro ⟨last449, out450, v451⟩ o1 h hx1
    replace h : G.ser_Play_b1 h_0 order_1 last449 out450 v451 = some o1 := h
    unfold G.ser_Play_b1 at h
    refine awp_seqK fun K10 hK10 => awp_reg rfl <| AR.op rfl (aop_lss rfl rfl rfl) <| AR.nil <| hK10 _ ?_
    refine awp_seqK fun K11 hK11 => awp_cond rfl (fun hb452 => ?_) (fun hb452 => ?_)
    ·replace h := Sh.if_t h hb452
     refine awp_skip <| hK11 _ (AWP.weak (Weak.kt [2, 5, 6, 20, 21, 22] rfl) ?_)
     refine awp_seqJ (fun (p : (List (List G.api_Take)) × (List Int)) => (⟨[(2, .pp [.sl (List.map G.api_Txn.av h_0.Txns)] 0), (5, .ref 0 0 0), (6, .view 1 0 (List.map (slA G.api_Take.av) p.1).length), (20, .sl (List.map i64 order_1)), (21, i64 (Sh.len order_1)), (22, i64 v451)], famH [(0, (16, [.agg (List.map i64 p.2)])), (1, (1, famV G.api_Take.av 2 p.1))] G.api_Take.av 2 2 p.1⟩ : St)) (fun (p : (List (List G.api_Take)) × (List Int)) => G.ser_Play_j2 v451 p.1 p.2 = some o1) ?_ ?_
     ·rintro ⟨out506, v507⟩ h
      replace h : G.ser_Play_j2 v451 out506 v507 = some o1 := h
      unfold G.ser_Play_j2 at h
      refine awp_reg rfl <| AR.op rfl (aop_add rfl rfl rfl rfl) <| AR.op rfl (aop_move (.inl rfl) rfl) <| AR.nil ?_
      replace h := Sh.next_eq h
      exact ⟨_, h, Weak.kt [2, 5, 6, 20, 21, 22] rfl⟩
     ·intro K12 hK12
      refine awp_block <| awp_seqK fun K13 hK13 => awp_reg rfl ?_
      obtain ⟨x510, hx510, h⟩ := Sh.bind_some' h
      obtain ⟨k511, hi511, hl511⟩ := Sh.idx_some hx510
      refine AR.op rfl (t_index_sl i64 order_1 hi511 hl511 rfl rfl rfl el25 rfl) <| AR.op (r := i64 x510) rfl (aop_load_pp rfl rfl sz3 rfl) <| AR.op rfl (aop_move (.inr rfl) rfl) <| AR.nil <| hK13 _ (AWP.weak (Weak.kt [2, 5, 6, 20, 21, 22, 8] rfl) ?_)
      refine awp_seqJ (fun (p : (List (List G.api_Take))) => (⟨[(2, .pp [.sl (List.map G.api_Txn.av h_0.Txns)] 0), (5, .ref 0 0 0), (6, .view 1 0 (List.map (slA G.api_Take.av) p).length), (20, .sl (List.map i64 order_1)), (21, i64 (Sh.len order_1)), (22, i64 v451), (8, i64 x510)], famH [(0, (16, [.agg (List.map i64 last449)])), (1, (1, famV G.api_Take.av 2 p))] G.api_Take.av 2 2 p⟩ : St)) (fun (p : (List (List G.api_Take))) => G.ser_Play_j3 h_0 last449 v451 x510 p = some o1) ?_ ?_
      ·rintro out545 h
       replace h : G.ser_Play_j3 h_0 last449 v451 x510 out545 = some o1 := h
       unfold G.ser_Play_j3 at h
       refine awp_seqK fun K14 hK14 => awp_reg rfl <| AR.op rfl (aop_field_pp rfl rfl fd24_0 (by decide)) <| AR.op (r := .sl (List.map G.api_Txn.av h_0.Txns)) rfl (aop_load_pp rfl rfl sz22 rfl) <| AR.op rfl (aop_move (.inl rfl) rfl) <| AR.keep [2, 5, 6, 20, 21, 22, 8, 56, 57] rfl ?_
       obtain ⟨x548, hx548, h⟩ := Sh.bind_some' h
       obtain ⟨k549, hi549, hl549⟩ := Sh.idx_some hx548
       refine AR.op rfl (t_index_sl G.api_Txn.av h_0.Txns hi549 hl549 rfl rfl rfl el22 rfl) <| AR.op rfl (aop_field_pp rfl rfl fd63_1 (by decide)) <| AR.op (r := .sl (List.map i64 x548.Writes)) rfl (aop_load_pp rfl rfl sz25 rfl) <| AR.keep [2, 5, 6, 20, 21, 22, 8, 60] rfl <| AR.op rfl (t_len_sl i64 x548.Writes rfl rfl el25) <| AR.op rfl (aop_move (.inl rfl) rfl) <| AR.nil <| hK14 _ ?_
       refine awp_block <| awp_iter (fun (p : (List Int) × Int) => G.ser_Play_b2 v451 x510 out545 x548 p.1 p.2) (fun (p : (List Int) × Int) => (⟨[(2, .pp [.sl (List.map G.api_Txn.av h_0.Txns)] 0), (5, .ref 0 0 0), (6, .view 1 0 (List.map (slA G.api_Take.av) out545).length), (20, .sl (List.map i64 order_1)), (21, i64 (Sh.len order_1)), (22, i64 v451), (8, i64 x510), (60, .sl (List.map i64 x548.Writes)), (61, i64 (Sh.len x548.Writes)), (62, i64 p.2)], famH [(0, (16, [.agg (List.map i64 p.1)])), (1, (1, famV G.api_Take.av 2 out545))] G.api_Take.av 2 2 out545⟩ : St)) h (Weak.kt [2, 5, 6, 20, 21, 22, 8, 60, 61, 62] rfl) ?_
       ·skip
        rintro ⟨last560, v561⟩ o2 h hx2
        replace h : G.ser_Play_b2 v451 x510 out545 x548 last560 v561 = some o2 := h
        unfold G.ser_Play_b2 at h
        refine awp_seqK fun K15 hK15 => awp_reg rfl <| AR.op rfl (aop_lss rfl rfl rfl) <| AR.nil <| hK15 _ ?_
        refine awp_seqK fun K16 hK16 => awp_cond rfl (fun hb562 => ?_) (fun hb562 => ?_)
        ·replace h := Sh.if_t h hb562
         refine awp_skip <| hK16 _ (AWP.weak (Weak.kt [2, 5, 6, 20, 21, 22, 8, 60, 61, 62] rfl) ?_)
         refine awp_seqK fun K17 hK17 => awp_block <| awp_seqK fun K18 hK18 => awp_reg rfl ?_
         obtain ⟨x569, hx569, h⟩ := Sh.bind_some' h
         obtain ⟨k570, hi570, hl570⟩ := Sh.idx_some hx569
         refine AR.op rfl (t_index_sl i64 x548.Writes hi570 hl570 rfl rfl rfl el25 rfl) <| AR.op (r := i64 x569) rfl (aop_load_pp rfl rfl sz3 rfl) <| AR.op rfl (aop_move (.inr rfl) rfl) <| AR.nil <| hK18 _ (AWP.weak (Weak.kt [2, 5, 6, 20, 21, 22, 8, 60, 61, 62, 12] rfl) ?_)
         refine awp_reg rfl <| AR.op rfl (aop_move (.inl rfl) rfl) <| AR.op rfl (aop_move (.inl rfl) rfl) <| AR.op rfl (aop_add rfl rfl rfl rfl) <| AR.keep [2, 5, 6, 20, 21, 22, 8, 60, 61, 62, 66, 68] rfl ?_
         obtain ⟨x571, hx571, h⟩ := Sh.bind_some' h
         obtain ⟨hN572, k572, hi572, hl572⟩ := Sh.aidx_some hx571
         refine AR.op (r := .ref 0 0 k572) rfl (t_index_arr i64 last560 hi572 hl572 hN572 rfl rfl rfl rfl ar139) <| AR.op rfl (t_store_arr i64 last560 (w64 (x510 + 1)) hi572 hl572 rfl rfl rfl rfl rfl rfl sz3) <| AR.nil <| hK17 _ (AWP.weak (Weak.kt [2, 5, 6, 20, 21, 22, 8, 60, 61, 62] rfl) ?_)
         refine awp_reg rfl <| AR.op rfl (aop_add rfl rfl rfl rfl) <| AR.op rfl (aop_move (.inl rfl) rfl) <| AR.nil ?_
         replace h := Sh.next_eq h
         exact ⟨_, h, Weak.kt [2, 5, 6, 20, 21, 22, 8, 60, 61, 62] rfl⟩
        ·replace h := Sh.if_f h hb562
         refine awp_exit ?_
         replace h := Sh.exit_eq h hx2
         exact hK12 (out545, last560) _ h (Weak.kt [2, 5, 6, 20, 21, 22] rfl)
      ·intro K19 hK19
       refine awp_seqK fun K20 hK20 => awp_reg rfl <| AR.op rfl (aop_field_pp rfl rfl fd24_0 (by decide)) <| AR.op (r := .sl (List.map G.api_Txn.av h_0.Txns)) rfl (aop_load_pp rfl rfl sz22 rfl) <| AR.op rfl (aop_move (.inl rfl) rfl) <| AR.keep [2, 5, 6, 20, 21, 22, 8, 27, 28] rfl ?_
       obtain ⟨x575, hx575, h⟩ := Sh.bind_some' h
       obtain ⟨k576, hi576, hl576⟩ := Sh.idx_some hx575
       refine AR.op rfl (t_index_sl G.api_Txn.av h_0.Txns hi576 hl576 rfl rfl rfl el22 rfl) <| AR.op rfl (aop_field_pp rfl rfl fd63_2 (by decide)) <| AR.op (r := .sl (List.map G.api_Take.av x575.Reads)) rfl (aop_load_pp rfl rfl sz61 rfl) <| AR.keep [2, 5, 6, 20, 21, 22, 8, 31] rfl <| AR.op rfl (t_len_sl G.api_Take.av x575.Reads rfl rfl el61) <| AR.op rfl (aop_move (.inl rfl) rfl) <| AR.nil <| hK20 _ ?_
       refine awp_block <| awp_iter (fun (p : (List (List G.api_Take)) × Int) => G.ser_Play_b3 h_0 last449 v451 x510 x575 p.1 p.2) (fun (p : (List (List G.api_Take)) × Int) => (⟨[(2, .pp [.sl (List.map G.api_Txn.av h_0.Txns)] 0), (5, .ref 0 0 0), (6, .view 1 0 (List.map (slA G.api_Take.av) p.1).length), (20, .sl (List.map i64 order_1)), (21, i64 (Sh.len order_1)), (22, i64 v451), (8, i64 x510), (31, .sl (List.map G.api_Take.av x575.Reads)), (32, i64 (Sh.len x575.Reads)), (33, i64 p.2)], famH [(0, (16, [.agg (List.map i64 last449)])), (1, (1, famV G.api_Take.av 2 p.1))] G.api_Take.av 2 2 p.1⟩ : St)) h (Weak.kt [2, 5, 6, 20, 21, 22, 8, 31, 32, 33] rfl) ?_
       ·skip
        rintro ⟨out597, v598⟩ o3 h hx3
        replace h : G.ser_Play_b3 h_0 last449 v451 x510 x575 out597 v598 = some o3 := h
        unfold G.ser_Play_b3 at h
        refine awp_seqK fun K21 hK21 => awp_reg rfl <| AR.op rfl (aop_lss rfl rfl rfl) <| AR.nil <| hK21 _ ?_
        refine awp_seqK fun K22 hK22 => awp_cond rfl (fun hb599 => ?_) (fun hb599 => ?_)
        ·replace h := Sh.if_t h hb599
         refine awp_skip <| hK22 _ (AWP.weak (Weak.kt [2, 5, 6, 20, 21, 22, 8, 31, 32, 33] rfl) ?_)
         refine awp_seqK fun K23 hK23 => awp_block <| awp_seqK fun K24 hK24 => awp_reg rfl ?_
         obtain ⟨x611, hx611, h⟩ := Sh.bind_some' h
         obtain ⟨k612, hi612, hl612⟩ := Sh.idx_some hx611
         refine AR.op rfl (t_index_sl G.api_Take.av x575.Reads hi612 hl612 rfl rfl rfl el61 rfl) <| AR.op (r := G.api_Take.av x611) rfl (aop_load_pp rfl rfl sz60 rfl) <| AR.op (r := .ref (2 + out597.length) 0 0) rfl (aop_alloc 2 [.agg [i64 0, i64 0]] rfl zr60 (by kernel_rfl) (.inl ⟨rfl, rfl⟩)) <| AR.keep [2, 5, 6, 20, 21, 22, 8, 31, 32, 33, 36, 10] rfl <| AR.op rfl (aop_store (e' := G.api_Take.av x611) rfl rfl rfl rfl push_get rfl sz60 rfl dt rfl) <| AR.nil <| hK24 _ (AWP.weak (Weak.dropCell (fr' := [(2, .pp [.sl (List.map G.api_Txn.av h_0.Txns)] 0), (5, .ref 0 0 0), (6, .view 1 0 (List.map (slA G.api_Take.av) out597).length), (20, .sl (List.map i64 order_1)), (21, i64 (Sh.len order_1)), (22, i64 v451), (8, i64 x510), (31, .sl (List.map G.api_Take.av x575.Reads)), (32, i64 (Sh.len x575.Reads)), (33, i64 v598), (10, .pp [i64 x611.Key, i64 x611.From] 0)]) (F' := [(0, (16, [.agg (List.map i64 last449)])), (1, (1, famV G.api_Take.av 2 out597))]) [(0, 0), (1, 1)] (by simp) (fun H g nw hg hlow hc hne hs => ⟨.cons (hg 0 (by decide)) (hlow 0 _ rfl) (.one .sm rfl) (by omega) (.cons (hg 1 (by decide)) (hlow 1 _ rfl) hs (by omega) trivial), ⟨.k, ⟨_, rfl, .ref (hg 0 (by decide))⟩, ⟨_, rfl, .view (hg 1 (by decide))⟩, ⟨.sl (List.map i64 order_1), rfl, .sm⟩, .k, .k, .k, ⟨.sl (List.map G.api_Take.av x575.Reads), rfl, .sm⟩, .k, .k, ⟨_, rfl, .frz hc hne rfl rfl (by simp)⟩, trivial⟩⟩)) ?_)
         refine awp_any [(true, false), (true, false), (true, false), (true, false), (false, false), (false, false), (true, false), (true, false), (true, false), (true, false), (false, false), (false, false), (true, false), (true, false), (true, false), (false, true), (false, false), (false, true)] (by kernel_rfl) (by kernel_rfl) rfl ?_
         refine ARH.dry rfl (fun _ => aop_move (.inl rfl) rfl) <| ARH.dry rfl (fun _ => aop_move (.inl rfl) rfl) <| ARH.dry rfl (fun _ => aop_move (.inl rfl) rfl) <| ARH.keep [2, 5, 6, 20, 21, 22, 8, 31, 32, 33, 10, 37, 38, 39] rfl <| ARH.dry rfl (fun _ => aop_move (.inl rfl) rfl) ?_
         obtain ⟨x613, hx613, h⟩ := Sh.bind_some' h
         obtain ⟨k614, hi614, hl614⟩ := Sh.idx_some hx613
         refine ARH.op (r := .ref 1 k614 0) rfl rfl (t_index_fam G.api_Take.av 2 out597 hi614 hl614 rfl rfl rfl rfl rfl el92) <| ARH.op (r := .view (2 + k614) 0 (List.map G.api_Take.av x613).length) rfl rfl (t_load_fam G.api_Take.av 2 out597 hl614 rfl rfl rfl sz61 rfl) <| ARH.keep [2, 5, 6, 20, 21, 22, 8, 31, 32, 33, 10, 37, 38, 42] rfl <| ARH.dry rfl (fun _ => aop_field_pp rfl rfl fd60_0 (by decide)) <| ARH.dry (r := i64 x611.Key) rfl (fun _ => aop_load_pp rfl rfl sz3 rfl) <| ARH.dry rfl (fun _ => aop_field_pp rfl rfl fd60_0 (by decide)) <| ARH.keep [2, 5, 6, 20, 21, 22, 8, 31, 32, 33, 37, 38, 42, 44, 45] rfl <| ARH.dry (r := i64 x611.Key) rfl (fun _ => aop_load_pp rfl rfl sz3 rfl) ?_
         obtain ⟨x615, hx615, h⟩ := Sh.bind_some' h
         obtain ⟨hN616, k616, hi616, hl616⟩ := Sh.aidx_some hx615
         refine ARH.op (r := .ref 0 0 k616) rfl rfl (t_index_arr i64 last449 hi616 hl616 hN616 rfl rfl rfl rfl ar139) <| ARH.op (r := i64 x615) rfl rfl (t_load_arr i64 last449 hl616 rfl rfl rfl sz3) <| ARH.keep [2, 5, 6, 20, 21, 22, 8, 31, 32, 33, 37, 38, 42, 44, 48] rfl <| ARH.dry rfl (fun _ => aop_sub rfl rfl rfl rfl) <| ARH.dry (r := .agg [i64 x611.Key, i64 (w64 (x615 - 1))]) rfl (fun _ => aop_build rfl bd60 rfl rfl rfl) <| ARH.dry (r := .clip (List.map G.api_Take.av ([(G.api_Take.mk x611.Key (w64 (x615 - 1)))] : List G.api_Take))) rfl (fun _ => aop_buildSlice rfl (xo := [.tmp 50]) rfl rfl rfl (by simp) (by simp) el61 ze61 (by decide)) <| ARH.keep [2, 5, 6, 20, 21, 22, 8, 31, 32, 33, 37, 38, 42, 51] rfl ?_
         obtain ⟨l617, hl617, h⟩ := Sh.bind_some' h
         refine ARH.loud (r := .view (2 + out597.length) 0 (List.map G.api_Take.av l617).length) rfl rfl (t_app_view G.api_Take.av x613 ([(G.api_Take.mk x611.Key (w64 (x615 - 1)))] : List G.api_Take) l617 hl617 rfl et61 (fun _ => rfl) rfl rfl rfl (famH_get hl614) (famH_sz hl614) rfl rfl) ?_
         obtain ⟨x618, hx618, h⟩ := Sh.bind_some' h
         obtain ⟨k619, hi619, hl619⟩ := Sh.idx_some hx618
         obtain rfl := Int.ofNat_inj.1 (hi619.symm.trans hi614)
         refine ARH.op (r := .ref 1 _ 0) rfl rfl (t_index_fam G.api_Take.av 2 out597 hi619 hl619 rfl rfl rfl (famH_appG rfl) rfl el92) <| ARH.loud rfl rfl (t_store_fam G.api_Take.av 2 out597 hl619 rfl rfl rfl (famH_appG rfl) sz61) <| ARH.nil <| hK23 _ (AWP.weak (Weak.appRow (fr' := [(2, .pp [.sl (List.map G.api_Txn.av h_0.Txns)] 0), (5, .ref 0 0 0), (6, .view 1 0 (List.map (slA G.api_Take.av) (Sh.set out597 x510 l617)).length), (20, .sl (List.map i64 order_1)), (21, i64 (Sh.len order_1)), (22, i64 v451), (8, i64 x510), (31, .sl (List.map G.api_Take.av x575.Reads)), (32, i64 (Sh.len x575.Reads)), (33, i64 v598)]) (F' := [(0, (16, [.agg (List.map i64 last449)])), (1, (1, famV G.api_Take.av 2 (Sh.set out597 x510 l617)))]) [(0, 0), (1, 1)] (Sh.set out597 x510 l617) (by simp [Sh.set, hi619]) (by simp) hl619 rfl (fun H g nw hg hlow es he hs => ⟨.cons (hg 0 (by decide)) (hlow 0 _ (by decide) rfl) (.one .sm rfl) (by omega) (.cons (hg 1 (by decide)) he hs (by omega) trivial), ⟨.k, ⟨_, rfl, .ref (hg 0 (by decide))⟩, ⟨_, rfl, .viewL (hg 1 (by decide)) (by simp [])⟩, ⟨.sl (List.map i64 order_1), rfl, .sm⟩, .k, .k, .k, ⟨.sl (List.map G.api_Take.av x575.Reads), rfl, .sm⟩, .k, .k, trivial⟩⟩)) ?_)
         refine awp_reg rfl <| AR.op rfl (aop_add rfl rfl rfl rfl) <| AR.op rfl (aop_move (.inl rfl) rfl) <| AR.nil ?_
         replace h := Sh.next_eq h
         exact ⟨_, h, Weak.kt [2, 5, 6, 20, 21, 22, 8, 31, 32, 33] rfl⟩
        ·replace h := Sh.if_f h hb599
         refine awp_exit ?_
         replace h := Sh.exit_eq h hx3
         exact hK19 out597 _ h (Weak.kt [2, 5, 6, 20, 21, 22, 8] rfl)
    ·replace h := Sh.if_f h hb452
     refine awp_exit ?_
     replace h := Sh.exit_eq h hx1
     exact hK8 out450 _ h (Weak.re [(0, 1)] [] rfl rfl rfl (.cons rfl rfl (seeL_give (by simp)) dt trivial) ⟨⟨_, rfl, .view rfl⟩, trivial⟩)
theorem ser_Play_ok {W0 : World} (hT : Tab W0) {h_0 : G.api_Hist} {order_1 : List Int} {r : (List (List G.api_Take))} (h : G.ser_Play h_0 order_1 = some r) : Fun1 Tryz.prog W0 51 [G.api_Hist.av h_0, .sl (List.map i64 order_1)] (.sl (List.map (slA G.api_Take.av) r)) :=
 (ser_Play_own hT h).give (Weak.e ⟨⟨_, rfl, .lendAll rfl rfl (by simp)⟩, trivial⟩) (by simp)


theorem ser_Check_ok0 {W0 : World} (hT : Tab W0) {h_0 : G.api_Hist} {order_1 : List Int} {r : Bool} (h : G.ser_Check h_0 order_1 = some r) : Fun2 Tryz.prog W0 24 [G.api_Hist.av h_0, .sl (List.map i64 order_1)] (bl r) .empty := by
 refine fun2_of_awp Tryz.func24 rfl (by kernel_rfl) Tryz.ntmps24 (by simp) ?_
 unfold G.ser_Check at h
 show AWP _ _ _ _ ⟨[(0, G.api_Hist.av h_0), (1, .sl (List.map i64 order_1))], .empty⟩ _
 refine awp_seqK fun K1 hK1 => awp_reg rfl <| AR.op (r := .ref 0 0 0) rfl (aop_box 1 [G.api_Hist.av h_0] rfl rfl rfl (.inl ⟨rfl, rfl⟩)) <| AR.op rfl (aop_move (.inr rfl) rfl) <| AR.nil <| hK1 _ (AWP.weak (Weak.e (fr' := [(1, .sl (List.map i64 order_1)), (2, .pp [.sl (List.map G.api_Txn.av h_0.Txns)] 0)]) (H' := .empty) ⟨⟨.sl (List.map i64 order_1), rfl, .sm⟩, ⟨_, rfl, .frzA rfl rfl rfl rfl (by simp)⟩, trivial⟩) ?_)
 refine awp_seqK fun K2 hK2 => awp_seqK fun K3 hK3 => awp_reg rfl <| AR.op (r := G.api_Hist.av h_0) rfl (aop_load_pp rfl rfl sz24 rfl) <| AR.op rfl (aop_move (.inl rfl) rfl) ?_
 obtain ⟨r50, hr50, h⟩ := Sh.bind_some' h
 refine AR.op (r := bl r50) rfl (aop_call1 rfl rfl (by simp) (ser_right_ok hT hr50)) <| AR.keep [1, 2, 13] rfl <| AR.op (r := bl (!r50)) rfl (aop_not rfl rfl) <| AR.nil <| hK3 _ (AWP.weak (Weak.kt [1, 2, 14] rfl) ?_)
 refine awp_cond rfl (fun hb51 => ?_) (fun hb51 => ?_)
 ·replace h := Sh.if_t h hb51
  refine awp_seqK fun K4 hK4 => awp_reg rfl <| AR.op rfl (aop_move (.inr rfl) rfl) <| AR.nil <| hK4 _ (AWP.weak (Weak.kt [4] rfl) ?_)
  refine awp_ret ?_
  obtain rfl := Option.some.inj h
  refine ⟨.inr rfl, bl false, rfl, ?_⟩
  exact Weak.e ⟨.k, trivial⟩
 ·replace h := Sh.if_f h hb51
  refine awp_skip <| hK2 _ (AWP.weak (Weak.kt [1, 2] rfl) ?_)
  refine awp_seqJ (fun (p : Unit) => (⟨[(1, .sl (List.map i64 order_1)), (2, .pp [.sl (List.map G.api_Txn.av h_0.Txns)] 0)], .empty⟩ : St)) (fun (p : Unit) => G.ser_Check_j1 h_0 order_1 = some r) ?_ ?_
  ·rintro ⟨⟩ h
   replace h : G.ser_Check_j1 h_0 order_1 = some r := h
   unfold G.ser_Check_j1 at h
   refine awp_seqK fun K5 hK5 => awp_reg rfl <| AR.op (r := .ref 0 0 0) rfl (aop_alloc 8 [.agg (List.map i64 (List.replicate 8 0))] rfl zr95 (by kernel_rfl) (.inl ⟨by kernel_rfl, by kernel_rfl⟩)) <| AR.nil <| hK5 _ ?_
   refine awp_seqJ (fun (p : Unit) => (⟨[], .empty⟩ : St)) (fun (p : Unit) => G.ser_Check_j2 = some r) ?_ ?_
   ·rintro ⟨⟩ h
    replace h : G.ser_Check_j2 = some r := h
    unfold G.ser_Check_j2 at h
    refine awp_seqK fun K6 hK6 => awp_reg rfl <| AR.op rfl (aop_move (.inr rfl) rfl) <| AR.nil <| hK6 _ ?_
    refine awp_ret ?_
    obtain rfl := Option.some.inj h
    refine ⟨.inr rfl, bl true, rfl, ?_⟩
    exact Weak.e ⟨.k, trivial⟩
   ·intro K7 hK7
    refine awp_seqK fun K8 hK8 => awp_reg rfl <| AR.op rfl (aop_move (.inl rfl) rfl) <| AR.op rfl (t_len_sl i64 order_1 rfl rfl el25) <| AR.op rfl (aop_move (.inl rfl) rfl) <| AR.nil <| hK8 _ (AWP.weak (Weak.kt [2, 7, 34, 35, 36] rfl) ?_)
    refine awp_block <| awp_iter (fun (p : (List Int) × Int) => G.ser_Check_b1 h_0 order_1 p.1 p.2) (fun (p : (List Int) × Int) => (⟨[(2, .pp [.sl (List.map G.api_Txn.av h_0.Txns)] 0), (7, .ref 0 0 0), (34, .sl (List.map i64 order_1)), (35, i64 (Sh.len order_1)), (36, i64 p.2)], ⟨1, [(0, (8, [.agg (List.map i64 p.1)]))], []⟩⟩ : St)) h (Weak.kt [2, 7, 34, 35, 36] rfl) ?_
    ·skip
     rintro ⟨last116, v117⟩ o1 h hx1
     replace h : G.ser_Check_b1 h_0 order_1 last116 v117 = some o1 := h
     unfold G.ser_Check_b1 at h
     refine awp_seqK fun K9 hK9 => awp_reg rfl <| AR.op rfl (aop_lss rfl rfl rfl) <| AR.nil <| hK9 _ ?_
     refine awp_seqK fun K10 hK10 => awp_cond rfl (fun hb118 => ?_) (fun hb118 => ?_)
     ·replace h := Sh.if_t h hb118
      refine awp_skip <| hK10 _ (AWP.weak (Weak.kt [2, 7, 34, 35, 36] rfl) ?_)
      refine awp_seqK fun K11 hK11 => awp_block <| awp_seqK fun K12 hK12 => awp_reg rfl ?_
      obtain ⟨x129, hx129, h⟩ := Sh.bind_some' h
      obtain ⟨k130, hi130, hl130⟩ := Sh.idx_some hx129
      refine AR.op rfl (t_index_sl i64 order_1 hi130 hl130 rfl rfl rfl el25 rfl) <| AR.op (r := i64 x129) rfl (aop_load_pp rfl rfl sz3 rfl) <| AR.op rfl (aop_move (.inr rfl) rfl) <| AR.nil <| hK12 _ (AWP.weak (Weak.kt [2, 7, 34, 35, 36, 9] rfl) ?_)
      refine awp_seqK fun K13 hK13 => awp_reg rfl <| AR.op rfl (aop_field_pp rfl rfl fd24_0 (by decide)) <| AR.op (r := .sl (List.map G.api_Txn.av h_0.Txns)) rfl (aop_load_pp rfl rfl sz22 rfl) <| AR.op rfl (aop_move (.inl rfl) rfl) <| AR.keep [2, 7, 34, 35, 36, 9, 41, 42] rfl ?_
      obtain ⟨x133, hx133, h⟩ := Sh.bind_some' h
      obtain ⟨k134, hi134, hl134⟩ := Sh.idx_some hx133
      refine AR.op rfl (t_index_sl G.api_Txn.av h_0.Txns hi134 hl134 rfl rfl rfl el22 rfl) <| AR.op rfl (aop_field_pp rfl rfl fd63_0 (by decide)) <| AR.op (r := i64 x133.Session) rfl (aop_load_pp rfl rfl sz3 rfl) <| AR.keep [2, 7, 34, 35, 36, 9, 45] rfl <| AR.op rfl (aop_move (.inr rfl) rfl) <| AR.nil <| hK13 _ (AWP.weak (Weak.kt [2, 7, 34, 35, 36, 9, 10] rfl) ?_)
      refine awp_seqK fun K14 hK14 => awp_seqK fun K15 hK15 => awp_reg rfl <| AR.op rfl (aop_move (.inl rfl) rfl) <| AR.op rfl (aop_move (.inl rfl) rfl) ?_
      obtain ⟨x139, hx139, h⟩ := Sh.bind_some' h
      obtain ⟨hN140, k140, hi140, hl140⟩ := Sh.aidx_some hx139
      refine AR.op (r := .ref 0 0 k140) rfl (t_index_arr i64 last116 hi140 hl140 hN140 rfl rfl rfl rfl ar95) <| AR.keep [2, 7, 34, 35, 36, 9, 10, 46, 48] rfl <| AR.op (r := i64 x139) rfl (t_load_arr i64 last116 hl140 rfl rfl rfl sz3) <| AR.op rfl (aop_lss rfl rfl rfl) <| AR.nil <| hK15 _ (AWP.weak (Weak.kt [2, 7, 34, 35, 36, 9, 10, 50] rfl) ?_)
      refine awp_cond rfl (fun hb141 => ?_) (fun hb141 => ?_)
      ·replace h := Sh.if_t h hb141
       refine awp_seqK fun K16 hK16 => awp_reg rfl <| AR.op rfl (aop_move (.inr rfl) rfl) <| AR.nil <| hK16 _ (AWP.weak (Weak.e (fr' := [(4, bl false)]) (H' := .empty) ⟨.k, trivial⟩) ?_)
       refine awp_ret ?_
       replace h := Sh.exit_eq h hx1
       obtain rfl := Option.some.inj h
       refine ⟨.inr rfl, bl false, rfl, ?_⟩
       exact Weak.e ⟨.k, trivial⟩
      ·replace h := Sh.if_f h hb141
       refine awp_skip <| hK14 _ (AWP.weak (Weak.kt [2, 7, 34, 35, 36, 9, 10] rfl) ?_)
       refine awp_reg rfl <| AR.op rfl (aop_move (.inl rfl) rfl) <| AR.op rfl (aop_move (.inl rfl) rfl) <| AR.op rfl (aop_add rfl rfl rfl rfl) <| AR.keep [2, 7, 34, 35, 36, 51, 53] rfl ?_
       obtain ⟨x142, hx142, h⟩ := Sh.bind_some' h
       obtain ⟨hN143, k143, hi143, hl143⟩ := Sh.aidx_some hx142
       refine AR.op (r := .ref 0 0 k143) rfl (t_index_arr i64 last116 hi143 hl143 hN143 rfl rfl rfl rfl ar95) <| AR.op rfl (t_store_arr i64 last116 (w64 (x129 + 1)) hi143 hl143 rfl rfl rfl rfl rfl rfl sz3) <| AR.nil <| hK11 _ (AWP.weak (Weak.kt [2, 7, 34, 35, 36] rfl) ?_)
       refine awp_reg rfl <| AR.op rfl (aop_add rfl rfl rfl rfl) <| AR.op rfl (aop_move (.inl rfl) rfl) <| AR.nil ?_
       replace h := Sh.next_eq h
       exact ⟨_, h, Weak.kt [2, 7, 34, 35, 36] rfl⟩
     ·replace h := Sh.if_f h hb118
      refine awp_exit ?_
      replace h := Sh.exit_eq h hx1
      exact hK7 () _ h (Weak.e trivial)
  ·intro K17 hK17
   refine awp_seqK fun K18 hK18 => awp_reg rfl <| AR.op (r := G.api_Hist.av h_0) rfl (aop_load_pp rfl rfl sz24 rfl) <| AR.op rfl (aop_move (.inl rfl) rfl) ?_
   obtain ⟨r145, hr145, h⟩ := Sh.bind_some' h
   refine AR.op (r := .sl (List.map (slA G.api_Take.av) r145)) rfl (aop_call1 rfl rfl (by simp) (ser_Play_ok hT hr145)) <| AR.keep [1, 2, 17] rfl <| AR.op rfl (t_len_sl (slA G.api_Take.av) r145 rfl rfl el92) <| AR.op rfl (aop_move (.inl rfl) rfl) <| AR.nil <| hK18 _ ?_
   refine awp_block <| awp_iter (fun (p : Int) => G.ser_Check_b2 h_0 order_1 r145 p) (fun (p : Int) => (⟨[(1, .sl (List.map i64 order_1)), (2, .pp [.sl (List.map G.api_Txn.av h_0.Txns)] 0), (17, .sl (List.map (slA G.api_Take.av) r145)), (18, i64 (Sh.len r145)), (19, i64 p)], .empty⟩ : St)) h (Weak.kt [1, 2, 17, 18, 19] rfl) ?_
   ·skip
    rintro v157 o2 h hx2
    replace h : G.ser_Check_b2 h_0 order_1 r145 v157 = some o2 := h
    unfold G.ser_Check_b2 at h
    refine awp_seqK fun K19 hK19 => awp_reg rfl <| AR.op rfl (aop_lss rfl rfl rfl) <| AR.nil <| hK19 _ ?_
    refine awp_seqK fun K20 hK20 => awp_cond rfl (fun hb158 => ?_) (fun hb158 => ?_)
    ·replace h := Sh.if_t h hb158
     refine awp_skip <| hK20 _ (AWP.weak (Weak.kt [1, 2, 17, 18, 19] rfl) ?_)
     refine awp_seqK fun K21 hK21 => awp_block <| awp_seqK fun K22 hK22 => awp_reg rfl <| AR.op rfl (aop_move (.inl rfl) rfl) ?_
     obtain ⟨x166, hx166, h⟩ := Sh.bind_some' h
     obtain ⟨k167, hi167, hl167⟩ := Sh.idx_some hx166
     refine AR.op rfl (t_index_sl (slA G.api_Take.av) r145 hi167 hl167 rfl rfl rfl el92 rfl) <| AR.op (r := .sl (List.map G.api_Take.av x166)) rfl (aop_load_pp rfl rfl sz61 rfl) <| AR.keep [1, 2, 17, 18, 19, 21, 23] rfl <| AR.op rfl (aop_move (.inr rfl) rfl) <| AR.op rfl (aop_move (.inr rfl) rfl) <| AR.nil <| hK22 _ (AWP.weak (Weak.kt [1, 2, 17, 18, 19, 5, 6] rfl) ?_)
     refine awp_seqK fun K23 hK23 => awp_reg rfl <| AR.op rfl (aop_move (.inl rfl) rfl) <| AR.op rfl (aop_field_pp rfl rfl fd24_0 (by decide)) <| AR.op (r := .sl (List.map G.api_Txn.av h_0.Txns)) rfl (aop_load_pp rfl rfl sz22 rfl) <| AR.keep [1, 2, 17, 18, 19, 5, 24, 26] rfl <| AR.op rfl (aop_move (.inl rfl) rfl) ?_
     obtain ⟨x171, hx171, h⟩ := Sh.bind_some' h
     obtain ⟨k172, hi172, hl172⟩ := Sh.idx_some hx171
     refine AR.op rfl (t_index_sl G.api_Txn.av h_0.Txns hi172 hl172 rfl rfl rfl el22 rfl) <| AR.op rfl (aop_field_pp rfl rfl fd63_2 (by decide)) <| AR.keep [1, 2, 17, 18, 19, 24, 29] rfl <| AR.op (r := .sl (List.map G.api_Take.av x171.Reads)) rfl (aop_load_pp rfl rfl sz61 rfl) ?_
     obtain ⟨r173, hr173, h⟩ := Sh.bind_some' h
     refine AR.op (r := bl r173) rfl (aop_call1 rfl rfl (by simp) (slices_Equal_api_Take_api_Take_ok hT hr173)) <| AR.op (r := bl (!r173)) rfl (aop_not rfl rfl) <| AR.nil <| hK23 _ (AWP.weak (Weak.kt [1, 2, 17, 18, 19, 32] rfl) ?_)
     refine awp_cond rfl (fun hb174 => ?_) (fun hb174 => ?_)
     ·replace h := Sh.if_t h hb174
      refine awp_seqK fun K24 hK24 => awp_reg rfl <| AR.op rfl (aop_move (.inr rfl) rfl) <| AR.nil <| hK24 _ (AWP.weak (Weak.kt [4] rfl) ?_)
      refine awp_ret ?_
      replace h := Sh.exit_eq h hx2
      obtain rfl := Option.some.inj h
      refine ⟨.inr rfl, bl false, rfl, ?_⟩
      exact Weak.e ⟨.k, trivial⟩
     ·replace h := Sh.if_f h hb174
      refine awp_skip <| hK21 _ (AWP.weak (Weak.kt [1, 2, 17, 18, 19] rfl) ?_)
      refine awp_reg rfl <| AR.op rfl (aop_add rfl rfl rfl rfl) <| AR.op rfl (aop_move (.inl rfl) rfl) <| AR.nil ?_
      replace h := Sh.next_eq h
      exact ⟨_, h, Weak.kt [1, 2, 17, 18, 19] rfl⟩
    ·replace h := Sh.if_f h hb158
     refine awp_exit ?_
     replace h := Sh.exit_eq h hx2
     exact hK17 () _ h (Weak.kt [1, 2] rfl)
theorem ser_Check_ok {W0 : World} (hT : Tab W0) {h_0 : G.api_Hist} {order_1 : List Int} {r : Bool} (h : G.ser_Check h_0 order_1 = some r) : Fun1 Tryz.prog W0 24 [G.api_Hist.av h_0, .sl (List.map i64 order_1)] (bl r) := Fun1.two (ser_Check_ok0 hT h) (by simp)

end Wk
