/- That the functions of a package do what their plain functions say. -/
import Derived.Test.YtkiiigfefobdlaaDoorSh
import Derived.Test.YtkiiigfefobdlaaDoorWkCFacts
import Derived.Test.YtkiiigfefobdlaaDoorWkCbits
import Derived.Test.YtkiiigfefobdlaaDoorWkCgraph
open Go Go.Av Go.Proofs
set_option linter.unusedVariables false
set_option maxHeartbeats 8000000
set_option maxRecDepth 20000
namespace Wk
theorem cycle_Is_ok0 {W0 : World} (hT : Tab W0) {g_0 : G.graph_Graph} {l_1 : List Int} {r : Bool} (h : G.cycle_Is g_0 l_1 = some r) : Fun2 Tryd.prog W0 14 [G.graph_Graph.av g_0, .sl (List.map i64 l_1)] (bl r) .empty := by
 refine fun2_of_awp Tryd.func14 rfl (by kernel_rfl) Tryd.ntmps14 (by simp) ?_
 unfold G.cycle_Is at h
 show AWP _ _ _ _ ⟨[(0, G.graph_Graph.av g_0), (1, .sl (List.map i64 l_1))], .empty⟩ _
 refine awp_seqK fun K1 hK1 => awp_reg rfl <| AR.op (r := .ref 0 0 0) rfl (aop_box 2 [G.graph_Graph.av g_0] rfl rfl rfl (.inl ⟨rfl, rfl⟩)) <| AR.op rfl (aop_move (.inr rfl) rfl) <| AR.nil <| hK1 _ (AWP.weak (Weak.e (fr' := [(1, .sl (List.map i64 l_1)), (2, .pp [i64 g_0.N, .sl (List.map u64 g_0.Rows)] 0)]) (H' := .empty) ⟨⟨.sl (List.map i64 l_1), rfl, .sm⟩, ⟨_, rfl, .frzA rfl rfl rfl rfl (by simp)⟩, trivial⟩) ?_)
 refine awp_seqK fun K2 hK2 => awp_seqJ (fun (p : Bool) => (⟨[(1, .sl (List.map i64 l_1)), (2, .pp [i64 g_0.N, .sl (List.map u64 g_0.Rows)] 0), (18, bl p)], .empty⟩ : St)) (fun (p : Bool) => G.cycle_Is_j1 g_0 l_1 p = some r) ?_ ?_
 ·rintro v35 h
  replace h : G.cycle_Is_j1 g_0 l_1 v35 = some r := h
  unfold G.cycle_Is_j1 at h
  refine awp_cond rfl (fun hb36 => ?_) (fun hb36 => ?_)
  ·replace h := Sh.if_t h hb36
   refine awp_seqK fun K3 hK3 => awp_reg rfl <| AR.op rfl (aop_move (.inr rfl) rfl) <| AR.nil <| hK3 _ (AWP.weak (Weak.kt [4] rfl) ?_)
   refine awp_ret ?_
   obtain rfl := Option.some.inj h
   refine ⟨.inr rfl, bl false, rfl, ?_⟩
   exact Weak.e ⟨.k, trivial⟩
  ·replace h := Sh.if_f h hb36
   refine awp_skip <| hK2 _ (AWP.weak (Weak.kt [1, 2] rfl) ?_)
   refine awp_seqK fun K4 hK4 => awp_reg rfl <| AR.op rfl (aop_move (.inr rfl) rfl) <| AR.nil <| hK4 _ ?_
   refine awp_seqK fun K5 hK5 => awp_reg rfl <| AR.op rfl (aop_move (.inl rfl) rfl) <| AR.op rfl (aop_move (.inl rfl) rfl) <| AR.op rfl (t_len_sl i64 l_1 rfl rfl el25) <| AR.keep [1, 2, 5, 19, 21] rfl <| AR.op rfl (aop_sub rfl rfl rfl rfl) ?_
   obtain ⟨x39, hx39, h⟩ := Sh.bind_some' h
   obtain ⟨k40, hi40, hl40⟩ := Sh.idx_some hx39
   refine AR.op rfl (t_index_sl i64 l_1 hi40 hl40 rfl rfl rfl el25 rfl) <| AR.op (r := i64 x39) rfl (aop_load_pp rfl rfl sz3 rfl) <| AR.keep [1, 2, 5, 24] rfl <| AR.op rfl (aop_move (.inr rfl) rfl) <| AR.nil <| hK5 _ (AWP.weak (Weak.kt [1, 2, 5, 6] rfl) ?_)
   refine awp_seqJ (fun (p : Unit) => (⟨[], .empty⟩ : St)) (fun (p : Unit) => G.cycle_Is_j2 = some r) ?_ ?_
   ·rintro ⟨⟩ h
    replace h : G.cycle_Is_j2 = some r := h
    unfold G.cycle_Is_j2 at h
    refine awp_seqK fun K6 hK6 => awp_reg rfl <| AR.op rfl (aop_move (.inr rfl) rfl) <| AR.nil <| hK6 _ ?_
    refine awp_ret ?_
    obtain rfl := Option.some.inj h
    refine ⟨.inr rfl, bl true, rfl, ?_⟩
    exact Weak.e ⟨.k, trivial⟩
   ·intro K7 hK7
    refine awp_seqK fun K8 hK8 => awp_reg rfl <| AR.op rfl (aop_move (.inl rfl) rfl) <| AR.op rfl (t_len_sl i64 l_1 rfl rfl el25) <| AR.op rfl (aop_move (.inl rfl) rfl) <| AR.nil <| hK8 _ (AWP.weak (Weak.kt [2, 5, 6, 25, 26, 27] rfl) ?_)
    refine awp_block <| awp_iter (fun (p : (BitVec 64) × Int × Int) => G.cycle_Is_b1 g_0 l_1 p.1 p.2.1 p.2.2) (fun (p : (BitVec 64) × Int × Int) => (⟨[(2, .pp [i64 g_0.N, .sl (List.map u64 g_0.Rows)] 0), (5, u64 p.1), (6, i64 p.2.1), (25, .sl (List.map i64 l_1)), (26, i64 (Sh.len l_1)), (27, i64 p.2.2)], .empty⟩ : St)) h (Weak.kt [2, 5, 6, 25, 26, 27] rfl) ?_
    ·skip
     rintro ⟨seen85, last86, v87⟩ o1 h hx1
     replace h : G.cycle_Is_b1 g_0 l_1 seen85 last86 v87 = some o1 := h
     unfold G.cycle_Is_b1 at h
     refine awp_seqK fun K9 hK9 => awp_reg rfl <| AR.op rfl (aop_lss rfl rfl rfl) <| AR.nil <| hK9 _ ?_
     refine awp_seqK fun K10 hK10 => awp_cond rfl (fun hb88 => ?_) (fun hb88 => ?_)
     ·replace h := Sh.if_t h hb88
      refine awp_skip <| hK10 _ (AWP.weak (Weak.kt [2, 5, 6, 25, 26, 27] rfl) ?_)
      refine awp_seqK fun K11 hK11 => awp_block <| awp_seqK fun K12 hK12 => awp_reg rfl ?_
      obtain ⟨x98, hx98, h⟩ := Sh.bind_some' h
      obtain ⟨k99, hi99, hl99⟩ := Sh.idx_some hx98
      refine AR.op rfl (t_index_sl i64 l_1 hi99 hl99 rfl rfl rfl el25 rfl) <| AR.op (r := i64 x98) rfl (aop_load_pp rfl rfl sz3 rfl) <| AR.op rfl (aop_move (.inr rfl) rfl) <| AR.nil <| hK12 _ (AWP.weak (Weak.kt [2, 5, 6, 25, 26, 27, 8] rfl) ?_)
      refine awp_seqK fun K13 hK13 => awp_seqJ (fun (p : Bool) => (⟨[(2, .pp [i64 g_0.N, .sl (List.map u64 g_0.Rows)] 0), (5, u64 seen85), (25, .sl (List.map i64 l_1)), (26, i64 (Sh.len l_1)), (27, i64 v87), (8, i64 x98), (40, bl p)], .empty⟩ : St)) (fun (p : Bool) => G.cycle_Is_j3 seen85 v87 x98 p = some o1) ?_ ?_
      ·rintro v107 h
       replace h : G.cycle_Is_j3 seen85 v87 x98 v107 = some o1 := h
       unfold G.cycle_Is_j3 at h
       refine awp_cond rfl (fun hb108 => ?_) (fun hb108 => ?_)
       ·replace h := Sh.if_t h hb108
        refine awp_seqK fun K14 hK14 => awp_reg rfl <| AR.op rfl (aop_move (.inr rfl) rfl) <| AR.nil <| hK14 _ (AWP.weak (Weak.kt [4] rfl) ?_)
        refine awp_ret ?_
        replace h := Sh.exit_eq h hx1
        obtain rfl := Option.some.inj h
        refine ⟨.inr rfl, bl false, rfl, ?_⟩
        exact Weak.e ⟨.k, trivial⟩
       ·replace h := Sh.if_f h hb108
        refine awp_skip <| hK13 _ (AWP.weak (Weak.kt [2, 5, 25, 26, 27, 8] rfl) ?_)
        refine awp_seqK fun K15 hK15 => awp_reg rfl <| AR.op rfl (aop_move (.inl rfl) rfl) <| AR.op rfl (aop_move (.inl rfl) rfl) ?_
        obtain ⟨r110, hr110, h⟩ := Sh.bind_some' h
        refine AR.op (r := u64 r110) rfl (aop_call1 rfl rfl (by simp) (bits_With_ok hT hr110)) <| AR.keep [2, 25, 26, 27, 8, 43] rfl <| AR.op rfl (aop_move (.inr rfl) rfl) <| AR.nil <| hK15 _ (AWP.weak (Weak.kt [2, 25, 26, 27, 8, 5] rfl) ?_)
        refine awp_reg rfl <| AR.op rfl (aop_move (.inl rfl) rfl) <| AR.op rfl (aop_move (.inr rfl) rfl) <| AR.nil <| hK11 _ (AWP.weak (Weak.kt [2, 25, 26, 27, 5, 6] rfl) ?_)
        refine awp_reg rfl <| AR.op rfl (aop_add rfl rfl rfl rfl) <| AR.op rfl (aop_move (.inl rfl) rfl) <| AR.nil ?_
        replace h := Sh.next_eq h
        exact ⟨_, h, Weak.kt [2, 5, 6, 25, 26, 27] rfl⟩
      ·intro K16 hK16
       refine awp_reg rfl <| AR.op (r := G.graph_Graph.av g_0) rfl (aop_load_pp rfl rfl sz24 rfl) <| AR.op rfl (aop_move (.inl rfl) rfl) <| AR.op rfl (aop_move (.inl rfl) rfl) <| AR.keep [2, 5, 25, 26, 27, 8, 31, 32, 33] rfl ?_
       obtain ⟨r111, hr111, h⟩ := Sh.bind_some' h
       refine AR.op (r := bl r111) rfl (aop_call1 rfl rfl (by simp) (graph_Has_ok hT hr111)) <| AR.op (r := bl (!r111)) rfl (aop_not rfl rfl) <| AR.op rfl (aop_move (.inl rfl) rfl) <| AR.keep [2, 5, 25, 26, 27, 8, 36] rfl ?_
       rcases Bool.eq_false_or_eq_true (!r111) with hb112 | hb112
       ·rw [hb112]
        replace h := Sh.if_t h hb112
        refine AR.skip rfl <| AR.skip rfl <| AR.skip rfl <| AR.keep [2, 5, 25, 26, 27, 8, 36, 37, 38, 39] rfl <| AR.op rfl (aop_pick rfl rfl rfl) <| AR.nil ?_
        exact hK16 true _ h (Weak.kt [2, 5, 25, 26, 27, 8, 40] rfl)
       ·rw [hb112]
        replace h := Sh.if_f h hb112
        refine AR.op rfl (aop_move (.inl rfl) rfl) <| AR.op rfl (aop_move (.inl rfl) rfl) ?_
        obtain ⟨r113, hr113, h⟩ := Sh.bind_some' h
        refine AR.op (r := bl r113) rfl (aop_call1 rfl rfl (by simp) (bits_Has_ok hT hr113)) <| AR.keep [2, 5, 25, 26, 27, 8, 36, 37, 38, 39] rfl <| AR.op rfl (aop_pick rfl rfl rfl) <| AR.nil ?_
        exact hK16 r113 _ h (Weak.kt [2, 5, 25, 26, 27, 8, 40] rfl)
     ·replace h := Sh.if_f h hb88
      refine awp_exit ?_
      replace h := Sh.exit_eq h hx1
      exact hK7 () _ h (Weak.kt [] rfl)
 ·intro K17 hK17
  refine awp_reg rfl <| AR.op rfl (aop_move (.inl rfl) rfl) <| AR.op rfl (t_len_sl i64 l_1 rfl rfl el25) <| AR.op (r := bl (decide ((Sh.len l_1) = 0))) rfl (aop_eql rfl rfl rfl) <| AR.keep [1, 2, 11] rfl <| AR.op rfl (aop_move (.inl rfl) rfl) ?_
  rcases Bool.eq_false_or_eq_true (decide ((Sh.len l_1) = 0)) with hb114 | hb114
  ·rw [hb114]
   replace h := Sh.if_t h hb114
   refine AR.skip rfl <| AR.skip rfl <| AR.keep [1, 2, 12, 14] rfl <| AR.skip rfl <| AR.skip rfl <| AR.skip rfl <| AR.keep [1, 2, 12, 17] rfl <| AR.op rfl (aop_pick rfl rfl rfl) ?_
   refine AR.nil ?_
   exact hK17 true _ h (Weak.kt [1, 2, 18] rfl)
  ·rw [hb114]
   replace h := Sh.if_f h hb114
   refine AR.op rfl (aop_move (.inl rfl) rfl) <| AR.op rfl (t_len_sl i64 l_1 rfl rfl el25) <| AR.keep [1, 2, 12, 14] rfl <| AR.op rfl (aop_field_pp rfl rfl fd24_0 (by decide)) <| AR.op (r := i64 g_0.N) rfl (aop_load_pp rfl rfl sz3 rfl) <| AR.op rfl (aop_gtr rfl rfl rfl) <| AR.keep [1, 2, 12, 17] rfl <| AR.op rfl (aop_pick rfl rfl rfl) ?_
   refine AR.nil ?_
   exact hK17 (decide (g_0.N < (Sh.len l_1))) _ h (Weak.kt [1, 2, 18] rfl)
theorem cycle_Is_ok {W0 : World} (hT : Tab W0) {g_0 : G.graph_Graph} {l_1 : List Int} {r : Bool} (h : G.cycle_Is g_0 l_1 = some r) : Fun1 Tryd.prog W0 14 [G.graph_Graph.av g_0, .sl (List.map i64 l_1)] (bl r) := Fun1.two (cycle_Is_ok0 hT h) (by simp)


theorem cycle_far_ok0 {W0 : World} (hT : Tab W0) {back_0 : G.graph_Graph} {v_1 : Int} {r : (List Int)} (h : G.cycle_far back_0 v_1 = some r) : Fun2 Tryd.prog W0 39 [G.graph_Graph.av back_0, i64 v_1] (.agg (List.map i64 r)) .empty := by
 refine fun2_of_awp Tryd.func39 rfl (by kernel_rfl) Tryd.ntmps39 (by simp) ?_
 unfold G.cycle_far at h
 show AWP _ _ _ _ ⟨[(0, G.graph_Graph.av back_0), (1, i64 v_1)], .empty⟩ _
 refine awp_seqK fun K1 hK1 => awp_reg rfl <| AR.op (r := .ref 0 0 0) rfl (aop_box 2 [G.graph_Graph.av back_0] rfl rfl rfl (.inl ⟨rfl, rfl⟩)) <| AR.op (r := .ref 1 0 0) rfl (aop_alloc 64 [.agg (List.map i64 (List.replicate 64 0))] rfl zr51 (by kernel_rfl) (.inl ⟨by kernel_rfl, by kernel_rfl⟩)) <| AR.nil <| hK1 _ (AWP.weak (Weak.re (fr' := [(1, i64 v_1), (2, .pp [i64 back_0.N, .sl (List.map u64 back_0.Rows)] 0), (4, .ref 0 0 0)]) (H' := ⟨1, [(0, (64, [.agg (List.map i64 (List.replicate 64 0))]))], []⟩) [(0, 1)] [] rfl rfl rfl (.cons rfl rfl (.one (.sm) rfl) dt trivial) ⟨.k, ⟨_, rfl, .frzA rfl rfl rfl rfl (by simp)⟩, ⟨_, rfl, .ref rfl⟩, trivial⟩) ?_)
 refine awp_seqK fun K2 hK2 => awp_reg rfl <| AR.op rfl (aop_field_pp rfl rfl fd24_1 (by decide)) <| AR.op (r := .sl (List.map u64 back_0.Rows)) rfl (aop_load_pp rfl rfl sz22 rfl) <| AR.op rfl (aop_move (.inl rfl) rfl) <| AR.keep [2, 4, 11, 12] rfl ?_
 obtain ⟨x135, hx135, h⟩ := Sh.bind_some' h
 obtain ⟨k136, hi136, hl136⟩ := Sh.idx_some hx135
 refine AR.op rfl (t_index_sl u64 back_0.Rows hi136 hl136 rfl rfl rfl el22 rfl) <| AR.op (r := u64 x135) rfl (aop_load_pp rfl rfl sz35 rfl) <| AR.op rfl (aop_move (.inr rfl) rfl) <| AR.nil <| hK2 _ (AWP.weak (Weak.kt [2, 4, 5] rfl) ?_)
 refine awp_seqJ (fun (p : (List Int)) => (⟨[(4, .ref 0 0 0)], ⟨1, [(0, (64, [.agg (List.map i64 p)]))], []⟩⟩ : St)) (fun (p : (List Int)) => G.cycle_far_j1 p = some r) ?_ ?_
 ·rintro v263 h
  replace h : G.cycle_far_j1 v263 = some r := h
  unfold G.cycle_far_j1 at h
  refine awp_seqK fun K3 hK3 => awp_reg rfl ?_
  obtain ⟨w268, hw268, h⟩ := Sh.bind_some' h
  obtain ⟨hN269, rfl⟩ := Sh.whole_some hw268
  refine AR.op (r := .agg (List.map i64 v263)) rfl (t_load_whole i64 v263 hN269 rfl rfl rfl sz51) ?_
  obtain ⟨w270, hw270, h⟩ := Sh.bind_some' h
  obtain ⟨hN271, rfl⟩ := Sh.whole_some hw270
  refine AR.op rfl (t_store_whole i64 v263 v263 hN271 hN271 rfl rfl rfl rfl sz51) <| AR.nil <| hK3 _ (AWP.weak (Weak.kt [4] rfl) ?_)
  refine awp_ret ?_
  obtain ⟨w272, hw272, h⟩ := Sh.bind_some' h
  obtain ⟨hN273, rfl⟩ := Sh.whole_some hw272
  obtain rfl := Option.some.inj h
  refine ⟨.inr rfl, .agg (List.map i64 v263), res_arr i64 v263 hN273 rfl rfl sz51, ?_⟩
  exact Weak.e ⟨.k, trivial⟩
 ·intro K4 hK4
  refine awp_seqK fun K5 hK5 => awp_reg rfl <| AR.op rfl (aop_move (.inr rfl) rfl) <| AR.nil <| hK5 _ ?_
  refine awp_block <| awp_iter (fun (p : (List Int) × (BitVec 64) × Int) => G.cycle_far_b1 back_0 p.1 p.2.1 p.2.2) (fun (p : (List Int) × (BitVec 64) × Int) => (⟨[(2, .pp [i64 back_0.N, .sl (List.map u64 back_0.Rows)] 0), (4, .ref 0 0 0), (5, u64 p.2.1), (6, i64 p.2.2)], ⟨1, [(0, (64, [.agg (List.map i64 p.1)]))], []⟩⟩ : St)) h (Weak.kt [2, 4, 5, 6] rfl) ?_
  ·skip
   rintro ⟨d357, front358, n359⟩ o1 h hx1
   replace h : G.cycle_far_b1 back_0 d357 front358 n359 = some o1 := h
   unfold G.cycle_far_b1 at h
   refine awp_seqK fun K6 hK6 => awp_seqK fun K7 hK7 => awp_reg rfl <| AR.op rfl (aop_move (.inl rfl) rfl) <| AR.op (r := bl (decide (front358 ≠ 0#64))) rfl (aop_neq64 (a := front358) (b := 0#64) rfl rfl rfl) <| AR.nil <| hK7 _ (AWP.weak (Weak.kt [2, 4, 5, 6, 16] rfl) ?_)
   refine awp_cond rfl (fun hb360 => ?_) (fun hb360 => ?_)
   ·replace h := Sh.if_t h hb360
    refine awp_skip <| hK6 _ (AWP.weak (Weak.kt [2, 4, 5, 6] rfl) ?_)
    refine awp_seqJ (fun (p : (BitVec 64) × (List Int)) => (⟨[(2, .pp [i64 back_0.N, .sl (List.map u64 back_0.Rows)] 0), (4, .ref 0 0 0), (6, i64 n359), (5, u64 p.1)], ⟨1, [(0, (64, [.agg (List.map i64 p.2)]))], []⟩⟩ : St)) (fun (p : (BitVec 64) × (List Int)) => G.cycle_far_j2 n359 p.1 p.2 = some o1) ?_ ?_
    ·rintro ⟨front401, v402⟩ h
     replace h : G.cycle_far_j2 n359 front401 v402 = some o1 := h
     unfold G.cycle_far_j2 at h
     refine awp_reg rfl <| AR.op rfl (aop_move (.inl rfl) rfl) <| AR.op rfl (aop_add rfl rfl rfl rfl) <| AR.op rfl (aop_move (.inr rfl) rfl) <| AR.nil ?_
     replace h := Sh.next_eq h
     exact ⟨_, h, Weak.kt [2, 4, 5, 6] rfl⟩
    ·intro K8 hK8
     refine awp_block <| awp_seqK fun K9 hK9 => awp_reg rfl <| AR.op rfl (aop_move (.inr rfl) rfl) <| AR.nil <| hK9 _ ?_
     refine awp_seqJ (fun (p : (BitVec 64) × (List Int)) => (⟨[(2, .pp [i64 back_0.N, .sl (List.map u64 back_0.Rows)] 0), (4, .ref 0 0 0), (6, i64 n359), (7, u64 p.1)], ⟨1, [(0, (64, [.agg (List.map i64 p.2)]))], []⟩⟩ : St)) (fun (p : (BitVec 64) × (List Int)) => G.cycle_far_j3 n359 p.1 p.2 = some o1) ?_ ?_
     ·rintro ⟨next443, v444⟩ h
      replace h : G.cycle_far_j3 n359 next443 v444 = some o1 := h
      unfold G.cycle_far_j3 at h
      refine awp_reg rfl <| AR.op rfl (aop_move (.inl rfl) rfl) <| AR.op rfl (aop_move (.inr rfl) rfl) <| AR.nil ?_
      exact hK8 (next443, v444) _ h (Weak.kt [2, 4, 6, 5] rfl)
     ·intro K10 hK10
      refine awp_seqK fun K11 hK11 => awp_reg rfl <| AR.op rfl (aop_move (.inl rfl) rfl) ?_
      obtain ⟨r446, hr446, h⟩ := Sh.bind_some' h
      refine AR.op (r := .sl (List.map i64 r446)) rfl (aop_call1 rfl rfl (by simp) (bits_List_ok hT hr446)) <| AR.op rfl (t_len_sl i64 r446 rfl rfl el25) <| AR.keep [2, 4, 6, 7, 20, 21] rfl <| AR.op rfl (aop_move (.inl rfl) rfl) <| AR.nil <| hK11 _ ?_
      refine awp_block <| awp_iter (fun (p : (List Int) × (BitVec 64) × Int) => G.cycle_far_b2 back_0 n359 r446 p.1 p.2.1 p.2.2) (fun (p : (List Int) × (BitVec 64) × Int) => (⟨[(2, .pp [i64 back_0.N, .sl (List.map u64 back_0.Rows)] 0), (4, .ref 0 0 0), (6, i64 n359), (7, u64 p.2.1), (20, .sl (List.map i64 r446)), (21, i64 (Sh.len r446)), (22, i64 p.2.2)], ⟨1, [(0, (64, [.agg (List.map i64 p.1)]))], []⟩⟩ : St)) h (Weak.kt [2, 4, 6, 7, 20, 21, 22] rfl) ?_
      ·skip
       rintro ⟨d472, next473, v474⟩ o2 h hx2
       replace h : G.cycle_far_b2 back_0 n359 r446 d472 next473 v474 = some o2 := h
       unfold G.cycle_far_b2 at h
       refine awp_seqK fun K12 hK12 => awp_reg rfl <| AR.op rfl (aop_lss rfl rfl rfl) <| AR.nil <| hK12 _ ?_
       refine awp_seqK fun K13 hK13 => awp_cond rfl (fun hb475 => ?_) (fun hb475 => ?_)
       ·replace h := Sh.if_t h hb475
        refine awp_skip <| hK13 _ (AWP.weak (Weak.kt [2, 4, 6, 7, 20, 21, 22] rfl) ?_)
        refine awp_seqJ (fun (p : (List Int) × (BitVec 64)) => (⟨[(2, .pp [i64 back_0.N, .sl (List.map u64 back_0.Rows)] 0), (4, .ref 0 0 0), (6, i64 n359), (20, .sl (List.map i64 r446)), (21, i64 (Sh.len r446)), (22, i64 v474), (7, u64 p.2)], ⟨1, [(0, (64, [.agg (List.map i64 p.1)]))], []⟩⟩ : St)) (fun (p : (List Int) × (BitVec 64)) => G.cycle_far_j4 v474 p.1 p.2 = some o2) ?_ ?_
        ·rintro ⟨d485, next486⟩ h
         replace h : G.cycle_far_j4 v474 d485 next486 = some o2 := h
         unfold G.cycle_far_j4 at h
         refine awp_reg rfl <| AR.op rfl (aop_add rfl rfl rfl rfl) <| AR.op rfl (aop_move (.inl rfl) rfl) <| AR.nil ?_
         replace h := Sh.next_eq h
         exact ⟨_, h, Weak.kt [2, 4, 6, 7, 20, 21, 22] rfl⟩
        ·intro K14 hK14
         refine awp_block <| awp_seqK fun K15 hK15 => awp_reg rfl ?_
         obtain ⟨x489, hx489, h⟩ := Sh.bind_some' h
         obtain ⟨k490, hi490, hl490⟩ := Sh.idx_some hx489
         refine AR.op rfl (t_index_sl i64 r446 hi490 hl490 rfl rfl rfl el25 rfl) <| AR.op (r := i64 x489) rfl (aop_load_pp rfl rfl sz3 rfl) <| AR.op rfl (aop_move (.inr rfl) rfl) <| AR.nil <| hK15 _ (AWP.weak (Weak.kt [2, 4, 6, 7, 20, 21, 22, 9] rfl) ?_)
         refine awp_seqK fun K16 hK16 => awp_reg rfl <| AR.op rfl (aop_move (.inl rfl) rfl) ?_
         obtain ⟨x493, hx493, h⟩ := Sh.bind_some' h
         obtain ⟨hN494, k494, hi494, hl494⟩ := Sh.aidx_some hx493
         refine AR.op (r := .ref 0 0 k494) rfl (t_index_arr i64 d472 hi494 hl494 hN494 rfl rfl rfl rfl ar51) <| AR.op (r := i64 x493) rfl (t_load_arr i64 d472 hl494 rfl rfl rfl sz3) <| AR.keep [2, 4, 6, 7, 20, 21, 22, 9, 28] rfl <| AR.op (r := bl (decide (x493 = 0))) rfl (aop_eql rfl rfl rfl) <| AR.nil <| hK16 _ (AWP.weak (Weak.kt [2, 4, 6, 7, 20, 21, 22, 9, 29] rfl) ?_)
         refine awp_cond rfl (fun hb495 => ?_) (fun hb495 => ?_)
         ·replace h := Sh.if_t h hb495
          refine awp_seqK fun K17 hK17 => awp_reg rfl <| AR.op rfl (aop_move (.inl rfl) rfl) <| AR.op rfl (aop_move (.inl rfl) rfl) ?_
          obtain ⟨x498, hx498, h⟩ := Sh.bind_some' h
          obtain ⟨hN499, k499, hi499, hl499⟩ := Sh.aidx_some hx498
          refine AR.op (r := .ref 0 0 k499) rfl (t_index_arr i64 d472 hi499 hl499 hN499 rfl rfl rfl rfl ar51) <| AR.keep [2, 4, 6, 7, 20, 21, 22, 9, 31, 32] rfl <| AR.op rfl (t_store_arr i64 d472 n359 hi499 hl499 rfl rfl rfl rfl rfl rfl sz3) <| AR.nil <| hK17 _ (AWP.weak (Weak.kt [2, 4, 6, 7, 20, 21, 22, 9] rfl) ?_)
          refine awp_reg rfl <| AR.op rfl (aop_move (.inl rfl) rfl) <| AR.op rfl (aop_field_pp rfl rfl fd24_1 (by decide)) <| AR.op (r := .sl (List.map u64 back_0.Rows)) rfl (aop_load_pp rfl rfl sz22 rfl) <| AR.keep [2, 4, 6, 20, 21, 22, 9, 33, 35] rfl <| AR.op rfl (aop_move (.inl rfl) rfl) ?_
          obtain ⟨x500, hx500, h⟩ := Sh.bind_some' h
          obtain ⟨k501, hi501, hl501⟩ := Sh.idx_some hx500
          refine AR.op rfl (t_index_sl u64 back_0.Rows hi501 hl501 rfl rfl rfl el22 rfl) <| AR.op (r := u64 x500) rfl (aop_load_pp rfl rfl sz35 rfl) <| AR.keep [2, 4, 6, 20, 21, 22, 33, 38] rfl <| AR.op (r := .clip (List.map u64 [next473, x500])) rfl (aop_buildSlice rfl (xo := [.tmp 33, .tmp 38]) rfl rfl rfl (by simp [AV.solid]) (by simp [AV.flat]) el22 ze22 (by decide)) ?_
          obtain ⟨r502, hr502, h⟩ := Sh.bind_some' h
          refine AR.op (r := u64 r502) rfl (aop_callN rfl (ys := [.clip (List.map u64 [next473, x500])]) (xs := [.sl (List.map u64 [next473, x500])]) rfl (Weak.e (fr' := argsFr 0 [.sl (List.map u64 [next473, x500])]) (H' := .empty) ⟨⟨.clip (List.map u64 [next473, x500]), rfl, .wide _ (by simp)⟩, trivial⟩) rfl (by simp) (bits_Join_ok hT hr502)) <| AR.op rfl (aop_move (.inr rfl) rfl) <| AR.nil ?_
          exact hK14 (Sh.set d472 x489 n359, r502) _ h (Weak.kt [2, 4, 6, 20, 21, 22, 7] rfl)
         ·replace h := Sh.if_f h hb495
          refine awp_skip ?_
          exact hK14 (d472, next473) _ h (Weak.kt [2, 4, 6, 20, 21, 22, 7] rfl)
       ·replace h := Sh.if_f h hb475
        refine awp_exit ?_
        replace h := Sh.exit_eq h hx2
        exact hK10 (next473, d472) _ h (Weak.kt [2, 4, 6, 7] rfl)
   ·replace h := Sh.if_f h hb360
    refine awp_exit ?_
    replace h := Sh.exit_eq h hx1
    exact hK4 d357 _ h (Weak.kt [4] rfl)
theorem cycle_far_ok {W0 : World} (hT : Tab W0) {back_0 : G.graph_Graph} {v_1 : Int} {r : (List Int)} (h : G.cycle_far back_0 v_1 = some r) : Fun1 Tryd.prog W0 39 [G.graph_Graph.av back_0, i64 v_1] (.agg (List.map i64 r)) := Fun1.two (cycle_far_ok0 hT h) (by simp)


theorem cycle_Find_own {W0 : World} (hT : Tab W0) {g_0 : G.graph_Graph} {r : (List Int)} (h : G.cycle_Find g_0 = some r) : Fun2 Tryd.prog W0 17 [G.graph_Graph.av g_0] (.view 0 0 (List.map i64 r).length) ⟨1, [(0, (1, List.map i64 r))], []⟩ := by
 refine fun2_of_awp Tryd.func17 rfl (by kernel_rfl) Tryd.ntmps17 (by simp) ?_
 unfold G.cycle_Find at h
 show AWP _ _ _ _ ⟨[(0, G.graph_Graph.av g_0)], .empty⟩ _
 refine awp_seqK fun K1 hK1 => awp_reg rfl <| AR.op (r := .ref 0 0 0) rfl (aop_box 2 [G.graph_Graph.av g_0] rfl rfl rfl (.inl ⟨rfl, rfl⟩)) <| AR.op rfl (aop_move (.inr rfl) rfl) <| AR.nil <| hK1 _ (AWP.weak (Weak.e (fr' := [(1, .pp [i64 g_0.N, .sl (List.map u64 g_0.Rows)] 0)]) (H' := .empty) ⟨⟨_, rfl, .frzA rfl rfl rfl rfl (by simp)⟩, trivial⟩) ?_)
 refine awp_seqK fun K2 hK2 => awp_reg rfl <| AR.op (r := G.graph_Graph.av g_0) rfl (aop_load_pp rfl rfl sz24 rfl) ?_
 obtain ⟨r251, hr251, h⟩ := Sh.bind_some' h
 refine AR.op (r := .tuple [G.graph_Graph.av r251.1, i64 r251.2]) rfl (aop_call1 rfl rfl (by simp) (graph_Turn_ok hT hr251)) <| AR.op rfl (aop_move (.inl rfl) rfl) <| AR.keep [1, 11] rfl <| AR.op (r := G.graph_Graph.av r251.1) rfl (aop_extract rfl rfl rfl) <| AR.op (r := i64 r251.2) rfl (aop_extract rfl rfl rfl) <| AR.op (r := .ref 0 0 0) rfl (aop_alloc 2 [.agg [i64 0, nilS]] rfl zr24 (by kernel_rfl) (.inl ⟨rfl, rfl⟩)) <| AR.keep [1, 14, 15, 3] rfl <| AR.op rfl (aop_store (e' := G.graph_Graph.av r251.1) rfl rfl rfl rfl rfl rfl sz24 rfl dt rfl) ?_
 refine AR.op rfl (aop_move (.inr rfl) rfl) <| AR.nil <| hK2 _ (AWP.weak (Weak.e (fr' := [(1, .pp [i64 g_0.N, .sl (List.map u64 g_0.Rows)] 0), (3, .pp [i64 r251.1.N, .sl (List.map u64 r251.1.Rows)] 0), (4, i64 r251.2)]) (H' := .empty) ⟨.k, ⟨_, rfl, .frzA rfl rfl rfl rfl (by simp)⟩, .k, trivial⟩) ?_)
 refine awp_seqK fun K3 hK3 => awp_seqK fun K4 hK4 => awp_reg rfl <| AR.op rfl (aop_move (.inl rfl) rfl) <| AR.op (r := bl (decide (r251.2 ≠ 0))) rfl (aop_neq rfl rfl rfl) <| AR.nil <| hK4 _ (AWP.weak (Weak.kt [1, 3, 17] rfl) ?_)
 refine awp_cond rfl (fun hb252 => ?_) (fun hb252 => ?_)
 ·replace h := Sh.if_t h hb252
  refine awp_seqK fun K5 hK5 => awp_reg rfl <| AR.op rfl (aop_move (.inr rfl) rfl) <| AR.nil <| hK5 _ (AWP.weak (Weak.kt [2] rfl) ?_)
  refine awp_ret ?_
  obtain rfl := Option.some.inj h
  refine ⟨.inr rfl, nilS, rfl, ?_⟩
  exact Weak.re [] [0] rfl rfl rfl (.fresh (by simp) dt trivial) ⟨⟨_, rfl, .nil (by simp)⟩, trivial⟩
 ·replace h := Sh.if_f h hb252
  refine awp_skip <| hK3 _ (AWP.weak (Weak.kt [1, 3] rfl) ?_)
  refine awp_seqJ (fun (p : Unit) => (⟨[], .empty⟩ : St)) (fun (p : Unit) => G.cycle_Find_j1 = some r) ?_ ?_
  ·rintro ⟨⟩ h
   replace h : G.cycle_Find_j1 = some r := h
   unfold G.cycle_Find_j1 at h
   refine awp_seqK fun K6 hK6 => awp_reg rfl <| AR.op rfl (aop_move (.inr rfl) rfl) <| AR.nil <| hK6 _ ?_
   refine awp_ret ?_
   obtain rfl := Option.some.inj h
   refine ⟨.inr rfl, nilS, rfl, ?_⟩
   exact Weak.re [] [0] rfl rfl rfl (.fresh (by simp) dt trivial) ⟨⟨_, rfl, .nil (by simp)⟩, trivial⟩
  ·intro K7 hK7
   refine awp_seqK fun K8 hK8 => awp_reg rfl <| AR.op rfl (aop_field_pp rfl rfl fd24_0 (by decide)) <| AR.op (r := i64 g_0.N) rfl (aop_load_pp rfl rfl sz3 rfl) <| AR.op rfl (aop_move (.inl rfl) rfl) <| AR.nil <| hK8 _ (AWP.weak (Weak.kt [1, 3, 19, 20] rfl) ?_)
   refine awp_block <| awp_iter (fun (p : Int) => G.cycle_Find_b1 g_0 r251 p) (fun (p : Int) => (⟨[(1, .pp [i64 g_0.N, .sl (List.map u64 g_0.Rows)] 0), (3, .pp [i64 r251.1.N, .sl (List.map u64 r251.1.Rows)] 0), (19, i64 g_0.N), (20, i64 p)], .empty⟩ : St)) h (Weak.kt [1, 3, 19, 20] rfl) ?_
   ·skip
    rintro v666 o1 h hx1
    replace h : G.cycle_Find_b1 g_0 r251 v666 = some o1 := h
    unfold G.cycle_Find_b1 at h
    refine awp_seqK fun K9 hK9 => awp_reg rfl <| AR.op rfl (aop_lss rfl rfl rfl) <| AR.nil <| hK9 _ ?_
    refine awp_seqK fun K10 hK10 => awp_cond rfl (fun hb667 => ?_) (fun hb667 => ?_)
    ·replace h := Sh.if_t h hb667
     refine awp_skip <| hK10 _ (AWP.weak (Weak.kt [1, 3, 19, 20] rfl) ?_)
     refine awp_seqJ (fun (p : Unit) => (⟨[(1, .pp [i64 g_0.N, .sl (List.map u64 g_0.Rows)] 0), (3, .pp [i64 r251.1.N, .sl (List.map u64 r251.1.Rows)] 0), (19, i64 g_0.N), (20, i64 v666)], .empty⟩ : St)) (fun (p : Unit) => G.cycle_Find_j2 v666 = some o1) ?_ ?_
     ·rintro ⟨⟩ h
      replace h : G.cycle_Find_j2 v666 = some o1 := h
      unfold G.cycle_Find_j2 at h
      refine awp_reg rfl <| AR.op rfl (aop_add rfl rfl rfl rfl) <| AR.op rfl (aop_move (.inl rfl) rfl) <| AR.nil ?_
      replace h := Sh.next_eq h
      exact ⟨_, h, Weak.kt [1, 3, 19, 20] rfl⟩
     ·intro K11 hK11
      refine awp_block <| awp_seqK fun K12 hK12 => awp_reg rfl <| AR.op rfl (aop_move (.inl rfl) rfl) <| AR.op rfl (aop_move (.inr rfl) rfl) <| AR.nil <| hK12 _ (AWP.weak (Weak.kt [1, 3, 19, 20, 5] rfl) ?_)
      refine awp_seqK fun K13 hK13 => awp_reg rfl <| AR.op (r := G.graph_Graph.av r251.1) rfl (aop_load_pp rfl rfl sz24 rfl) <| AR.op rfl (aop_move (.inl rfl) rfl) ?_
      obtain ⟨r755, hr755, h⟩ := Sh.bind_some' h
      refine AR.op (r := .agg (List.map i64 r755)) rfl (aop_call1 rfl rfl (by simp) (cycle_far_ok hT hr755)) <| AR.keep [1, 3, 19, 20, 5, 25] rfl <| AR.op (r := .ref 0 0 0) rfl (aop_alloc 64 [.agg (List.map i64 (List.replicate 64 0))] rfl zr51 (by kernel_rfl) (.inl ⟨by kernel_rfl, by kernel_rfl⟩)) ?_
      obtain ⟨w756, hw756, h⟩ := Sh.bind_some' h
      obtain ⟨hN757, rfl⟩ := Sh.whole_some hw756
      obtain ⟨w758, hw758, h⟩ := Sh.bind_some' h
      obtain ⟨hN759, rfl⟩ := Sh.whole_some hw758
      refine AR.op rfl (t_store_whole i64 (List.replicate 64 0) r755 hN757 hN759 rfl rfl rfl rfl sz51) <| AR.nil <| hK13 _ (AWP.weak (Weak.kt [1, 3, 19, 20, 5, 6] rfl) ?_)
      refine awp_seqK fun K14 hK14 => awp_seqK fun K15 hK15 => awp_reg rfl <| AR.op rfl (aop_move (.inl rfl) rfl) ?_
      obtain ⟨x764, hx764, h⟩ := Sh.bind_some' h
      obtain ⟨hN765, k765, hi765, hl765⟩ := Sh.aidx_some hx764
      refine AR.op (r := .ref 0 0 k765) rfl (t_index_arr i64 r755 hi765 hl765 hN765 rfl rfl rfl rfl ar51) <| AR.op (r := i64 x764) rfl (t_load_arr i64 r755 hl765 rfl rfl rfl sz3) <| AR.keep [1, 3, 19, 20, 5, 6, 28] rfl <| AR.op (r := bl (decide (x764 = 0))) rfl (aop_eql rfl rfl rfl) <| AR.nil <| hK15 _ (AWP.weak (Weak.kt [1, 3, 19, 20, 5, 6, 29] rfl) ?_)
      refine awp_cond rfl (fun hb766 => ?_) (fun hb766 => ?_)
      ·replace h := Sh.if_t h hb766
       refine awp_exit ?_
       exact hK11 () _ h (Weak.e ⟨.k, .k, .k, .k, trivial⟩)
      ·replace h := Sh.if_f h hb766
       refine awp_skip <| hK14 _ (AWP.weak (Weak.kt [1, 5, 6] rfl) ?_)
       refine awp_seqK fun K16 hK16 => awp_reg rfl <| AR.op rfl (aop_move (.inl rfl) rfl) <| AR.op (r := .view 1 0 (List.map i64 [v666]).length) rfl (t_buildV i64 [v666] rfl (xo := [.tmp 30]) rfl rfl rfl (by simp [AV.solid]) (by simp [AV.flat]) el25 ze25 (by decide)) <| AR.op rfl (aop_move (.inr rfl) rfl) <| AR.nil <| hK16 _ (AWP.weak (Weak.kt [1, 5, 6, 7] rfl) ?_)
       refine awp_seqJ (fun (p : (List Int)) => (⟨[(7, .view 0 0 (List.map i64 p).length)], ⟨1, [(0, (1, List.map i64 p))], []⟩⟩ : St)) (fun (p : (List Int)) => G.cycle_Find_j3 p = some o1) ?_ ?_
       ·rintro out842 h
        replace h : G.cycle_Find_j3 out842 = some o1 := h
        unfold G.cycle_Find_j3 at h
        refine awp_seqK fun K17 hK17 => awp_reg rfl <| AR.op rfl (aop_move (.inl rfl) rfl) <| AR.op rfl (aop_move (.inr rfl) rfl) <| AR.nil <| hK17 _ (AWP.weak (Weak.kt [2] rfl) ?_)
        refine awp_ret ?_
        replace h := Sh.exit_eq h hx1
        obtain rfl := Option.some.inj h
        refine ⟨.inr rfl, .view 0 0 (List.map i64 out842).length, rfl, ?_⟩
        exact Weak.re [(0, 0)] [] rfl rfl rfl (.cons rfl rfl (.same (by simp)) dt trivial) ⟨⟨_, rfl, .view rfl⟩, trivial⟩
       ·intro K18 hK18
        refine awp_seqK fun K19 hK19 => awp_reg rfl <| AR.op rfl (aop_move (.inl rfl) rfl) ?_
        obtain ⟨x845, hx845, h⟩ := Sh.bind_some' h
        obtain ⟨hN846, k846, hi846, hl846⟩ := Sh.aidx_some hx845
        refine AR.op (r := .ref 0 0 k846) rfl (t_index_arr i64 r755 hi846 hl846 hN846 rfl rfl rfl rfl ar51) <| AR.op (r := i64 x845) rfl (t_load_arr i64 r755 hl846 rfl rfl rfl sz3) <| AR.keep [1, 6, 7, 34] rfl <| AR.op rfl (aop_sub rfl rfl rfl rfl) <| AR.op rfl (aop_move (.inr rfl) rfl) <| AR.nil <| hK19 _ (AWP.weak (Weak.kt [1, 6, 7, 8] rfl) ?_)
        refine awp_block <| awp_iter (fun (p : (List Int) × Int) => G.cycle_Find_b2 g_0 r755 p.1 p.2) (fun (p : (List Int) × Int) => (⟨[(1, .pp [i64 g_0.N, .sl (List.map u64 g_0.Rows)] 0), (6, .ref 0 0 0), (7, .view 1 0 (List.map i64 p.1).length), (8, i64 p.2)], ⟨2, [(0, (64, [.agg (List.map i64 r755)])), (1, (1, List.map i64 p.1))], []⟩⟩ : St)) h (Weak.kt [1, 6, 7, 8] rfl) ?_
        ·skip
         rintro ⟨out895, left896⟩ o2 h hx2
         replace h : G.cycle_Find_b2 g_0 r755 out895 left896 = some o2 := h
         unfold G.cycle_Find_b2 at h
         refine awp_seqK fun K20 hK20 => awp_seqK fun K21 hK21 => awp_reg rfl <| AR.op rfl (aop_move (.inl rfl) rfl) <| AR.op rfl (aop_gtr rfl rfl rfl) <| AR.nil <| hK21 _ (AWP.weak (Weak.kt [1, 6, 7, 8, 37] rfl) ?_)
         refine awp_cond rfl (fun hb897 => ?_) (fun hb897 => ?_)
         ·replace h := Sh.if_t h hb897
          refine awp_skip <| hK20 _ (AWP.weak (Weak.kt [1, 6, 7, 8] rfl) ?_)
          refine awp_seqJ (fun (p : (List Int)) => (⟨[(1, .pp [i64 g_0.N, .sl (List.map u64 g_0.Rows)] 0), (6, .ref 0 0 0), (7, .view 1 0 (List.map i64 p).length), (8, i64 left896)], ⟨2, [(0, (64, [.agg (List.map i64 r755)])), (1, (1, List.map i64 p))], []⟩⟩ : St)) (fun (p : (List Int)) => G.cycle_Find_j4 left896 p = some o2) ?_ ?_
          ·rintro out920 h
           replace h : G.cycle_Find_j4 left896 out920 = some o2 := h
           unfold G.cycle_Find_j4 at h
           refine awp_reg rfl <| AR.op rfl (aop_move (.inl rfl) rfl) <| AR.op rfl (aop_sub rfl rfl rfl rfl) <| AR.op rfl (aop_move (.inr rfl) rfl) <| AR.nil ?_
           replace h := Sh.next_eq h
           exact ⟨_, h, Weak.kt [1, 6, 7, 8] rfl⟩
          ·intro K22 hK22
           refine awp_block <| awp_seqK fun K23 hK23 => awp_any [(true, false), (true, false), (true, false), (true, false), (false, false), (true, false), (false, false), (false, false), (true, false), (true, false), (true, false), (true, false), (true, false)] (by kernel_rfl) (by kernel_rfl) rfl ?_
           refine ARH.dry rfl (fun _ => aop_field_pp rfl rfl fd24_1 (by decide)) <| ARH.dry (r := .sl (List.map u64 g_0.Rows)) rfl (fun _ => aop_load_pp rfl rfl sz22 rfl) <| ARH.dry rfl (fun _ => aop_move (.inl rfl) rfl) <| ARH.keep [1, 6, 7, 8, 41, 42] rfl <| ARH.dry rfl (fun _ => aop_move (.inl rfl) rfl) <| ARH.op (r := i64 (Sh.len out895)) rfl rfl (t_len_view i64 out895 rfl rfl rfl rfl el25) <| ARH.dry rfl (fun _ => aop_sub rfl rfl rfl rfl) <| ARH.keep [1, 6, 7, 8, 41, 42, 45] rfl ?_
           obtain ⟨x926, hx926, h⟩ := Sh.bind_some' h
           obtain ⟨k927, hi927, hl927⟩ := Sh.idx_some hx926
           refine ARH.op (r := .ref 1 k927 0) rfl rfl (t_index_view i64 out895 hi927 hl927 rfl rfl rfl rfl rfl el25 rfl) <| ARH.op (r := i64 x926) rfl rfl (t_load_el i64 out895 hl927 rfl rfl rfl sz3 rfl) ?_
           obtain ⟨x928, hx928, h⟩ := Sh.bind_some' h
           obtain ⟨k929, hi929, hl929⟩ := Sh.idx_some hx928
           refine ARH.dry rfl (fun _ => t_index_sl u64 g_0.Rows hi929 hl929 rfl rfl rfl el22 rfl) <| ARH.keep [1, 6, 7, 8, 48] rfl <| ARH.dry (r := u64 x928) rfl (fun _ => aop_load_pp rfl rfl sz35 rfl) ?_
           obtain ⟨r930, hr930, h⟩ := Sh.bind_some' h
           refine ARH.dry (r := .sl (List.map i64 r930)) rfl (fun _ => aop_call1 rfl rfl (by simp) (bits_List_ok hT hr930)) <| ARH.dry rfl (fun _ => t_len_sl i64 r930 rfl rfl el25) <| ARH.keep [1, 6, 7, 8, 50, 51] rfl <| ARH.dry rfl (fun _ => aop_move (.inl rfl) rfl) <| ARH.nil <| hK23 _ ?_
           refine awp_block <| awp_iter (fun (p : Int) => G.cycle_Find_b3 r755 out895 left896 r930 p) (fun (p : Int) => (⟨[(1, .pp [i64 g_0.N, .sl (List.map u64 g_0.Rows)] 0), (6, .ref 0 0 0), (7, .view 1 0 (List.map i64 out895).length), (8, i64 left896), (50, .sl (List.map i64 r930)), (51, i64 (Sh.len r930)), (52, i64 p)], ⟨2, [(0, (64, [.agg (List.map i64 r755)])), (1, (1, List.map i64 out895))], []⟩⟩ : St)) h (Weak.kt [1, 6, 7, 8, 50, 51, 52] rfl) ?_
           ·skip
            rintro v942 o3 h hx3
            replace h : G.cycle_Find_b3 r755 out895 left896 r930 v942 = some o3 := h
            unfold G.cycle_Find_b3 at h
            refine awp_seqK fun K24 hK24 => awp_reg rfl <| AR.op rfl (aop_lss rfl rfl rfl) <| AR.nil <| hK24 _ ?_
            refine awp_seqK fun K25 hK25 => awp_cond rfl (fun hb943 => ?_) (fun hb943 => ?_)
            ·replace h := Sh.if_t h hb943
             refine awp_skip <| hK25 _ (AWP.weak (Weak.kt [1, 6, 7, 8, 50, 51, 52] rfl) ?_)
             refine awp_seqK fun K26 hK26 => awp_block <| awp_seqK fun K27 hK27 => awp_reg rfl ?_
             obtain ⟨x951, hx951, h⟩ := Sh.bind_some' h
             obtain ⟨k952, hi952, hl952⟩ := Sh.idx_some hx951
             refine AR.op rfl (t_index_sl i64 r930 hi952 hl952 rfl rfl rfl el25 rfl) <| AR.op (r := i64 x951) rfl (aop_load_pp rfl rfl sz3 rfl) <| AR.op rfl (aop_move (.inr rfl) rfl) <| AR.nil <| hK27 _ (AWP.weak (Weak.kt [1, 6, 7, 8, 50, 51, 52, 10] rfl) ?_)
             refine awp_seqK fun K28 hK28 => awp_reg rfl <| AR.op rfl (aop_move (.inl rfl) rfl) ?_
             obtain ⟨x955, hx955, h⟩ := Sh.bind_some' h
             obtain ⟨hN956, k956, hi956, hl956⟩ := Sh.aidx_some hx955
             refine AR.op (r := .ref 0 0 k956) rfl (t_index_arr i64 r755 hi956 hl956 hN956 rfl rfl rfl rfl ar51) <| AR.op (r := i64 x955) rfl (t_load_arr i64 r755 hl956 rfl rfl rfl sz3) <| AR.keep [1, 6, 7, 8, 50, 51, 52, 10, 58] rfl <| AR.op rfl (aop_move (.inl rfl) rfl) <| AR.op (r := bl (decide (x955 = left896))) rfl (aop_eql rfl rfl rfl) <| AR.nil <| hK28 _ (AWP.weak (Weak.kt [1, 6, 7, 8, 50, 51, 52, 10, 60] rfl) ?_)
             refine awp_cond rfl (fun hb957 => ?_) (fun hb957 => ?_)
             ·replace h := Sh.if_t h hb957
              refine awp_seqK fun K29 hK29 => awp_reg rfl <| AR.op rfl (aop_move (.inl rfl) rfl) <| AR.op rfl (aop_move (.inl rfl) rfl) <| AR.op (r := .clip (List.map i64 [x951])) rfl (aop_buildSlice rfl (xo := [.tmp 62]) rfl rfl rfl (by simp [AV.solid]) (by simp [AV.flat]) el25 ze25 (by decide)) <| AR.keep [1, 6, 8, 61, 63] rfl ?_
              obtain ⟨out959, hout959, h⟩ := Sh.bind_some' h
              refine AR.op (r := .view 2 0 (List.map i64 out959).length) rfl (t_app_view i64 out895 [x951] out959 hout959 rfl et25 (fun _ => rfl) rfl rfl rfl rfl rfl rfl rfl) <| AR.op rfl (aop_move (.inr rfl) rfl) <| AR.nil <| hK29 _ (AWP.weak (Weak.re (fr' := [(1, .pp [i64 g_0.N, .sl (List.map u64 g_0.Rows)] 0), (6, .ref 0 0 0), (8, i64 left896), (7, .view 1 0 (List.map i64 out959).length)]) (H' := ⟨2, [(0, (64, [.agg (List.map i64 r755)])), (1, (1, List.map i64 out959))], []⟩) [(0, 0), (1, 2)] [] rfl rfl rfl (.cons rfl rfl (.one (.sm) rfl) dt (.cons rfl rfl (.same (by simp)) dt trivial)) ⟨.k, ⟨_, rfl, .ref rfl⟩, .k, ⟨_, rfl, .view rfl⟩, trivial⟩) ?_)
              refine awp_exit ?_
              replace h := Sh.exit_eq h hx3
              exact hK22 out959 _ h (Weak.kt [1, 6, 7, 8] rfl)
             ·replace h := Sh.if_f h hb957
              refine awp_skip <| hK26 _ (AWP.weak (Weak.kt [1, 6, 7, 8, 50, 51, 52] rfl) ?_)
              refine awp_reg rfl <| AR.op rfl (aop_add rfl rfl rfl rfl) <| AR.op rfl (aop_move (.inl rfl) rfl) <| AR.nil ?_
              replace h := Sh.next_eq h
              exact ⟨_, h, Weak.kt [1, 6, 7, 8, 50, 51, 52] rfl⟩
            ·replace h := Sh.if_f h hb943
             refine awp_exit ?_
             replace h := Sh.exit_eq h hx3
             exact hK22 out895 _ h (Weak.kt [1, 6, 7, 8] rfl)
         ·replace h := Sh.if_f h hb897
          refine awp_exit ?_
          replace h := Sh.exit_eq h hx2
          exact hK18 out895 _ h (Weak.re [(0, 1)] [] rfl rfl rfl (.cons rfl rfl (.same (by simp)) dt trivial) ⟨⟨_, rfl, .view rfl⟩, trivial⟩)
    ·replace h := Sh.if_f h hb667
     refine awp_exit ?_
     replace h := Sh.exit_eq h hx1
     exact hK7 () _ h (Weak.kt [] rfl)
theorem cycle_Find_ok {W0 : World} (hT : Tab W0) {g_0 : G.graph_Graph} {r : (List Int)} (h : G.cycle_Find g_0 = some r) : Fun1 Tryd.prog W0 17 [G.graph_Graph.av g_0] (.sl (List.map i64 r)) :=
 (cycle_Find_own hT h).give (Weak.e ⟨⟨_, rfl, .lendAll rfl rfl (by simp)⟩, trivial⟩) (by simp)

end Wk
